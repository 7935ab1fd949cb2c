/- LinearStale. No condition. -/
import Derived.Test.YthocnaagpmkoeaaPLinearStalex0
namespace Go.Proofs.Ythocnaagpmkoeaa.PureLinearStale
open Go.RowKit Go.Proofs.Ythocnaagpmkoeaa.PLinearStale Go.Proofs.YthocnaagpmkoeaaW.PrintWords Go.Proofs.YthocnaagpmkoeaaW.PrintLast Go.Proofs.YthocnaagpmkoeaaW.PrintMore 
set_option linter.unusedVariables false
set_option linter.unusedSimpArgs false
theorem LinearStale : True := trivial
end Go.Proofs.Ythocnaagpmkoeaa.PureLinearStale
namespace Go.Proofs.Ythocnaagpmkoeaa.Pure
theorem LinearStale : Go.Proofs.Ythocnaagpmkoeaa.PLinearStale.flittinglaw22_LinearStale.Pure := Go.Proofs.Ythocnaagpmkoeaa.PureLinearStale.LinearStale
end Go.Proofs.Ythocnaagpmkoeaa.Pure
