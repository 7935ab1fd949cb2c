/- LinearNone. No condition. -/
import Derived.Test.YthocnaagpmkoeaaPLinearNonex0
namespace Go.Proofs.Ythocnaagpmkoeaa.PureLinearNone
open Go.RowKit Go.Proofs.Ythocnaagpmkoeaa.PLinearNone Go.Proofs.YthocnaagpmkoeaaW.PrintWords Go.Proofs.YthocnaagpmkoeaaW.PrintLast Go.Proofs.YthocnaagpmkoeaaW.PrintMore 
set_option linter.unusedVariables false
set_option linter.unusedSimpArgs false
theorem LinearNone : True := trivial
end Go.Proofs.Ythocnaagpmkoeaa.PureLinearNone
namespace Go.Proofs.Ythocnaagpmkoeaa.Pure
theorem LinearNone : Go.Proofs.Ythocnaagpmkoeaa.PLinearNone.flittinglaw22_LinearNone.Pure := Go.Proofs.Ythocnaagpmkoeaa.PureLinearNone.LinearNone
end Go.Proofs.Ythocnaagpmkoeaa.Pure
