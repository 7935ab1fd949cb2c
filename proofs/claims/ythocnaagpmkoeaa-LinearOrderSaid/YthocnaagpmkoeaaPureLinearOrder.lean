/- LinearOrder. No condition. -/
import Derived.Test.YthocnaagpmkoeaaPLinearOrderx0
namespace Go.Proofs.Ythocnaagpmkoeaa.PureLinearOrder
open Go.RowKit Go.Proofs.Ythocnaagpmkoeaa.PLinearOrder Go.Proofs.YthocnaagpmkoeaaW.PrintWords Go.Proofs.YthocnaagpmkoeaaW.PrintLast Go.Proofs.YthocnaagpmkoeaaW.PrintMore 
set_option linter.unusedVariables false
set_option linter.unusedSimpArgs false
theorem LinearOrder : True := trivial
end Go.Proofs.Ythocnaagpmkoeaa.PureLinearOrder
namespace Go.Proofs.Ythocnaagpmkoeaa.Pure
theorem LinearOrder : Go.Proofs.Ythocnaagpmkoeaa.PLinearOrder.flittinglaw22_LinearOrder.Pure := Go.Proofs.Ythocnaagpmkoeaa.PureLinearOrder.LinearOrder
end Go.Proofs.Ythocnaagpmkoeaa.Pure
