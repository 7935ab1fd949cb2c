/- RecBack. No condition. -/
import Derived.Test.YthoebncbhmefmaaPRecBackx0
namespace Go.Proofs.Ythoebncbhmefmaa.PureRecBack
open Go.RowKit Go.Proofs.Ythoebncbhmefmaa.PRecBack Go.Proofs.YthoebncbhmefmaaW.PrintWords Go.Proofs.YthoebncbhmefmaaW.PrintLast Go.Proofs.YthoebncbhmefmaaW.PrintMore 
set_option linter.unusedVariables false
set_option linter.unusedSimpArgs false
theorem RecBack : True := trivial
end Go.Proofs.Ythoebncbhmefmaa.PureRecBack
namespace Go.Proofs.Ythoebncbhmefmaa.Pure
theorem RecBack : Go.Proofs.Ythoebncbhmefmaa.PRecBack.flittinglaw09_RecBack.Pure := Go.Proofs.Ythoebncbhmefmaa.PureRecBack.RecBack
end Go.Proofs.Ythoebncbhmefmaa.Pure
