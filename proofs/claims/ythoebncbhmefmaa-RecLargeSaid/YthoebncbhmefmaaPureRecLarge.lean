/- RecLarge. No condition. -/
import Derived.Test.YthoebncbhmefmaaPRecLargex0
namespace Go.Proofs.Ythoebncbhmefmaa.PureRecLarge
open Go.RowKit Go.Proofs.Ythoebncbhmefmaa.PRecLarge Go.Proofs.YthoebncbhmefmaaW.PrintWords Go.Proofs.YthoebncbhmefmaaW.PrintLast Go.Proofs.YthoebncbhmefmaaW.PrintMore 
set_option linter.unusedVariables false
set_option linter.unusedSimpArgs false
theorem RecLarge : True := trivial
end Go.Proofs.Ythoebncbhmefmaa.PureRecLarge
namespace Go.Proofs.Ythoebncbhmefmaa.Pure
theorem RecLarge : Go.Proofs.Ythoebncbhmefmaa.PRecLarge.flittinglaw09_RecLarge.Pure := Go.Proofs.Ythoebncbhmefmaa.PureRecLarge.RecLarge
end Go.Proofs.Ythoebncbhmefmaa.Pure
