/- RecCuts. No condition. -/
import Derived.Test.YthoebncbhmefmaaPRecCutsx0
namespace Go.Proofs.Ythoebncbhmefmaa.PureRecCuts
open Go.RowKit Go.Proofs.Ythoebncbhmefmaa.PRecCuts Go.Proofs.YthoebncbhmefmaaW.PrintWords Go.Proofs.YthoebncbhmefmaaW.PrintLast Go.Proofs.YthoebncbhmefmaaW.PrintMore 
set_option linter.unusedVariables false
set_option linter.unusedSimpArgs false
theorem RecCuts : True := trivial
end Go.Proofs.Ythoebncbhmefmaa.PureRecCuts
namespace Go.Proofs.Ythoebncbhmefmaa.Pure
theorem RecCuts : Go.Proofs.Ythoebncbhmefmaa.PRecCuts.flittinglaw09_RecCuts.Pure := Go.Proofs.Ythoebncbhmefmaa.PureRecCuts.RecCuts
end Go.Proofs.Ythoebncbhmefmaa.Pure
