/- RecSame. No condition. -/
import Derived.Test.YthoebncbhmefmaaPRecSamex0
namespace Go.Proofs.Ythoebncbhmefmaa.PureRecSame
open Go.RowKit Go.Proofs.Ythoebncbhmefmaa.PRecSame Go.Proofs.YthoebncbhmefmaaW.PrintWords Go.Proofs.YthoebncbhmefmaaW.PrintLast Go.Proofs.YthoebncbhmefmaaW.PrintMore 
set_option linter.unusedVariables false
set_option linter.unusedSimpArgs false
theorem RecSame : True := trivial
end Go.Proofs.Ythoebncbhmefmaa.PureRecSame
namespace Go.Proofs.Ythoebncbhmefmaa.Pure
theorem RecSame : Go.Proofs.Ythoebncbhmefmaa.PRecSame.flittinglaw09_RecSame.Pure := Go.Proofs.Ythoebncbhmefmaa.PureRecSame.RecSame
end Go.Proofs.Ythoebncbhmefmaa.Pure
