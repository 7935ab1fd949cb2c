/- RecReads. No condition. -/
import Derived.Test.YthoebncbhmefmaaPRecReadsx0
namespace Go.Proofs.Ythoebncbhmefmaa.PureRecReads
open Go.RowKit Go.Proofs.Ythoebncbhmefmaa.PRecReads Go.Proofs.YthoebncbhmefmaaW.PrintWords Go.Proofs.YthoebncbhmefmaaW.PrintLast Go.Proofs.YthoebncbhmefmaaW.PrintMore 
set_option linter.unusedVariables false
set_option linter.unusedSimpArgs false
theorem RecReads : True := trivial
end Go.Proofs.Ythoebncbhmefmaa.PureRecReads
namespace Go.Proofs.Ythoebncbhmefmaa.Pure
theorem RecReads : Go.Proofs.Ythoebncbhmefmaa.PRecReads.flittinglaw09_RecReads.Pure := Go.Proofs.Ythoebncbhmefmaa.PureRecReads.RecReads
end Go.Proofs.Ythoebncbhmefmaa.Pure
