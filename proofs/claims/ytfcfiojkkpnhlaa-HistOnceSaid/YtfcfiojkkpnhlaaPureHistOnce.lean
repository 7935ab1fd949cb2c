/- HistOnce. No condition. -/
import Derived.Test.YtfcfiojkkpnhlaaPHistOncex0
import Derived.Test.YtfcfiojkkpnhlaaPHistOncex1
namespace Go.Proofs.Ytfcfiojkkpnhlaa.PureHistOnce
open Go.RowKit Go.Proofs.Ytfcfiojkkpnhlaa.PHistOnce Go.Proofs.YtfcfiojkkpnhlaaW.PrintWords Go.Proofs.YtfcfiojkkpnhlaaW.PrintLast Go.Proofs.YtfcfiojkkpnhlaaW.PrintMore 
set_option linter.unusedVariables false
set_option linter.unusedSimpArgs false
theorem HistOnce : True := trivial
end Go.Proofs.Ytfcfiojkkpnhlaa.PureHistOnce
namespace Go.Proofs.Ytfcfiojkkpnhlaa.Pure
theorem HistOnce : Go.Proofs.Ytfcfiojkkpnhlaa.PHistOnce.flittinglaw21_HistOnce.Pure := Go.Proofs.Ytfcfiojkkpnhlaa.PureHistOnce.HistOnce
end Go.Proofs.Ytfcfiojkkpnhlaa.Pure
