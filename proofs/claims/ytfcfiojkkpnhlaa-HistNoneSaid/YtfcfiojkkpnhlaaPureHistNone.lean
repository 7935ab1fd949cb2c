/- HistNone. No condition. -/
import Derived.Test.YtfcfiojkkpnhlaaPHistNonex0
import Derived.Test.YtfcfiojkkpnhlaaPHistNonex1
namespace Go.Proofs.Ytfcfiojkkpnhlaa.PureHistNone
open Go.RowKit Go.Proofs.Ytfcfiojkkpnhlaa.PHistNone Go.Proofs.YtfcfiojkkpnhlaaW.PrintWords Go.Proofs.YtfcfiojkkpnhlaaW.PrintLast Go.Proofs.YtfcfiojkkpnhlaaW.PrintMore 
set_option linter.unusedVariables false
set_option linter.unusedSimpArgs false
theorem HistNone : True := trivial
end Go.Proofs.Ytfcfiojkkpnhlaa.PureHistNone
namespace Go.Proofs.Ytfcfiojkkpnhlaa.Pure
theorem HistNone : Go.Proofs.Ytfcfiojkkpnhlaa.PHistNone.flittinglaw21_HistNone.Pure := Go.Proofs.Ytfcfiojkkpnhlaa.PureHistNone.HistNone
end Go.Proofs.Ytfcfiojkkpnhlaa.Pure
