/- HistOwn. No condition. -/
import Derived.Test.YtfcfiojkkpnhlaaPHistOwnx0
import Derived.Test.YtfcfiojkkpnhlaaPHistOwnx1
namespace Go.Proofs.Ytfcfiojkkpnhlaa.PureHistOwn
open Go.RowKit Go.Proofs.Ytfcfiojkkpnhlaa.PHistOwn Go.Proofs.YtfcfiojkkpnhlaaW.PrintWords Go.Proofs.YtfcfiojkkpnhlaaW.PrintLast Go.Proofs.YtfcfiojkkpnhlaaW.PrintMore 
set_option linter.unusedVariables false
set_option linter.unusedSimpArgs false
theorem HistOwn : True := trivial
end Go.Proofs.Ytfcfiojkkpnhlaa.PureHistOwn
namespace Go.Proofs.Ytfcfiojkkpnhlaa.Pure
theorem HistOwn : Go.Proofs.Ytfcfiojkkpnhlaa.PHistOwn.flittinglaw21_HistOwn.Pure := Go.Proofs.Ytfcfiojkkpnhlaa.PureHistOwn.HistOwn
end Go.Proofs.Ytfcfiojkkpnhlaa.Pure
