/- HistAdds. No condition. -/
import Derived.Test.YtfcfiojkkpnhlaaPHistAddsx0
import Derived.Test.YtfcfiojkkpnhlaaPHistAddsx1
import Derived.Test.YtfcfiojkkpnhlaaPHistAddsx2
namespace Go.Proofs.Ytfcfiojkkpnhlaa.PureHistAdds
open Go.RowKit Go.Proofs.Ytfcfiojkkpnhlaa.PHistAdds Go.Proofs.YtfcfiojkkpnhlaaW.PrintWords Go.Proofs.YtfcfiojkkpnhlaaW.PrintLast Go.Proofs.YtfcfiojkkpnhlaaW.PrintMore 
set_option linter.unusedVariables false
set_option linter.unusedSimpArgs false
theorem HistAdds : True := trivial
end Go.Proofs.Ytfcfiojkkpnhlaa.PureHistAdds
namespace Go.Proofs.Ytfcfiojkkpnhlaa.Pure
theorem HistAdds : Go.Proofs.Ytfcfiojkkpnhlaa.PHistAdds.flittinglaw21_HistAdds.Pure := Go.Proofs.Ytfcfiojkkpnhlaa.PureHistAdds.HistAdds
end Go.Proofs.Ytfcfiojkkpnhlaa.Pure
