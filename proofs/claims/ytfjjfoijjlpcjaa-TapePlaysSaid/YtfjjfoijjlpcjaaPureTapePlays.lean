/- TapePlays. No condition. -/
import Derived.Test.YtfjjfoijjlpcjaaPTapePlaysx0
import Derived.Test.YtfjjfoijjlpcjaaPTapePlaysx1
import Derived.Test.YtfjjfoijjlpcjaaPTapePlaysx2
namespace Go.Proofs.Ytfjjfoijjlpcjaa.PureTapePlays
open Go.RowKit Go.Proofs.Ytfjjfoijjlpcjaa.PTapePlays Go.Proofs.YtfjjfoijjlpcjaaW.PrintWords Go.Proofs.YtfjjfoijjlpcjaaW.PrintLast Go.Proofs.YtfjjfoijjlpcjaaW.PrintMore 
set_option linter.unusedVariables false
set_option linter.unusedSimpArgs false
theorem TapePlays : True := trivial
end Go.Proofs.Ytfjjfoijjlpcjaa.PureTapePlays
namespace Go.Proofs.Ytfjjfoijjlpcjaa.Pure
theorem TapePlays : Go.Proofs.Ytfjjfoijjlpcjaa.PTapePlays.flittinglaw10_TapePlays.Pure := Go.Proofs.Ytfjjfoijjlpcjaa.PureTapePlays.TapePlays
end Go.Proofs.Ytfjjfoijjlpcjaa.Pure
