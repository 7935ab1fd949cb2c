/- TapeSides. No condition. -/
import Derived.Test.YtfjjfoijjlpcjaaPTapeSidesx0
import Derived.Test.YtfjjfoijjlpcjaaPTapeSidesx1
import Derived.Test.YtfjjfoijjlpcjaaPTapeSidesx2
namespace Go.Proofs.Ytfjjfoijjlpcjaa.PureTapeSides
open Go.RowKit Go.Proofs.Ytfjjfoijjlpcjaa.PTapeSides Go.Proofs.YtfjjfoijjlpcjaaW.PrintWords Go.Proofs.YtfjjfoijjlpcjaaW.PrintLast Go.Proofs.YtfjjfoijjlpcjaaW.PrintMore 
set_option linter.unusedVariables false
set_option linter.unusedSimpArgs false
theorem TapeSides : True := trivial
end Go.Proofs.Ytfjjfoijjlpcjaa.PureTapeSides
namespace Go.Proofs.Ytfjjfoijjlpcjaa.Pure
theorem TapeSides : Go.Proofs.Ytfjjfoijjlpcjaa.PTapeSides.flittinglaw10_TapeSides.Pure := Go.Proofs.Ytfjjfoijjlpcjaa.PureTapeSides.TapeSides
end Go.Proofs.Ytfjjfoijjlpcjaa.Pure
