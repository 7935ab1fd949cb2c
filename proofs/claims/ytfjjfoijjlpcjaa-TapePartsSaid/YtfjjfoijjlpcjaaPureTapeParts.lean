/- TapeParts. No condition. -/
import Derived.Test.YtfjjfoijjlpcjaaPTapePartsx0
import Derived.Test.YtfjjfoijjlpcjaaPTapePartsx1
import Derived.Test.YtfjjfoijjlpcjaaPTapePartsx2
namespace Go.Proofs.Ytfjjfoijjlpcjaa.PureTapeParts
open Go.RowKit Go.Proofs.Ytfjjfoijjlpcjaa.PTapeParts Go.Proofs.YtfjjfoijjlpcjaaW.PrintWords Go.Proofs.YtfjjfoijjlpcjaaW.PrintLast Go.Proofs.YtfjjfoijjlpcjaaW.PrintMore 
set_option linter.unusedVariables false
set_option linter.unusedSimpArgs false
theorem TapeParts : True := trivial
end Go.Proofs.Ytfjjfoijjlpcjaa.PureTapeParts
namespace Go.Proofs.Ytfjjfoijjlpcjaa.Pure
theorem TapeParts : Go.Proofs.Ytfjjfoijjlpcjaa.PTapeParts.flittinglaw10_TapeParts.Pure := Go.Proofs.Ytfjjfoijjlpcjaa.PureTapeParts.TapeParts
end Go.Proofs.Ytfjjfoijjlpcjaa.Pure
