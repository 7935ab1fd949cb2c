/- TapeNone. No condition. -/
import Derived.Test.YtfjjfoijjlpcjaaPTapeNonex0
import Derived.Test.YtfjjfoijjlpcjaaPTapeNonex1
namespace Go.Proofs.Ytfjjfoijjlpcjaa.PureTapeNone
open Go.RowKit Go.Proofs.Ytfjjfoijjlpcjaa.PTapeNone Go.Proofs.YtfjjfoijjlpcjaaW.PrintWords Go.Proofs.YtfjjfoijjlpcjaaW.PrintLast Go.Proofs.YtfjjfoijjlpcjaaW.PrintMore 
set_option linter.unusedVariables false
set_option linter.unusedSimpArgs false
theorem TapeNone : True := trivial
end Go.Proofs.Ytfjjfoijjlpcjaa.PureTapeNone
namespace Go.Proofs.Ytfjjfoijjlpcjaa.Pure
theorem TapeNone : Go.Proofs.Ytfjjfoijjlpcjaa.PTapeNone.flittinglaw10_TapeNone.Pure := Go.Proofs.Ytfjjfoijjlpcjaa.PureTapeNone.TapeNone
end Go.Proofs.Ytfjjfoijjlpcjaa.Pure
