/- DriveFlush. No condition. -/
import Derived.Test.YtemmhjghlmhheaaPDriveFlushx0
import Derived.Test.YtemmhjghlmhheaaPDriveFlushx1
namespace Go.Proofs.Ytemmhjghlmhheaa.PureDriveFlush
open Go.RowKit Go.Proofs.Ytemmhjghlmhheaa.PDriveFlush Go.Proofs.YtemmhjghlmhheaaW.PrintWords Go.Proofs.YtemmhjghlmhheaaW.PrintLast Go.Proofs.YtemmhjghlmhheaaW.PrintMore 
set_option linter.unusedVariables false
set_option linter.unusedSimpArgs false
theorem DriveFlush : True := trivial
end Go.Proofs.Ytemmhjghlmhheaa.PureDriveFlush
namespace Go.Proofs.Ytemmhjghlmhheaa.Pure
theorem DriveFlush : Go.Proofs.Ytemmhjghlmhheaa.PDriveFlush.flittinglaw06_DriveFlush.Pure := Go.Proofs.Ytemmhjghlmhheaa.PureDriveFlush.DriveFlush
end Go.Proofs.Ytemmhjghlmhheaa.Pure
