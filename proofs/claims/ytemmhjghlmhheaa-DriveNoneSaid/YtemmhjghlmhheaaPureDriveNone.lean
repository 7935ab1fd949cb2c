/- DriveNone. No condition. -/
import Derived.Test.YtemmhjghlmhheaaPDriveNonex0
import Derived.Test.YtemmhjghlmhheaaPDriveNonex1
namespace Go.Proofs.Ytemmhjghlmhheaa.PureDriveNone
open Go.RowKit Go.Proofs.Ytemmhjghlmhheaa.PDriveNone Go.Proofs.YtemmhjghlmhheaaW.PrintWords Go.Proofs.YtemmhjghlmhheaaW.PrintLast Go.Proofs.YtemmhjghlmhheaaW.PrintMore 
set_option linter.unusedVariables false
set_option linter.unusedSimpArgs false
theorem DriveNone : True := trivial
end Go.Proofs.Ytemmhjghlmhheaa.PureDriveNone
namespace Go.Proofs.Ytemmhjghlmhheaa.Pure
theorem DriveNone : Go.Proofs.Ytemmhjghlmhheaa.PDriveNone.flittinglaw06_DriveNone.Pure := Go.Proofs.Ytemmhjghlmhheaa.PureDriveNone.DriveNone
end Go.Proofs.Ytemmhjghlmhheaa.Pure
