/- DriveKeeps. No condition. -/
import Derived.Test.YtemmhjghlmhheaaPDriveKeepsx0
import Derived.Test.YtemmhjghlmhheaaPDriveKeepsx1
namespace Go.Proofs.Ytemmhjghlmhheaa.PureDriveKeeps
open Go.RowKit Go.Proofs.Ytemmhjghlmhheaa.PDriveKeeps Go.Proofs.YtemmhjghlmhheaaW.PrintWords Go.Proofs.YtemmhjghlmhheaaW.PrintLast Go.Proofs.YtemmhjghlmhheaaW.PrintMore 
set_option linter.unusedVariables false
set_option linter.unusedSimpArgs false
theorem DriveKeeps : True := trivial
end Go.Proofs.Ytemmhjghlmhheaa.PureDriveKeeps
namespace Go.Proofs.Ytemmhjghlmhheaa.Pure
theorem DriveKeeps : Go.Proofs.Ytemmhjghlmhheaa.PDriveKeeps.flittinglaw06_DriveKeeps.Pure := Go.Proofs.Ytemmhjghlmhheaa.PureDriveKeeps.DriveKeeps
end Go.Proofs.Ytemmhjghlmhheaa.Pure
