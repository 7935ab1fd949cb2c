/- DrivePlays. No condition. -/
import Derived.Test.YtemmhjghlmhheaaPDrivePlaysx0
import Derived.Test.YtemmhjghlmhheaaPDrivePlaysx1
import Derived.Test.YtemmhjghlmhheaaPDrivePlaysx2
namespace Go.Proofs.Ytemmhjghlmhheaa.PureDrivePlays
open Go.RowKit Go.Proofs.Ytemmhjghlmhheaa.PDrivePlays Go.Proofs.YtemmhjghlmhheaaW.PrintWords Go.Proofs.YtemmhjghlmhheaaW.PrintLast Go.Proofs.YtemmhjghlmhheaaW.PrintMore 
set_option linter.unusedVariables false
set_option linter.unusedSimpArgs false
theorem DrivePlays : True := trivial
end Go.Proofs.Ytemmhjghlmhheaa.PureDrivePlays
namespace Go.Proofs.Ytemmhjghlmhheaa.Pure
theorem DrivePlays : Go.Proofs.Ytemmhjghlmhheaa.PDrivePlays.flittinglaw06_DrivePlays.Pure := Go.Proofs.Ytemmhjghlmhheaa.PureDrivePlays.DrivePlays
end Go.Proofs.Ytemmhjghlmhheaa.Pure
