/- DriveLost. No condition. -/
import Derived.Test.YtemmhjghlmhheaaPDriveLostx0
import Derived.Test.YtemmhjghlmhheaaPDriveLostx1
namespace Go.Proofs.Ytemmhjghlmhheaa.PureDriveLost
open Go.RowKit Go.Proofs.Ytemmhjghlmhheaa.PDriveLost Go.Proofs.YtemmhjghlmhheaaW.PrintWords Go.Proofs.YtemmhjghlmhheaaW.PrintLast Go.Proofs.YtemmhjghlmhheaaW.PrintMore 
set_option linter.unusedVariables false
set_option linter.unusedSimpArgs false
theorem DriveLost : True := trivial
end Go.Proofs.Ytemmhjghlmhheaa.PureDriveLost
namespace Go.Proofs.Ytemmhjghlmhheaa.Pure
theorem DriveLost : Go.Proofs.Ytemmhjghlmhheaa.PDriveLost.flittinglaw06_DriveLost.Pure := Go.Proofs.Ytemmhjghlmhheaa.PureDriveLost.DriveLost
end Go.Proofs.Ytemmhjghlmhheaa.Pure
