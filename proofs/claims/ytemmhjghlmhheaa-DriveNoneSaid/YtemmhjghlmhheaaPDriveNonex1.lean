-- Written by myprint.py (this session's own driver of the kit's print, with contracts of its own handed in).
import Derived.Test.YtemmhjghlmhheaaPDriveNonex0
namespace Go.Proofs.Ytemmhjghlmhheaa.PDriveNone
open Go.RowKit Go.Proofs.YtemmhjghlmhheaaW.PrintWords Go.Proofs.YtemmhjghlmhheaaW.PrintLast Go.Proofs.YtemmhjghlmhheaaW.PrintMore
attribute [local go_sem] max2_int min2_int max_two min_two max_three min_three max_four min_four   -- for this text's walks alone
set_option linter.unusedVariables false
set_option linter.unusedSimpArgs false

-- NOT PRINTED: function 9 (drive_New)

-- NOT PRINTED: function 26 (drive_Drive_check)

-- NOT PRINTED: function 27 (bytes_Clone)

-- NOT PRINTED: function 10 (drive_Drive_Write)

-- NOT PRINTED: function 28 (drive_Drive_do)

-- NOT PRINTED: function 12 (drive_Drive_Crash)

-- NOT PRINTED: function 15 (drive_Drive_Lasts)

-- NOT PRINTED: function 13 (drive_Drive_Read)

-- NOT PRINTED: function 22 (drive_Drive_Lost)

-- NOT PRINTED: function 23 (drive_Drive_Cap)

-- NOT PRINTED: function 8 (flittinglaw06_answers)

-- NOT PRINTED: function 11 (drive_Drive_Loose)

-- NOT PRINTED: function 14 (drive_Drive_Flush)

-- NOT PRINTED: function 21 (drive_Drive_Lose)

/-! ### flittinglaw06_DriveNone: function 6, by hand -/
open Go.Proofs.Ytemmhjghlmhheaa.Dr
def flittinglaw06_DriveNone.Pure : Prop := True
set_option maxHeartbeats 4000000 in
set_option maxRecDepth 100000 in
theorem flittinglaw06_DriveNone.walk (_P : flittinglaw06_DriveNone.Pure) (a0 : Int) (a1 : Option Addr) (len1 cap1 : Nat) (z1 : List Int) (w : World) (w0 : (Lit.int .i64 a0).wf = true) (w1 : (a1 = none ∧ len1 = 0 ∧ cap1 = 0 ∧ z1 = []) ∨ ∃ x, a1 = some x ∧ len1 ≤ cap1 ∧ cap1 ≤ maxLen ∧ z1.length = cap1 ∧ (∀ i, i < z1.length → w.cell? (x.add i) = some (.int .u8 (z1.getD i 0))) ∧ ∀ n ∈ z1, (Lit.int .u8 n).wf = true) (y1 : len1 * 1 ≤ 140737488351232) :
    Calls Try.prog 6 #[.int .i64 a0, .slice a1 len1 cap1] w fun e w' => e = .returned (.bool true) ∧ Below w.heap.size w w' := by
  clear w0 w1 y1
  go_enter Try.func6, Try.ntmps6
  go_wp2_with fail
  refine (lose_nil _).mono ?_
  rintro e w1 ⟨rfl, rfl⟩
  go_wp2_with fail
  refine (crash_nil _ _).mono ?_
  rintro e w2 ⟨rfl, rfl⟩
  go_wp2_with fail
  refine (read_nil _ _).mono ?_
  rintro e w3 ⟨rfl, rfl⟩
  go_wp2_with fail
  refine (lasts_nil _ _).mono ?_
  rintro e w4 ⟨rfl, rfl⟩
  go_wp2_with fail
  refine (answers_calls _).mono ?_
  rintro e w5 ⟨rfl, hb5⟩
  have HB5 := Aside0.mk hb5
  clear hb5
  go_wp2_with fail
  refine (write_nil _ _ _).mono ?_
  rintro e w6 ⟨rfl, rfl⟩
  go_wp2_with fail
  refine (flush_nil _).mono ?_
  rintro e w7 ⟨rfl, rfl⟩
  go_wp2_with fail
  refine (cap_nil _).mono ?_
  rintro e w8 ⟨rfl, rfl⟩
  go_wp2_with fail
  refine (loose_nil _).mono ?_
  rintro e w9 ⟨rfl, rfl⟩
  go_wp2_with fail
  refine (lost_nil _).mono ?_
  rintro e w10 ⟨rfl, rfl⟩
  go_wp2
  go_ret
  exact ⟨rfl, HB5.out⟩

end Go.Proofs.Ytemmhjghlmhheaa.PDriveNone
