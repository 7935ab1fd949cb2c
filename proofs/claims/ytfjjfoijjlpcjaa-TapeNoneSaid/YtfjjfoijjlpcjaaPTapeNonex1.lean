-- Written by myprint.py (this session's own driver of the kit's print, with contracts of its own handed in).
import Derived.Test.YtfjjfoijjlpcjaaPTapeNonex0
namespace Go.Proofs.Ytfjjfoijjlpcjaa.PTapeNone
open Go.RowKit Go.Proofs.YtfjjfoijjlpcjaaW.PrintWords Go.Proofs.YtfjjfoijjlpcjaaW.PrintLast Go.Proofs.YtfjjfoijjlpcjaaW.PrintMore
attribute [local go_sem] max2_int min2_int max_two min_two max_three min_three max_four min_four   -- for this text's walks alone
set_option linter.unusedVariables false
set_option linter.unusedSimpArgs false

-- NOT PRINTED: function 8 (tape_New)

-- NOT PRINTED: function 22 (bytes_Clone)

-- NOT PRINTED: function 21 (tape_side_apply)

-- NOT PRINTED: function 24 (tape_Tape_one)

-- NOT PRINTED: function 20 (tape_Tape_write)

-- NOT PRINTED: function 9 (tape_Tape_Append)

-- NOT PRINTED: function 12 (tape_Tape_Read)

-- NOT PRINTED: function 7 (flittinglaw10_answers)

-- NOT PRINTED: function 10 (tape_Tape_Fuse)

-- NOT PRINTED: function 11 (tape_Tape_Crash)

-- NOT PRINTED: function 14 (tape_Tape_Replace)

-- NOT PRINTED: function 23 (tape_Tape_at)

-- NOT PRINTED: function 17 (tape_Tape_Lose)

-- NOT PRINTED: function 18 (tape_Tape_Spoil)

/-! ### flittinglaw10_TapeNone: function 6, by hand -/
open Go.Proofs.Ytfjjfoijjlpcjaa.Tp
def flittinglaw10_TapeNone.Pure : Prop := True
set_option maxHeartbeats 8000000 in
set_option maxRecDepth 100000 in
theorem flittinglaw10_TapeNone.walk (_P : flittinglaw10_TapeNone.Pure) (a0 : Int) (a1 : Option Addr) (len1 cap1 : Nat) (z1 : List Int) (w : World) (w0 : (Lit.int .i64 a0).wf = true) (w1 : (a1 = none ∧ len1 = 0 ∧ cap1 = 0 ∧ z1 = []) ∨ ∃ x, a1 = some x ∧ len1 ≤ cap1 ∧ cap1 ≤ maxLen ∧ z1.length = cap1 ∧ (∀ i, i < z1.length → w.cell? (x.add i) = some (.int .u8 (z1.getD i 0))) ∧ ∀ n ∈ z1, (Lit.int .u8 n).wf = true) (y1 : len1 * 1 ≤ 140737488351232) :
    Calls Try.prog 6 #[.int .i64 a0, .slice a1 len1 cap1] w fun e w' => e = .returned (.bool true) ∧ Below w.heap.size w w' := by
  clear w0 w1 y1
  go_enter Try.func6, Try.ntmps6
  go_wp2_with fail
  refine (fuse_nil a0 w).mono ?_
  rintro e w1 ⟨rfl, rfl⟩
  go_wp2_with fail
  refine (crash_nil a0 w1).mono ?_
  rintro e w2 ⟨rfl, rfl⟩
  go_wp2_with fail
  refine (lose_out none a0 (.inl rfl) w2).mono ?_
  rintro e w3 ⟨rfl, rfl⟩
  go_wp2_with fail
  refine (spoil_out none a0 (.inl rfl) a1 len1 cap1 w3).mono ?_
  rintro e w4 ⟨rfl, rfl⟩
  go_wp2_with fail
  refine (read_nil a0 w4).mono ?_
  rintro e w5 ⟨rfl, rfl⟩
  go_wp2_with fail
  refine (new_calls (fun _ => True) w5).mono ?_
  rintro e w6 ⟨rfl, hT, hb6⟩
  have HB6 := Aside0.mk hb6
  clear hT hb6
  go_wp2_with fail
  refine (read_two w5.heap.size w6).mono ?_
  rintro e w7 ⟨rfl, rfl⟩
  go_wp2_with fail
  refine (answers_calls w7).mono ?_
  rintro e w8 ⟨rfl, hb8⟩
  have HB8 := Aside0.mk (HB6.out.trans (hb8.mono HB6.out.size))
  clear hb8 HB6
  go_wp2_with fail
  refine (append_nil a1 len1 cap1 w8).mono ?_
  rintro e w9 ⟨rfl, rfl⟩
  go_wp2_with fail
  refine (replace_nil a1 len1 cap1 w9).mono ?_
  rintro e w10 ⟨rfl, rfl⟩
  go_wp2
  go_ret
  exact ⟨rfl, HB8.out⟩

end Go.Proofs.Ytfjjfoijjlpcjaa.PTapeNone
