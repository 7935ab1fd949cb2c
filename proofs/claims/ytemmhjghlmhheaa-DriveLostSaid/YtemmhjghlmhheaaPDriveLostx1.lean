-- Written by myprint.py (this session's own driver of the kit's print, with contracts of its own handed in).
import Derived.Test.YtemmhjghlmhheaaPDriveLostx0
namespace Go.Proofs.Ytemmhjghlmhheaa.PDriveLost
open Go.RowKit Go.Proofs.YtemmhjghlmhheaaW.PrintWords Go.Proofs.YtemmhjghlmhheaaW.PrintLast Go.Proofs.YtemmhjghlmhheaaW.PrintMore
attribute [local go_sem] max2_int min2_int max_two min_two max_three min_three max_four min_four   -- for this text's walks alone
set_option linter.unusedVariables false
set_option linter.unusedSimpArgs false

-- NOT PRINTED: function 9 (drive_New)

-- NOT PRINTED: function 26 (drive_Drive_check)

-- NOT PRINTED: function 27 (bytes_Clone)

-- NOT PRINTED: function 10 (drive_Drive_Write)

-- NOT PRINTED: function 28 (drive_Drive_do)

-- NOT PRINTED: function 12 (drive_Drive_Crash)

-- NOT PRINTED: function 15 (drive_Drive_Lasts)

-- NOT PRINTED: function 13 (drive_Drive_Read)

-- NOT PRINTED: function 22 (drive_Drive_Lost)

-- NOT PRINTED: function 23 (drive_Drive_Cap)

-- NOT PRINTED: function 8 (flittinglaw06_answers)

-- NOT PRINTED: function 11 (drive_Drive_Loose)

-- NOT PRINTED: function 14 (drive_Drive_Flush)

-- NOT PRINTED: function 21 (drive_Drive_Lose)

/-! ### flittinglaw06_DriveLost: function 7, by hand -/
open Go.Proofs.Ytemmhjghlmhheaa.Dr
theorem wr_lost (i : Int) (n : Nat) : Dr.writeE ⟨[], [], true⟩ i n = 8 := by simp [Dr.writeE, Dr.check]
theorem wr_lost2 (i : Int) (b : List Int) : Dr.write ⟨[], [], true⟩ i b = ⟨[], [], true⟩ := by simp [Dr.write, Dr.check]
theorem wr_new (n i : Int) (b : List Int) : ((Dr.new n).write i b).loose.length < 1000000 := by
  unfold Dr.write
  split
  · split
    · show (0 : Nat) < _; decide
    · show (1 : Nat) < _; decide
  · show (0 : Nat) < _; decide
def flittinglaw06_DriveLost.Pure : Prop := True
set_option maxHeartbeats 4000000 in
set_option maxRecDepth 100000 in
theorem flittinglaw06_DriveLost.walk (_P : flittinglaw06_DriveLost.Pure) (a0 : Int) (a1 : Int) (a2 : Option Addr) (len2 cap2 : Nat) (z2 : List Int) (w : World) (w0 : (Lit.int .u8 a0).wf = true) (w1 : (Lit.int .i64 a1).wf = true) (w2 : (a2 = none ∧ len2 = 0 ∧ cap2 = 0 ∧ z2 = []) ∨ ∃ x, a2 = some x ∧ len2 ≤ cap2 ∧ cap2 ≤ maxLen ∧ z2.length = cap2 ∧ (∀ i, i < z2.length → w.cell? (x.add i) = some (.int .u8 (z2.getD i 0))) ∧ ∀ n ∈ z2, (Lit.int .u8 n).wf = true) (y2 : len2 * 1 ≤ 140737488351232) :
    Calls Try.prog 7 #[.int .u8 a0, .int .i64 a1, .slice a2 len2 cap2] w fun e w' => e = .returned (.bool true) ∧ Below w.heap.size w w' := by
  have ha : 0 ≤ a0 ∧ a0 < 256 := by
    have h2 := w0
    simp [Lit.wf] at h2
    have e1 : IntKind.u8.min = 0 := rfl
    have e2 : IntKind.u8.max = 255 := rfl
    rw [e1, e2] at h2
    omega
  obtain ⟨l2, rfl, hr2, hm2, hw2, hc2⟩ := ReadsInt.ofRowC w2
  have HR2 : Aside0 (U8.C w a2 l2.length l2) := ⟨Kd.C_of_reads (d := (0 : Int)) (h1 := fun _ => rfl) hr2⟩
  have HC2 := Aside0.mk hc2
  clear w2 hr2 hm2 hw2 hc2
  clear w0 w1 y2 _P
  by_cases g1 : 60 < l2.length
  · have d1 : decide ((60 : Int) < (l2.length : Int)) = true := decide_eq_true (by omega)
    have d2 : decide (60 < l2.length) = true := decide_eq_true g1
    clear g1
    go_enter Try.func7, Try.ntmps7
    go_wp2_with fail
    refine (answers_calls _).mono ?_
    rintro e w' ⟨rfl, hb⟩
    have HB := Aside0.mk hb
    clear hb
    go_wp2
    go_ret
    exact ⟨rfl, HB.out⟩
  have d1 : decide ((60 : Int) < (l2.length : Int)) = false := decide_eq_false (by omega)
  have d2 : decide (60 < l2.length) = false := decide_eq_false g1
  have HL : Aside0 (l2.length ≤ 60) := ⟨by omega⟩
  obtain ⟨ha0, ha1⟩ := ha
  clear g1
  go_enter Try.func7, Try.ntmps7
  go_wp2_with fail
  refine (own_new _ w w (Below.refl _ _) (by omega) (by omega)).mono ?_
  rintro e w1 ⟨g, rfl, hD, _, _⟩
  have HD1 := Aside0.mk hD
  have HB1 := Aside0.mk hD.hb
  clear hD
  generalize hnn : Dr.new _ = d0 at HD1
  have hf0 : d0.Fit := by rw [← hnn]; exact fit_new _
  have hl0 : (d0.write 0 l2).loose.length < 1000000 := by rw [← hnn]; exact wr_new _ _ _
  have hl1 : d0.loose.length < 1000000 := by rw [← hnn]; show (0 : Nat) < _; decide
  have HF0 := Aside0.mk hf0
  have HL0 := Aside0.mk hl1
  clear hnn hf0 hl0 hl1
  go_wp2_with fail
  refine (own_write HD1.out 0 l2 a2 l2.length cap2 (Kd.C_below HR2.out HB1.out) (by have := HL.out; omega) HL0.out).mono ?_
  rintro e w2 ⟨rfl, hD, hK⟩
  have HD2 : Aside0 (Own w w2 g (d0.write 0 l2)) := ⟨hD⟩
  have HB2 := Aside0.mk hD.hb
  clear hD hK
  go_wp2_with fail
  refine (own_flush HD2.out (fit_write HF0.out _ _)).mono ?_
  rintro e w3 ⟨rfl, hD, hK⟩
  have HD3 : Aside0 (Own w w3 g ((d0.write 0 l2).flush)) := ⟨hD⟩
  have HB3 := Aside0.mk hD.hb
  clear hD hK
  go_wp2_with fail
  refine (own_lose HD3.out).mono ?_
  rintro e w4 ⟨rfl, hD, hK⟩
  have HD4 : Aside0 (Own w w4 g (⟨[], [], true⟩)) := ⟨hD⟩
  have HB4 := Aside0.mk hD.hb
  clear hD hK
  go_wp2_with fail
  refine (own_crash HD4.out fit_lost 1 (by decide) (by decide)).mono ?_
  rintro e w5 ⟨rfl, hD, hK⟩
  have HD5 : Aside0 (Own w w5 g (⟨[], [], true⟩)) := ⟨hD⟩
  have HB5 := Aside0.mk hD.hb
  clear hD hK
  go_wp2_with fail
  refine (read_bad g ⟨[], [], true⟩ a1 _ w5 HD5.out.dp (by simp [Dr.check])).mono ?_
  rintro e w6 ⟨rfl, rfl⟩
  rw [show Dr.check ⟨[], [], true⟩ a1 = 8 from rfl]
  go_wp2_with fail
  refine (lasts_bad g ⟨[], [], true⟩ a1 _ w6 HD5.out.dp (by simp [Dr.check])).mono ?_
  rintro e w7 ⟨rfl, rfl⟩
  rw [show Dr.check ⟨[], [], true⟩ a1 = 8 from rfl]
  go_wp2_with fail
  refine (answers_calls _).mono ?_
  rintro e w8 ⟨rfl, hb8⟩
  have HD8 := Aside0.mk (HD5.out.below hb8)
  have HB8 := Aside0.mk HD8.out.hb
  clear hb8
  go_wp2_with fail
  refine (lost_calls g ⟨[], [], true⟩ _ w8 HD8.out.dp).mono ?_
  rintro e w9 ⟨rfl, rfl⟩
  go_wp2_with fail
  refine (cap_calls g ⟨[], [], true⟩ _ w9 HD8.out.dp).mono ?_
  rintro e w10 ⟨rfl, rfl⟩
  rw [show Dr.cap ⟨[], [], true⟩ = 0 from rfl]
  go_wp2_with fail
  refine (own_write HD8.out a1 l2 a2 l2.length cap2 (Kd.C_below HR2.out HB8.out) (by have := HL.out; omega) (by decide)).mono ?_
  rintro e w11 ⟨rfl, hD, hK⟩
  rw [wr_lost2] at hD
  rw [wr_lost]
  have HD11 := Aside0.mk hD
  clear hD hK
  go_wp2_with fail
  refine (own_flush HD11.out fit_lost).mono ?_
  rintro e w12 ⟨rfl, hD, hK⟩
  have HD12 : Aside0 (Own w w12 g ⟨[], [], true⟩) := ⟨hD⟩
  rw [show Dr.flushE ⟨[], [], true⟩ = 8 from rfl]
  clear hD hK
  go_wp2_with fail
  refine (loose_calls g ⟨[], [], true⟩ _ w12 HD12.out.dp).mono ?_
  rintro e w13 ⟨rfl, rfl⟩
  go_wp2
  go_ret
  exact ⟨rfl, HD12.out.hb⟩

end Go.Proofs.Ytemmhjghlmhheaa.PDriveLost
