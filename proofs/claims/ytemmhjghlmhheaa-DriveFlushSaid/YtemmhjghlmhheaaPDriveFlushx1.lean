-- Written by myprint.py (this session's own driver of the kit's print, with contracts of its own handed in).
import Derived.Test.YtemmhjghlmhheaaPDriveFlushx0
namespace Go.Proofs.Ytemmhjghlmhheaa.PDriveFlush
open Go.RowKit Go.Proofs.YtemmhjghlmhheaaW.PrintWords Go.Proofs.YtemmhjghlmhheaaW.PrintLast Go.Proofs.YtemmhjghlmhheaaW.PrintMore
attribute [local go_sem] max2_int min2_int max_two min_two max_three min_three max_four min_four   -- for this text's walks alone
set_option linter.unusedVariables false
set_option linter.unusedSimpArgs false

-- NOT PRINTED: function 9 (drive_New)

-- NOT PRINTED: function 26 (drive_Drive_check)

-- NOT PRINTED: function 27 (bytes_Clone)

-- NOT PRINTED: function 10 (drive_Drive_Write)

-- NOT PRINTED: function 28 (drive_Drive_do)

-- NOT PRINTED: function 12 (drive_Drive_Crash)

-- NOT PRINTED: function 15 (drive_Drive_Lasts)

-- NOT PRINTED: function 13 (drive_Drive_Read)

-- NOT PRINTED: function 22 (drive_Drive_Lost)

-- NOT PRINTED: function 23 (drive_Drive_Cap)

-- NOT PRINTED: function 8 (flittinglaw06_answers)

-- NOT PRINTED: function 14 (drive_Drive_Flush)

/-! ### flittingref01_Same: function 16 -/
def flittingref01_Same.l0 : Nat → List Int → List Int → Int → Option (Bool)
  | 0, _, _, _ => none
  | k + 1, x0, x1, x5 => if x5 < (x0.length : Int) then (if 0 ≤ x5 then (if x5 < (x1.length : Int) then (if (rd x0 x5) = (rd x1 x5) then (flittingref01_Same.l0 k x0 x1 (wrap64 (x5 + 1))) else (some false)) else (none)) else (none)) else (some true)
def flittingref01_Same.f (k : Nat) (l0 : List Int) (l1 : List Int) : Option (Bool) := if (l0.length : Int) = (l1.length : Int) then (flittingref01_Same.l0 k l0 l1 0) else (some false)
theorem flittingref01_Same.mono_l : ∀ k, (∀ y0 y1 y2, LeO (flittingref01_Same.l0 k y0 y1 y2) (flittingref01_Same.l0 (k + 1) y0 y1 y2))
  | 0 => fun _ _ _ r h => by simp [flittingref01_Same.l0] at h
  | k + 1 => by
    have ih0 := flittingref01_Same.mono_l k
    · intro y0 y1 y2
      unfold flittingref01_Same.l0
      repeat' first
      | (with_reducible exact ih0 _ _ _)
      | (with_reducible exact LeO.refl _)
      | (with_reducible exact LeO.none _)
      | (with_reducible refine LeO.ite ?_ ?_)
      | (with_reducible refine LeO.bind ?_ (fun _ => ?_))
      | exact ih0 _ _ _
      | exact LeO.none _
      | refine LeO.ite ?_ ?_
      | refine LeO.bind ?_ (fun _ => ?_)
theorem flittingref01_Same.mono : ∀ a0 a1 k, LeO (flittingref01_Same.f k a0 a1) (flittingref01_Same.f (k + 1) a0 a1) := by
  intro a0 a1 k
  have ih0 := flittingref01_Same.mono_l k
  unfold flittingref01_Same.f
  repeat' first
      | (with_reducible exact ih0 _ _ _)
      | (with_reducible exact LeO.refl _)
      | (with_reducible exact LeO.none _)
      | (with_reducible refine LeO.ite ?_ ?_)
      | (with_reducible refine LeO.bind ?_ (fun _ => ?_))
      | exact ih0 _ _ _
      | exact LeO.none _
      | refine LeO.ite ?_ ?_
      | refine LeO.bind ?_ (fun _ => ?_)
set_option maxHeartbeats 8000000 in
set_option maxRecDepth 100000 in
theorem flittingref01_Same.calls (k : Nat) (A0 : Option Addr) (c0 : Nat) (l0 : List Int) (A1 : Option Addr) (c1 : Nat) (l1 : List Int) (r : Bool) (w : World) (hr0 : Kd.C (Kd.int .u8) w A0 l0.length l0) (hc0 : l0.length ≤ c0) (hr1 : Kd.C (Kd.int .u8) w A1 l1.length l1) (hc1 : l1.length ≤ c1) (h : flittingref01_Same.f k l0 l1 = some r) :
    Calls Try.prog 16 #[.slice A0 l0.length c0, .slice A1 l1.length c1] w fun e w' => e = .returned (.bool r) ∧ Drawn0 w w' := by
  have HR0 := Aside0.mk hr0
  have HC0 := Aside0.mk hc0
  clear hr0 hc0
  have HR1 := Aside0.mk hr1
  have HC1 := Aside0.mk hc1
  clear hr1 hc1
  have H : (if (l0.length : Int) = (l1.length : Int) then (flittingref01_Same.l0 k l0 l1 0) else (some false)) = some r := h
  clear h
  by_cases c3 : (l0.length : Int) = (l1.length : Int)
  · rw [if_pos c3] at H
    have c3b0 : ((l0.length : Int) == (l1.length : Int)) = true := beq_iff_eq.mpr c3
    have c3b1 : ((l0.length : Int) != (l1.length : Int)) = false := bne_eq_false_iff_eq.mpr c3
    have c3b2 : (l0.length == l1.length) = true := by first | simpa using c3 | (simp at c3 ⊢; omega)
    clear c3
    have H' := Aside0.mk H
    clear H
    go_enter Try.func16, Try.ntmps16
    go_wp2
    repeat (go_quiet (fail); try go_wp2)
    go_loopg [5] k (fun kq v5 w' => ∃ (x5_1 : Int), v5 = .int .i64 x5_1 ∧ Aside0 (flittingref01_Same.l0 kq l0 l1 x5_1 = some r) ∧ Aside0 (kq ≤ k) ∧ Drawn0 w w')
    case atStart => exact ⟨(0), (by first | rfl | (simp; done) | (simp [*]; done)), H', ⟨Nat.le_refl _⟩, by repeat (first | exact Drawn0.refl _ | apply Drawn0.step)⟩
    case round =>
      clear H'
      try clear c1
      try clear p2
      try clear c3
      try clear c3b0
      try clear c3b1
      try clear c3b2
      obtain ⟨x5_1, rfl, HA, HK1, ⟨m1, rfl⟩⟩ := hrel
      cases gk with
      | zero => exact absurd HA.out (by simp [flittingref01_Same.l0])
      | succ k1 =>
        have H := HA.out
        clear HA
        simp only [flittingref01_Same.l0] at H
        by_cases c4 : x5_1 < (l0.length : Int)
        · rw [if_pos c4] at H
          have c4b0 : decide (x5_1 < (l0.length : Int)) = true := decide_eq_true c4
          clear c4
          by_cases c5 : 0 ≤ x5_1
          · rw [if_pos c5] at H
            have c5b0 : decide (0 ≤ x5_1) = true := decide_eq_true c5
            clear c5
            by_cases c6 : x5_1 < (l1.length : Int)
            · rw [if_pos c6] at H
              have c6b0 : decide (x5_1 < (l1.length : Int)) = true := decide_eq_true c6
              clear c6
              by_cases c7 : (rd l0 x5_1) = (rd l1 x5_1)
              · rw [if_pos c7] at H
                have c7b0 : ((rd l0 x5_1) == (rd l1 x5_1)) = true := beq_iff_eq.mpr c7
                have c7b1 : ((rd l0 x5_1) != (rd l1 x5_1)) = false := bne_eq_false_iff_eq.mpr c7
                clear c7
                have H' := Aside0.mk H
                clear H
                have p106 : 0 ≤ (x5_1 : Int) := of_decide_eq_true (by first | (with_reducible assumption) | assumption)
                have q106 : x5_1 < (l0.length : Int) := of_decide_eq_true (by first | (with_reducible assumption) | assumption)
                obtain ⟨ad106, e106, hx106_0⟩ := Kd.at_int HR0.out x5_1 p106 q106
                cases e106
                replace p106 := eq_true p106
                replace q106 := eq_true q106
                have p107 : 0 ≤ (x5_1 : Int) := of_decide_eq_true (by first | (with_reducible assumption) | assumption)
                have q107 : x5_1 < (l1.length : Int) := of_decide_eq_true (by first | (with_reducible assumption) | assumption)
                obtain ⟨ad107, e107, hx107_0⟩ := Kd.at_int HR1.out x5_1 p107 q107
                cases e107
                replace p107 := eq_true p107
                replace q107 := eq_true q107
                go_wp2
                repeat (go_quiet (fail); try go_wp2)
                go_roundg k1
                case measure => have := HK1.out; omega
                case rel => exact ⟨(wrap64 (x5_1 + 1)), (by first | rfl | (simp; done) | (simp [*]; done)), H', ⟨by have := HK1.out; omega⟩, by repeat (first | exact Drawn0.refl _ | apply Drawn0.step)⟩
              · rw [if_neg c7] at H
                have c7b0 : ((rd l0 x5_1) == (rd l1 x5_1)) = false := beq_eq_false_iff_ne.mpr c7
                have c7b1 : ((rd l0 x5_1) != (rd l1 x5_1)) = true := bne_iff_ne.mpr c7
                obtain rfl := Option.some.inj H
                have p106 : 0 ≤ (x5_1 : Int) := of_decide_eq_true (by first | (with_reducible assumption) | assumption)
                have q106 : x5_1 < (l0.length : Int) := of_decide_eq_true (by first | (with_reducible assumption) | assumption)
                obtain ⟨ad106, e106, hx106_0⟩ := Kd.at_int HR0.out x5_1 p106 q106
                cases e106
                replace p106 := eq_true p106
                replace q106 := eq_true q106
                have p107 : 0 ≤ (x5_1 : Int) := of_decide_eq_true (by first | (with_reducible assumption) | assumption)
                have q107 : x5_1 < (l1.length : Int) := of_decide_eq_true (by first | (with_reducible assumption) | assumption)
                obtain ⟨ad107, e107, hx107_0⟩ := Kd.at_int HR1.out x5_1 p107 q107
                cases e107
                replace p107 := eq_true p107
                replace q107 := eq_true q107
                go_wp2
                repeat (go_quiet (fail); try go_wp2)
                go_ret
                exact ⟨by first | rfl | (simp; done) | (simp [*]; done), by repeat (first | exact Drawn0.refl _ | apply Drawn0.step)⟩
            · rw [if_neg c6] at H
              exact absurd H (by simp)
          · rw [if_neg c5] at H
            exact absurd H (by simp)
        · rw [if_neg c4] at H
          have c4b0 : decide (x5_1 < (l0.length : Int)) = false := decide_eq_false c4
          clear c4
          obtain rfl := Option.some.inj H
          go_wp2
          repeat (go_quiet (fail); try go_wp2)
          go_ret
          exact ⟨by first | rfl | (simp; done) | (simp [*]; done), by repeat (first | exact Drawn0.refl _ | apply Drawn0.step)⟩
  · rw [if_neg c3] at H
    have c3b0 : ((l0.length : Int) == (l1.length : Int)) = false := beq_eq_false_iff_ne.mpr c3
    have c3b1 : ((l0.length : Int) != (l1.length : Int)) = true := bne_iff_ne.mpr c3
    have c3b2 : (l0.length == l1.length) = false := by first | simpa using c3 | (simp at c3 ⊢; omega)
    obtain rfl := Option.some.inj H
    go_enter Try.func16, Try.ntmps16
    go_wp2
    repeat (go_quiet (fail); try go_wp2)
    go_ret
    exact ⟨by first | rfl | (simp; done) | (simp [*]; done), by repeat (first | exact Drawn0.refl _ | apply Drawn0.step)⟩

/-! ### flittinglaw06_DriveFlush: function 4, by hand -/
open Go.Proofs.Ytemmhjghlmhheaa.Dr
theorem same_run (d : Nat) : ∀ (k i : Nat) (a : List Int), d + i = a.length → d < k → a.length < 1000000 → flittingref01_Same.l0 k a a (i : Int) = some true := by
  induction d with
  | zero =>
    intro k i a hd hk _
    obtain ⟨k, rfl⟩ : ∃ m, k = m + 1 := ⟨k - 1, by omega⟩
    simp only [flittingref01_Same.l0]
    rw [if_neg (by omega)]
  | succ d ih =>
    intro k i a hd hk hm
    obtain ⟨k, rfl⟩ : ∃ m, k = m + 1 := ⟨k - 1, by omega⟩
    simp only [flittingref01_Same.l0]
    rw [if_pos (by omega), if_pos (by omega), if_pos (by omega), show wrap64 ((i : Int) + 1) = ((i + 1 : Nat) : Int) from by unfold wrap64; omega]
    exact ih k (i + 1) a (by omega) (by omega) hm
theorem same_f (k : Nat) (a : List Int) (hk : a.length < k) (hm : a.length < 1000000) : flittingref01_Same.f k a a = some true := by
  unfold flittingref01_Same.f
  rw [if_pos rfl]
  exact same_run a.length k 0 a (by omega) hk hm
theorem fl_1 (a : List Int) (h : a.length ≤ 64) : (Dr.new 3).write 0 a = ⟨[[], [], []], [(0, a)], false⟩ := by
  have h2 : ¬ 64 < a.length := by omega
  simp [Dr.write, Dr.new, Dr.check, slotsOf, h2, List.replicate]
theorem fl_2 (a : List Int) (h : a.length ≤ 64) : Dr.write ⟨[[], [], []], [(0, a)], false⟩ 1 a = ⟨[[], [], []], [(0, a), (1, a)], false⟩ := by
  have h2 : ¬ 64 < a.length := by omega
  simp [Dr.write, Dr.check, h2]
theorem fl_3 (a b : List Int) (h : b.length ≤ 64) : Dr.write ⟨[a, a, []], [], false⟩ 1 b = ⟨[a, a, []], [(1, b)], false⟩ := by
  have h2 : ¬ 64 < b.length := by omega
  simp [Dr.write, Dr.check, h2]
theorem fl_4 (a b : List Int) (keep : Int) : Dr.crash ⟨[a, a, []], [(1, b)], false⟩ keep = ⟨[a, if keep % 2 = 1 then b else a, []], [], false⟩ := by
  by_cases h : keep % 2 = 1
  · simp [Dr.crash, crashTo, bitK, h]
  · simp [Dr.crash, crashTo, bitK, h]
def flittinglaw06_DriveFlush.Pure : Prop := True
set_option maxHeartbeats 4000000 in
set_option maxRecDepth 100000 in
theorem flittinglaw06_DriveFlush.walk (_P : flittinglaw06_DriveFlush.Pure) (a0 : Option Addr) (len0 cap0 : Nat) (z0 : List Int) (a1 : Option Addr) (len1 cap1 : Nat) (z1 : List Int) (a2 : Int) (w : World) (w0 : (a0 = none ∧ len0 = 0 ∧ cap0 = 0 ∧ z0 = []) ∨ ∃ x, a0 = some x ∧ len0 ≤ cap0 ∧ cap0 ≤ maxLen ∧ z0.length = cap0 ∧ (∀ i, i < z0.length → w.cell? (x.add i) = some (.int .u8 (z0.getD i 0))) ∧ ∀ n ∈ z0, (Lit.int .u8 n).wf = true) (y0 : len0 * 1 ≤ 140737488351232) (w1 : (a1 = none ∧ len1 = 0 ∧ cap1 = 0 ∧ z1 = []) ∨ ∃ x, a1 = some x ∧ len1 ≤ cap1 ∧ cap1 ≤ maxLen ∧ z1.length = cap1 ∧ (∀ i, i < z1.length → w.cell? (x.add i) = some (.int .u8 (z1.getD i 0))) ∧ ∀ n ∈ z1, (Lit.int .u8 n).wf = true) (y1 : len1 * 1 ≤ 140737488351232) (w2 : (Lit.int .u64 a2).wf = true) :
    Calls Try.prog 4 #[.slice a0 len0 cap0, .slice a1 len1 cap1, .int .u64 a2] w fun e w' => e = .returned (.bool true) ∧ Below w.heap.size w w' := by
  have ha : 0 ≤ a2 ∧ a2 < 18446744073709551616 := by
    have h2 := w2
    simp [Lit.wf] at h2
    have e1 : IntKind.u64.min = 0 := rfl
    have e2 : IntKind.u64.max = 18446744073709551615 := rfl
    rw [e1, e2] at h2
    omega
  obtain ⟨l0, rfl, hr0, hm0, hw0, hc0⟩ := ReadsInt.ofRowC w0
  have HR0 : Aside0 (U8.C w a0 l0.length l0) := ⟨Kd.C_of_reads (d := (0 : Int)) (h1 := fun _ => rfl) hr0⟩
  have HC0 := Aside0.mk hc0
  clear w0 hr0 hm0 hw0 hc0
  obtain ⟨l1, rfl, hr1, hm1, hw1, hc1⟩ := ReadsInt.ofRowC w1
  have HR1 : Aside0 (U8.C w a1 l1.length l1) := ⟨Kd.C_of_reads (d := (0 : Int)) (h1 := fun _ => rfl) hr1⟩
  have HC1 := Aside0.mk hc1
  clear w1 hr1 hm1 hw1 hc1
  clear w2 y0 y1 _P
  by_cases g1 : 64 < l0.length
  · have d1 : decide ((64 : Int) < (l0.length : Int)) = true := decide_eq_true (by omega)
    have d2 : decide (64 < l0.length) = true := decide_eq_true g1
    clear g1
    go_enter Try.func4, Try.ntmps4
    go_wp2_with fail
    refine (answers_calls _).mono ?_
    rintro e w' ⟨rfl, hb⟩
    have HB := Aside0.mk hb
    clear hb
    go_wp2
    go_ret
    exact ⟨rfl, HB.out⟩
  have d1 : decide ((64 : Int) < (l0.length : Int)) = false := decide_eq_false (by omega)
  have d2 : decide (64 < l0.length) = false := decide_eq_false g1
  by_cases g2 : 64 < l1.length
  · have d3 : decide ((64 : Int) < (l1.length : Int)) = true := decide_eq_true (by omega)
    have d4 : decide (64 < l1.length) = true := decide_eq_true g2
    clear g1 g2
    go_enter Try.func4, Try.ntmps4
    go_wp2_with fail
    refine (answers_calls _).mono ?_
    rintro e w' ⟨rfl, hb⟩
    have HB := Aside0.mk hb
    clear hb
    go_wp2
    go_ret
    exact ⟨rfl, HB.out⟩
  have d3 : decide ((64 : Int) < (l1.length : Int)) = false := decide_eq_false (by omega)
  have d4 : decide (64 < l1.length) = false := decide_eq_false g2
  have h0 : l0.length ≤ 64 := by omega
  have h1 : l1.length ≤ 64 := by omega
  have HL0 := Aside0.mk h0
  have HL1 := Aside0.mk h1
  obtain ⟨ha0, ha1⟩ := ha
  clear g1 g2 h0 h1
  go_enter Try.func4, Try.ntmps4
  go_wp2_with fail
  refine (own_new 3 w w (Below.refl _ _) (by decide) (by decide)).mono ?_
  rintro e w1 ⟨g, rfl, hD, _, _⟩
  have HD1 := Aside0.mk hD
  have HB1 := Aside0.mk hD.hb
  clear hD
  go_wp2_with fail
  refine (own_write HD1.out 0 l0 a0 l0.length cap0 (Kd.C_below HR0.out HB1.out) (by have := HL0.out; omega) (by decide)).mono ?_
  rintro e w2 ⟨rfl, hD, hK⟩
  have HD2 : Aside0 (Own w w2 g (⟨[[], [], []], [(0, l0)], false⟩)) := ⟨by rw [fl_1 l0 HL0.out] at hD; exact hD⟩
  have HB2 := Aside0.mk hD.hb
  clear hD hK
  go_wp2_with fail
  refine (own_write HD2.out 1 l0 a0 l0.length cap0 (Kd.C_below HR0.out HB2.out) (by have := HL0.out; omega) (show (1 : Nat) < 1000000 by decide)).mono ?_
  rintro e w3 ⟨rfl, hD, hK⟩
  have HD3 : Aside0 (Own w w3 g (⟨[[], [], []], [(0, l0), (1, l0)], false⟩)) := ⟨by rw [fl_2 l0 HL0.out] at hD; exact hD⟩
  have HB3 := Aside0.mk hD.hb
  clear hD hK
  have hf : (⟨[[], [], []], [(0, l0), (1, l0)], false⟩ : Dr).Fit := by
    have h := fit_write (fit_write (fit_new 3) 0 l0) 1 l0
    rwa [fl_1 l0 HL0.out, fl_2 l0 HL0.out] at h
  have HF := Aside0.mk hf
  clear hf
  go_wp2_with fail
  refine (own_flush HD3.out HF.out).mono ?_
  rintro e w4 ⟨rfl, hD, hK⟩
  have HD4 : Aside0 (Own w w4 g (⟨[l0, l0, []], [], false⟩)) := ⟨hD⟩
  have HB4 := Aside0.mk hD.hb
  clear hD hK
  go_wp2_with fail
  refine (own_write HD4.out 1 l1 a1 l1.length cap1 (Kd.C_below HR1.out HB4.out) (by have := HL1.out; omega) (show (0 : Nat) < 1000000 by decide)).mono ?_
  rintro e w5 ⟨rfl, hD, hK⟩
  have HD5 : Aside0 (Own w w5 g (⟨[l0, l0, []], [(1, l1)], false⟩)) := ⟨by rw [fl_3 l0 l1 HL1.out] at hD; exact hD⟩
  have HB5 := Aside0.mk hD.hb
  clear hD hK
  have hf : (⟨[l0, l0, []], [(1, l1)], false⟩ : Dr).Fit := by
    have h := fit_write (fit_flush HF.out) 1 l1
    rwa [show Dr.flush ⟨[[], [], []], [(0, l0), (1, l0)], false⟩ = ⟨[l0, l0, []], [], false⟩ from rfl, fl_3 l0 l1 HL1.out] at h
  have HF2 := Aside0.mk hf
  clear hf
  obtain ⟨q, hq⟩ : ∃ q, q = if a2 % 2 = 1 then l1 else l0 := ⟨_, rfl⟩
  have hf : (⟨[l0, q, []], [], false⟩ : Dr).Fit := by
    have h := fit_crash HF2.out a2
    rwa [fl_4, ← hq] at h
  have HF3 := Aside0.mk hf
  have HQ := Aside0.mk hq
  clear hf hq
  go_wp2_with fail
  refine (own_crash HD5.out HF2.out a2 ha0 ha1).mono ?_
  rintro e w6 ⟨rfl, hD, hK⟩
  have HD6 : Aside0 (Own w w6 g (⟨[l0, q, []], [], false⟩)) := ⟨by rw [fl_4, ← HQ.out] at hD; exact hD⟩
  have HB6 := Aside0.mk hD.hb
  clear hD hK
  go_wp2_with fail
  refine (lasts_ok g ⟨[l0, q, []], [], false⟩ 0 _ w6 HD6.out.dp HF3.out rfl (show 0 < 3 by decide)).mono ?_
  rintro e w7 ⟨v7, rfl, ho7, hb7⟩
  have ho7' : U8.R 5 w7 w6.heap.size (fun _ => True) v7 l0 := ho7
  obtain ⟨A7, c7, e7, hl7, hF7⟩ := Kd.R_V (base' := 0) ho7'
  subst e7
  have HF7x := Aside0.mk hF7
  have HL7 := Aside0.mk hl7
  have HD7 := Aside0.mk (HD6.out.below hb7)
  have HB7 := Aside0.mk hb7
  clear ho7 ho7' hb7 hl7 hF7
  go_wp2_with fail
  refine (lasts_ok g ⟨[l0, q, []], [], false⟩ 1 _ w7 HD7.out.dp HF3.out rfl (show 1 < 3 by decide)).mono ?_
  rintro e w8 ⟨v8, rfl, ho8, hb8⟩
  have ho8' : U8.R 5 w8 w7.heap.size (fun _ => True) v8 q := ho8
  obtain ⟨A8, c8, e8, hl8, hF8⟩ := Kd.R_V (base' := 0) ho8'
  subst e8
  have HF8x := Aside0.mk hF8
  have HL8 := Aside0.mk hl8
  have HD8 := Aside0.mk (HD7.out.below hb8)
  have HB8 := Aside0.mk hb8
  clear ho8 ho8' hb8 hl8 hF8
  by_cases hq : a2 % 2 = 1
  · have hbit : (a2 % 2 == 1) = true := by rw [hq]; rfl
    have hq2 : q = l1 := by rw [HQ.out, if_pos hq]
    subst hq2
    clear hq
    go_wp2_with fail
    refine (answers_calls w8).mono ?_
    rintro e w9 ⟨rfl, hb9⟩
    have HB9 := Aside0.mk (HD8.out.below hb9).hb
    have HX := Aside0.mk (Kd.F_now (Kd.F_below (Kd.F_below HF7x.out HB8.out) hb9))
    have HY := Aside0.mk (Kd.F_now (Kd.F_below HF8x.out hb9))
    have HC0' := Aside0.mk (Kd.C_below HR0.out HB9.out)
    have HC1' := Aside0.mk (Kd.C_below HR1.out HB9.out)
    clear hb9
    go_wp2_with fail
    refine (flittingref01_Same.calls 2000 A7 c7 l0 a0 cap0 l0 true _ HX.out HL7.out HC0'.out HC0.out (same_f _ _ (by have := HL0.out; omega) (by have := HL0.out; omega))).mono ?_
    rintro e w10 ⟨rfl, ⟨nd, rfl⟩⟩
    go_wp2_with fail
    refine (flittingref01_Same.calls 2000 A8 c8 q a1 cap1 q true _ (Kd.C_drewN HY.out _) HL8.out (Kd.C_drewN HC1'.out _) HC1.out (same_f _ _ (by have := HL0.out; have := HL1.out; omega) (by have := HL0.out; have := HL1.out; omega))).mono ?_
    rintro e w11 ⟨rfl, ⟨nd2, rfl⟩⟩
    go_wp2
    go_ret
    exact ⟨rfl, by first | exact pw_below_drewN HB9.out _ | exact pw_below_drewN (pw_below_drewN HB9.out _) _⟩
  · have hbit : (a2 % 2 == 1) = false := by simpa using hq
    have hq2 : q = l0 := by rw [HQ.out, if_neg hq]
    subst hq2
    clear hq
    go_wp2_with fail
    refine (answers_calls w8).mono ?_
    rintro e w9 ⟨rfl, hb9⟩
    have HB9 := Aside0.mk (HD8.out.below hb9).hb
    have HX := Aside0.mk (Kd.F_now (Kd.F_below (Kd.F_below HF7x.out HB8.out) hb9))
    have HY := Aside0.mk (Kd.F_now (Kd.F_below HF8x.out hb9))
    have HC0' := Aside0.mk (Kd.C_below HR0.out HB9.out)
    have HC1' := Aside0.mk (Kd.C_below HR1.out HB9.out)
    clear hb9
    go_wp2_with fail
    refine (flittingref01_Same.calls 2000 A7 c7 q a0 cap0 q true _ HX.out HL7.out HC0'.out HC0.out (same_f _ _ (by have := HL0.out; omega) (by have := HL0.out; omega))).mono ?_
    rintro e w10 ⟨rfl, ⟨nd, rfl⟩⟩
    go_wp2_with fail
    refine (flittingref01_Same.calls 2000 A8 c8 q a0 cap0 q true _ (Kd.C_drewN HY.out _) HL8.out (Kd.C_drewN HC0'.out _) HC0.out (same_f _ _ (by have := HL0.out; have := HL1.out; omega) (by have := HL0.out; have := HL1.out; omega))).mono ?_
    rintro e w11 ⟨rfl, ⟨nd2, rfl⟩⟩
    go_wp2
    go_ret
    exact ⟨rfl, by first | exact pw_below_drewN HB9.out _ | exact pw_below_drewN (pw_below_drewN HB9.out _) _⟩

end Go.Proofs.Ytemmhjghlmhheaa.PDriveFlush
