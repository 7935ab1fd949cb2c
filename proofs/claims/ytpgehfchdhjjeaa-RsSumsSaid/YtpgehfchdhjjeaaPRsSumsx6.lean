-- Written by myprint.py (this session's own driver of the kit's print, with contracts of its own handed in).
import Derived.Test.YtpgehfchdhjjeaaPRsSumsx0
import Derived.Test.YtpgehfchdhjjeaaPRsSumsx3
import Derived.Test.YtpgehfchdhjjeaaPRsSumsx5
namespace Go.Proofs.Ytpgehfchdhjjeaa.PRsSums
open Go.RowKit Go.Proofs.YtpgehfchdhjjeaaW.PrintWords Go.Proofs.YtpgehfchdhjjeaaW.PrintLast Go.Proofs.YtpgehfchdhjjeaaW.PrintMore
attribute [local go_sem] max2_int min2_int max_two min_two max_three min_three max_four min_four   -- for this text's walks alone
set_option linter.unusedVariables false
set_option linter.unusedSimpArgs false

/-! ### flittinglaw03_RsSums: function 5 -/
mutual
def flittinglaw03_RsSums.j0 : Nat → List Int → List Int → Int → Int → Bool → Option (Bool)
  | 0, _, _, _, _, _ => none
  | k + 1, x2, x3, x9, x10, x37 => if x37 = true then ((flittinglaw03_answers.f).bind fun t146 => (some t146)) else ((some (([] : List Int) : List Int)).bind fun y147 => (if y147.length + x2.length < 140737488355328 then ((some (y147 ++ x2 : List Int)).bind fun y150 => (if y150.length + 32 < 140737488355328 then ((some (y150 ++ List.replicate 32 0 : List Int)).bind fun y153 => (if 0 ≤ (wrap64 (8 * x9)) then (if (wrap64 (8 * x9)) ≤ (y153.length : Int) then ((some (([] : List Int) : List Int)).bind fun y160 => (if y160.length + x3.length < 140737488355328 then ((some (y160 ++ x3 : List Int)).bind fun y163 => (if y163.length + 32 < 140737488355328 then ((some (y163 ++ List.replicate 32 0 : List Int)).bind fun y166 => (if (wrap64 (8 * x9)) ≤ (y166.length : Int) then (if (wrap64 (8 * x9) : Int).toNat ≤ 281474976710656 then (flittinglaw03_RsSums.l0 k x9 x10 (y153.take ((wrap64 (8 * x9)) : Int).toNat) (y166.take ((wrap64 (8 * x9)) : Int).toNat) (List.replicate (wrap64 (8 * x9) : Int).toNat 0) 0) else (none)) else (none))) else (none))) else (none))) else (none)) else (none))) else (none))) else (none)))
def flittinglaw03_RsSums.l0 : Nat → Int → Int → List Int → List Int → List Int → Int → Option (Bool)
  | 0, _, _, _, _, _, _ => none
  | k + 1, x9, x10, x11, x12, x13, x14 => if x14 < (wrap64 (8 * x9)) then (if 0 ≤ x14 then (if x14 < (x11.length : Int) then (if x14 < (x12.length : Int) then (if x14 < (x13.length : Int) then (flittinglaw03_RsSums.l0 k x9 x10 x11 x12 (x13.set (x14 : Int).toNat (Go.bits .xor .u8 (rd x11 x14) (rd x12 x14))) (wrap64 (x14 + 1))) else (none)) else (none)) else (none)) else (none)) else ((rs_Encode.f x9 x10 x11).bind fun bt179 => ((rs_Encode.f x9 x10 x12).bind fun bt183 => ((rs_Encode.f x9 x10 x13).bind fun bt187 => (if bt179.2 = 0 then (if bt183.2 = 0 then (if bt187.2 = 0 then (if (bt179.1.length : Int) = (wrap64 (x9 + x10)) then (if (bt183.1.length : Int) = (wrap64 (x9 + x10)) then (flittinglaw03_RsSums.j2 k x9 x10 bt179.1 bt183.1 bt187.1 ((bt187.1.length : Int) != (wrap64 (x9 + x10)))) else (flittinglaw03_RsSums.j2 k x9 x10 bt179.1 bt183.1 bt187.1 true)) else (flittinglaw03_RsSums.j2 k x9 x10 bt179.1 bt183.1 bt187.1 true)) else (flittinglaw03_RsSums.j2 k x9 x10 bt179.1 bt183.1 bt187.1 true)) else (flittinglaw03_RsSums.j2 k x9 x10 bt179.1 bt183.1 bt187.1 true)) else (flittinglaw03_RsSums.j2 k x9 x10 bt179.1 bt183.1 bt187.1 true)))))
def flittinglaw03_RsSums.j2 : Nat → Int → Int → List (List Int) → List (List Int) → List (List Int) → Bool → Option (Bool)
  | 0, _, _, _, _, _, _ => none
  | k + 1, x9, x10, x15, x17, x19, x128 => if x128 = true then (some false) else (flittinglaw03_RsSums.l1 k x9 x10 x15 x17 x19 0)
def flittinglaw03_RsSums.l1 : Nat → Int → Int → List (List Int) → List (List Int) → List (List Int) → Int → Option (Bool)
  | 0, _, _, _, _, _, _ => none
  | k + 1, x9, x10, x15, x17, x19, x21 => if x21 < (wrap64 (x9 + x10)) then (flittinglaw03_RsSums.l2 k x9 x10 x15 x17 x19 x21 0) else ((flittinglaw03_answers.f).bind fun t191 => (some t191))
def flittinglaw03_RsSums.l2 : Nat → Int → Int → List (List Int) → List (List Int) → List (List Int) → Int → Int → Option (Bool)
  | 0, _, _, _, _, _, _, _ => none
  | k + 1, x9, x10, x15, x17, x19, x21, x22 => if x22 < 8 then (if 0 ≤ x21 then (if x21 < (x15.length : Int) then (if 0 ≤ x22 then (if x22 < ((rd_L1 x15 x21).length : Int) then (if x21 < (x17.length : Int) then (if x22 < ((rd_L1 x17 x21).length : Int) then (if x21 < (x19.length : Int) then (if x22 < ((rd_L1 x19 x21).length : Int) then (if (Go.bits .xor .u8 (rd (rd_L1 x15 x21) x22) (rd (rd_L1 x17 x21) x22)) = (rd (rd_L1 x19 x21) x22) then (flittinglaw03_RsSums.l2 k x9 x10 x15 x17 x19 x21 (wrap64 (x22 + 1))) else (some false)) else (none)) else (none)) else (none)) else (none)) else (none)) else (none)) else (none)) else (none)) else (flittinglaw03_RsSums.l1 k x9 x10 x15 x17 x19 (wrap64 (x21 + 1)))
end
def flittinglaw03_RsSums.f (k : Nat) (a0 : Int) (a1 : Int) (l2 : List Int) (l3 : List Int) : Option (Bool) := if (l2.length : Int) > 100 then (flittinglaw03_RsSums.j0 k l2 l3 (wrap64 ((wrap64 (Int.tmod a0 4)) + 1)) (wrap64 (Int.tmod a1 4)) true) else (flittinglaw03_RsSums.j0 k l2 l3 (wrap64 ((wrap64 (Int.tmod a0 4)) + 1)) (wrap64 (Int.tmod a1 4)) (decide ((l3.length : Int) > 100)))
theorem flittinglaw03_RsSums.mono_l : ∀ k, (∀ y0 y1 y2 y3 y4, LeO (flittinglaw03_RsSums.j0 k y0 y1 y2 y3 y4) (flittinglaw03_RsSums.j0 (k + 1) y0 y1 y2 y3 y4)) ∧ (∀ y0 y1 y2 y3 y4 y5, LeO (flittinglaw03_RsSums.l0 k y0 y1 y2 y3 y4 y5) (flittinglaw03_RsSums.l0 (k + 1) y0 y1 y2 y3 y4 y5)) ∧ (∀ y0 y1 y2 y3 y4 y5, LeO (flittinglaw03_RsSums.j2 k y0 y1 y2 y3 y4 y5) (flittinglaw03_RsSums.j2 (k + 1) y0 y1 y2 y3 y4 y5)) ∧ (∀ y0 y1 y2 y3 y4 y5, LeO (flittinglaw03_RsSums.l1 k y0 y1 y2 y3 y4 y5) (flittinglaw03_RsSums.l1 (k + 1) y0 y1 y2 y3 y4 y5)) ∧ (∀ y0 y1 y2 y3 y4 y5 y6, LeO (flittinglaw03_RsSums.l2 k y0 y1 y2 y3 y4 y5 y6) (flittinglaw03_RsSums.l2 (k + 1) y0 y1 y2 y3 y4 y5 y6))
  | 0 => ⟨fun _ _ _ _ _ r h => by simp [flittinglaw03_RsSums.j0] at h, fun _ _ _ _ _ _ r h => by simp [flittinglaw03_RsSums.l0] at h, fun _ _ _ _ _ _ r h => by simp [flittinglaw03_RsSums.j2] at h, fun _ _ _ _ _ _ r h => by simp [flittinglaw03_RsSums.l1] at h, fun _ _ _ _ _ _ _ r h => by simp [flittinglaw03_RsSums.l2] at h⟩
  | k + 1 => by
    obtain ⟨ih0, ih1, ih2, ih3, ih4⟩ := flittinglaw03_RsSums.mono_l k
    refine ⟨?_, ?_, ?_, ?_, ?_⟩
    · intro y0 y1 y2 y3 y4
      unfold flittinglaw03_RsSums.j0
      repeat' first
      | (with_reducible exact ih0 _ _ _ _ _)
      | (with_reducible exact ih1 _ _ _ _ _ _)
      | (with_reducible exact ih2 _ _ _ _ _ _)
      | (with_reducible exact ih3 _ _ _ _ _ _)
      | (with_reducible exact ih4 _ _ _ _ _ _ _)
      | (with_reducible exact LeO.refl _)
      | (with_reducible exact LeO.none _)
      | (with_reducible refine LeO.ite ?_ ?_)
      | (with_reducible refine LeO.bind ?_ (fun _ => ?_))
      | exact ih0 _ _ _ _ _
      | exact ih1 _ _ _ _ _ _
      | exact ih2 _ _ _ _ _ _
      | exact ih3 _ _ _ _ _ _
      | exact ih4 _ _ _ _ _ _ _
      | exact LeO.none _
      | refine LeO.ite ?_ ?_
      | refine LeO.bind ?_ (fun _ => ?_)
    · intro y0 y1 y2 y3 y4 y5
      unfold flittinglaw03_RsSums.l0
      repeat' first
      | (with_reducible exact ih0 _ _ _ _ _)
      | (with_reducible exact ih1 _ _ _ _ _ _)
      | (with_reducible exact ih2 _ _ _ _ _ _)
      | (with_reducible exact ih3 _ _ _ _ _ _)
      | (with_reducible exact ih4 _ _ _ _ _ _ _)
      | (with_reducible exact LeO.refl _)
      | (with_reducible exact LeO.none _)
      | (with_reducible refine LeO.ite ?_ ?_)
      | (with_reducible refine LeO.bind ?_ (fun _ => ?_))
      | exact ih0 _ _ _ _ _
      | exact ih1 _ _ _ _ _ _
      | exact ih2 _ _ _ _ _ _
      | exact ih3 _ _ _ _ _ _
      | exact ih4 _ _ _ _ _ _ _
      | exact LeO.none _
      | refine LeO.ite ?_ ?_
      | refine LeO.bind ?_ (fun _ => ?_)
    · intro y0 y1 y2 y3 y4 y5
      unfold flittinglaw03_RsSums.j2
      repeat' first
      | (with_reducible exact ih0 _ _ _ _ _)
      | (with_reducible exact ih1 _ _ _ _ _ _)
      | (with_reducible exact ih2 _ _ _ _ _ _)
      | (with_reducible exact ih3 _ _ _ _ _ _)
      | (with_reducible exact ih4 _ _ _ _ _ _ _)
      | (with_reducible exact LeO.refl _)
      | (with_reducible exact LeO.none _)
      | (with_reducible refine LeO.ite ?_ ?_)
      | (with_reducible refine LeO.bind ?_ (fun _ => ?_))
      | exact ih0 _ _ _ _ _
      | exact ih1 _ _ _ _ _ _
      | exact ih2 _ _ _ _ _ _
      | exact ih3 _ _ _ _ _ _
      | exact ih4 _ _ _ _ _ _ _
      | exact LeO.none _
      | refine LeO.ite ?_ ?_
      | refine LeO.bind ?_ (fun _ => ?_)
    · intro y0 y1 y2 y3 y4 y5
      unfold flittinglaw03_RsSums.l1
      repeat' first
      | (with_reducible exact ih0 _ _ _ _ _)
      | (with_reducible exact ih1 _ _ _ _ _ _)
      | (with_reducible exact ih2 _ _ _ _ _ _)
      | (with_reducible exact ih3 _ _ _ _ _ _)
      | (with_reducible exact ih4 _ _ _ _ _ _ _)
      | (with_reducible exact LeO.refl _)
      | (with_reducible exact LeO.none _)
      | (with_reducible refine LeO.ite ?_ ?_)
      | (with_reducible refine LeO.bind ?_ (fun _ => ?_))
      | exact ih0 _ _ _ _ _
      | exact ih1 _ _ _ _ _ _
      | exact ih2 _ _ _ _ _ _
      | exact ih3 _ _ _ _ _ _
      | exact ih4 _ _ _ _ _ _ _
      | exact LeO.none _
      | refine LeO.ite ?_ ?_
      | refine LeO.bind ?_ (fun _ => ?_)
    · intro y0 y1 y2 y3 y4 y5 y6
      unfold flittinglaw03_RsSums.l2
      repeat' first
      | (with_reducible exact ih0 _ _ _ _ _)
      | (with_reducible exact ih1 _ _ _ _ _ _)
      | (with_reducible exact ih2 _ _ _ _ _ _)
      | (with_reducible exact ih3 _ _ _ _ _ _)
      | (with_reducible exact ih4 _ _ _ _ _ _ _)
      | (with_reducible exact LeO.refl _)
      | (with_reducible exact LeO.none _)
      | (with_reducible refine LeO.ite ?_ ?_)
      | (with_reducible refine LeO.bind ?_ (fun _ => ?_))
      | exact ih0 _ _ _ _ _
      | exact ih1 _ _ _ _ _ _
      | exact ih2 _ _ _ _ _ _
      | exact ih3 _ _ _ _ _ _
      | exact ih4 _ _ _ _ _ _ _
      | exact LeO.none _
      | refine LeO.ite ?_ ?_
      | refine LeO.bind ?_ (fun _ => ?_)
theorem flittinglaw03_RsSums.mono : ∀ a0 a1 a2 a3 k, LeO (flittinglaw03_RsSums.f k a0 a1 a2 a3) (flittinglaw03_RsSums.f (k + 1) a0 a1 a2 a3) := by
  intro a0 a1 a2 a3 k
  obtain ⟨ih0, ih1, ih2, ih3, ih4⟩ := flittinglaw03_RsSums.mono_l k
  unfold flittinglaw03_RsSums.f
  repeat' first
      | (with_reducible exact ih0 _ _ _ _ _)
      | (with_reducible exact ih1 _ _ _ _ _ _)
      | (with_reducible exact ih2 _ _ _ _ _ _)
      | (with_reducible exact ih3 _ _ _ _ _ _)
      | (with_reducible exact ih4 _ _ _ _ _ _ _)
      | (with_reducible exact LeO.refl _)
      | (with_reducible exact LeO.none _)
      | (with_reducible refine LeO.ite ?_ ?_)
      | (with_reducible refine LeO.bind ?_ (fun _ => ?_))
      | exact ih0 _ _ _ _ _
      | exact ih1 _ _ _ _ _ _
      | exact ih2 _ _ _ _ _ _
      | exact ih3 _ _ _ _ _ _
      | exact ih4 _ _ _ _ _ _ _
      | exact LeO.none _
      | refine LeO.ite ?_ ?_
      | refine LeO.bind ?_ (fun _ => ?_)
def flittinglaw03_RsSums.T10 : Bool × List (List Nat × List Nat) := (true, [([], []), ([], []), ([], []), ([], []), ([2, 3], [2, 3]), ([4], [4]), ([], []), ([], []), ([6, 7], [6, 7]), ([8], [8]), ([5, 9], [5, 9]), ([0, 1, 0, 1, 2, 3, 4, 5, 6, 7, 8, 9, 10], [0, 1]), ([11, 10, 0, 1, 2, 3, 4, 5, 6, 7, 8, 9, 10], [10, 11])])
def flittinglaw03_RsSums.B10 : List Nat := [0, 0, 0, 0, 12, 28, 0, 0, 192, 448, 1020, 2047, 4095]
theorem flittinglaw03_RsSums.tab10 : rtab .any (opsOf Try.f5 10) = flittinglaw03_RsSums.T10 := by kernel_rfl
theorem flittinglaw03_RsSums.bits10 : waitsOk flittinglaw03_RsSums.T10.2 flittinglaw03_RsSums.B10 = true := by kernel_rfl
def flittinglaw03_RsSums.T22 : Bool × List (List Nat × List Nat) := (true, [([], []), ([], []), ([0, 1], [0, 1]), ([2], [2]), ([], []), ([3, 4], [3, 4]), ([5], [5]), ([], []), ([], []), ([7, 8], [7, 8]), ([9], [9]), ([], []), ([10, 11], [10, 11]), ([12], [12]), ([6, 13], [6, 13]), ([], []), ([], []), ([15, 16], [15, 16]), ([17], [17]), ([], []), ([18, 19], [18, 19]), ([20], [20]), ([14, 21], [14, 21])])
def flittinglaw03_RsSums.B22 : List Nat := [0, 0, 3, 7, 0, 31, 63, 0, 0, 384, 896, 0, 3968, 8064, 16383, 0, 0, 98304, 229376, 0, 1015808, 2064384, 4194303]
theorem flittinglaw03_RsSums.tab22 : rtab .any (opsOf Try.f5 22) = flittinglaw03_RsSums.T22 := by kernel_rfl
theorem flittinglaw03_RsSums.bits22 : waitsOk flittinglaw03_RsSums.T22.2 flittinglaw03_RsSums.B22 = true := by kernel_rfl
set_option maxHeartbeats 8000000 in
set_option maxRecDepth 100000 in
theorem flittinglaw03_RsSums.calls (k : Nat) (a0 : Int) (a1 : Int) (A2 : Option Addr) (c2 : Nat) (l2 : List Int) (A3 : Option Addr) (c3 : Nat) (l3 : List Int) (r : Bool) (w : World) (hr2 : Kd.C (Kd.int .u8) w A2 l2.length l2) (hc2 : l2.length ≤ c2) (hr3 : Kd.C (Kd.int .u8) w A3 l3.length l3) (hc3 : l3.length ≤ c3) (h : flittinglaw03_RsSums.f k a0 a1 l2 l3 = some r) :
    Calls Try.prog 5 #[.int .u8 a0, .int .u8 a1, .slice A2 l2.length c2, .slice A3 l3.length c3] w fun e w' => e = .returned (.bool r) ∧ Below w.heap.size w w' := by
  have HR2 := Aside0.mk hr2
  have HC2 := Aside0.mk hc2
  clear hr2 hc2
  have HR3 := Aside0.mk hr3
  have HC3 := Aside0.mk hc3
  clear hr3 hc3
  have HB := Aside0.mk (Below.refl w.heap.size w)
  have H : (if (l2.length : Int) > 100 then (flittinglaw03_RsSums.j0 k l2 l3 (wrap64 ((wrap64 (Int.tmod a0 4)) + 1)) (wrap64 (Int.tmod a1 4)) true) else (flittinglaw03_RsSums.j0 k l2 l3 (wrap64 ((wrap64 (Int.tmod a0 4)) + 1)) (wrap64 (Int.tmod a1 4)) (decide ((l3.length : Int) > 100)))) = some r := h
  clear h
  have HC5 := Aside0.mk H
  clear H
  go_enter Try.func5, Try.ntmps5
  go_upto_region 2 with (fail)
  go_cut [37] (fun v37 wc => ∃ (kq : Nat) (x37_4 : Bool), v37 = .bool x37_4 ∧ Aside0 (flittinglaw03_RsSums.j0 kq l2 l3 (wrap64 ((wrap64 (Int.tmod a0 4)) + 1)) (wrap64 (Int.tmod a1 4)) x37_4 = some r) ∧ Aside0 (kq ≤ k) ∧ Aside0 (Below w.heap.size w wc))
  case first =>
    have H := HC5.out
    clear HC5
    by_cases c6 : (l2.length : Int) > 100
    · rw [if_pos c6] at H
      have c6b0 : decide (100 < (l2.length : Int)) = true := decide_eq_true c6
      have c6b1 : decide (100 < l2.length) = true := decide_eq_true (by omega)
      clear c6
      (first | rw [c6b0] | (simp only [i64_w, i32_w]; rw [c6b0]) | skip)
      have H' := Aside0.mk H
      clear H
      go_wp2
      go_meet
      case rel => exact ⟨_, (true), (by first | rfl | (simp; done) | (simp [*]; done)), H', ⟨by first | omega | exact Nat.le_refl _⟩, ⟨by repeat (first | (with_reducible first | exact HB.out | apply below_alloc | apply pw_below_drewN | apply below_drew1) | exact HB.out)⟩⟩
    · rw [if_neg c6] at H
      have c6b0 : decide (100 < (l2.length : Int)) = false := decide_eq_false c6
      have c6b1 : decide (100 < l2.length) = false := decide_eq_false (by omega)
      clear c6
      (first | rw [c6b0] | (simp only [i64_w, i32_w]; rw [c6b0]) | skip)
      have H' := Aside0.mk H
      clear H
      go_wp2
      go_meet
      case rel => exact ⟨_, (decide ((l3.length : Int) > 100)), (by first | rfl | (simp; done) | (simp [*]; done)), H', ⟨by first | omega | exact Nat.le_refl _⟩, ⟨by repeat (first | (with_reducible first | exact HB.out | apply below_alloc | apply pw_below_drewN | apply below_drew1) | exact HB.out)⟩⟩
  case rest =>
    clear HC5
    try clear c2
    try clear p2
    try clear c3
    try clear c5
    try clear c6
    try clear c6b0
    try clear c6b1
    try clear p6
    obtain ⟨kq, x37_4, rfl, HA, HJ4, HB⟩ := hcut
    cases kq with
    | zero => exact absurd HA.out (by simp [flittinglaw03_RsSums.j0])
    | succ kj4 =>
      have H := HA.out
      clear HA
      simp only [flittinglaw03_RsSums.j0] at H
      by_cases c7 : x37_4 = true
      · subst c7
        have H1 : ((flittinglaw03_answers.f).bind fun t146 => (some t146)) = some r := by rw [if_pos rfl] at H; exact H
        clear H
        have H := H1
        clear H1
        replace H := Option.bind_eq_some_iff.mp H
        obtain ⟨t146, A80, H⟩ := H
        replace H : (some t146) = some r := H
        have A8 := Aside0.mk A80
        clear A80
        obtain rfl := Option.some.inj H
        go_wp2_with (first | ((with_reducible refine gate_callee (f := 9) rfl ?_); refine goesL_ (some 38) rfl rfl Try.func9 (by kernel_rfl) rfl #[] rfl (by (try simp only [List.map_toArray, List.map_cons, List.map_nil]); first | done | rfl | (simp only [List.length_drop, List.length_take]; rfl)) ?_; (with_reducible refine (flittinglaw03_answers.calls  t146 _ A8.out).mono ?_); rintro e w9 ⟨rfl, hb⟩; refine ⟨_, rfl, ?_⟩; have n0_ := Aside0.mk (below_step (by repeat (first | (with_reducible first | exact HB.out | apply below_alloc | apply pw_below_drewN | apply below_drew1) | exact HB.out)) hb); clear HB; have HB := n0_; clear n0_; (try clear hb); (try clear hb2); (try clear hk); (try clear hi)))
        go_ret
        exact ⟨by first | rfl | (simp [errW_none, errW_some] <;> rfl) | (simp [*, errW_none, errW_some] <;> rfl), by repeat (first | (with_reducible first | exact HB.out | apply below_alloc | apply pw_below_drewN | apply below_drew1) | exact HB.out)⟩
      · replace c7 := Bool.eq_false_iff.mpr c7
        subst c7
        have H1 : ((some (([] : List Int) : List Int)).bind fun y147 => (if y147.length + l2.length < 140737488355328 then ((some (y147 ++ l2 : List Int)).bind fun y150 => (if y150.length + 32 < 140737488355328 then ((some (y150 ++ List.replicate 32 0 : List Int)).bind fun y153 => (if 0 ≤ (wrap64 (8 * (wrap64 ((wrap64 (Int.tmod a0 4)) + 1)))) then (if (wrap64 (8 * (wrap64 ((wrap64 (Int.tmod a0 4)) + 1)))) ≤ (y153.length : Int) then ((some (([] : List Int) : List Int)).bind fun y160 => (if y160.length + l3.length < 140737488355328 then ((some (y160 ++ l3 : List Int)).bind fun y163 => (if y163.length + 32 < 140737488355328 then ((some (y163 ++ List.replicate 32 0 : List Int)).bind fun y166 => (if (wrap64 (8 * (wrap64 ((wrap64 (Int.tmod a0 4)) + 1)))) ≤ (y166.length : Int) then (if (wrap64 (8 * (wrap64 ((wrap64 (Int.tmod a0 4)) + 1))) : Int).toNat ≤ 281474976710656 then (flittinglaw03_RsSums.l0 kj4 (wrap64 ((wrap64 (Int.tmod a0 4)) + 1)) (wrap64 (Int.tmod a1 4)) (y153.take ((wrap64 (8 * (wrap64 ((wrap64 (Int.tmod a0 4)) + 1)))) : Int).toNat) (y166.take ((wrap64 (8 * (wrap64 ((wrap64 (Int.tmod a0 4)) + 1)))) : Int).toNat) (List.replicate (wrap64 (8 * (wrap64 ((wrap64 (Int.tmod a0 4)) + 1))) : Int).toNat 0) 0) else (none)) else (none))) else (none))) else (none))) else (none)) else (none))) else (none))) else (none))) = some r := by rw [if_neg (show ¬ (false = true) by decide)] at H; exact H
        clear H
        have H := H1
        clear H1
        obtain ⟨y147, hy147⟩ : ∃ y_ : List Int, y_ = (([] : List Int)) := ⟨_, rfl⟩
        replace H : (if y147.length + l2.length < 140737488355328 then ((some (y147 ++ l2 : List Int)).bind fun y150 => (if y150.length + 32 < 140737488355328 then ((some (y150 ++ List.replicate 32 0 : List Int)).bind fun y153 => (if 0 ≤ (wrap64 (8 * (wrap64 ((wrap64 (Int.tmod a0 4)) + 1)))) then (if (wrap64 (8 * (wrap64 ((wrap64 (Int.tmod a0 4)) + 1)))) ≤ (y153.length : Int) then ((some (([] : List Int) : List Int)).bind fun y160 => (if y160.length + l3.length < 140737488355328 then ((some (y160 ++ l3 : List Int)).bind fun y163 => (if y163.length + 32 < 140737488355328 then ((some (y163 ++ List.replicate 32 0 : List Int)).bind fun y166 => (if (wrap64 (8 * (wrap64 ((wrap64 (Int.tmod a0 4)) + 1)))) ≤ (y166.length : Int) then (if (wrap64 (8 * (wrap64 ((wrap64 (Int.tmod a0 4)) + 1))) : Int).toNat ≤ 281474976710656 then (flittinglaw03_RsSums.l0 kj4 (wrap64 ((wrap64 (Int.tmod a0 4)) + 1)) (wrap64 (Int.tmod a1 4)) (y153.take ((wrap64 (8 * (wrap64 ((wrap64 (Int.tmod a0 4)) + 1)))) : Int).toNat) (y166.take ((wrap64 (8 * (wrap64 ((wrap64 (Int.tmod a0 4)) + 1)))) : Int).toNat) (List.replicate (wrap64 (8 * (wrap64 ((wrap64 (Int.tmod a0 4)) + 1))) : Int).toNat 0) 0) else (none)) else (none))) else (none))) else (none))) else (none)) else (none))) else (none))) else (none)) = some r := by first | (rw [hy147]; with_reducible exact H) | (have H2_ := (Option.bind_some _ _).symm.trans H; rw [hy147]; with_reducible exact H2_) | (have H2_ := (Option.bind_some _ _).symm.trans H; with_reducible exact H2_) | with_reducible exact H | (rw [hy147]; exact H) | exact H
        have Ny147 := Aside0.mk hy147
        clear hy147
        by_cases c10 : y147.length + l2.length < 140737488355328
        · rw [if_pos c10] at H
          have LMc10 := Aside0.mk c10
          clear c10
          obtain ⟨y150, hy150⟩ : ∃ y_ : List Int, y_ = (y147 ++ l2) := ⟨_, rfl⟩
          replace H : (if y150.length + 32 < 140737488355328 then ((some (y150 ++ List.replicate 32 0 : List Int)).bind fun y153 => (if 0 ≤ (wrap64 (8 * (wrap64 ((wrap64 (Int.tmod a0 4)) + 1)))) then (if (wrap64 (8 * (wrap64 ((wrap64 (Int.tmod a0 4)) + 1)))) ≤ (y153.length : Int) then ((some (([] : List Int) : List Int)).bind fun y160 => (if y160.length + l3.length < 140737488355328 then ((some (y160 ++ l3 : List Int)).bind fun y163 => (if y163.length + 32 < 140737488355328 then ((some (y163 ++ List.replicate 32 0 : List Int)).bind fun y166 => (if (wrap64 (8 * (wrap64 ((wrap64 (Int.tmod a0 4)) + 1)))) ≤ (y166.length : Int) then (if (wrap64 (8 * (wrap64 ((wrap64 (Int.tmod a0 4)) + 1))) : Int).toNat ≤ 281474976710656 then (flittinglaw03_RsSums.l0 kj4 (wrap64 ((wrap64 (Int.tmod a0 4)) + 1)) (wrap64 (Int.tmod a1 4)) (y153.take ((wrap64 (8 * (wrap64 ((wrap64 (Int.tmod a0 4)) + 1)))) : Int).toNat) (y166.take ((wrap64 (8 * (wrap64 ((wrap64 (Int.tmod a0 4)) + 1)))) : Int).toNat) (List.replicate (wrap64 (8 * (wrap64 ((wrap64 (Int.tmod a0 4)) + 1))) : Int).toNat 0) 0) else (none)) else (none))) else (none))) else (none))) else (none)) else (none))) else (none)) = some r := by first | (rw [hy150]; with_reducible exact H) | (have H2_ := (Option.bind_some _ _).symm.trans H; rw [hy150]; with_reducible exact H2_) | (have H2_ := (Option.bind_some _ _).symm.trans H; with_reducible exact H2_) | with_reducible exact H | (rw [hy150]; exact H) | exact H
          have Ny150 := Aside0.mk hy150
          clear hy150
          by_cases c11 : y150.length + 32 < 140737488355328
          · rw [if_pos c11] at H
            have LMc11 := Aside0.mk c11
            clear c11
            obtain ⟨y153, hy153⟩ : ∃ y_ : List Int, y_ = (y150 ++ List.replicate 32 0) := ⟨_, rfl⟩
            replace H : (if 0 ≤ (wrap64 (8 * (wrap64 ((wrap64 (Int.tmod a0 4)) + 1)))) then (if (wrap64 (8 * (wrap64 ((wrap64 (Int.tmod a0 4)) + 1)))) ≤ (y153.length : Int) then ((some (([] : List Int) : List Int)).bind fun y160 => (if y160.length + l3.length < 140737488355328 then ((some (y160 ++ l3 : List Int)).bind fun y163 => (if y163.length + 32 < 140737488355328 then ((some (y163 ++ List.replicate 32 0 : List Int)).bind fun y166 => (if (wrap64 (8 * (wrap64 ((wrap64 (Int.tmod a0 4)) + 1)))) ≤ (y166.length : Int) then (if (wrap64 (8 * (wrap64 ((wrap64 (Int.tmod a0 4)) + 1))) : Int).toNat ≤ 281474976710656 then (flittinglaw03_RsSums.l0 kj4 (wrap64 ((wrap64 (Int.tmod a0 4)) + 1)) (wrap64 (Int.tmod a1 4)) (y153.take ((wrap64 (8 * (wrap64 ((wrap64 (Int.tmod a0 4)) + 1)))) : Int).toNat) (y166.take ((wrap64 (8 * (wrap64 ((wrap64 (Int.tmod a0 4)) + 1)))) : Int).toNat) (List.replicate (wrap64 (8 * (wrap64 ((wrap64 (Int.tmod a0 4)) + 1))) : Int).toNat 0) 0) else (none)) else (none))) else (none))) else (none))) else (none)) else (none)) = some r := by first | (rw [hy153]; with_reducible exact H) | (have H2_ := (Option.bind_some _ _).symm.trans H; rw [hy153]; with_reducible exact H2_) | (have H2_ := (Option.bind_some _ _).symm.trans H; with_reducible exact H2_) | with_reducible exact H | (rw [hy153]; exact H) | exact H
            have Ny153 := Aside0.mk hy153
            clear hy153
            obtain ⟨ji12, hji12⟩ : ∃ j_ : Int, (wrap64 (8 * (wrap64 ((wrap64 (Int.tmod a0 4)) + 1)))) = j_ := ⟨_, rfl⟩
            replace H : (if 0 ≤ (ji12) then (if (ji12) ≤ (y153.length : Int) then ((some (([] : List Int) : List Int)).bind fun y160 => (if y160.length + l3.length < 140737488355328 then ((some (y160 ++ l3 : List Int)).bind fun y163 => (if y163.length + 32 < 140737488355328 then ((some (y163 ++ List.replicate 32 0 : List Int)).bind fun y166 => (if (ji12) ≤ (y166.length : Int) then (if (ji12 : Int).toNat ≤ 281474976710656 then (flittinglaw03_RsSums.l0 kj4 (wrap64 ((wrap64 (Int.tmod a0 4)) + 1)) (wrap64 (Int.tmod a1 4)) (y153.take ((ji12) : Int).toNat) (y166.take ((ji12) : Int).toNat) (List.replicate (ji12 : Int).toNat 0) 0) else (none)) else (none))) else (none))) else (none))) else (none)) else (none)) = some r := by first | (rw [hji12] at H; exact H) | (simp only [hji12] at H ⊢; exact H)
            have hji12w : (IntKind.i64.wrap (8 * (wrap64 ((wrap64 (Int.tmod a0 4)) + 1)))) = ji12 := (i64_w _).trans hji12
            by_cases c13 : 0 ≤ (ji12)
            · rw [if_pos c13] at H
              have c13b0 := eq_true c13
              have c13b1 : decide (0 ≤ (ji12)) = true := decide_eq_true c13
              clear c13
              by_cases c14 : (ji12) ≤ (y153.length : Int)
              · rw [if_pos c14] at H
                have c14b0 := eq_true c14
                have c14b1 : decide ((ji12) ≤ (y153.length : Int)) = true := decide_eq_true c14
                clear c14
                obtain ⟨y156, hy156⟩ : ∃ y_ : List Int, y_ = (y153.take ((ji12) : Int).toNat) := ⟨_, rfl⟩
                replace H : ((some (([] : List Int) : List Int)).bind fun y160 => (if y160.length + l3.length < 140737488355328 then ((some (y160 ++ l3 : List Int)).bind fun y163 => (if y163.length + 32 < 140737488355328 then ((some (y163 ++ List.replicate 32 0 : List Int)).bind fun y166 => (if (ji12) ≤ (y166.length : Int) then (if (ji12 : Int).toNat ≤ 281474976710656 then (flittinglaw03_RsSums.l0 kj4 (wrap64 ((wrap64 (Int.tmod a0 4)) + 1)) (wrap64 (Int.tmod a1 4)) y156 (y166.take ((ji12) : Int).toNat) (List.replicate (ji12 : Int).toNat 0) 0) else (none)) else (none))) else (none))) else (none))) = some r := by first | (rw [hy156]; with_reducible exact H) | (have H2_ := (Option.bind_some _ _).symm.trans H; rw [hy156]; with_reducible exact H2_) | (have H2_ := (Option.bind_some _ _).symm.trans H; with_reducible exact H2_) | with_reducible exact H | (rw [hy156]; exact H) | exact H
                have Ny156 := Aside0.mk hy156
                clear hy156
                obtain ⟨y160, hy160⟩ : ∃ y_ : List Int, y_ = (([] : List Int)) := ⟨_, rfl⟩
                replace H : (if y160.length + l3.length < 140737488355328 then ((some (y160 ++ l3 : List Int)).bind fun y163 => (if y163.length + 32 < 140737488355328 then ((some (y163 ++ List.replicate 32 0 : List Int)).bind fun y166 => (if (ji12) ≤ (y166.length : Int) then (if (ji12 : Int).toNat ≤ 281474976710656 then (flittinglaw03_RsSums.l0 kj4 (wrap64 ((wrap64 (Int.tmod a0 4)) + 1)) (wrap64 (Int.tmod a1 4)) y156 (y166.take ((ji12) : Int).toNat) (List.replicate (ji12 : Int).toNat 0) 0) else (none)) else (none))) else (none))) else (none)) = some r := by first | (rw [hy160]; with_reducible exact H) | (have H2_ := (Option.bind_some _ _).symm.trans H; rw [hy160]; with_reducible exact H2_) | (have H2_ := (Option.bind_some _ _).symm.trans H; with_reducible exact H2_) | with_reducible exact H | (rw [hy160]; exact H) | exact H
                have Ny160 := Aside0.mk hy160
                clear hy160
                by_cases c15 : y160.length + l3.length < 140737488355328
                · rw [if_pos c15] at H
                  have LMc15 := Aside0.mk c15
                  clear c15
                  obtain ⟨y163, hy163⟩ : ∃ y_ : List Int, y_ = (y160 ++ l3) := ⟨_, rfl⟩
                  replace H : (if y163.length + 32 < 140737488355328 then ((some (y163 ++ List.replicate 32 0 : List Int)).bind fun y166 => (if (ji12) ≤ (y166.length : Int) then (if (ji12 : Int).toNat ≤ 281474976710656 then (flittinglaw03_RsSums.l0 kj4 (wrap64 ((wrap64 (Int.tmod a0 4)) + 1)) (wrap64 (Int.tmod a1 4)) y156 (y166.take ((ji12) : Int).toNat) (List.replicate (ji12 : Int).toNat 0) 0) else (none)) else (none))) else (none)) = some r := by first | (rw [hy163]; with_reducible exact H) | (have H2_ := (Option.bind_some _ _).symm.trans H; rw [hy163]; with_reducible exact H2_) | (have H2_ := (Option.bind_some _ _).symm.trans H; with_reducible exact H2_) | with_reducible exact H | (rw [hy163]; exact H) | exact H
                  have Ny163 := Aside0.mk hy163
                  clear hy163
                  by_cases c16 : y163.length + 32 < 140737488355328
                  · rw [if_pos c16] at H
                    have LMc16 := Aside0.mk c16
                    clear c16
                    obtain ⟨y166, hy166⟩ : ∃ y_ : List Int, y_ = (y163 ++ List.replicate 32 0) := ⟨_, rfl⟩
                    replace H : (if (ji12) ≤ (y166.length : Int) then (if (ji12 : Int).toNat ≤ 281474976710656 then (flittinglaw03_RsSums.l0 kj4 (wrap64 ((wrap64 (Int.tmod a0 4)) + 1)) (wrap64 (Int.tmod a1 4)) y156 (y166.take ((ji12) : Int).toNat) (List.replicate (ji12 : Int).toNat 0) 0) else (none)) else (none)) = some r := by first | (rw [hy166]; with_reducible exact H) | (have H2_ := (Option.bind_some _ _).symm.trans H; rw [hy166]; with_reducible exact H2_) | (have H2_ := (Option.bind_some _ _).symm.trans H; with_reducible exact H2_) | with_reducible exact H | (rw [hy166]; exact H) | exact H
                    have Ny166 := Aside0.mk hy166
                    clear hy166
                    have c17b0 := eq_true (of_decide_eq_true (by first | (with_reducible assumption) | assumption) : 0 ≤ (ji12))
                    by_cases c18 : (ji12) ≤ (y166.length : Int)
                    · rw [if_pos c18] at H
                      have c18b0 := eq_true c18
                      have c18b1 : decide ((ji12) ≤ (y166.length : Int)) = true := decide_eq_true c18
                      clear c18
                      obtain ⟨y169, hy169⟩ : ∃ y_ : List Int, y_ = (y166.take ((ji12) : Int).toNat) := ⟨_, rfl⟩
                      replace H : (if (ji12 : Int).toNat ≤ 281474976710656 then (flittinglaw03_RsSums.l0 kj4 (wrap64 ((wrap64 (Int.tmod a0 4)) + 1)) (wrap64 (Int.tmod a1 4)) y156 y169 (List.replicate (ji12 : Int).toNat 0) 0) else (none)) = some r := by first | (rw [hy169]; with_reducible exact H) | (have H2_ := (Option.bind_some _ _).symm.trans H; rw [hy169]; with_reducible exact H2_) | (have H2_ := (Option.bind_some _ _).symm.trans H; with_reducible exact H2_) | with_reducible exact H | (rw [hy169]; exact H) | exact H
                      have Ny169 := Aside0.mk hy169
                      clear hy169
                      by_cases c19 : (ji12 : Int).toNat ≤ 281474976710656
                      · rw [if_pos c19] at H
                        have c19b0 := eq_true c19
                        have c19b1 : decide ((ji12 : Int).toNat ≤ 281474976710656) = true := decide_eq_true c19
                        clear c19
                        obtain ⟨y173, hy173⟩ : ∃ y_ : List Int, y_ = (List.replicate (ji12 : Int).toNat 0) := ⟨_, rfl⟩
                        replace H : (flittinglaw03_RsSums.l0 kj4 (wrap64 ((wrap64 (Int.tmod a0 4)) + 1)) (wrap64 (Int.tmod a1 4)) y156 y169 y173 0) = some r := by first | (rw [hy173]; with_reducible exact H) | (have H2_ := (Option.bind_some _ _).symm.trans H; rw [hy173]; with_reducible exact H2_) | (have H2_ := (Option.bind_some _ _).symm.trans H; with_reducible exact H2_) | with_reducible exact H | (rw [hy173]; exact H) | exact H
                        have Ny173 := Aside0.mk hy173
                        clear hy173
                        have H' := Aside0.mk H
                        clear H
                        go_wp2_with (first | ((with_reducible refine gate_dst (N := 39) rfl ?_); (try (refine gate_guard (by rfl) ?_; dsimp only)); refine Kd.R_lit (Kd.int .u8) _ 5 ?hg (N := 39) ?hd (xs := ([] : List Int)) (inner := []) (ok := fun _ => True) (okp := fun _ => True) ?hr ?hp (fun _ hk => hk) trivial (Below.refl _ _) (Nat.le_refl _) (by simp) ?_; (case hd => rfl); (case hg => rfl); (case hr => first | (go_simp; done) | (go_simp; rfl)); (case hp => exact (Reps.none _ _)); intro v148 w20 ho21 hb hg_ hnew_; clear hg_ hnew_; (first | rw [← Ny147.out] at ho21 | (simp only [Int.reduceToNat] at ho21; rw [← Ny147.out] at ho21)); have n0_ := Aside0.mk (Kd.R_lower ho21 (below_size (by repeat (first | (with_reducible first | exact HB.out | apply below_alloc | apply pw_below_drewN | apply below_drew1) | exact HB.out)))); have n1_ := Aside0.mk (below_step (by repeat (first | (with_reducible first | exact HB.out | apply below_alloc | apply pw_below_drewN | apply below_drew1) | exact HB.out)) hb); clear HB; have HO149 := n0_; have HB := n1_; clear n0_ n1_; clear hb ho21) | ((with_reducible refine gate_builtin (b := .append) (xs := #[.tmp 39, .tmp 40]) rfl ?_); (try (refine gate_guard (by rfl) ?_; dsimp only)); at_builtin; refine Kd.R_append_rows (Kd.int .u8) (w0 := w) w.heap.size rfl (.tmp 39) (.tmp 40) 22 5 (.int .u8 0) 1 rfl Try.underlying22 info5 rfl (by decide) (by omega) v148 y147 l2 _ _ _ (fun _ => True) (fun _ => False) rfl rfl ?aO ?aR (fun _ _ h => h) (fun _ h => h.elim) ?aF ?aB ?aS ?aL ?_; (case aR => repeat (first | exact (Kd.C_below HR2.out HB.out) | (with_reducible refine Kd.C_alloc ?_ _) | (with_reducible refine Kd.C_drewN ?_ _) | (with_reducible refine Kd.C_drew ?_))); (case aB => exact (by repeat (first | (with_reducible first | exact HB.out | apply below_alloc | apply pw_below_drewN | apply below_drew1) | exact HB.out))); (case aF => exact (fun _ _ => trivial)); (case aO => exact (by (with_reducible repeat (first | apply Kd.R_alloc | apply Kd.R_drewN | apply Kd.R_drew)); exact HO149.out)); (case aS => exact (below_size (by repeat (first | (with_reducible first | exact HB.out | apply below_alloc | apply pw_below_drewN | apply below_drew1) | exact HB.out)))); (case aL => have := LMc10.out; omega); intro v151 w22 ho hb hg hat; (first | rw [← Ny150.out] at ho | (simp only [Int.reduceToNat] at ho; rw [← Ny150.out] at ho)); have n0_ := Aside0.mk (hb); have n1_ := Aside0.mk (ho); clear HB; clear HO149; have HB := n0_; have HO152 := n1_; clear n0_ n1_; clear ho hb hg hat) | (at_builtin; refine Kd.R_append_zeros (Kd.int .u8) (w0 := w) w.heap.size rfl (.tmp 41) (.const (.int .i64 32)) 22 3 5 (.int .u8 0) 1 rfl Try.underlying22 Try.underlying3 info5 rfl (by decide) (by omega) v151 y150 0 (32 : Int) (fun _ => True) rfl rfl rfl ?aF ?aO (by omega) ?aB ?aS ?aL ?_; (case aB => exact (by repeat (first | (with_reducible first | exact HB.out | apply below_alloc | apply pw_below_drewN | apply below_drew1) | exact HB.out))); (case aF => exact (fun _ _ => trivial)); (case aO => exact (by (with_reducible repeat (first | apply Kd.R_alloc | apply Kd.R_drewN | apply Kd.R_drew)); exact HO152.out)); (case aS => exact (below_size (by repeat (first | (with_reducible first | exact HB.out | apply below_alloc | apply pw_below_drewN | apply below_drew1) | exact HB.out)))); (case aL => have := LMc11.out; omega); intro v154 w23 ho hb hg hat; (first | rw [← Ny153.out] at ho | (simp only [Int.reduceToNat] at ho; rw [← Ny153.out] at ho)); have n0_ := Aside0.mk (hb); have n1_ := Aside0.mk (ho); clear HB; clear HO152; have HB := n0_; have HO155 := n1_; clear n0_ n1_; clear ho hb hg hat; obtain ⟨Ao25, co25, eo25⟩ := Kd.R_slice HO155.out; subst eo25; have q24 : ((ji12) : Int) ≤ ((y153.length : Int) : Int) := of_decide_eq_true (by first | (with_reducible assumption) | assumption); obtain ⟨i024, hi024, _, hsz24, _⟩ := info_parts info5; have hroom24 : y153.length ≤ co25 := (Kd.R_reads' HO155.out).2.1; have hC24 : Kd.C (Kd.int .u8) _ Ao25 y153.length y153 := (Kd.R_reads' HO155.out).2.2; have hcut24 := cut_to (P := Try.prog) 22 5 .i64 Try.underlying22 hi024 Ao25 y153.length co25 (ji12) (of_decide_eq_true (by first | (with_reducible assumption) | assumption)) q24 hroom24; have hr24 := Kd.C_take (m := ((ji12) : Int).toNat) hC24 (by omega); have hy24 : y156.length = ((ji12) : Int).toNat := (by rw [Ny156.out, List.length_take]; omega); rw [← Ny156.out] at hr24; rw [← hy24] at hcut24; have HR159 := Aside0.mk hr24; have HC159 := Aside0.mk (show y156.length ≤ co25 from by omega); clear hr24 hC24 hroom24 hi024 hsz24; have KY24 := Aside0.mk hy24; clear hy24; have KL24 := Aside0.mk (show ((ji12) : Int).toNat ≤ y153.length from by omega); replace q24 := eq_true q24) | ((with_reducible refine gate_dst (N := 46) rfl ?_); (try (refine gate_guard (by rfl) ?_; dsimp only)); refine Kd.R_lit (Kd.int .u8) _ 5 ?hg (N := 46) ?hd (xs := ([] : List Int)) (inner := []) (ok := fun _ => True) (okp := fun _ => True) ?hr ?hp (fun _ hk => hk) trivial (Below.refl _ _) (Nat.le_refl _) (by simp) ?_; (case hd => rfl); (case hg => rfl); (case hr => first | (go_simp; done) | (go_simp; rfl)); (case hp => exact (Reps.none _ _)); intro v161 w26 ho27 hb hg_ hnew_; clear hg_ hnew_; (first | rw [← Ny160.out] at ho27 | (simp only [Int.reduceToNat] at ho27; rw [← Ny160.out] at ho27)); have n0_ := Aside0.mk (Kd.R_elder' (by (with_reducible repeat (first | apply Kd.R_alloc | apply Kd.R_drewN | apply Kd.R_drew)); exact HO155.out) (Kd.R_base ho27) hb); have n1_ := Aside0.mk (Kd.R_lower (Kd.R_new' ho27 (Kd.R_lt (by (with_reducible repeat (first | apply Kd.R_alloc | apply Kd.R_drewN | apply Kd.R_drew)); exact HO155.out))) (below_size (by repeat (first | (with_reducible first | exact HB.out | apply below_alloc | apply pw_below_drewN | apply below_drew1) | exact HB.out)))); have n2_ := Aside0.mk (Kd.C_below (by repeat (first | (with_reducible exact HR159.out) | (with_reducible refine Kd.C_alloc ?_ _) | (with_reducible refine Kd.C_drewN ?_ _) | (with_reducible refine Kd.C_drew ?_) | exact HR159.out)) hb); have n3_ := Aside0.mk (below_step (by repeat (first | (with_reducible first | exact HB.out | apply below_alloc | apply pw_below_drewN | apply below_drew1) | exact HB.out)) hb); clear HO155; clear HR159; clear HB; have HO155 := n0_; have HO162 := n1_; have HR159 := n2_; have HB := n3_; clear n0_ n1_ n2_ n3_; clear hb ho27) | ((with_reducible refine gate_builtin (b := .append) (xs := #[.tmp 46, .tmp 47]) rfl ?_); (try (refine gate_guard (by rfl) ?_; dsimp only)); at_builtin; refine Kd.R_append_rows (Kd.int .u8) (w0 := w) w.heap.size rfl (.tmp 46) (.tmp 47) 22 5 (.int .u8 0) 1 rfl Try.underlying22 info5 rfl (by decide) (by omega) v161 y160 l3 _ _ _ (fun k_ => some k_ ≠ (.slice Ao25 y153.length co25 : Value).ownBlock) (fun _ => False) rfl rfl ?aO ?aR (fun _ _ h => h) (fun _ h => h.elim) ?aF ?aB ?aS ?aL ?_; (case aR => repeat (first | exact (Kd.C_below HR3.out HB.out) | (with_reducible refine Kd.C_alloc ?_ _) | (with_reducible refine Kd.C_drewN ?_ _) | (with_reducible refine Kd.C_drew ?_))); (case aB => exact (by repeat (first | (with_reducible first | exact HB.out | apply below_alloc | apply pw_below_drewN | apply below_drew1) | exact HB.out))); (case aF => exact (fun k_ hk => Kd.fresh' (Kd.R_lt (by (with_reducible repeat (first | apply Kd.R_alloc | apply Kd.R_drewN | apply Kd.R_drew)); exact HO155.out)) k_ hk)); (case aO => exact (by (with_reducible repeat (first | apply Kd.R_alloc | apply Kd.R_drewN | apply Kd.R_drew)); exact Kd.R_mono HO162.out (fun _ hk => hk.2))); (case aS => exact (below_size (by repeat (first | (with_reducible first | exact HB.out | apply below_alloc | apply pw_below_drewN | apply below_drew1) | exact HB.out)))); (case aL => have := LMc15.out; omega); intro v164 w28 ho hb hg hat; (first | rw [← Ny163.out] at ho | (simp only [Int.reduceToNat] at ho; rw [← Ny163.out] at ho)); have n0_ := Aside0.mk (Kd.R_after (ok := (fun _ => True)) (by (with_reducible repeat (first | apply Kd.R_alloc | apply Kd.R_drewN | apply Kd.R_drew)); exact HO155.out) hg hat); have n1_ := Aside0.mk (hb); have n2_ := Aside0.mk ((show Kd.C (Kd.int .u8) w28 Ao25 y156.length y156 from by rw [Ny156.out]; exact Kd.C_take (m := ((ji12) : Int).toNat) ((Kd.R_reads' (Kd.R_after (ok := (fun _ => True)) (by (with_reducible repeat (first | apply Kd.R_alloc | apply Kd.R_drewN | apply Kd.R_drew)); exact HO155.out) hg hat)).2.2) KL24.out)); have n3_ := Aside0.mk (ho); clear HO155; clear HB; clear HR159; clear HO162; have HO155 := n0_; have HB := n1_; have HR159 := n2_; have HO165 := n3_; clear n0_ n1_ n2_ n3_; clear ho hb hg hat) | (at_builtin; refine Kd.R_append_zeros (Kd.int .u8) (w0 := w) w.heap.size rfl (.tmp 48) (.const (.int .i64 32)) 22 3 5 (.int .u8 0) 1 rfl Try.underlying22 Try.underlying3 info5 rfl (by decide) (by omega) v164 y163 0 (32 : Int) (fun k_ => some k_ ≠ (.slice Ao25 y153.length co25 : Value).ownBlock) rfl rfl rfl ?aF ?aO (by omega) ?aB ?aS ?aL ?_; (case aB => exact (by repeat (first | (with_reducible first | exact HB.out | apply below_alloc | apply pw_below_drewN | apply below_drew1) | exact HB.out))); (case aF => exact (fun k_ hk => Kd.fresh' (Kd.R_lt (by (with_reducible repeat (first | apply Kd.R_alloc | apply Kd.R_drewN | apply Kd.R_drew)); exact HO155.out)) k_ hk)); (case aO => exact (by (with_reducible repeat (first | apply Kd.R_alloc | apply Kd.R_drewN | apply Kd.R_drew)); exact HO165.out)); (case aS => exact (below_size (by repeat (first | (with_reducible first | exact HB.out | apply below_alloc | apply pw_below_drewN | apply below_drew1) | exact HB.out)))); (case aL => have := LMc16.out; omega); intro v167 w29 ho hb hg hat; (first | rw [← Ny166.out] at ho | (simp only [Int.reduceToNat] at ho; rw [← Ny166.out] at ho)); have n0_ := Aside0.mk (Kd.R_after (ok := (fun _ => True)) (by (with_reducible repeat (first | apply Kd.R_alloc | apply Kd.R_drewN | apply Kd.R_drew)); exact HO155.out) hg hat); have n1_ := Aside0.mk (hb); have n2_ := Aside0.mk ((show Kd.C (Kd.int .u8) w29 Ao25 y156.length y156 from by rw [Ny156.out]; exact Kd.C_take (m := ((ji12) : Int).toNat) ((Kd.R_reads' (Kd.R_after (ok := (fun _ => True)) (by (with_reducible repeat (first | apply Kd.R_alloc | apply Kd.R_drewN | apply Kd.R_drew)); exact HO155.out) hg hat)).2.2) KL24.out)); have n3_ := Aside0.mk (ho); clear HO155; clear HB; clear HR159; clear HO165; have HO155 := n0_; have HB := n1_; have HR159 := n2_; have HO168 := n3_; clear n0_ n1_ n2_ n3_; clear ho hb hg hat; obtain ⟨Ao31, co31, eo31⟩ := Kd.R_slice HO168.out; subst eo31; have q30 : ((ji12) : Int) ≤ ((y166.length : Int) : Int) := of_decide_eq_true (by first | (with_reducible assumption) | assumption); obtain ⟨i030, hi030, _, hsz30, _⟩ := info_parts info5; have hroom30 : y166.length ≤ co31 := (Kd.R_reads' HO168.out).2.1; have hC30 : Kd.C (Kd.int .u8) _ Ao31 y166.length y166 := (Kd.R_reads' HO168.out).2.2; have hcut30 := cut_to (P := Try.prog) 22 5 .i64 Try.underlying22 hi030 Ao31 y166.length co31 (ji12) (of_decide_eq_true (by first | (with_reducible assumption) | assumption)) q30 hroom30; have hr30 := Kd.C_take (m := ((ji12) : Int).toNat) hC30 (by omega); have hy30 : y169.length = ((ji12) : Int).toNat := (by rw [Ny169.out, List.length_take]; omega); rw [← Ny169.out] at hr30; rw [← hy30] at hcut30; have HR172 := Aside0.mk hr30; have HC172 := Aside0.mk (show y169.length ≤ co31 from by omega); clear hr30 hC30 hroom30 hi030 hsz30; have KY30 := Aside0.mk hy30; clear hy30; have KL30 := Aside0.mk (show ((ji12) : Int).toNat ≤ y166.length from by omega); replace q30 := eq_true q30) | ((with_reducible refine gate_dst (N := 55) rfl ?_); (try (refine gate_guard (by rfl) ?_; dsimp only)); refine Kd.R_make (Kd.int .u8) _ 5 rfl (N := 55) rfl 22 _ _ rfl ji12 rfl rfl Try.underlying22 (.int .u8 0) 1 info5 rfl (by decide) (by omega) 0 (ok := fun _ => True) (okp := fun _ => True) rfl (fun _ hk => hk) trivial (of_decide_eq_true (by first | (with_reducible assumption) | assumption)) (Nat.le_trans (Nat.mul_le_mul_right _ (of_decide_eq_true (by first | (with_reducible assumption) | assumption) : ji12.toNat ≤ 281474976710656)) (by omega)) (Below.refl _ _) (Nat.le_refl _) ?_; intro v174 w32 ho33 hb hg_ hnew_; clear hg_ hnew_; (first | rw [← Ny173.out] at ho33 | (simp only [Int.reduceToNat] at ho33; rw [← Ny173.out] at ho33)); have n0_ := Aside0.mk (Kd.R_elder' (by (with_reducible repeat (first | apply Kd.R_alloc | apply Kd.R_drewN | apply Kd.R_drew)); exact HO155.out) (Kd.R_base ho33) hb); have n1_ := Aside0.mk (Kd.R_elder' (by (with_reducible repeat (first | apply Kd.R_alloc | apply Kd.R_drewN | apply Kd.R_drew)); exact HO168.out) (Kd.R_base ho33) hb); have n2_ := Aside0.mk (Kd.R_lower (Kd.R_new' (Kd.R_new' ho33 (Kd.R_lt (by (with_reducible repeat (first | apply Kd.R_alloc | apply Kd.R_drewN | apply Kd.R_drew)); exact HO155.out))) (Kd.R_lt (by (with_reducible repeat (first | apply Kd.R_alloc | apply Kd.R_drewN | apply Kd.R_drew)); exact HO168.out))) (below_size (by repeat (first | (with_reducible first | exact HB.out | apply below_alloc | apply pw_below_drewN | apply below_drew1) | exact HB.out)))); have n3_ := Aside0.mk (Kd.C_below (by repeat (first | (with_reducible exact HR159.out) | (with_reducible refine Kd.C_alloc ?_ _) | (with_reducible refine Kd.C_drewN ?_ _) | (with_reducible refine Kd.C_drew ?_) | exact HR159.out)) hb); have n4_ := Aside0.mk (Kd.C_below (by repeat (first | (with_reducible exact HR172.out) | (with_reducible refine Kd.C_alloc ?_ _) | (with_reducible refine Kd.C_drewN ?_ _) | (with_reducible refine Kd.C_drew ?_) | exact HR172.out)) hb); have n5_ := Aside0.mk (below_step (by repeat (first | (with_reducible first | exact HB.out | apply below_alloc | apply pw_below_drewN | apply below_drew1) | exact HB.out)) hb); clear HO155; clear HO168; clear HR159; clear HR172; clear HB; have HO155 := n0_; have HO168 := n1_; have HO175 := n2_; have HR159 := n3_; have HR172 := n4_; have HB := n5_; clear n0_ n1_ n2_ n3_ n4_ n5_; clear hb ho33))
                        go_loopg [14] kj4 (fun kq v14 w' => ∃ (x13_2 : List Int) (x14_2 : Int), v14 = .int .i64 x14_2 ∧ Aside0 (flittinglaw03_RsSums.l0 kq (wrap64 ((wrap64 (Int.tmod a0 4)) + 1)) (wrap64 (Int.tmod a1 4)) y156 y169 x13_2 x14_2 = some r) ∧ Aside0 (kq ≤ kj4) ∧ Aside0 (Kd.R (Kd.int .u8) 5 w' w.heap.size (fun _ => True) v174 x13_2) ∧ Aside0 (Kd.F (Kd.int .u8) w' (fun k_ => some k_ ≠ (v174 : Value).ownBlock) Ao25 y156.length y156) ∧ Aside0 (Kd.F (Kd.int .u8) w' (fun k_ => some k_ ≠ (v174 : Value).ownBlock) Ao31 y169.length y169) ∧ Aside0 (Below w.heap.size w w'))
                        case atStart => exact ⟨(y173), (0), (by first | rfl | (simp; done) | (simp [*]; done)), H', ⟨Nat.le_refl _⟩, ⟨by (with_reducible repeat (first | apply Kd.R_alloc | apply Kd.R_drewN | apply Kd.R_drew)); exact Kd.R_mono HO175.out (fun _ hk => trivial)⟩, ⟨by (with_reducible repeat (first | refine Kd.F_alloc ?_ _ | refine Kd.F_drewN ?_ _ | refine Kd.F_drew ?_)); have h_ := Kd.F_take (m := ((ji12) : Int).toNat) (Kd.V_at (base := w.heap.size) (Kd.R_V HO155.out)).2.2 KL24.out; rw [← Ny156.out] at h_; exact Kd.F_mono h_ (fun k_ hk_ => by first | exact hk_.2 | exact hk_.1.2 | exact hk_.2.2 | exact hk_.1.1.2)⟩, ⟨by (with_reducible repeat (first | refine Kd.F_alloc ?_ _ | refine Kd.F_drewN ?_ _ | refine Kd.F_drew ?_)); have h_ := Kd.F_take (m := ((ji12) : Int).toNat) (Kd.V_at (base := w.heap.size) (Kd.R_V HO168.out)).2.2 KL30.out; rw [← Ny169.out] at h_; exact Kd.F_mono h_ (fun k_ hk_ => by first | exact hk_.2 | exact hk_.1.2 | exact hk_.2.2 | exact hk_.1.1.2)⟩, ⟨by repeat (first | (with_reducible first | exact HB.out | apply below_alloc | apply pw_below_drewN | apply below_drew1) | exact HB.out)⟩⟩
                        case round =>
                          clear H'
                          try clear c1
                          try clear c2
                          try clear p2
                          try clear q2
                          try clear c3
                          try clear q3
                          try clear c5
                          try clear c6
                          try clear c6b0
                          try clear c6b1
                          try clear p6
                          try clear c7
                          try clear c9
                          try clear c10
                          try clear c11
                          try clear c13
                          try clear c13b0
                          try clear c13b1
                          try clear c14
                          try clear c14b0
                          try clear c14b1
                          try clear c15
                          try clear c16
                          try clear c17
                          try clear c17b0
                          try clear c18
                          try clear c18b0
                          try clear c18b1
                          try clear c19
                          try clear c19b0
                          try clear c19b1
                          try clear q24
                          try clear q30
                          try clear p2
                          try clear p6
                          try clear q24
                          try clear q30
                          obtain ⟨x13_2, x14_2, rfl, HA, HK2, HO_13, HF159, HF172, HB⟩ := hrel
                          have HR159 := Aside0.mk (Kd.F_now HF159.out)
                          have HR172 := Aside0.mk (Kd.F_now HF172.out)
                          cases gk with
                          | zero => exact absurd HA.out (by simp [flittinglaw03_RsSums.l0])
                          | succ k2 =>
                            have H := HA.out
                            clear HA
                            simp only [flittinglaw03_RsSums.l0] at H
                            by_cases c34 : x14_2 < (wrap64 (8 * (wrap64 ((wrap64 (Int.tmod a0 4)) + 1))))
                            · rw [if_pos c34] at H
                              have c34b0 : decide (x14_2 < (wrap64 (8 * (wrap64 ((wrap64 (Int.tmod a0 4)) + 1))))) = true := decide_eq_true c34
                              (try rw [hji12] at c34b0)
                              clear c34
                              by_cases c35 : 0 ≤ x14_2
                              · rw [if_pos c35] at H
                                have c35b0 : decide (0 ≤ x14_2) = true := decide_eq_true c35
                                clear c35
                                by_cases c36 : x14_2 < (y156.length : Int)
                                · rw [if_pos c36] at H
                                  have c36b0 : decide (x14_2 < (y156.length : Int)) = true := decide_eq_true c36
                                  clear c36
                                  by_cases c37 : x14_2 < (y169.length : Int)
                                  · rw [if_pos c37] at H
                                    have c37b0 : decide (x14_2 < (y169.length : Int)) = true := decide_eq_true c37
                                    clear c37
                                    by_cases c38 : x14_2 < (x13_2.length : Int)
                                    · rw [if_pos c38] at H
                                      have c38b0 : decide (x14_2 < (x13_2.length : Int)) = true := decide_eq_true c38
                                      clear c38
                                      obtain ⟨y178, hy178⟩ : ∃ y_ : List Int, y_ = (x13_2.set (x14_2 : Int).toNat (Go.bits .xor .u8 (rd y156 x14_2) (rd y169 x14_2))) := ⟨_, rfl⟩
                                      replace H : (flittinglaw03_RsSums.l0 k2 (wrap64 ((wrap64 (Int.tmod a0 4)) + 1)) (wrap64 (Int.tmod a1 4)) y156 y169 y178 (wrap64 (x14_2 + 1))) = some r := by first | (rw [hy178]; with_reducible exact H) | (have H2_ := (Option.bind_some _ _).symm.trans H; rw [hy178]; with_reducible exact H2_) | (have H2_ := (Option.bind_some _ _).symm.trans H; with_reducible exact H2_) | with_reducible exact H | (rw [hy178]; exact H) | exact H
                                      have Ny178 := Aside0.mk hy178
                                      clear hy178
                                      have H' := Aside0.mk H
                                      clear H
                                      try go_wp2
                                      replace HF159 := Aside0.mk (Kd.F_drew HF159.out)
                                      replace HF172 := Aside0.mk (Kd.F_drew HF172.out)
                                      have n0_ := Aside0.mk (Kd.R_drew HO_13.out)
                                      have n1_ := Aside0.mk (Kd.C_drew HR159.out)
                                      have n2_ := Aside0.mk (Kd.C_drew HR172.out)
                                      have n3_ := Aside0.mk (below_drew1 HB.out)
                                      clear HO_13
                                      clear HR159
                                      clear HR172
                                      clear HB
                                      have HO_13 := n0_
                                      have HR159 := n1_
                                      have HR172 := n2_
                                      have HB := n3_
                                      clear n0_ n1_ n2_ n3_
                                      have p176 : 0 ≤ (x14_2 : Int) := of_decide_eq_true (by first | (with_reducible assumption) | assumption)
                                      have q176 : x14_2 < (y156.length : Int) := of_decide_eq_true (by first | (with_reducible assumption) | assumption)
                                      obtain ⟨ad176, e176, hx176_0⟩ := Kd.at_int HR159.out x14_2 p176 q176
                                      have hw176_0 := hx176_0
                                      cases e176
                                      replace p176 := eq_true p176
                                      replace q176 := eq_true q176
                                      have p177 : 0 ≤ (x14_2 : Int) := of_decide_eq_true (by first | (with_reducible assumption) | assumption)
                                      have q177 : x14_2 < (y169.length : Int) := of_decide_eq_true (by first | (with_reducible assumption) | assumption)
                                      obtain ⟨ad177, e177, hx177_0⟩ := Kd.at_int HR172.out x14_2 p177 q177
                                      have hw177_0 := hx177_0
                                      cases e177
                                      replace p177 := eq_true p177
                                      replace q177 := eq_true q177
                                      have p39 : 0 ≤ (x14_2 : Int) := of_decide_eq_true (by first | (with_reducible assumption) | assumption)
                                      have q39 : (x14_2 : Int) < ((x13_2.length : Int) : Int) := of_decide_eq_true (by first | (with_reducible assumption) | assumption)
                                      obtain ⟨go39, co39, eo39, gb39, gl39, cl39, HG39⟩ := Kd.R_form HO_13.out (by omega)
                                      (first | cases eo39 | (injection eo39 with ea_ en_ ec_; (first | subst ea_ | (injection ea_ with ea_; subst ea_)); subst ec_; clear en_))
                                      have GB39 := Aside0.mk gb39
                                      have GG39 := Aside0.mk HG39
                                      clear gb39 gl39 HG39
                                      obtain ⟨hx39_0, hf39_0⟩ := Kd.R_celln 0 HO_13.out (x14_2 : Int) p39 q39
                                      replace p39 := eq_true p39
                                      replace q39 := eq_true q39
                                      have HP41 := Kd.R_putn HO_13.out (x14_2 : Int) (Go.bits .xor .u8 (rd y156 x14_2) (rd y169 x14_2))
                                      rw [← Ny178.out] at HP41
                                      have HQ41 := Aside0.mk HP41
                                      clear HP41
                                      refine start_ (n := 13) (S := fun w' => w'.cell? (ad176.add (x14_2).toNat) = some (.int .u8 (rd y156 x14_2)) ∧ w'.cell? (ad177.add (x14_2).toNat) = some (.int .u8 (rd y169 x14_2))) (ds := [12]) #[false, false, false, false, false, false, false, false, false, false, false, false, false] (by kernel_rfl) rfl rfl ⟨hw176_0, hw177_0⟩ (fun hHeld => ?_); refine with_tabW flittinglaw03_RsSums.tab10 flittinglaw03_RsSums.bits10 (fun HT_ HW_ => ?_)
                                      generalize wr.drew = w40 at HO_13 HR159 HR172 HB GG39 HQ41 hf39_0 hx176_0 hx177_0 hw176_0 hw177_0 hx39_0 hHeld HF159 HF172 ⊢
                                      refine pure_ (i := 0) (N := some 62) (v := ?_) (a' := ?_) #[true, false, false, false, false, false, false, false, false, false, false, false, false] rfl rfl (any_of HT_.out (by kernel_rfl)) (fun _ _ _ h => h) (Or.inl ⟨by rfl, ?_⟩) ?_ ?_
                                      rotate_left
                                      · intro w'
                                        go_simp
                                        with_reducible rfl
                                      rotate_left
                                      · simp only [Act.put, List.setIfInBounds_toArray, List.set_cons_zero, List.set_cons_succ, i64_w, i32_w]
                                        rfl
                                      refine pure_ (i := 1) (N := some 63) (v := ?_) (a' := ?_) #[true, true, false, false, false, false, false, false, false, false, false, false, false] rfl rfl (any_of HT_.out (by kernel_rfl)) (fun _ _ _ h => h) (Or.inl ⟨by rfl, ?_⟩) ?_ ?_
                                      rotate_left
                                      · intro w'
                                        go_simp
                                        with_reducible rfl
                                      rotate_left
                                      · simp only [Act.put, List.setIfInBounds_toArray, List.set_cons_zero, List.set_cons_succ, i64_w, i32_w]
                                        rfl
                                      refine pure_ (i := 2) (N := some 64) (v := ?_) (a' := ?_) #[true, true, true, false, false, false, false, false, false, false, false, false, false] rfl rfl (any_of HT_.out (by kernel_rfl)) (fun _ _ _ h => h) (Or.inl ⟨by rfl, ?_⟩) ?_ ?_
                                      rotate_left
                                      · intro w'
                                        go_simp
                                        with_reducible rfl
                                      rotate_left
                                      · simp only [Act.put, List.setIfInBounds_toArray, List.set_cons_zero, List.set_cons_succ, i64_w, i32_w]
                                        rfl
                                      refine pure_ (i := 3) (N := some 65) (v := ?_) (a' := ?_) #[true, true, true, true, false, false, false, false, false, false, false, false, false] rfl rfl (any_of HT_.out (by kernel_rfl)) (fun _ _ _ h => h) (Or.inl ⟨by rfl, ?_⟩) ?_ ?_
                                      rotate_left
                                      · intro w'
                                        go_simp
                                        with_reducible rfl
                                      rotate_left
                                      · simp only [Act.put, List.setIfInBounds_toArray, List.set_cons_zero, List.set_cons_succ, i64_w, i32_w]
                                        rfl
                                      refine pure_ (i := 4) (N := some 66) (v := ?_) (a' := ?_) #[true, true, true, true, true, false, false, false, false, false, false, false, false] rfl rfl (any_of HT_.out (by kernel_rfl)) (fun _ _ _ h => h) (Or.inl ⟨by rfl, ?_⟩) ?_ ?_
                                      rotate_left
                                      · intro w'
                                        go_simp
                                        with_reducible rfl
                                      rotate_left
                                      · simp only [Act.put, List.setIfInBounds_toArray, List.set_cons_zero, List.set_cons_succ, i64_w, i32_w]
                                        rfl
                                      refine pure_ (i := 6) (N := some 68) (v := ?_) (a' := ?_) #[true, true, true, true, true, false, true, false, false, false, false, false, false] rfl rfl (any_of HT_.out (by kernel_rfl)) (fun _ _ _ h => h) (Or.inl ⟨by rfl, ?_⟩) ?_ ?_
                                      rotate_left
                                      · intro w'
                                        go_simp
                                        with_reducible rfl
                                      rotate_left
                                      · simp only [Act.put, List.setIfInBounds_toArray, List.set_cons_zero, List.set_cons_succ, i64_w, i32_w]
                                        rfl
                                      refine pure_ (i := 7) (N := some 69) (v := ?_) (a' := ?_) #[true, true, true, true, true, false, true, true, false, false, false, false, false] rfl rfl (any_of HT_.out (by kernel_rfl)) (fun _ _ _ h => h) (Or.inl ⟨by rfl, ?_⟩) ?_ ?_
                                      rotate_left
                                      · intro w'
                                        go_simp
                                        with_reducible rfl
                                      rotate_left
                                      · simp only [Act.put, List.setIfInBounds_toArray, List.set_cons_zero, List.set_cons_succ, i64_w, i32_w]
                                        rfl
                                      refine pure_ (i := 8) (N := some 70) (v := ?_) (a' := ?_) #[true, true, true, true, true, false, true, true, true, false, false, false, false] rfl rfl (any_of HT_.out (by kernel_rfl)) (fun _ _ _ h => h) (Or.inl ⟨by rfl, ?_⟩) ?_ ?_
                                      rotate_left
                                      · intro w'
                                        go_simp
                                        with_reducible rfl
                                      rotate_left
                                      · simp only [Act.put, List.setIfInBounds_toArray, List.set_cons_zero, List.set_cons_succ, i64_w, i32_w]
                                        rfl
                                      refine take_ (i := 5) (N := some 67) (v := ?_) (a' := ?_) #[true, true, true, true, true, true, true, true, true, false, false, false, false] rfl rfl (take_ofW HT_.out HW_.out (by kernel_rfl)) (fun _ _ _ h => h) (Or.inl ⟨by rfl, ?_⟩) hHeld ?_ ?_
                                      rotate_left
                                      · rintro w' ⟨s0, s1⟩
                                        go_simp
                                        with_reducible rfl
                                      rotate_left
                                      · simp only [Act.put, List.setIfInBounds_toArray, List.set_cons_zero, List.set_cons_succ, i64_w, i32_w]
                                        rfl
                                      refine take_ (i := 9) (N := some 71) (v := ?_) (a' := ?_) #[true, true, true, true, true, true, true, true, true, true, false, false, false] rfl rfl (take_ofW HT_.out HW_.out (by kernel_rfl)) (fun _ _ _ h => h) (Or.inl ⟨by rfl, ?_⟩) hHeld ?_ ?_
                                      rotate_left
                                      · rintro w' ⟨s0, s1⟩
                                        go_simp
                                        with_reducible rfl
                                      rotate_left
                                      · simp only [Act.put, List.setIfInBounds_toArray, List.set_cons_zero, List.set_cons_succ, i64_w, i32_w]
                                        rfl
                                      refine pure_ (i := 10) (N := some 72) (v := ?_) (a' := ?_) #[true, true, true, true, true, true, true, true, true, true, true, false, false] rfl rfl (any_of HT_.out (by kernel_rfl)) (fun _ _ _ h => h) (Or.inl ⟨by rfl, ?_⟩) ?_ ?_
                                      rotate_left
                                      · intro w'
                                        go_simp
                                        with_reducible rfl
                                      rotate_left
                                      · simp only [Act.put, List.setIfInBounds_toArray, List.set_cons_zero, List.set_cons_succ, i64_w, i32_w]
                                        rfl
                                      refine pure_ (i := 11) (N := some 73) (v := ?_) (a' := ?_) #[true, true, true, true, true, true, true, true, true, true, true, true, false] rfl rfl (any_of HT_.out (by kernel_rfl)) (fun _ _ _ h => h) (Or.inl ⟨by rfl, ?_⟩) ?_ ?_
                                      rotate_left
                                      · intro w'
                                        go_simp
                                        with_reducible rfl
                                      rotate_left
                                      · simp only [Act.put, List.setIfInBounds_toArray, List.set_cons_zero, List.set_cons_succ, i64_w, i32_w]
                                        rfl
                                      refine last_ (i := 12) (N := none) #[true, true, true, true, true, true, true, true, true, true, true, true, true] rfl rfl (one_of HT_.out (by kernel_rfl)) (by decide) (fun K hK => ?_)
                                      refine skip_ (w1 := ?_) (by rfl) rfl ?_ ?_
                                      rotate_left
                                      · go_simp
                                        rfl
                                      refine hK.out _ _ ?_
                                      clear hK K
                                      refine done_ (done_of HT_.out (by kernel_rfl)) ?_
                                      try go_wp2
                                      go_roundg k2
                                      case measure => have := HJ4.out; have := HK2.out; omega
                                      case rel => exact ⟨(y178), (wrap64 (x14_2 + 1)), (by first | rfl | (simp; done) | (simp [*]; done)), H', ⟨by have := HJ4.out; have := HK2.out; omega⟩, ⟨by (with_reducible repeat (first | apply Kd.R_alloc | apply Kd.R_drewN | apply Kd.R_drew)); exact HQ41.out⟩, ⟨Kd.F_step HF159.out (fun k_ hk_ hl_ => Below.heap_setCell _ _ _ k_ (fun e_ => hk_ (by rw [e_]; rfl)))⟩, ⟨Kd.F_step HF172.out (fun k_ hk_ hl_ => Below.heap_setCell _ _ _ k_ (fun e_ => hk_ (by rw [e_]; rfl)))⟩, ⟨by repeat (first | (with_reducible first | exact HB.out | apply below_alloc | apply pw_below_drewN | apply below_drew1 | refine below_set ?_ GB39.out) | exact HB.out)⟩⟩
                                    · rw [if_neg c38] at H
                                      exact absurd H (by simp)
                                  · rw [if_neg c37] at H
                                    exact absurd H (by simp)
                                · rw [if_neg c36] at H
                                  exact absurd H (by simp)
                              · rw [if_neg c35] at H
                                exact absurd H (by simp)
                            · rw [if_neg c34] at H
                              have c34b0 : decide (x14_2 < (wrap64 (8 * (wrap64 ((wrap64 (Int.tmod a0 4)) + 1))))) = false := decide_eq_false c34
                              (try rw [hji12] at c34b0)
                              clear c34
                              replace H := Option.bind_eq_some_iff.mp H
                              obtain ⟨⟨t179, t180⟩, A420, H⟩ := H
                              replace H : ((rs_Encode.f (wrap64 ((wrap64 (Int.tmod a0 4)) + 1)) (wrap64 (Int.tmod a1 4)) y169).bind fun bt183 => ((rs_Encode.f (wrap64 ((wrap64 (Int.tmod a0 4)) + 1)) (wrap64 (Int.tmod a1 4)) x13_2).bind fun bt187 => (if t180 = 0 then (if bt183.2 = 0 then (if bt187.2 = 0 then (if (t179.length : Int) = (wrap64 ((wrap64 ((wrap64 (Int.tmod a0 4)) + 1)) + (wrap64 (Int.tmod a1 4)))) then (if (bt183.1.length : Int) = (wrap64 ((wrap64 ((wrap64 (Int.tmod a0 4)) + 1)) + (wrap64 (Int.tmod a1 4)))) then (flittinglaw03_RsSums.j2 k2 (wrap64 ((wrap64 (Int.tmod a0 4)) + 1)) (wrap64 (Int.tmod a1 4)) t179 bt183.1 bt187.1 ((bt187.1.length : Int) != (wrap64 ((wrap64 ((wrap64 (Int.tmod a0 4)) + 1)) + (wrap64 (Int.tmod a1 4)))))) else (flittinglaw03_RsSums.j2 k2 (wrap64 ((wrap64 (Int.tmod a0 4)) + 1)) (wrap64 (Int.tmod a1 4)) t179 bt183.1 bt187.1 true)) else (flittinglaw03_RsSums.j2 k2 (wrap64 ((wrap64 (Int.tmod a0 4)) + 1)) (wrap64 (Int.tmod a1 4)) t179 bt183.1 bt187.1 true)) else (flittinglaw03_RsSums.j2 k2 (wrap64 ((wrap64 (Int.tmod a0 4)) + 1)) (wrap64 (Int.tmod a1 4)) t179 bt183.1 bt187.1 true)) else (flittinglaw03_RsSums.j2 k2 (wrap64 ((wrap64 (Int.tmod a0 4)) + 1)) (wrap64 (Int.tmod a1 4)) t179 bt183.1 bt187.1 true)) else (flittinglaw03_RsSums.j2 k2 (wrap64 ((wrap64 (Int.tmod a0 4)) + 1)) (wrap64 (Int.tmod a1 4)) t179 bt183.1 bt187.1 true)))) = some r := H
                              have A42 := Aside0.mk A420
                              clear A420
                              replace H := Option.bind_eq_some_iff.mp H
                              obtain ⟨⟨t183, t184⟩, A430, H⟩ := H
                              replace H : ((rs_Encode.f (wrap64 ((wrap64 (Int.tmod a0 4)) + 1)) (wrap64 (Int.tmod a1 4)) x13_2).bind fun bt187 => (if t180 = 0 then (if t184 = 0 then (if bt187.2 = 0 then (if (t179.length : Int) = (wrap64 ((wrap64 ((wrap64 (Int.tmod a0 4)) + 1)) + (wrap64 (Int.tmod a1 4)))) then (if (t183.length : Int) = (wrap64 ((wrap64 ((wrap64 (Int.tmod a0 4)) + 1)) + (wrap64 (Int.tmod a1 4)))) then (flittinglaw03_RsSums.j2 k2 (wrap64 ((wrap64 (Int.tmod a0 4)) + 1)) (wrap64 (Int.tmod a1 4)) t179 t183 bt187.1 ((bt187.1.length : Int) != (wrap64 ((wrap64 ((wrap64 (Int.tmod a0 4)) + 1)) + (wrap64 (Int.tmod a1 4)))))) else (flittinglaw03_RsSums.j2 k2 (wrap64 ((wrap64 (Int.tmod a0 4)) + 1)) (wrap64 (Int.tmod a1 4)) t179 t183 bt187.1 true)) else (flittinglaw03_RsSums.j2 k2 (wrap64 ((wrap64 (Int.tmod a0 4)) + 1)) (wrap64 (Int.tmod a1 4)) t179 t183 bt187.1 true)) else (flittinglaw03_RsSums.j2 k2 (wrap64 ((wrap64 (Int.tmod a0 4)) + 1)) (wrap64 (Int.tmod a1 4)) t179 t183 bt187.1 true)) else (flittinglaw03_RsSums.j2 k2 (wrap64 ((wrap64 (Int.tmod a0 4)) + 1)) (wrap64 (Int.tmod a1 4)) t179 t183 bt187.1 true)) else (flittinglaw03_RsSums.j2 k2 (wrap64 ((wrap64 (Int.tmod a0 4)) + 1)) (wrap64 (Int.tmod a1 4)) t179 t183 bt187.1 true))) = some r := H
                              have A43 := Aside0.mk A430
                              clear A430
                              replace H := Option.bind_eq_some_iff.mp H
                              obtain ⟨⟨t187, t188⟩, A440, H⟩ := H
                              replace H : (if t180 = 0 then (if t184 = 0 then (if t188 = 0 then (if (t179.length : Int) = (wrap64 ((wrap64 ((wrap64 (Int.tmod a0 4)) + 1)) + (wrap64 (Int.tmod a1 4)))) then (if (t183.length : Int) = (wrap64 ((wrap64 ((wrap64 (Int.tmod a0 4)) + 1)) + (wrap64 (Int.tmod a1 4)))) then (flittinglaw03_RsSums.j2 k2 (wrap64 ((wrap64 (Int.tmod a0 4)) + 1)) (wrap64 (Int.tmod a1 4)) t179 t183 t187 ((t187.length : Int) != (wrap64 ((wrap64 ((wrap64 (Int.tmod a0 4)) + 1)) + (wrap64 (Int.tmod a1 4)))))) else (flittinglaw03_RsSums.j2 k2 (wrap64 ((wrap64 (Int.tmod a0 4)) + 1)) (wrap64 (Int.tmod a1 4)) t179 t183 t187 true)) else (flittinglaw03_RsSums.j2 k2 (wrap64 ((wrap64 (Int.tmod a0 4)) + 1)) (wrap64 (Int.tmod a1 4)) t179 t183 t187 true)) else (flittinglaw03_RsSums.j2 k2 (wrap64 ((wrap64 (Int.tmod a0 4)) + 1)) (wrap64 (Int.tmod a1 4)) t179 t183 t187 true)) else (flittinglaw03_RsSums.j2 k2 (wrap64 ((wrap64 (Int.tmod a0 4)) + 1)) (wrap64 (Int.tmod a1 4)) t179 t183 t187 true)) else (flittinglaw03_RsSums.j2 k2 (wrap64 ((wrap64 (Int.tmod a0 4)) + 1)) (wrap64 (Int.tmod a1 4)) t179 t183 t187 true)) = some r := H
                              have A44 := Aside0.mk A440
                              clear A440
                              have HC45 := Aside0.mk H
                              clear H
                              go_upto_region 14 with (first | ((with_reducible refine gate_callee (f := 10) rfl ?_); refine goesL_ (some 78) rfl rfl Try.func10 (by kernel_rfl) rfl #[.int .i64 (wrap64 ((wrap64 (Int.tmod a0 4)) + 1)), .int .i64 (wrap64 (Int.tmod a1 4)), .slice Ao25 y156.length co25] rfl (by (try simp only [List.map_toArray, List.map_cons, List.map_nil]); first | done | rfl | (simp only [List.length_drop, List.length_take]; rfl)) ?_; (with_reducible refine (rs_Encode.calls (wrap64 ((wrap64 (Int.tmod a0 4)) + 1)) (wrap64 (Int.tmod a1 4)) _ _ y156 t179 t180 _ ?side1 ?side2 A42.out).mono ?_); (case side1 => repeat (first | exact HR159.out | (with_reducible refine Kd.C_alloc ?_ _) | (with_reducible refine Kd.C_drewN ?_ _) | (with_reducible refine Kd.C_drew ?_))); (case side2 => exact HC159.out); rintro e w46 ⟨v181, rfl, ho0, hb⟩; refine ⟨_, rfl, ?_⟩; have n0_ := Aside0.mk (Kd.R_below (by (with_reducible repeat (first | apply Kd.R_alloc | apply Kd.R_drewN | apply Kd.R_drew)); exact HO_13.out) hb); have n1_ := Aside0.mk (Kd.S_lower (Kd.S_new' ho0 (Kd.R_lt (by (with_reducible repeat (first | apply Kd.R_alloc | apply Kd.R_drewN | apply Kd.R_drew)); exact HO_13.out))) (below_size (by repeat (first | (with_reducible first | exact HB.out | apply below_alloc | apply pw_below_drewN | apply below_drew1) | exact HB.out)))); have n2_ := Aside0.mk (Kd.C_below (by repeat (first | (with_reducible exact HR159.out) | (with_reducible refine Kd.C_alloc ?_ _) | (with_reducible refine Kd.C_drewN ?_ _) | (with_reducible refine Kd.C_drew ?_) | exact HR159.out)) hb); have n3_ := Aside0.mk (Kd.C_below (by repeat (first | (with_reducible exact HR172.out) | (with_reducible refine Kd.C_alloc ?_ _) | (with_reducible refine Kd.C_drewN ?_ _) | (with_reducible refine Kd.C_drew ?_) | exact HR172.out)) hb); have n4_ := Aside0.mk (below_step (by repeat (first | (with_reducible first | exact HB.out | apply below_alloc | apply pw_below_drewN | apply below_drew1) | exact HB.out)) hb); clear HO_13; clear HR159; clear HR172; clear HB; have HO_13 := n0_; have HO182 := n1_; have HR159 := n2_; have HR172 := n3_; have HB := n4_; clear n0_ n1_ n2_ n3_ n4_; (try clear hb); (try clear hb2); (try clear hk); (try clear hi); (try clear ho0)) | ((with_reducible refine gate_callee (f := 10) rfl ?_); refine goesL_ (some 85) rfl rfl Try.func10 (by kernel_rfl) rfl #[.int .i64 (wrap64 ((wrap64 (Int.tmod a0 4)) + 1)), .int .i64 (wrap64 (Int.tmod a1 4)), .slice Ao31 y169.length co31] rfl (by (try simp only [List.map_toArray, List.map_cons, List.map_nil]); first | done | rfl | (simp only [List.length_drop, List.length_take]; rfl)) ?_; (with_reducible refine (rs_Encode.calls (wrap64 ((wrap64 (Int.tmod a0 4)) + 1)) (wrap64 (Int.tmod a1 4)) _ _ y169 t183 t184 _ ?side1 ?side2 A43.out).mono ?_); (case side1 => repeat (first | exact HR172.out | (with_reducible refine Kd.C_alloc ?_ _) | (with_reducible refine Kd.C_drewN ?_ _) | (with_reducible refine Kd.C_drew ?_))); (case side2 => exact HC172.out); rintro e w47 ⟨v185, rfl, ho0, hb⟩; refine ⟨_, rfl, ?_⟩; have n0_ := Aside0.mk (Kd.R_below (by (with_reducible repeat (first | apply Kd.R_alloc | apply Kd.R_drewN | apply Kd.R_drew)); exact HO_13.out) hb); have n1_ := Aside0.mk (Kd.S_elder' (by (with_reducible repeat (first | apply Kd.S_alloc | apply Kd.S_drewN | apply Kd.S_drew)); exact HO182.out) (Kd.S_base ho0) hb); have n2_ := Aside0.mk (Kd.S_lower (Kd.S_new' (Kd.S_new' ho0 (Kd.R_lt (by (with_reducible repeat (first | apply Kd.R_alloc | apply Kd.R_drewN | apply Kd.R_drew)); exact HO_13.out))) (Kd.S_lt (by (with_reducible repeat (first | apply Kd.S_alloc | apply Kd.S_drewN | apply Kd.S_drew)); exact HO182.out))) (below_size (by repeat (first | (with_reducible first | exact HB.out | apply below_alloc | apply pw_below_drewN | apply below_drew1) | exact HB.out)))); have n3_ := Aside0.mk (Kd.C_below (by repeat (first | (with_reducible exact HR159.out) | (with_reducible refine Kd.C_alloc ?_ _) | (with_reducible refine Kd.C_drewN ?_ _) | (with_reducible refine Kd.C_drew ?_) | exact HR159.out)) hb); have n4_ := Aside0.mk (Kd.C_below (by repeat (first | (with_reducible exact HR172.out) | (with_reducible refine Kd.C_alloc ?_ _) | (with_reducible refine Kd.C_drewN ?_ _) | (with_reducible refine Kd.C_drew ?_) | exact HR172.out)) hb); have n5_ := Aside0.mk (below_step (by repeat (first | (with_reducible first | exact HB.out | apply below_alloc | apply pw_below_drewN | apply below_drew1) | exact HB.out)) hb); clear HO_13; clear HO182; clear HR159; clear HR172; clear HB; have HO_13 := n0_; have HO182 := n1_; have HO186 := n2_; have HR159 := n3_; have HR172 := n4_; have HB := n5_; clear n0_ n1_ n2_ n3_ n4_ n5_; (try clear hb); (try clear hb2); (try clear hk); (try clear hi); (try clear ho0); obtain ⟨Ao48, co48, eo48⟩ := Kd.R_slice HO_13.out; subst eo48) | ((with_reducible refine gate_callee (f := 10) rfl ?_); refine goesL_ (some 92) rfl rfl Try.func10 (by kernel_rfl) rfl #[.int .i64 (wrap64 ((wrap64 (Int.tmod a0 4)) + 1)), .int .i64 (wrap64 (Int.tmod a1 4)), .slice Ao48 x13_2.length co48] rfl (by (try simp only [List.map_toArray, List.map_cons, List.map_nil]); first | done | rfl | (simp only [List.length_drop, List.length_take]; rfl)) ?_; (with_reducible refine (rs_Encode.calls (wrap64 ((wrap64 (Int.tmod a0 4)) + 1)) (wrap64 (Int.tmod a1 4)) _ _ x13_2 t187 t188 _ ?side1 ?side2 A44.out).mono ?_); (case side1 => repeat (first | exact (Kd.R_reads' HO_13.out).2.2 | (with_reducible refine Kd.C_alloc ?_ _) | (with_reducible refine Kd.C_drewN ?_ _) | (with_reducible refine Kd.C_drew ?_))); (case side2 => exact (Kd.R_reads' HO_13.out).2.1); rintro e w49 ⟨v189, rfl, ho0, hb⟩; refine ⟨_, rfl, ?_⟩; have n0_ := Aside0.mk (Kd.R_below (by (with_reducible repeat (first | apply Kd.R_alloc | apply Kd.R_drewN | apply Kd.R_drew)); exact HO_13.out) hb); have n1_ := Aside0.mk (Kd.S_elder' (by (with_reducible repeat (first | apply Kd.S_alloc | apply Kd.S_drewN | apply Kd.S_drew)); exact HO182.out) (Kd.S_base ho0) hb); have n2_ := Aside0.mk (Kd.S_elder' (by (with_reducible repeat (first | apply Kd.S_alloc | apply Kd.S_drewN | apply Kd.S_drew)); exact HO186.out) (Kd.S_base ho0) hb); have n3_ := Aside0.mk (Kd.S_lower (Kd.S_new' (Kd.S_new' (Kd.S_new' ho0 (Kd.R_lt (by (with_reducible repeat (first | apply Kd.R_alloc | apply Kd.R_drewN | apply Kd.R_drew)); exact HO_13.out))) (Kd.S_lt (by (with_reducible repeat (first | apply Kd.S_alloc | apply Kd.S_drewN | apply Kd.S_drew)); exact HO182.out))) (Kd.S_lt (by (with_reducible repeat (first | apply Kd.S_alloc | apply Kd.S_drewN | apply Kd.S_drew)); exact HO186.out))) (below_size (by repeat (first | (with_reducible first | exact HB.out | apply below_alloc | apply pw_below_drewN | apply below_drew1) | exact HB.out)))); have n4_ := Aside0.mk (Kd.C_below (by repeat (first | (with_reducible exact HR159.out) | (with_reducible refine Kd.C_alloc ?_ _) | (with_reducible refine Kd.C_drewN ?_ _) | (with_reducible refine Kd.C_drew ?_) | exact HR159.out)) hb); have n5_ := Aside0.mk (Kd.C_below (by repeat (first | (with_reducible exact HR172.out) | (with_reducible refine Kd.C_alloc ?_ _) | (with_reducible refine Kd.C_drewN ?_ _) | (with_reducible refine Kd.C_drew ?_) | exact HR172.out)) hb); have n6_ := Aside0.mk (below_step (by repeat (first | (with_reducible first | exact HB.out | apply below_alloc | apply pw_below_drewN | apply below_drew1) | exact HB.out)) hb); clear HO_13; clear HO182; clear HO186; clear HR159; clear HR172; clear HB; have HO_13 := n0_; have HO182 := n1_; have HO186 := n2_; have HO190 := n3_; have HR159 := n4_; have HR172 := n5_; have HB := n6_; clear n0_ n1_ n2_ n3_ n4_ n5_ n6_; (try clear hb); (try clear hb2); (try clear hk); (try clear hi); (try clear ho0)))
                              (try simp only [Act.put, List.setIfInBounds_toArray, List.set_cons_zero, List.set_cons_succ])
                              go_cut [128] (fun v128 wc => ∃ (kq : Nat) (x128_44 : Bool), v128 = .bool x128_44 ∧ Aside0 (flittinglaw03_RsSums.j2 kq (wrap64 ((wrap64 (Int.tmod a0 4)) + 1)) (wrap64 (Int.tmod a1 4)) t179 t183 t187 x128_44 = some r) ∧ Aside0 (kq ≤ k2) ∧ Aside0 (Kd.S (Kd.slice 5 (Kd.int .u8)) 22 wc w.heap.size (fun k_ => some k_ ≠ (v185 : Value).ownBlock ∧ some k_ ≠ (v189 : Value).ownBlock) v181 t179) ∧ Aside0 (Kd.S (Kd.slice 5 (Kd.int .u8)) 22 wc w.heap.size (fun k_ => some k_ ≠ (v181 : Value).ownBlock ∧ some k_ ≠ (v189 : Value).ownBlock) v185 t183) ∧ Aside0 (Kd.S (Kd.slice 5 (Kd.int .u8)) 22 wc w.heap.size (fun k_ => some k_ ≠ (v181 : Value).ownBlock ∧ some k_ ≠ (v185 : Value).ownBlock) v189 t187) ∧ Aside0 (Kd.C (Kd.int .u8) wc Ao25 y156.length y156) ∧ Aside0 (Kd.C (Kd.int .u8) wc Ao31 y169.length y169) ∧ Aside0 (Below w.heap.size w wc))
                              case first =>
                                have H := HC45.out
                                clear HC45
                                by_cases c50 : t180 = 0
                                · rw [if_pos c50] at H
                                  have c50b0 : (t180 == 0) = true := beq_iff_eq.mpr c50
                                  have c50b1 : (t180 != 0) = false := bne_eq_false_iff_eq.mpr c50
                                  clear c50
                                  (first | rw [c50b0] | (simp only [i64_w, i32_w]; rw [c50b0]) | skip)
                                  by_cases c51 : t184 = 0
                                  · rw [if_pos c51] at H
                                    have c51b0 : (t184 == 0) = true := beq_iff_eq.mpr c51
                                    have c51b1 : (t184 != 0) = false := bne_eq_false_iff_eq.mpr c51
                                    clear c51
                                    by_cases c52 : t188 = 0
                                    · rw [if_pos c52] at H
                                      have c52b0 : (t188 == 0) = true := beq_iff_eq.mpr c52
                                      have c52b1 : (t188 != 0) = false := bne_eq_false_iff_eq.mpr c52
                                      clear c52
                                      by_cases c53 : (t179.length : Int) = (wrap64 ((wrap64 ((wrap64 (Int.tmod a0 4)) + 1)) + (wrap64 (Int.tmod a1 4))))
                                      · rw [if_pos c53] at H
                                        have c53b0 : ((t179.length : Int) == (wrap64 ((wrap64 ((wrap64 (Int.tmod a0 4)) + 1)) + (wrap64 (Int.tmod a1 4))))) = true := beq_iff_eq.mpr c53
                                        have c53b1 : ((t179.length : Int) != (wrap64 ((wrap64 ((wrap64 (Int.tmod a0 4)) + 1)) + (wrap64 (Int.tmod a1 4))))) = false := bne_eq_false_iff_eq.mpr c53
                                        clear c53
                                        by_cases c54 : (t183.length : Int) = (wrap64 ((wrap64 ((wrap64 (Int.tmod a0 4)) + 1)) + (wrap64 (Int.tmod a1 4))))
                                        · rw [if_pos c54] at H
                                          have c54b0 : ((t183.length : Int) == (wrap64 ((wrap64 ((wrap64 (Int.tmod a0 4)) + 1)) + (wrap64 (Int.tmod a1 4))))) = true := beq_iff_eq.mpr c54
                                          have c54b1 : ((t183.length : Int) != (wrap64 ((wrap64 ((wrap64 (Int.tmod a0 4)) + 1)) + (wrap64 (Int.tmod a1 4))))) = false := bne_eq_false_iff_eq.mpr c54
                                          clear c54
                                          have H' := Aside0.mk H
                                          clear H
                                          obtain ⟨Ao55, co55, eo55⟩ := Kd.S_slice HO182.out
                                          subst eo55
                                          obtain ⟨Ao56, co56, eo56⟩ := Kd.S_slice HO186.out
                                          subst eo56
                                          obtain ⟨Ao57, co57, eo57⟩ := Kd.S_slice HO190.out
                                          subst eo57
                                          go_wp2
                                          go_meet
                                          case rel => exact ⟨_, (((t187.length : Int) != (wrap64 ((wrap64 ((wrap64 (Int.tmod a0 4)) + 1)) + (wrap64 (Int.tmod a1 4)))))), (by first | rfl | (simp; done) | (simp [*]; done)), H', ⟨by have := HJ4.out; have := HK2.out; first | omega | exact Nat.le_refl _⟩, ⟨by (with_reducible repeat (first | apply Kd.S_alloc | apply Kd.S_drewN | apply Kd.S_drew)); exact Kd.S_mono HO182.out (fun _ hk => ⟨hk.1.2, hk.2⟩)⟩, ⟨by (with_reducible repeat (first | apply Kd.S_alloc | apply Kd.S_drewN | apply Kd.S_drew)); exact Kd.S_mono HO186.out (fun _ hk => ⟨hk.1.2, hk.2⟩)⟩, ⟨by (with_reducible repeat (first | apply Kd.S_alloc | apply Kd.S_drewN | apply Kd.S_drew)); exact Kd.S_mono HO190.out (fun _ hk => ⟨hk.1.2, hk.2⟩)⟩, ⟨by repeat (first | (with_reducible exact HR159.out) | (with_reducible refine Kd.C_alloc ?_ _) | (with_reducible refine Kd.C_drewN ?_ _) | (with_reducible refine Kd.C_drew ?_) | exact HR159.out)⟩, ⟨by repeat (first | (with_reducible exact HR172.out) | (with_reducible refine Kd.C_alloc ?_ _) | (with_reducible refine Kd.C_drewN ?_ _) | (with_reducible refine Kd.C_drew ?_) | exact HR172.out)⟩, ⟨by repeat (first | (with_reducible first | exact HB.out | apply below_alloc | apply pw_below_drewN | apply below_drew1) | exact HB.out)⟩⟩
                                        · rw [if_neg c54] at H
                                          have c54b0 : ((t183.length : Int) == (wrap64 ((wrap64 ((wrap64 (Int.tmod a0 4)) + 1)) + (wrap64 (Int.tmod a1 4))))) = false := beq_eq_false_iff_ne.mpr c54
                                          have c54b1 : ((t183.length : Int) != (wrap64 ((wrap64 ((wrap64 (Int.tmod a0 4)) + 1)) + (wrap64 (Int.tmod a1 4))))) = true := bne_iff_ne.mpr c54
                                          have H' := Aside0.mk H
                                          clear H
                                          obtain ⟨Ao58, co58, eo58⟩ := Kd.S_slice HO182.out
                                          subst eo58
                                          obtain ⟨Ao59, co59, eo59⟩ := Kd.S_slice HO186.out
                                          subst eo59
                                          go_wp2
                                          go_meet
                                          case rel => exact ⟨_, (true), (by first | rfl | (simp; done) | (simp [*]; done)), H', ⟨by have := HJ4.out; have := HK2.out; first | omega | exact Nat.le_refl _⟩, ⟨by (with_reducible repeat (first | apply Kd.S_alloc | apply Kd.S_drewN | apply Kd.S_drew)); exact Kd.S_mono HO182.out (fun _ hk => ⟨hk.1.2, hk.2⟩)⟩, ⟨by (with_reducible repeat (first | apply Kd.S_alloc | apply Kd.S_drewN | apply Kd.S_drew)); exact Kd.S_mono HO186.out (fun _ hk => ⟨hk.1.2, hk.2⟩)⟩, ⟨by (with_reducible repeat (first | apply Kd.S_alloc | apply Kd.S_drewN | apply Kd.S_drew)); exact Kd.S_mono HO190.out (fun _ hk => ⟨hk.1.2, hk.2⟩)⟩, ⟨by repeat (first | (with_reducible exact HR159.out) | (with_reducible refine Kd.C_alloc ?_ _) | (with_reducible refine Kd.C_drewN ?_ _) | (with_reducible refine Kd.C_drew ?_) | exact HR159.out)⟩, ⟨by repeat (first | (with_reducible exact HR172.out) | (with_reducible refine Kd.C_alloc ?_ _) | (with_reducible refine Kd.C_drewN ?_ _) | (with_reducible refine Kd.C_drew ?_) | exact HR172.out)⟩, ⟨by repeat (first | (with_reducible first | exact HB.out | apply below_alloc | apply pw_below_drewN | apply below_drew1) | exact HB.out)⟩⟩
                                      · rw [if_neg c53] at H
                                        have c53b0 : ((t179.length : Int) == (wrap64 ((wrap64 ((wrap64 (Int.tmod a0 4)) + 1)) + (wrap64 (Int.tmod a1 4))))) = false := beq_eq_false_iff_ne.mpr c53
                                        have c53b1 : ((t179.length : Int) != (wrap64 ((wrap64 ((wrap64 (Int.tmod a0 4)) + 1)) + (wrap64 (Int.tmod a1 4))))) = true := bne_iff_ne.mpr c53
                                        have H' := Aside0.mk H
                                        clear H
                                        obtain ⟨Ao60, co60, eo60⟩ := Kd.S_slice HO182.out
                                        subst eo60
                                        go_wp2
                                        go_meet
                                        case rel => exact ⟨_, (true), (by first | rfl | (simp; done) | (simp [*]; done)), H', ⟨by have := HJ4.out; have := HK2.out; first | omega | exact Nat.le_refl _⟩, ⟨by (with_reducible repeat (first | apply Kd.S_alloc | apply Kd.S_drewN | apply Kd.S_drew)); exact Kd.S_mono HO182.out (fun _ hk => ⟨hk.1.2, hk.2⟩)⟩, ⟨by (with_reducible repeat (first | apply Kd.S_alloc | apply Kd.S_drewN | apply Kd.S_drew)); exact Kd.S_mono HO186.out (fun _ hk => ⟨hk.1.2, hk.2⟩)⟩, ⟨by (with_reducible repeat (first | apply Kd.S_alloc | apply Kd.S_drewN | apply Kd.S_drew)); exact Kd.S_mono HO190.out (fun _ hk => ⟨hk.1.2, hk.2⟩)⟩, ⟨by repeat (first | (with_reducible exact HR159.out) | (with_reducible refine Kd.C_alloc ?_ _) | (with_reducible refine Kd.C_drewN ?_ _) | (with_reducible refine Kd.C_drew ?_) | exact HR159.out)⟩, ⟨by repeat (first | (with_reducible exact HR172.out) | (with_reducible refine Kd.C_alloc ?_ _) | (with_reducible refine Kd.C_drewN ?_ _) | (with_reducible refine Kd.C_drew ?_) | exact HR172.out)⟩, ⟨by repeat (first | (with_reducible first | exact HB.out | apply below_alloc | apply pw_below_drewN | apply below_drew1) | exact HB.out)⟩⟩
                                    · rw [if_neg c52] at H
                                      have c52b0 : (t188 == 0) = false := beq_eq_false_iff_ne.mpr c52
                                      have c52b1 : (t188 != 0) = true := bne_iff_ne.mpr c52
                                      have H' := Aside0.mk H
                                      clear H
                                      go_wp2
                                      go_meet
                                      case rel => exact ⟨_, (true), (by first | rfl | (simp; done) | (simp [*]; done)), H', ⟨by have := HJ4.out; have := HK2.out; first | omega | exact Nat.le_refl _⟩, ⟨by (with_reducible repeat (first | apply Kd.S_alloc | apply Kd.S_drewN | apply Kd.S_drew)); exact Kd.S_mono HO182.out (fun _ hk => ⟨hk.1.2, hk.2⟩)⟩, ⟨by (with_reducible repeat (first | apply Kd.S_alloc | apply Kd.S_drewN | apply Kd.S_drew)); exact Kd.S_mono HO186.out (fun _ hk => ⟨hk.1.2, hk.2⟩)⟩, ⟨by (with_reducible repeat (first | apply Kd.S_alloc | apply Kd.S_drewN | apply Kd.S_drew)); exact Kd.S_mono HO190.out (fun _ hk => ⟨hk.1.2, hk.2⟩)⟩, ⟨by repeat (first | (with_reducible exact HR159.out) | (with_reducible refine Kd.C_alloc ?_ _) | (with_reducible refine Kd.C_drewN ?_ _) | (with_reducible refine Kd.C_drew ?_) | exact HR159.out)⟩, ⟨by repeat (first | (with_reducible exact HR172.out) | (with_reducible refine Kd.C_alloc ?_ _) | (with_reducible refine Kd.C_drewN ?_ _) | (with_reducible refine Kd.C_drew ?_) | exact HR172.out)⟩, ⟨by repeat (first | (with_reducible first | exact HB.out | apply below_alloc | apply pw_below_drewN | apply below_drew1) | exact HB.out)⟩⟩
                                  · rw [if_neg c51] at H
                                    have c51b0 : (t184 == 0) = false := beq_eq_false_iff_ne.mpr c51
                                    have c51b1 : (t184 != 0) = true := bne_iff_ne.mpr c51
                                    have H' := Aside0.mk H
                                    clear H
                                    go_wp2
                                    go_meet
                                    case rel => exact ⟨_, (true), (by first | rfl | (simp; done) | (simp [*]; done)), H', ⟨by have := HJ4.out; have := HK2.out; first | omega | exact Nat.le_refl _⟩, ⟨by (with_reducible repeat (first | apply Kd.S_alloc | apply Kd.S_drewN | apply Kd.S_drew)); exact Kd.S_mono HO182.out (fun _ hk => ⟨hk.1.2, hk.2⟩)⟩, ⟨by (with_reducible repeat (first | apply Kd.S_alloc | apply Kd.S_drewN | apply Kd.S_drew)); exact Kd.S_mono HO186.out (fun _ hk => ⟨hk.1.2, hk.2⟩)⟩, ⟨by (with_reducible repeat (first | apply Kd.S_alloc | apply Kd.S_drewN | apply Kd.S_drew)); exact Kd.S_mono HO190.out (fun _ hk => ⟨hk.1.2, hk.2⟩)⟩, ⟨by repeat (first | (with_reducible exact HR159.out) | (with_reducible refine Kd.C_alloc ?_ _) | (with_reducible refine Kd.C_drewN ?_ _) | (with_reducible refine Kd.C_drew ?_) | exact HR159.out)⟩, ⟨by repeat (first | (with_reducible exact HR172.out) | (with_reducible refine Kd.C_alloc ?_ _) | (with_reducible refine Kd.C_drewN ?_ _) | (with_reducible refine Kd.C_drew ?_) | exact HR172.out)⟩, ⟨by repeat (first | (with_reducible first | exact HB.out | apply below_alloc | apply pw_below_drewN | apply below_drew1) | exact HB.out)⟩⟩
                                · rw [if_neg c50] at H
                                  have c50b0 : (t180 == 0) = false := beq_eq_false_iff_ne.mpr c50
                                  have c50b1 : (t180 != 0) = true := bne_iff_ne.mpr c50
                                  (first | rw [c50b0] | (simp only [i64_w, i32_w]; rw [c50b0]) | skip)
                                  have H' := Aside0.mk H
                                  clear H
                                  go_wp2
                                  go_meet
                                  case rel => exact ⟨_, (true), (by first | rfl | (simp; done) | (simp [*]; done)), H', ⟨by have := HJ4.out; have := HK2.out; first | omega | exact Nat.le_refl _⟩, ⟨by (with_reducible repeat (first | apply Kd.S_alloc | apply Kd.S_drewN | apply Kd.S_drew)); exact Kd.S_mono HO182.out (fun _ hk => ⟨hk.1.2, hk.2⟩)⟩, ⟨by (with_reducible repeat (first | apply Kd.S_alloc | apply Kd.S_drewN | apply Kd.S_drew)); exact Kd.S_mono HO186.out (fun _ hk => ⟨hk.1.2, hk.2⟩)⟩, ⟨by (with_reducible repeat (first | apply Kd.S_alloc | apply Kd.S_drewN | apply Kd.S_drew)); exact Kd.S_mono HO190.out (fun _ hk => ⟨hk.1.2, hk.2⟩)⟩, ⟨by repeat (first | (with_reducible exact HR159.out) | (with_reducible refine Kd.C_alloc ?_ _) | (with_reducible refine Kd.C_drewN ?_ _) | (with_reducible refine Kd.C_drew ?_) | exact HR159.out)⟩, ⟨by repeat (first | (with_reducible exact HR172.out) | (with_reducible refine Kd.C_alloc ?_ _) | (with_reducible refine Kd.C_drewN ?_ _) | (with_reducible refine Kd.C_drew ?_) | exact HR172.out)⟩, ⟨by repeat (first | (with_reducible first | exact HB.out | apply below_alloc | apply pw_below_drewN | apply below_drew1) | exact HB.out)⟩⟩
                              case rest =>
                                clear HC45
                                try clear c1
                                try clear p1
                                try clear q1
                                try clear hx1
                                try clear c2
                                try clear p2
                                try clear q2
                                try clear c3
                                try clear p3
                                try clear q3
                                try clear hx3
                                try clear c5
                                try clear c6
                                try clear c6b0
                                try clear c6b1
                                try clear p6
                                try clear c7
                                try clear c9
                                try clear c10
                                try clear c11
                                try clear c13
                                try clear c13b0
                                try clear c13b1
                                try clear c14
                                try clear c14b0
                                try clear c14b1
                                try clear c15
                                try clear c16
                                try clear c17
                                try clear c17b0
                                try clear p17
                                try clear q17
                                try clear hx17
                                try clear c18
                                try clear c18b0
                                try clear c18b1
                                try clear c19
                                try clear c19b0
                                try clear c19b1
                                try clear q24
                                try clear q30
                                try clear c34
                                try clear c34b0
                                try clear c35
                                try clear c35b0
                                try clear c36
                                try clear c36b0
                                try clear c37
                                try clear c37b0
                                try clear c38
                                try clear c38b0
                                try clear p39
                                try clear q39
                                try clear hx39
                                try clear hf39
                                try clear c50
                                try clear c50b0
                                try clear c50b1
                                try clear c51
                                try clear c51b0
                                try clear c51b1
                                try clear c52
                                try clear c52b0
                                try clear c52b1
                                try clear c53
                                try clear c53b0
                                try clear c53b1
                                try clear c54
                                try clear c54b0
                                try clear c54b1
                                try clear hx176_0
                                try clear hx177_0
                                try clear hx39_0
                                try clear p176
                                try clear p177
                                try clear p2
                                try clear p39
                                try clear p6
                                try clear q176
                                try clear q177
                                try clear q2
                                try clear q24
                                try clear q3
                                try clear q30
                                try clear q39
                                obtain ⟨kq, x128_44, rfl, HA, HJ44, HO_15, HO_17, HO_19, HR159, HR172, HB⟩ := hcut
                                cases kq with
                                | zero => exact absurd HA.out (by simp [flittinglaw03_RsSums.j2])
                                | succ kj44 =>
                                  have H := HA.out
                                  clear HA
                                  simp only [flittinglaw03_RsSums.j2] at H
                                  by_cases c61 : x128_44 = true
                                  · subst c61
                                    have H1 : (some false) = some r := by rw [if_pos rfl] at H; exact H
                                    clear H
                                    have H := H1
                                    clear H1
                                    obtain rfl := Option.some.inj H
                                    go_wp2
                                    go_ret
                                    exact ⟨by first | rfl | (simp [errW_none, errW_some] <;> rfl) | (simp only [← hji12]; first | rfl | (simp [errW_none, errW_some] <;> rfl)) | (simp [*, errW_none, errW_some] <;> rfl), by repeat (first | (with_reducible first | exact HB.out | apply below_alloc | apply pw_below_drewN | apply below_drew1) | exact HB.out)⟩
                                  · replace c61 := Bool.eq_false_iff.mpr c61
                                    subst c61
                                    have H1 : (flittinglaw03_RsSums.l1 kj44 (wrap64 ((wrap64 (Int.tmod a0 4)) + 1)) (wrap64 (Int.tmod a1 4)) t179 t183 t187 0) = some r := by rw [if_neg (show ¬ (false = true) by decide)] at H; exact H
                                    clear H
                                    have H := H1
                                    clear H1
                                    have H' := Aside0.mk H
                                    clear H
                                    go_wp2
                                    go_loopg [21] kj44 (fun kq v21 w' => ∃ (x21_4 : Int), v21 = .int .i64 x21_4 ∧ Aside0 (flittinglaw03_RsSums.l1 kq (wrap64 ((wrap64 (Int.tmod a0 4)) + 1)) (wrap64 (Int.tmod a1 4)) t179 t183 t187 x21_4 = some r) ∧ Aside0 (kq ≤ kj44) ∧ Aside0 (Kd.S (Kd.slice 5 (Kd.int .u8)) 22 w' w.heap.size (fun k_ => some k_ ≠ (v185 : Value).ownBlock ∧ some k_ ≠ (v189 : Value).ownBlock) v181 t179) ∧ Aside0 (Kd.S (Kd.slice 5 (Kd.int .u8)) 22 w' w.heap.size (fun k_ => some k_ ≠ (v181 : Value).ownBlock ∧ some k_ ≠ (v189 : Value).ownBlock) v185 t183) ∧ Aside0 (Kd.S (Kd.slice 5 (Kd.int .u8)) 22 w' w.heap.size (fun k_ => some k_ ≠ (v181 : Value).ownBlock ∧ some k_ ≠ (v185 : Value).ownBlock) v189 t187) ∧ Aside0 (Kd.C (Kd.int .u8) w' Ao25 y156.length y156) ∧ Aside0 (Kd.C (Kd.int .u8) w' Ao31 y169.length y169) ∧ Aside0 (Below w.heap.size w w'))
                                    case atStart => exact ⟨(0), (by first | rfl | (simp; done) | (simp [*]; done)), H', ⟨Nat.le_refl _⟩, ⟨by (with_reducible repeat (first | apply Kd.S_alloc | apply Kd.S_drewN | apply Kd.S_drew)); exact HO_15.out⟩, ⟨by (with_reducible repeat (first | apply Kd.S_alloc | apply Kd.S_drewN | apply Kd.S_drew)); exact HO_17.out⟩, ⟨by (with_reducible repeat (first | apply Kd.S_alloc | apply Kd.S_drewN | apply Kd.S_drew)); exact HO_19.out⟩, ⟨by repeat (first | (with_reducible exact HR159.out) | (with_reducible refine Kd.C_alloc ?_ _) | (with_reducible refine Kd.C_drewN ?_ _) | (with_reducible refine Kd.C_drew ?_) | exact HR159.out)⟩, ⟨by repeat (first | (with_reducible exact HR172.out) | (with_reducible refine Kd.C_alloc ?_ _) | (with_reducible refine Kd.C_drewN ?_ _) | (with_reducible refine Kd.C_drew ?_) | exact HR172.out)⟩, ⟨by repeat (first | (with_reducible first | exact HB.out | apply below_alloc | apply pw_below_drewN | apply below_drew1) | exact HB.out)⟩⟩
                                    case round =>
                                      clear H'
                                      try clear c1
                                      try clear p1
                                      try clear q1
                                      try clear hx1
                                      try clear c2
                                      try clear p2
                                      try clear q2
                                      try clear c3
                                      try clear p3
                                      try clear q3
                                      try clear hx3
                                      try clear c5
                                      try clear c6
                                      try clear c6b0
                                      try clear c6b1
                                      try clear p6
                                      try clear c7
                                      try clear c9
                                      try clear c10
                                      try clear c11
                                      try clear c13
                                      try clear c13b0
                                      try clear c13b1
                                      try clear c14
                                      try clear c14b0
                                      try clear c14b1
                                      try clear c15
                                      try clear c16
                                      try clear c17
                                      try clear c17b0
                                      try clear p17
                                      try clear q17
                                      try clear hx17
                                      try clear c18
                                      try clear c18b0
                                      try clear c18b1
                                      try clear c19
                                      try clear c19b0
                                      try clear c19b1
                                      try clear q24
                                      try clear q30
                                      try clear c34
                                      try clear c34b0
                                      try clear c35
                                      try clear c35b0
                                      try clear c36
                                      try clear c36b0
                                      try clear c37
                                      try clear c37b0
                                      try clear c38
                                      try clear c38b0
                                      try clear p39
                                      try clear q39
                                      try clear hx39
                                      try clear hf39
                                      try clear c50
                                      try clear c50b0
                                      try clear c50b1
                                      try clear c51
                                      try clear c51b0
                                      try clear c51b1
                                      try clear c52
                                      try clear c52b0
                                      try clear c52b1
                                      try clear c53
                                      try clear c53b0
                                      try clear c53b1
                                      try clear c54
                                      try clear c54b0
                                      try clear c54b1
                                      try clear c61
                                      try clear hx176_0
                                      try clear hx177_0
                                      try clear hx39_0
                                      try clear p1
                                      try clear p17
                                      try clear p176
                                      try clear p177
                                      try clear p2
                                      try clear p3
                                      try clear p39
                                      try clear p6
                                      try clear q1
                                      try clear q17
                                      try clear q176
                                      try clear q177
                                      try clear q2
                                      try clear q24
                                      try clear q3
                                      try clear q30
                                      try clear q39
                                      obtain ⟨x21_4, rfl, HA, HK4, HO_15, HO_17, HO_19, HR159, HR172, HB⟩ := hrel
                                      cases gk with
                                      | zero => exact absurd HA.out (by simp [flittinglaw03_RsSums.l1])
                                      | succ k4 =>
                                        have H := HA.out
                                        clear HA
                                        simp only [flittinglaw03_RsSums.l1] at H
                                        by_cases c62 : x21_4 < (wrap64 ((wrap64 ((wrap64 (Int.tmod a0 4)) + 1)) + (wrap64 (Int.tmod a1 4))))
                                        · rw [if_pos c62] at H
                                          have c62b0 : decide (x21_4 < (wrap64 ((wrap64 ((wrap64 (Int.tmod a0 4)) + 1)) + (wrap64 (Int.tmod a1 4))))) = true := decide_eq_true c62
                                          clear c62
                                          have H' := Aside0.mk H
                                          clear H
                                          go_wp2
                                          go_loopg [22] k4 (fun kq v22 w' => ∃ (x22_5 : Int), v22 = .int .i64 x22_5 ∧ Aside0 (flittinglaw03_RsSums.l2 kq (wrap64 ((wrap64 (Int.tmod a0 4)) + 1)) (wrap64 (Int.tmod a1 4)) t179 t183 t187 x21_4 x22_5 = some r) ∧ Aside0 (kq ≤ k4) ∧ Aside0 (Kd.S (Kd.slice 5 (Kd.int .u8)) 22 w' w.heap.size (fun k_ => some k_ ≠ (v185 : Value).ownBlock ∧ some k_ ≠ (v189 : Value).ownBlock) v181 t179) ∧ Aside0 (Kd.S (Kd.slice 5 (Kd.int .u8)) 22 w' w.heap.size (fun k_ => some k_ ≠ (v181 : Value).ownBlock ∧ some k_ ≠ (v189 : Value).ownBlock) v185 t183) ∧ Aside0 (Kd.S (Kd.slice 5 (Kd.int .u8)) 22 w' w.heap.size (fun k_ => some k_ ≠ (v181 : Value).ownBlock ∧ some k_ ≠ (v185 : Value).ownBlock) v189 t187) ∧ Aside0 (Kd.C (Kd.int .u8) w' Ao25 y156.length y156) ∧ Aside0 (Kd.C (Kd.int .u8) w' Ao31 y169.length y169) ∧ Aside0 (Below w.heap.size w w'))
                                          case atStart => exact ⟨(0), (by first | rfl | (simp; done) | (simp [*]; done)), H', ⟨Nat.le_refl _⟩, ⟨by (with_reducible repeat (first | apply Kd.S_alloc | apply Kd.S_drewN | apply Kd.S_drew)); exact HO_15.out⟩, ⟨by (with_reducible repeat (first | apply Kd.S_alloc | apply Kd.S_drewN | apply Kd.S_drew)); exact HO_17.out⟩, ⟨by (with_reducible repeat (first | apply Kd.S_alloc | apply Kd.S_drewN | apply Kd.S_drew)); exact HO_19.out⟩, ⟨by repeat (first | (with_reducible exact HR159.out) | (with_reducible refine Kd.C_alloc ?_ _) | (with_reducible refine Kd.C_drewN ?_ _) | (with_reducible refine Kd.C_drew ?_) | exact HR159.out)⟩, ⟨by repeat (first | (with_reducible exact HR172.out) | (with_reducible refine Kd.C_alloc ?_ _) | (with_reducible refine Kd.C_drewN ?_ _) | (with_reducible refine Kd.C_drew ?_) | exact HR172.out)⟩, ⟨by repeat (first | (with_reducible first | exact HB.out | apply below_alloc | apply pw_below_drewN | apply below_drew1) | exact HB.out)⟩⟩
                                          case round =>
                                            clear H'
                                            try clear c1
                                            try clear p1
                                            try clear q1
                                            try clear hx1
                                            try clear c2
                                            try clear p2
                                            try clear q2
                                            try clear c3
                                            try clear p3
                                            try clear q3
                                            try clear hx3
                                            try clear c5
                                            try clear c6
                                            try clear c6b0
                                            try clear c6b1
                                            try clear p6
                                            try clear c7
                                            try clear c9
                                            try clear c10
                                            try clear c11
                                            try clear c13
                                            try clear c13b0
                                            try clear c13b1
                                            try clear c14
                                            try clear c14b0
                                            try clear c14b1
                                            try clear c15
                                            try clear c16
                                            try clear c17
                                            try clear c17b0
                                            try clear p17
                                            try clear q17
                                            try clear hx17
                                            try clear c18
                                            try clear c18b0
                                            try clear c18b1
                                            try clear c19
                                            try clear c19b0
                                            try clear c19b1
                                            try clear q24
                                            try clear q30
                                            try clear c34
                                            try clear c34b0
                                            try clear c35
                                            try clear c35b0
                                            try clear c36
                                            try clear c36b0
                                            try clear c37
                                            try clear c37b0
                                            try clear c38
                                            try clear c38b0
                                            try clear p39
                                            try clear q39
                                            try clear hx39
                                            try clear hf39
                                            try clear c50
                                            try clear c50b0
                                            try clear c50b1
                                            try clear c51
                                            try clear c51b0
                                            try clear c51b1
                                            try clear c52
                                            try clear c52b0
                                            try clear c52b1
                                            try clear c53
                                            try clear c53b0
                                            try clear c53b1
                                            try clear c54
                                            try clear c54b0
                                            try clear c54b1
                                            try clear c61
                                            try clear c62
                                            try clear c62b0
                                            try clear hx176_0
                                            try clear hx177_0
                                            try clear hx39_0
                                            try clear p1
                                            try clear p17
                                            try clear p176
                                            try clear p177
                                            try clear p2
                                            try clear p3
                                            try clear p39
                                            try clear p6
                                            try clear q1
                                            try clear q17
                                            try clear q176
                                            try clear q177
                                            try clear q2
                                            try clear q24
                                            try clear q3
                                            try clear q30
                                            try clear q39
                                            obtain ⟨x22_5, rfl, HA, HK5, HO_15, HO_17, HO_19, HR159, HR172, HB⟩ := hrel
                                            cases gk with
                                            | zero => exact absurd HA.out (by simp [flittinglaw03_RsSums.l2])
                                            | succ k5 =>
                                              have H := HA.out
                                              clear HA
                                              simp only [flittinglaw03_RsSums.l2] at H
                                              by_cases c63 : x22_5 < 8
                                              · rw [if_pos c63] at H
                                                have c63b0 : decide (x22_5 < 8) = true := decide_eq_true c63
                                                clear c63
                                                by_cases c64 : 0 ≤ x21_4
                                                · rw [if_pos c64] at H
                                                  have c64b0 : decide (0 ≤ x21_4) = true := decide_eq_true c64
                                                  clear c64
                                                  by_cases c65 : x21_4 < (t179.length : Int)
                                                  · rw [if_pos c65] at H
                                                    have c65b0 : decide (x21_4 < (t179.length : Int)) = true := decide_eq_true c65
                                                    clear c65
                                                    by_cases c66 : 0 ≤ x22_5
                                                    · rw [if_pos c66] at H
                                                      have c66b0 : decide (0 ≤ x22_5) = true := decide_eq_true c66
                                                      clear c66
                                                      by_cases c67 : x22_5 < ((rd_L1 t179 x21_4).length : Int)
                                                      · rw [if_pos c67] at H
                                                        have c67b0 : decide (x22_5 < ((rd_L1 t179 x21_4).length : Int)) = true := decide_eq_true c67
                                                        clear c67
                                                        by_cases c68 : x21_4 < (t183.length : Int)
                                                        · rw [if_pos c68] at H
                                                          have c68b0 : decide (x21_4 < (t183.length : Int)) = true := decide_eq_true c68
                                                          clear c68
                                                          by_cases c69 : x22_5 < ((rd_L1 t183 x21_4).length : Int)
                                                          · rw [if_pos c69] at H
                                                            have c69b0 : decide (x22_5 < ((rd_L1 t183 x21_4).length : Int)) = true := decide_eq_true c69
                                                            clear c69
                                                            by_cases c70 : x21_4 < (t187.length : Int)
                                                            · rw [if_pos c70] at H
                                                              have c70b0 : decide (x21_4 < (t187.length : Int)) = true := decide_eq_true c70
                                                              clear c70
                                                              by_cases c71 : x22_5 < ((rd_L1 t187 x21_4).length : Int)
                                                              · rw [if_pos c71] at H
                                                                have c71b0 : decide (x22_5 < ((rd_L1 t187 x21_4).length : Int)) = true := decide_eq_true c71
                                                                clear c71
                                                                by_cases c72 : (Go.bits .xor .u8 (rd (rd_L1 t179 x21_4) x22_5) (rd (rd_L1 t183 x21_4) x22_5)) = (rd (rd_L1 t187 x21_4) x22_5)
                                                                · rw [if_pos c72] at H
                                                                  have c72b0 : ((Go.bits .xor .u8 (rd (rd_L1 t179 x21_4) x22_5) (rd (rd_L1 t183 x21_4) x22_5)) == (rd (rd_L1 t187 x21_4) x22_5)) = true := beq_iff_eq.mpr c72
                                                                  have c72b1 : ((Go.bits .xor .u8 (rd (rd_L1 t179 x21_4) x22_5) (rd (rd_L1 t183 x21_4) x22_5)) != (rd (rd_L1 t187 x21_4) x22_5)) = false := bne_eq_false_iff_eq.mpr c72
                                                                  clear c72
                                                                  have H' := Aside0.mk H
                                                                  clear H
                                                                  try go_wp2
                                                                  have n0_ := Aside0.mk (Kd.S_drew HO_15.out)
                                                                  have n1_ := Aside0.mk (Kd.S_drew HO_17.out)
                                                                  have n2_ := Aside0.mk (Kd.S_drew HO_19.out)
                                                                  have n3_ := Aside0.mk (Kd.C_drew HR159.out)
                                                                  have n4_ := Aside0.mk (Kd.C_drew HR172.out)
                                                                  have n5_ := Aside0.mk (below_drew1 HB.out)
                                                                  clear HO_15
                                                                  clear HO_17
                                                                  clear HO_19
                                                                  clear HR159
                                                                  clear HR172
                                                                  clear HB
                                                                  have HO_15 := n0_
                                                                  have HO_17 := n1_
                                                                  have HO_19 := n2_
                                                                  have HR159 := n3_
                                                                  have HR172 := n4_
                                                                  have HB := n5_
                                                                  clear n0_ n1_ n2_ n3_ n4_ n5_
                                                                  obtain ⟨Ao74, co74, eo74⟩ := Kd.S_slice HO_15.out
                                                                  (first | subst eo74 | (injection eo74 with f1_ f2_ f3_; have f4_ := f1_.symm; have f5_ := f3_.symm; clear f1_ f2_ f3_; subst f4_; subst f5_))
                                                                  have p192 : 0 ≤ (x21_4 : Int) := of_decide_eq_true (by first | (with_reducible assumption) | assumption)
                                                                  have q192 : x21_4 < (t179.length : Int) := of_decide_eq_true (by first | (with_reducible assumption) | assumption)
                                                                  obtain ⟨ad192, A192_0, c192_0, e192, hx192_0, hl192_0, hi192_0⟩ := at_L1 (Kd.S_reads' HO_15.out).2.2 x21_4 p192 q192
                                                                  cases e192
                                                                  obtain ⟨ce192, hce192, hMe192, hcc192⟩ := Kd.S_get HO_15.out [] x21_4 p192 (by first | exact q192 | exact of_decide_eq_true (by first | (with_reducible assumption) | assumption) | (have e_ := (Kd.S_reads' HO_15.out).1; omega))
                                                                  obtain ⟨ve192_0, rfl, ge192_0⟩ := hMe192
                                                                  have hv192_0 := hcc192 0 _ rfl
                                                                  rw [Nat.add_zero, show ((Kd.slice 5 (Kd.int .u8))).sz = 1 from rfl, Nat.mul_one] at hv192_0
                                                                  replace hv192_0 := Option.some.inj (hv192_0.symm.trans hx192_0)
                                                                  rw [hv192_0] at ge192_0
                                                                  have HL192_0 := Aside0.mk (show Kd.R (Kd.int .u8) 5 _ _ _ _ (rd_L1 t179 x21_4) from ge192_0)
                                                                  clear hv192_0 ge192_0
                                                                  clear hcc192 hce192
                                                                  have HR192_0 := Aside0.mk hi192_0
                                                                  have HC192_0 := Aside0.mk hl192_0
                                                                  clear hi192_0 hl192_0
                                                                  replace p192 := eq_true p192
                                                                  replace q192 := eq_true q192
                                                                  have p193 : 0 ≤ (x22_5 : Int) := of_decide_eq_true (by first | (with_reducible assumption) | assumption)
                                                                  have q193 : x22_5 < ((rd_L1 t179 x21_4).length : Int) := of_decide_eq_true (by first | (with_reducible assumption) | assumption)
                                                                  obtain ⟨ad193, e193, hx193_0⟩ := Kd.at_int (by repeat (first | (with_reducible exact HR192_0.out) | (with_reducible refine Kd.C_alloc ?_ _) | (with_reducible refine Kd.C_drewN ?_ _) | (with_reducible refine Kd.C_drew ?_) | exact HR192_0.out)) x22_5 p193 q193
                                                                  cases e193
                                                                  replace p193 := eq_true p193
                                                                  replace q193 := eq_true q193
                                                                  obtain ⟨Ao75, co75, eo75⟩ := Kd.S_slice HO_17.out
                                                                  (first | subst eo75 | (injection eo75 with f1_ f2_ f3_; have f4_ := f1_.symm; have f5_ := f3_.symm; clear f1_ f2_ f3_; subst f4_; subst f5_))
                                                                  have p194 : 0 ≤ (x21_4 : Int) := of_decide_eq_true (by first | (with_reducible assumption) | assumption)
                                                                  have q194 : x21_4 < (t183.length : Int) := of_decide_eq_true (by first | (with_reducible assumption) | assumption)
                                                                  obtain ⟨ad194, A194_0, c194_0, e194, hx194_0, hl194_0, hi194_0⟩ := at_L1 (Kd.S_reads' HO_17.out).2.2 x21_4 p194 q194
                                                                  cases e194
                                                                  obtain ⟨ce194, hce194, hMe194, hcc194⟩ := Kd.S_get HO_17.out [] x21_4 p194 (by first | exact q194 | exact of_decide_eq_true (by first | (with_reducible assumption) | assumption) | (have e_ := (Kd.S_reads' HO_17.out).1; omega))
                                                                  obtain ⟨ve194_0, rfl, ge194_0⟩ := hMe194
                                                                  have hv194_0 := hcc194 0 _ rfl
                                                                  rw [Nat.add_zero, show ((Kd.slice 5 (Kd.int .u8))).sz = 1 from rfl, Nat.mul_one] at hv194_0
                                                                  replace hv194_0 := Option.some.inj (hv194_0.symm.trans hx194_0)
                                                                  rw [hv194_0] at ge194_0
                                                                  have HL194_0 := Aside0.mk (show Kd.R (Kd.int .u8) 5 _ _ _ _ (rd_L1 t183 x21_4) from ge194_0)
                                                                  clear hv194_0 ge194_0
                                                                  clear hcc194 hce194
                                                                  have HR194_0 := Aside0.mk hi194_0
                                                                  have HC194_0 := Aside0.mk hl194_0
                                                                  clear hi194_0 hl194_0
                                                                  replace p194 := eq_true p194
                                                                  replace q194 := eq_true q194
                                                                  have p195 : 0 ≤ (x22_5 : Int) := of_decide_eq_true (by first | (with_reducible assumption) | assumption)
                                                                  have q195 : x22_5 < ((rd_L1 t183 x21_4).length : Int) := of_decide_eq_true (by first | (with_reducible assumption) | assumption)
                                                                  obtain ⟨ad195, e195, hx195_0⟩ := Kd.at_int (by repeat (first | (with_reducible exact HR194_0.out) | (with_reducible refine Kd.C_alloc ?_ _) | (with_reducible refine Kd.C_drewN ?_ _) | (with_reducible refine Kd.C_drew ?_) | exact HR194_0.out)) x22_5 p195 q195
                                                                  cases e195
                                                                  replace p195 := eq_true p195
                                                                  replace q195 := eq_true q195
                                                                  obtain ⟨Ao76, co76, eo76⟩ := Kd.S_slice HO_19.out
                                                                  (first | subst eo76 | (injection eo76 with f1_ f2_ f3_; have f4_ := f1_.symm; have f5_ := f3_.symm; clear f1_ f2_ f3_; subst f4_; subst f5_))
                                                                  have p196 : 0 ≤ (x21_4 : Int) := of_decide_eq_true (by first | (with_reducible assumption) | assumption)
                                                                  have q196 : x21_4 < (t187.length : Int) := of_decide_eq_true (by first | (with_reducible assumption) | assumption)
                                                                  obtain ⟨ad196, A196_0, c196_0, e196, hx196_0, hl196_0, hi196_0⟩ := at_L1 (Kd.S_reads' HO_19.out).2.2 x21_4 p196 q196
                                                                  cases e196
                                                                  obtain ⟨ce196, hce196, hMe196, hcc196⟩ := Kd.S_get HO_19.out [] x21_4 p196 (by first | exact q196 | exact of_decide_eq_true (by first | (with_reducible assumption) | assumption) | (have e_ := (Kd.S_reads' HO_19.out).1; omega))
                                                                  obtain ⟨ve196_0, rfl, ge196_0⟩ := hMe196
                                                                  have hv196_0 := hcc196 0 _ rfl
                                                                  rw [Nat.add_zero, show ((Kd.slice 5 (Kd.int .u8))).sz = 1 from rfl, Nat.mul_one] at hv196_0
                                                                  replace hv196_0 := Option.some.inj (hv196_0.symm.trans hx196_0)
                                                                  rw [hv196_0] at ge196_0
                                                                  have HL196_0 := Aside0.mk (show Kd.R (Kd.int .u8) 5 _ _ _ _ (rd_L1 t187 x21_4) from ge196_0)
                                                                  clear hv196_0 ge196_0
                                                                  clear hcc196 hce196
                                                                  have HR196_0 := Aside0.mk hi196_0
                                                                  have HC196_0 := Aside0.mk hl196_0
                                                                  clear hi196_0 hl196_0
                                                                  replace p196 := eq_true p196
                                                                  replace q196 := eq_true q196
                                                                  have p197 : 0 ≤ (x22_5 : Int) := of_decide_eq_true (by first | (with_reducible assumption) | assumption)
                                                                  have q197 : x22_5 < ((rd_L1 t187 x21_4).length : Int) := of_decide_eq_true (by first | (with_reducible assumption) | assumption)
                                                                  obtain ⟨ad197, e197, hx197_0⟩ := Kd.at_int (by repeat (first | (with_reducible exact HR196_0.out) | (with_reducible refine Kd.C_alloc ?_ _) | (with_reducible refine Kd.C_drewN ?_ _) | (with_reducible refine Kd.C_drew ?_) | exact HR196_0.out)) x22_5 p197 q197
                                                                  cases e197
                                                                  replace p197 := eq_true p197
                                                                  replace q197 := eq_true q197
                                                                  refine start_ (n := 23) (S := fun w' => w'.cell? (ad192.add (x21_4).toNat) = some (.slice (some ad193) (rd_L1 t179 x21_4).length c192_0) ∧ w'.cell? (ad193.add (x22_5).toNat) = some (.int .u8 (rd (rd_L1 t179 x21_4) x22_5)) ∧ w'.cell? (ad194.add (x21_4).toNat) = some (.slice (some ad195) (rd_L1 t183 x21_4).length c194_0) ∧ w'.cell? (ad195.add (x22_5).toNat) = some (.int .u8 (rd (rd_L1 t183 x21_4) x22_5)) ∧ w'.cell? (ad196.add (x21_4).toNat) = some (.slice (some ad197) (rd_L1 t187 x21_4).length c196_0) ∧ w'.cell? (ad197.add (x22_5).toNat) = some (.int .u8 (rd (rd_L1 t187 x21_4) x22_5))) (ds := []) #[false, false, false, false, false, false, false, false, false, false, false, false, false, false, false, false, false, false, false, false, false, false, false] (by kernel_rfl) rfl rfl ⟨hx192_0, hx193_0, hx194_0, hx195_0, hx196_0, hx197_0⟩ (fun hHeld => ?_); refine with_tabW flittinglaw03_RsSums.tab22 flittinglaw03_RsSums.bits22 (fun HT_ HW_ => ?_)
                                                                  generalize wr.drew = w73 at HO_15 HO_17 HO_19 HR159 HR172 HB HL192_0 HL194_0 HL196_0 HR192_0 HR194_0 HR196_0 hx192_0 hx193_0 hx194_0 hx195_0 hx196_0 hx197_0 hHeld ⊢
                                                                  refine pure_ (i := 0) (N := some 140) (v := ?_) (a' := ?_) #[true, false, false, false, false, false, false, false, false, false, false, false, false, false, false, false, false, false, false, false, false, false, false] rfl rfl (any_of HT_.out (by kernel_rfl)) (fun _ _ _ h => h) (Or.inl ⟨by rfl, ?_⟩) ?_ ?_
                                                                  rotate_left
                                                                  · intro w'
                                                                    go_simp
                                                                    with_reducible rfl
                                                                  rotate_left
                                                                  · simp only [Act.put, List.setIfInBounds_toArray, List.set_cons_zero, List.set_cons_succ, i64_w, i32_w]
                                                                    rfl
                                                                  refine pure_ (i := 1) (N := some 141) (v := ?_) (a' := ?_) #[true, true, false, false, false, false, false, false, false, false, false, false, false, false, false, false, false, false, false, false, false, false, false] rfl rfl (any_of HT_.out (by kernel_rfl)) (fun _ _ _ h => h) (Or.inl ⟨by rfl, ?_⟩) ?_ ?_
                                                                  rotate_left
                                                                  · intro w'
                                                                    go_simp
                                                                    with_reducible rfl
                                                                  rotate_left
                                                                  · simp only [Act.put, List.setIfInBounds_toArray, List.set_cons_zero, List.set_cons_succ, i64_w, i32_w]
                                                                    rfl
                                                                  refine pure_ (i := 2) (N := some 142) (v := ?_) (a' := ?_) #[true, true, true, false, false, false, false, false, false, false, false, false, false, false, false, false, false, false, false, false, false, false, false] rfl rfl (any_of HT_.out (by kernel_rfl)) (fun _ _ _ h => h) (Or.inl ⟨by rfl, ?_⟩) ?_ ?_
                                                                  rotate_left
                                                                  · intro w'
                                                                    go_simp
                                                                    with_reducible rfl
                                                                  rotate_left
                                                                  · simp only [Act.put, List.setIfInBounds_toArray, List.set_cons_zero, List.set_cons_succ, i64_w, i32_w]
                                                                    rfl
                                                                  refine pure_ (i := 4) (N := some 144) (v := ?_) (a' := ?_) #[true, true, true, false, true, false, false, false, false, false, false, false, false, false, false, false, false, false, false, false, false, false, false] rfl rfl (any_of HT_.out (by kernel_rfl)) (fun _ _ _ h => h) (Or.inl ⟨by rfl, ?_⟩) ?_ ?_
                                                                  rotate_left
                                                                  · intro w'
                                                                    go_simp
                                                                    with_reducible rfl
                                                                  rotate_left
                                                                  · simp only [Act.put, List.setIfInBounds_toArray, List.set_cons_zero, List.set_cons_succ, i64_w, i32_w]
                                                                    rfl
                                                                  refine pure_ (i := 7) (N := some 147) (v := ?_) (a' := ?_) #[true, true, true, false, true, false, false, true, false, false, false, false, false, false, false, false, false, false, false, false, false, false, false] rfl rfl (any_of HT_.out (by kernel_rfl)) (fun _ _ _ h => h) (Or.inl ⟨by rfl, ?_⟩) ?_ ?_
                                                                  rotate_left
                                                                  · intro w'
                                                                    go_simp
                                                                    with_reducible rfl
                                                                  rotate_left
                                                                  · simp only [Act.put, List.setIfInBounds_toArray, List.set_cons_zero, List.set_cons_succ, i64_w, i32_w]
                                                                    rfl
                                                                  refine pure_ (i := 8) (N := some 148) (v := ?_) (a' := ?_) #[true, true, true, false, true, false, false, true, true, false, false, false, false, false, false, false, false, false, false, false, false, false, false] rfl rfl (any_of HT_.out (by kernel_rfl)) (fun _ _ _ h => h) (Or.inl ⟨by rfl, ?_⟩) ?_ ?_
                                                                  rotate_left
                                                                  · intro w'
                                                                    go_simp
                                                                    with_reducible rfl
                                                                  rotate_left
                                                                  · simp only [Act.put, List.setIfInBounds_toArray, List.set_cons_zero, List.set_cons_succ, i64_w, i32_w]
                                                                    rfl
                                                                  refine pure_ (i := 9) (N := some 149) (v := ?_) (a' := ?_) #[true, true, true, false, true, false, false, true, true, true, false, false, false, false, false, false, false, false, false, false, false, false, false] rfl rfl (any_of HT_.out (by kernel_rfl)) (fun _ _ _ h => h) (Or.inl ⟨by rfl, ?_⟩) ?_ ?_
                                                                  rotate_left
                                                                  · intro w'
                                                                    go_simp
                                                                    with_reducible rfl
                                                                  rotate_left
                                                                  · simp only [Act.put, List.setIfInBounds_toArray, List.set_cons_zero, List.set_cons_succ, i64_w, i32_w]
                                                                    rfl
                                                                  refine pure_ (i := 11) (N := some 151) (v := ?_) (a' := ?_) #[true, true, true, false, true, false, false, true, true, true, false, true, false, false, false, false, false, false, false, false, false, false, false] rfl rfl (any_of HT_.out (by kernel_rfl)) (fun _ _ _ h => h) (Or.inl ⟨by rfl, ?_⟩) ?_ ?_
                                                                  rotate_left
                                                                  · intro w'
                                                                    go_simp
                                                                    with_reducible rfl
                                                                  rotate_left
                                                                  · simp only [Act.put, List.setIfInBounds_toArray, List.set_cons_zero, List.set_cons_succ, i64_w, i32_w]
                                                                    rfl
                                                                  refine pure_ (i := 15) (N := some 155) (v := ?_) (a' := ?_) #[true, true, true, false, true, false, false, true, true, true, false, true, false, false, false, true, false, false, false, false, false, false, false] rfl rfl (any_of HT_.out (by kernel_rfl)) (fun _ _ _ h => h) (Or.inl ⟨by rfl, ?_⟩) ?_ ?_
                                                                  rotate_left
                                                                  · intro w'
                                                                    go_simp
                                                                    with_reducible rfl
                                                                  rotate_left
                                                                  · simp only [Act.put, List.setIfInBounds_toArray, List.set_cons_zero, List.set_cons_succ, i64_w, i32_w]
                                                                    rfl
                                                                  refine pure_ (i := 16) (N := some 156) (v := ?_) (a' := ?_) #[true, true, true, false, true, false, false, true, true, true, false, true, false, false, false, true, true, false, false, false, false, false, false] rfl rfl (any_of HT_.out (by kernel_rfl)) (fun _ _ _ h => h) (Or.inl ⟨by rfl, ?_⟩) ?_ ?_
                                                                  rotate_left
                                                                  · intro w'
                                                                    go_simp
                                                                    with_reducible rfl
                                                                  rotate_left
                                                                  · simp only [Act.put, List.setIfInBounds_toArray, List.set_cons_zero, List.set_cons_succ, i64_w, i32_w]
                                                                    rfl
                                                                  refine pure_ (i := 17) (N := some 157) (v := ?_) (a' := ?_) #[true, true, true, false, true, false, false, true, true, true, false, true, false, false, false, true, true, true, false, false, false, false, false] rfl rfl (any_of HT_.out (by kernel_rfl)) (fun _ _ _ h => h) (Or.inl ⟨by rfl, ?_⟩) ?_ ?_
                                                                  rotate_left
                                                                  · intro w'
                                                                    go_simp
                                                                    with_reducible rfl
                                                                  rotate_left
                                                                  · simp only [Act.put, List.setIfInBounds_toArray, List.set_cons_zero, List.set_cons_succ, i64_w, i32_w]
                                                                    rfl
                                                                  refine pure_ (i := 19) (N := some 159) (v := ?_) (a' := ?_) #[true, true, true, false, true, false, false, true, true, true, false, true, false, false, false, true, true, true, false, true, false, false, false] rfl rfl (any_of HT_.out (by kernel_rfl)) (fun _ _ _ h => h) (Or.inl ⟨by rfl, ?_⟩) ?_ ?_
                                                                  rotate_left
                                                                  · intro w'
                                                                    go_simp
                                                                    with_reducible rfl
                                                                  rotate_left
                                                                  · simp only [Act.put, List.setIfInBounds_toArray, List.set_cons_zero, List.set_cons_succ, i64_w, i32_w]
                                                                    rfl
                                                                  refine take_ (i := 3) (N := some 143) (v := ?_) (a' := ?_) #[true, true, true, true, true, false, false, true, true, true, false, true, false, false, false, true, true, true, false, true, false, false, false] rfl rfl (take_ofW HT_.out HW_.out (by kernel_rfl)) (fun _ _ _ h => h) (Or.inl ⟨by rfl, ?_⟩) hHeld ?_ ?_
                                                                  rotate_left
                                                                  · rintro w' ⟨s0, s1, s2, s3, s4, s5⟩
                                                                    go_simp
                                                                    with_reducible rfl
                                                                  rotate_left
                                                                  · simp only [Act.put, List.setIfInBounds_toArray, List.set_cons_zero, List.set_cons_succ, i64_w, i32_w]
                                                                    rfl
                                                                  refine pure_ (i := 5) (N := some 145) (v := ?_) (a' := ?_) #[true, true, true, true, true, true, false, true, true, true, false, true, false, false, false, true, true, true, false, true, false, false, false] rfl rfl (any_of HT_.out (by kernel_rfl)) (fun _ _ _ h => h) (Or.inl ⟨by rfl, ?_⟩) ?_ ?_
                                                                  rotate_left
                                                                  · intro w'
                                                                    go_simp
                                                                    with_reducible rfl
                                                                  rotate_left
                                                                  · simp only [Act.put, List.setIfInBounds_toArray, List.set_cons_zero, List.set_cons_succ, i64_w, i32_w]
                                                                    rfl
                                                                  refine take_ (i := 6) (N := some 146) (v := ?_) (a' := ?_) #[true, true, true, true, true, true, true, true, true, true, false, true, false, false, false, true, true, true, false, true, false, false, false] rfl rfl (take_ofW HT_.out HW_.out (by kernel_rfl)) (fun _ _ _ h => h) (Or.inl ⟨by rfl, ?_⟩) hHeld ?_ ?_
                                                                  rotate_left
                                                                  · rintro w' ⟨s0, s1, s2, s3, s4, s5⟩
                                                                    go_simp
                                                                    with_reducible rfl
                                                                  rotate_left
                                                                  · simp only [Act.put, List.setIfInBounds_toArray, List.set_cons_zero, List.set_cons_succ, i64_w, i32_w]
                                                                    rfl
                                                                  refine take_ (i := 10) (N := some 150) (v := ?_) (a' := ?_) #[true, true, true, true, true, true, true, true, true, true, true, true, false, false, false, true, true, true, false, true, false, false, false] rfl rfl (take_ofW HT_.out HW_.out (by kernel_rfl)) (fun _ _ _ h => h) (Or.inl ⟨by rfl, ?_⟩) hHeld ?_ ?_
                                                                  rotate_left
                                                                  · rintro w' ⟨s0, s1, s2, s3, s4, s5⟩
                                                                    go_simp
                                                                    with_reducible rfl
                                                                  rotate_left
                                                                  · simp only [Act.put, List.setIfInBounds_toArray, List.set_cons_zero, List.set_cons_succ, i64_w, i32_w]
                                                                    rfl
                                                                  refine pure_ (i := 12) (N := some 152) (v := ?_) (a' := ?_) #[true, true, true, true, true, true, true, true, true, true, true, true, true, false, false, true, true, true, false, true, false, false, false] rfl rfl (any_of HT_.out (by kernel_rfl)) (fun _ _ _ h => h) (Or.inl ⟨by rfl, ?_⟩) ?_ ?_
                                                                  rotate_left
                                                                  · intro w'
                                                                    go_simp
                                                                    with_reducible rfl
                                                                  rotate_left
                                                                  · simp only [Act.put, List.setIfInBounds_toArray, List.set_cons_zero, List.set_cons_succ, i64_w, i32_w]
                                                                    rfl
                                                                  refine take_ (i := 13) (N := some 153) (v := ?_) (a' := ?_) #[true, true, true, true, true, true, true, true, true, true, true, true, true, true, false, true, true, true, false, true, false, false, false] rfl rfl (take_ofW HT_.out HW_.out (by kernel_rfl)) (fun _ _ _ h => h) (Or.inl ⟨by rfl, ?_⟩) hHeld ?_ ?_
                                                                  rotate_left
                                                                  · rintro w' ⟨s0, s1, s2, s3, s4, s5⟩
                                                                    go_simp
                                                                    with_reducible rfl
                                                                  rotate_left
                                                                  · simp only [Act.put, List.setIfInBounds_toArray, List.set_cons_zero, List.set_cons_succ, i64_w, i32_w]
                                                                    rfl
                                                                  refine pure_ (i := 14) (N := some 154) (v := ?_) (a' := ?_) #[true, true, true, true, true, true, true, true, true, true, true, true, true, true, true, true, true, true, false, true, false, false, false] rfl rfl (any_of HT_.out (by kernel_rfl)) (fun _ _ _ h => h) (Or.inl ⟨by rfl, ?_⟩) ?_ ?_
                                                                  rotate_left
                                                                  · intro w'
                                                                    go_simp
                                                                    with_reducible rfl
                                                                  rotate_left
                                                                  · simp only [Act.put, List.setIfInBounds_toArray, List.set_cons_zero, List.set_cons_succ, i64_w, i32_w]
                                                                    rfl
                                                                  refine take_ (i := 18) (N := some 158) (v := ?_) (a' := ?_) #[true, true, true, true, true, true, true, true, true, true, true, true, true, true, true, true, true, true, true, true, false, false, false] rfl rfl (take_ofW HT_.out HW_.out (by kernel_rfl)) (fun _ _ _ h => h) (Or.inl ⟨by rfl, ?_⟩) hHeld ?_ ?_
                                                                  rotate_left
                                                                  · rintro w' ⟨s0, s1, s2, s3, s4, s5⟩
                                                                    go_simp
                                                                    with_reducible rfl
                                                                  rotate_left
                                                                  · simp only [Act.put, List.setIfInBounds_toArray, List.set_cons_zero, List.set_cons_succ, i64_w, i32_w]
                                                                    rfl
                                                                  refine pure_ (i := 20) (N := some 160) (v := ?_) (a' := ?_) #[true, true, true, true, true, true, true, true, true, true, true, true, true, true, true, true, true, true, true, true, true, false, false] rfl rfl (any_of HT_.out (by kernel_rfl)) (fun _ _ _ h => h) (Or.inl ⟨by rfl, ?_⟩) ?_ ?_
                                                                  rotate_left
                                                                  · intro w'
                                                                    go_simp
                                                                    with_reducible rfl
                                                                  rotate_left
                                                                  · simp only [Act.put, List.setIfInBounds_toArray, List.set_cons_zero, List.set_cons_succ, i64_w, i32_w]
                                                                    rfl
                                                                  refine take_ (i := 21) (N := some 161) (v := ?_) (a' := ?_) #[true, true, true, true, true, true, true, true, true, true, true, true, true, true, true, true, true, true, true, true, true, true, false] rfl rfl (take_ofW HT_.out HW_.out (by kernel_rfl)) (fun _ _ _ h => h) (Or.inl ⟨by rfl, ?_⟩) hHeld ?_ ?_
                                                                  rotate_left
                                                                  · rintro w' ⟨s0, s1, s2, s3, s4, s5⟩
                                                                    go_simp
                                                                    with_reducible rfl
                                                                  rotate_left
                                                                  · simp only [Act.put, List.setIfInBounds_toArray, List.set_cons_zero, List.set_cons_succ, i64_w, i32_w]
                                                                    rfl
                                                                  refine pure_ (i := 22) (N := some 162) (v := ?_) (a' := ?_) #[true, true, true, true, true, true, true, true, true, true, true, true, true, true, true, true, true, true, true, true, true, true, true] rfl rfl (any_of HT_.out (by kernel_rfl)) (fun _ _ _ h => h) (Or.inl ⟨by rfl, ?_⟩) ?_ ?_
                                                                  rotate_left
                                                                  · intro w'
                                                                    go_simp
                                                                    with_reducible rfl
                                                                  rotate_left
                                                                  · simp only [Act.put, List.setIfInBounds_toArray, List.set_cons_zero, List.set_cons_succ, i64_w, i32_w]
                                                                    rfl
                                                                  refine done_ (done_of HT_.out (by kernel_rfl)) ?_
                                                                  try go_wp2
                                                                  go_roundg k5
                                                                  case measure => have := HJ4.out; have := HK2.out; have := HJ44.out; have := HK4.out; have := HK5.out; omega
                                                                  case rel => exact ⟨(wrap64 (x22_5 + 1)), (by first | rfl | (simp; done) | (simp [*]; done)), H', ⟨by have := HJ4.out; have := HK2.out; have := HJ44.out; have := HK4.out; have := HK5.out; omega⟩, ⟨by (with_reducible repeat (first | apply Kd.S_alloc | apply Kd.S_drewN | apply Kd.S_drew)); exact HO_15.out⟩, ⟨by (with_reducible repeat (first | apply Kd.S_alloc | apply Kd.S_drewN | apply Kd.S_drew)); exact HO_17.out⟩, ⟨by (with_reducible repeat (first | apply Kd.S_alloc | apply Kd.S_drewN | apply Kd.S_drew)); exact HO_19.out⟩, ⟨by repeat (first | (with_reducible exact HR159.out) | (with_reducible refine Kd.C_alloc ?_ _) | (with_reducible refine Kd.C_drewN ?_ _) | (with_reducible refine Kd.C_drew ?_) | exact HR159.out)⟩, ⟨by repeat (first | (with_reducible exact HR172.out) | (with_reducible refine Kd.C_alloc ?_ _) | (with_reducible refine Kd.C_drewN ?_ _) | (with_reducible refine Kd.C_drew ?_) | exact HR172.out)⟩, ⟨by repeat (first | (with_reducible first | exact HB.out | apply below_alloc | apply pw_below_drewN | apply below_drew1) | exact HB.out)⟩⟩
                                                                · rw [if_neg c72] at H
                                                                  have c72b0 : ((Go.bits .xor .u8 (rd (rd_L1 t179 x21_4) x22_5) (rd (rd_L1 t183 x21_4) x22_5)) == (rd (rd_L1 t187 x21_4) x22_5)) = false := beq_eq_false_iff_ne.mpr c72
                                                                  have c72b1 : ((Go.bits .xor .u8 (rd (rd_L1 t179 x21_4) x22_5) (rd (rd_L1 t183 x21_4) x22_5)) != (rd (rd_L1 t187 x21_4) x22_5)) = true := bne_iff_ne.mpr c72
                                                                  obtain rfl := Option.some.inj H
                                                                  try go_wp2
                                                                  have n0_ := Aside0.mk (Kd.S_drew HO_15.out)
                                                                  have n1_ := Aside0.mk (Kd.S_drew HO_17.out)
                                                                  have n2_ := Aside0.mk (Kd.S_drew HO_19.out)
                                                                  have n3_ := Aside0.mk (Kd.C_drew HR159.out)
                                                                  have n4_ := Aside0.mk (Kd.C_drew HR172.out)
                                                                  have n5_ := Aside0.mk (below_drew1 HB.out)
                                                                  clear HO_15
                                                                  clear HO_17
                                                                  clear HO_19
                                                                  clear HR159
                                                                  clear HR172
                                                                  clear HB
                                                                  have HO_15 := n0_
                                                                  have HO_17 := n1_
                                                                  have HO_19 := n2_
                                                                  have HR159 := n3_
                                                                  have HR172 := n4_
                                                                  have HB := n5_
                                                                  clear n0_ n1_ n2_ n3_ n4_ n5_
                                                                  obtain ⟨Ao78, co78, eo78⟩ := Kd.S_slice HO_15.out
                                                                  (first | subst eo78 | (injection eo78 with f1_ f2_ f3_; have f4_ := f1_.symm; have f5_ := f3_.symm; clear f1_ f2_ f3_; subst f4_; subst f5_))
                                                                  have p192 : 0 ≤ (x21_4 : Int) := of_decide_eq_true (by first | (with_reducible assumption) | assumption)
                                                                  have q192 : x21_4 < (t179.length : Int) := of_decide_eq_true (by first | (with_reducible assumption) | assumption)
                                                                  obtain ⟨ad192, A192_0, c192_0, e192, hx192_0, hl192_0, hi192_0⟩ := at_L1 (Kd.S_reads' HO_15.out).2.2 x21_4 p192 q192
                                                                  cases e192
                                                                  obtain ⟨ce192, hce192, hMe192, hcc192⟩ := Kd.S_get HO_15.out [] x21_4 p192 (by first | exact q192 | exact of_decide_eq_true (by first | (with_reducible assumption) | assumption) | (have e_ := (Kd.S_reads' HO_15.out).1; omega))
                                                                  obtain ⟨ve192_0, rfl, ge192_0⟩ := hMe192
                                                                  have hv192_0 := hcc192 0 _ rfl
                                                                  rw [Nat.add_zero, show ((Kd.slice 5 (Kd.int .u8))).sz = 1 from rfl, Nat.mul_one] at hv192_0
                                                                  replace hv192_0 := Option.some.inj (hv192_0.symm.trans hx192_0)
                                                                  rw [hv192_0] at ge192_0
                                                                  have HL192_0 := Aside0.mk (show Kd.R (Kd.int .u8) 5 _ _ _ _ (rd_L1 t179 x21_4) from ge192_0)
                                                                  clear hv192_0 ge192_0
                                                                  clear hcc192 hce192
                                                                  have HR192_0 := Aside0.mk hi192_0
                                                                  have HC192_0 := Aside0.mk hl192_0
                                                                  clear hi192_0 hl192_0
                                                                  replace p192 := eq_true p192
                                                                  replace q192 := eq_true q192
                                                                  have p193 : 0 ≤ (x22_5 : Int) := of_decide_eq_true (by first | (with_reducible assumption) | assumption)
                                                                  have q193 : x22_5 < ((rd_L1 t179 x21_4).length : Int) := of_decide_eq_true (by first | (with_reducible assumption) | assumption)
                                                                  obtain ⟨ad193, e193, hx193_0⟩ := Kd.at_int (by repeat (first | (with_reducible exact HR192_0.out) | (with_reducible refine Kd.C_alloc ?_ _) | (with_reducible refine Kd.C_drewN ?_ _) | (with_reducible refine Kd.C_drew ?_) | exact HR192_0.out)) x22_5 p193 q193
                                                                  cases e193
                                                                  replace p193 := eq_true p193
                                                                  replace q193 := eq_true q193
                                                                  obtain ⟨Ao79, co79, eo79⟩ := Kd.S_slice HO_17.out
                                                                  (first | subst eo79 | (injection eo79 with f1_ f2_ f3_; have f4_ := f1_.symm; have f5_ := f3_.symm; clear f1_ f2_ f3_; subst f4_; subst f5_))
                                                                  have p194 : 0 ≤ (x21_4 : Int) := of_decide_eq_true (by first | (with_reducible assumption) | assumption)
                                                                  have q194 : x21_4 < (t183.length : Int) := of_decide_eq_true (by first | (with_reducible assumption) | assumption)
                                                                  obtain ⟨ad194, A194_0, c194_0, e194, hx194_0, hl194_0, hi194_0⟩ := at_L1 (Kd.S_reads' HO_17.out).2.2 x21_4 p194 q194
                                                                  cases e194
                                                                  obtain ⟨ce194, hce194, hMe194, hcc194⟩ := Kd.S_get HO_17.out [] x21_4 p194 (by first | exact q194 | exact of_decide_eq_true (by first | (with_reducible assumption) | assumption) | (have e_ := (Kd.S_reads' HO_17.out).1; omega))
                                                                  obtain ⟨ve194_0, rfl, ge194_0⟩ := hMe194
                                                                  have hv194_0 := hcc194 0 _ rfl
                                                                  rw [Nat.add_zero, show ((Kd.slice 5 (Kd.int .u8))).sz = 1 from rfl, Nat.mul_one] at hv194_0
                                                                  replace hv194_0 := Option.some.inj (hv194_0.symm.trans hx194_0)
                                                                  rw [hv194_0] at ge194_0
                                                                  have HL194_0 := Aside0.mk (show Kd.R (Kd.int .u8) 5 _ _ _ _ (rd_L1 t183 x21_4) from ge194_0)
                                                                  clear hv194_0 ge194_0
                                                                  clear hcc194 hce194
                                                                  have HR194_0 := Aside0.mk hi194_0
                                                                  have HC194_0 := Aside0.mk hl194_0
                                                                  clear hi194_0 hl194_0
                                                                  replace p194 := eq_true p194
                                                                  replace q194 := eq_true q194
                                                                  have p195 : 0 ≤ (x22_5 : Int) := of_decide_eq_true (by first | (with_reducible assumption) | assumption)
                                                                  have q195 : x22_5 < ((rd_L1 t183 x21_4).length : Int) := of_decide_eq_true (by first | (with_reducible assumption) | assumption)
                                                                  obtain ⟨ad195, e195, hx195_0⟩ := Kd.at_int (by repeat (first | (with_reducible exact HR194_0.out) | (with_reducible refine Kd.C_alloc ?_ _) | (with_reducible refine Kd.C_drewN ?_ _) | (with_reducible refine Kd.C_drew ?_) | exact HR194_0.out)) x22_5 p195 q195
                                                                  cases e195
                                                                  replace p195 := eq_true p195
                                                                  replace q195 := eq_true q195
                                                                  obtain ⟨Ao80, co80, eo80⟩ := Kd.S_slice HO_19.out
                                                                  (first | subst eo80 | (injection eo80 with f1_ f2_ f3_; have f4_ := f1_.symm; have f5_ := f3_.symm; clear f1_ f2_ f3_; subst f4_; subst f5_))
                                                                  have p196 : 0 ≤ (x21_4 : Int) := of_decide_eq_true (by first | (with_reducible assumption) | assumption)
                                                                  have q196 : x21_4 < (t187.length : Int) := of_decide_eq_true (by first | (with_reducible assumption) | assumption)
                                                                  obtain ⟨ad196, A196_0, c196_0, e196, hx196_0, hl196_0, hi196_0⟩ := at_L1 (Kd.S_reads' HO_19.out).2.2 x21_4 p196 q196
                                                                  cases e196
                                                                  obtain ⟨ce196, hce196, hMe196, hcc196⟩ := Kd.S_get HO_19.out [] x21_4 p196 (by first | exact q196 | exact of_decide_eq_true (by first | (with_reducible assumption) | assumption) | (have e_ := (Kd.S_reads' HO_19.out).1; omega))
                                                                  obtain ⟨ve196_0, rfl, ge196_0⟩ := hMe196
                                                                  have hv196_0 := hcc196 0 _ rfl
                                                                  rw [Nat.add_zero, show ((Kd.slice 5 (Kd.int .u8))).sz = 1 from rfl, Nat.mul_one] at hv196_0
                                                                  replace hv196_0 := Option.some.inj (hv196_0.symm.trans hx196_0)
                                                                  rw [hv196_0] at ge196_0
                                                                  have HL196_0 := Aside0.mk (show Kd.R (Kd.int .u8) 5 _ _ _ _ (rd_L1 t187 x21_4) from ge196_0)
                                                                  clear hv196_0 ge196_0
                                                                  clear hcc196 hce196
                                                                  have HR196_0 := Aside0.mk hi196_0
                                                                  have HC196_0 := Aside0.mk hl196_0
                                                                  clear hi196_0 hl196_0
                                                                  replace p196 := eq_true p196
                                                                  replace q196 := eq_true q196
                                                                  have p197 : 0 ≤ (x22_5 : Int) := of_decide_eq_true (by first | (with_reducible assumption) | assumption)
                                                                  have q197 : x22_5 < ((rd_L1 t187 x21_4).length : Int) := of_decide_eq_true (by first | (with_reducible assumption) | assumption)
                                                                  obtain ⟨ad197, e197, hx197_0⟩ := Kd.at_int (by repeat (first | (with_reducible exact HR196_0.out) | (with_reducible refine Kd.C_alloc ?_ _) | (with_reducible refine Kd.C_drewN ?_ _) | (with_reducible refine Kd.C_drew ?_) | exact HR196_0.out)) x22_5 p197 q197
                                                                  cases e197
                                                                  replace p197 := eq_true p197
                                                                  replace q197 := eq_true q197
                                                                  refine start_ (n := 23) (S := fun w' => w'.cell? (ad192.add (x21_4).toNat) = some (.slice (some ad193) (rd_L1 t179 x21_4).length c192_0) ∧ w'.cell? (ad193.add (x22_5).toNat) = some (.int .u8 (rd (rd_L1 t179 x21_4) x22_5)) ∧ w'.cell? (ad194.add (x21_4).toNat) = some (.slice (some ad195) (rd_L1 t183 x21_4).length c194_0) ∧ w'.cell? (ad195.add (x22_5).toNat) = some (.int .u8 (rd (rd_L1 t183 x21_4) x22_5)) ∧ w'.cell? (ad196.add (x21_4).toNat) = some (.slice (some ad197) (rd_L1 t187 x21_4).length c196_0) ∧ w'.cell? (ad197.add (x22_5).toNat) = some (.int .u8 (rd (rd_L1 t187 x21_4) x22_5))) (ds := []) #[false, false, false, false, false, false, false, false, false, false, false, false, false, false, false, false, false, false, false, false, false, false, false] (by kernel_rfl) rfl rfl ⟨hx192_0, hx193_0, hx194_0, hx195_0, hx196_0, hx197_0⟩ (fun hHeld => ?_); refine with_tabW flittinglaw03_RsSums.tab22 flittinglaw03_RsSums.bits22 (fun HT_ HW_ => ?_)
                                                                  generalize wr.drew = w77 at HO_15 HO_17 HO_19 HR159 HR172 HB HL192_0 HL194_0 HL196_0 HR192_0 HR194_0 HR196_0 hx192_0 hx193_0 hx194_0 hx195_0 hx196_0 hx197_0 hHeld ⊢
                                                                  refine pure_ (i := 0) (N := some 140) (v := ?_) (a' := ?_) #[true, false, false, false, false, false, false, false, false, false, false, false, false, false, false, false, false, false, false, false, false, false, false] rfl rfl (any_of HT_.out (by kernel_rfl)) (fun _ _ _ h => h) (Or.inl ⟨by rfl, ?_⟩) ?_ ?_
                                                                  rotate_left
                                                                  · intro w'
                                                                    go_simp
                                                                    with_reducible rfl
                                                                  rotate_left
                                                                  · simp only [Act.put, List.setIfInBounds_toArray, List.set_cons_zero, List.set_cons_succ, i64_w, i32_w]
                                                                    rfl
                                                                  refine pure_ (i := 1) (N := some 141) (v := ?_) (a' := ?_) #[true, true, false, false, false, false, false, false, false, false, false, false, false, false, false, false, false, false, false, false, false, false, false] rfl rfl (any_of HT_.out (by kernel_rfl)) (fun _ _ _ h => h) (Or.inl ⟨by rfl, ?_⟩) ?_ ?_
                                                                  rotate_left
                                                                  · intro w'
                                                                    go_simp
                                                                    with_reducible rfl
                                                                  rotate_left
                                                                  · simp only [Act.put, List.setIfInBounds_toArray, List.set_cons_zero, List.set_cons_succ, i64_w, i32_w]
                                                                    rfl
                                                                  refine pure_ (i := 2) (N := some 142) (v := ?_) (a' := ?_) #[true, true, true, false, false, false, false, false, false, false, false, false, false, false, false, false, false, false, false, false, false, false, false] rfl rfl (any_of HT_.out (by kernel_rfl)) (fun _ _ _ h => h) (Or.inl ⟨by rfl, ?_⟩) ?_ ?_
                                                                  rotate_left
                                                                  · intro w'
                                                                    go_simp
                                                                    with_reducible rfl
                                                                  rotate_left
                                                                  · simp only [Act.put, List.setIfInBounds_toArray, List.set_cons_zero, List.set_cons_succ, i64_w, i32_w]
                                                                    rfl
                                                                  refine pure_ (i := 4) (N := some 144) (v := ?_) (a' := ?_) #[true, true, true, false, true, false, false, false, false, false, false, false, false, false, false, false, false, false, false, false, false, false, false] rfl rfl (any_of HT_.out (by kernel_rfl)) (fun _ _ _ h => h) (Or.inl ⟨by rfl, ?_⟩) ?_ ?_
                                                                  rotate_left
                                                                  · intro w'
                                                                    go_simp
                                                                    with_reducible rfl
                                                                  rotate_left
                                                                  · simp only [Act.put, List.setIfInBounds_toArray, List.set_cons_zero, List.set_cons_succ, i64_w, i32_w]
                                                                    rfl
                                                                  refine pure_ (i := 7) (N := some 147) (v := ?_) (a' := ?_) #[true, true, true, false, true, false, false, true, false, false, false, false, false, false, false, false, false, false, false, false, false, false, false] rfl rfl (any_of HT_.out (by kernel_rfl)) (fun _ _ _ h => h) (Or.inl ⟨by rfl, ?_⟩) ?_ ?_
                                                                  rotate_left
                                                                  · intro w'
                                                                    go_simp
                                                                    with_reducible rfl
                                                                  rotate_left
                                                                  · simp only [Act.put, List.setIfInBounds_toArray, List.set_cons_zero, List.set_cons_succ, i64_w, i32_w]
                                                                    rfl
                                                                  refine pure_ (i := 8) (N := some 148) (v := ?_) (a' := ?_) #[true, true, true, false, true, false, false, true, true, false, false, false, false, false, false, false, false, false, false, false, false, false, false] rfl rfl (any_of HT_.out (by kernel_rfl)) (fun _ _ _ h => h) (Or.inl ⟨by rfl, ?_⟩) ?_ ?_
                                                                  rotate_left
                                                                  · intro w'
                                                                    go_simp
                                                                    with_reducible rfl
                                                                  rotate_left
                                                                  · simp only [Act.put, List.setIfInBounds_toArray, List.set_cons_zero, List.set_cons_succ, i64_w, i32_w]
                                                                    rfl
                                                                  refine pure_ (i := 9) (N := some 149) (v := ?_) (a' := ?_) #[true, true, true, false, true, false, false, true, true, true, false, false, false, false, false, false, false, false, false, false, false, false, false] rfl rfl (any_of HT_.out (by kernel_rfl)) (fun _ _ _ h => h) (Or.inl ⟨by rfl, ?_⟩) ?_ ?_
                                                                  rotate_left
                                                                  · intro w'
                                                                    go_simp
                                                                    with_reducible rfl
                                                                  rotate_left
                                                                  · simp only [Act.put, List.setIfInBounds_toArray, List.set_cons_zero, List.set_cons_succ, i64_w, i32_w]
                                                                    rfl
                                                                  refine pure_ (i := 11) (N := some 151) (v := ?_) (a' := ?_) #[true, true, true, false, true, false, false, true, true, true, false, true, false, false, false, false, false, false, false, false, false, false, false] rfl rfl (any_of HT_.out (by kernel_rfl)) (fun _ _ _ h => h) (Or.inl ⟨by rfl, ?_⟩) ?_ ?_
                                                                  rotate_left
                                                                  · intro w'
                                                                    go_simp
                                                                    with_reducible rfl
                                                                  rotate_left
                                                                  · simp only [Act.put, List.setIfInBounds_toArray, List.set_cons_zero, List.set_cons_succ, i64_w, i32_w]
                                                                    rfl
                                                                  refine pure_ (i := 15) (N := some 155) (v := ?_) (a' := ?_) #[true, true, true, false, true, false, false, true, true, true, false, true, false, false, false, true, false, false, false, false, false, false, false] rfl rfl (any_of HT_.out (by kernel_rfl)) (fun _ _ _ h => h) (Or.inl ⟨by rfl, ?_⟩) ?_ ?_
                                                                  rotate_left
                                                                  · intro w'
                                                                    go_simp
                                                                    with_reducible rfl
                                                                  rotate_left
                                                                  · simp only [Act.put, List.setIfInBounds_toArray, List.set_cons_zero, List.set_cons_succ, i64_w, i32_w]
                                                                    rfl
                                                                  refine pure_ (i := 16) (N := some 156) (v := ?_) (a' := ?_) #[true, true, true, false, true, false, false, true, true, true, false, true, false, false, false, true, true, false, false, false, false, false, false] rfl rfl (any_of HT_.out (by kernel_rfl)) (fun _ _ _ h => h) (Or.inl ⟨by rfl, ?_⟩) ?_ ?_
                                                                  rotate_left
                                                                  · intro w'
                                                                    go_simp
                                                                    with_reducible rfl
                                                                  rotate_left
                                                                  · simp only [Act.put, List.setIfInBounds_toArray, List.set_cons_zero, List.set_cons_succ, i64_w, i32_w]
                                                                    rfl
                                                                  refine pure_ (i := 17) (N := some 157) (v := ?_) (a' := ?_) #[true, true, true, false, true, false, false, true, true, true, false, true, false, false, false, true, true, true, false, false, false, false, false] rfl rfl (any_of HT_.out (by kernel_rfl)) (fun _ _ _ h => h) (Or.inl ⟨by rfl, ?_⟩) ?_ ?_
                                                                  rotate_left
                                                                  · intro w'
                                                                    go_simp
                                                                    with_reducible rfl
                                                                  rotate_left
                                                                  · simp only [Act.put, List.setIfInBounds_toArray, List.set_cons_zero, List.set_cons_succ, i64_w, i32_w]
                                                                    rfl
                                                                  refine pure_ (i := 19) (N := some 159) (v := ?_) (a' := ?_) #[true, true, true, false, true, false, false, true, true, true, false, true, false, false, false, true, true, true, false, true, false, false, false] rfl rfl (any_of HT_.out (by kernel_rfl)) (fun _ _ _ h => h) (Or.inl ⟨by rfl, ?_⟩) ?_ ?_
                                                                  rotate_left
                                                                  · intro w'
                                                                    go_simp
                                                                    with_reducible rfl
                                                                  rotate_left
                                                                  · simp only [Act.put, List.setIfInBounds_toArray, List.set_cons_zero, List.set_cons_succ, i64_w, i32_w]
                                                                    rfl
                                                                  refine take_ (i := 3) (N := some 143) (v := ?_) (a' := ?_) #[true, true, true, true, true, false, false, true, true, true, false, true, false, false, false, true, true, true, false, true, false, false, false] rfl rfl (take_ofW HT_.out HW_.out (by kernel_rfl)) (fun _ _ _ h => h) (Or.inl ⟨by rfl, ?_⟩) hHeld ?_ ?_
                                                                  rotate_left
                                                                  · rintro w' ⟨s0, s1, s2, s3, s4, s5⟩
                                                                    go_simp
                                                                    with_reducible rfl
                                                                  rotate_left
                                                                  · simp only [Act.put, List.setIfInBounds_toArray, List.set_cons_zero, List.set_cons_succ, i64_w, i32_w]
                                                                    rfl
                                                                  refine pure_ (i := 5) (N := some 145) (v := ?_) (a' := ?_) #[true, true, true, true, true, true, false, true, true, true, false, true, false, false, false, true, true, true, false, true, false, false, false] rfl rfl (any_of HT_.out (by kernel_rfl)) (fun _ _ _ h => h) (Or.inl ⟨by rfl, ?_⟩) ?_ ?_
                                                                  rotate_left
                                                                  · intro w'
                                                                    go_simp
                                                                    with_reducible rfl
                                                                  rotate_left
                                                                  · simp only [Act.put, List.setIfInBounds_toArray, List.set_cons_zero, List.set_cons_succ, i64_w, i32_w]
                                                                    rfl
                                                                  refine take_ (i := 6) (N := some 146) (v := ?_) (a' := ?_) #[true, true, true, true, true, true, true, true, true, true, false, true, false, false, false, true, true, true, false, true, false, false, false] rfl rfl (take_ofW HT_.out HW_.out (by kernel_rfl)) (fun _ _ _ h => h) (Or.inl ⟨by rfl, ?_⟩) hHeld ?_ ?_
                                                                  rotate_left
                                                                  · rintro w' ⟨s0, s1, s2, s3, s4, s5⟩
                                                                    go_simp
                                                                    with_reducible rfl
                                                                  rotate_left
                                                                  · simp only [Act.put, List.setIfInBounds_toArray, List.set_cons_zero, List.set_cons_succ, i64_w, i32_w]
                                                                    rfl
                                                                  refine take_ (i := 10) (N := some 150) (v := ?_) (a' := ?_) #[true, true, true, true, true, true, true, true, true, true, true, true, false, false, false, true, true, true, false, true, false, false, false] rfl rfl (take_ofW HT_.out HW_.out (by kernel_rfl)) (fun _ _ _ h => h) (Or.inl ⟨by rfl, ?_⟩) hHeld ?_ ?_
                                                                  rotate_left
                                                                  · rintro w' ⟨s0, s1, s2, s3, s4, s5⟩
                                                                    go_simp
                                                                    with_reducible rfl
                                                                  rotate_left
                                                                  · simp only [Act.put, List.setIfInBounds_toArray, List.set_cons_zero, List.set_cons_succ, i64_w, i32_w]
                                                                    rfl
                                                                  refine pure_ (i := 12) (N := some 152) (v := ?_) (a' := ?_) #[true, true, true, true, true, true, true, true, true, true, true, true, true, false, false, true, true, true, false, true, false, false, false] rfl rfl (any_of HT_.out (by kernel_rfl)) (fun _ _ _ h => h) (Or.inl ⟨by rfl, ?_⟩) ?_ ?_
                                                                  rotate_left
                                                                  · intro w'
                                                                    go_simp
                                                                    with_reducible rfl
                                                                  rotate_left
                                                                  · simp only [Act.put, List.setIfInBounds_toArray, List.set_cons_zero, List.set_cons_succ, i64_w, i32_w]
                                                                    rfl
                                                                  refine take_ (i := 13) (N := some 153) (v := ?_) (a' := ?_) #[true, true, true, true, true, true, true, true, true, true, true, true, true, true, false, true, true, true, false, true, false, false, false] rfl rfl (take_ofW HT_.out HW_.out (by kernel_rfl)) (fun _ _ _ h => h) (Or.inl ⟨by rfl, ?_⟩) hHeld ?_ ?_
                                                                  rotate_left
                                                                  · rintro w' ⟨s0, s1, s2, s3, s4, s5⟩
                                                                    go_simp
                                                                    with_reducible rfl
                                                                  rotate_left
                                                                  · simp only [Act.put, List.setIfInBounds_toArray, List.set_cons_zero, List.set_cons_succ, i64_w, i32_w]
                                                                    rfl
                                                                  refine pure_ (i := 14) (N := some 154) (v := ?_) (a' := ?_) #[true, true, true, true, true, true, true, true, true, true, true, true, true, true, true, true, true, true, false, true, false, false, false] rfl rfl (any_of HT_.out (by kernel_rfl)) (fun _ _ _ h => h) (Or.inl ⟨by rfl, ?_⟩) ?_ ?_
                                                                  rotate_left
                                                                  · intro w'
                                                                    go_simp
                                                                    with_reducible rfl
                                                                  rotate_left
                                                                  · simp only [Act.put, List.setIfInBounds_toArray, List.set_cons_zero, List.set_cons_succ, i64_w, i32_w]
                                                                    rfl
                                                                  refine take_ (i := 18) (N := some 158) (v := ?_) (a' := ?_) #[true, true, true, true, true, true, true, true, true, true, true, true, true, true, true, true, true, true, true, true, false, false, false] rfl rfl (take_ofW HT_.out HW_.out (by kernel_rfl)) (fun _ _ _ h => h) (Or.inl ⟨by rfl, ?_⟩) hHeld ?_ ?_
                                                                  rotate_left
                                                                  · rintro w' ⟨s0, s1, s2, s3, s4, s5⟩
                                                                    go_simp
                                                                    with_reducible rfl
                                                                  rotate_left
                                                                  · simp only [Act.put, List.setIfInBounds_toArray, List.set_cons_zero, List.set_cons_succ, i64_w, i32_w]
                                                                    rfl
                                                                  refine pure_ (i := 20) (N := some 160) (v := ?_) (a' := ?_) #[true, true, true, true, true, true, true, true, true, true, true, true, true, true, true, true, true, true, true, true, true, false, false] rfl rfl (any_of HT_.out (by kernel_rfl)) (fun _ _ _ h => h) (Or.inl ⟨by rfl, ?_⟩) ?_ ?_
                                                                  rotate_left
                                                                  · intro w'
                                                                    go_simp
                                                                    with_reducible rfl
                                                                  rotate_left
                                                                  · simp only [Act.put, List.setIfInBounds_toArray, List.set_cons_zero, List.set_cons_succ, i64_w, i32_w]
                                                                    rfl
                                                                  refine take_ (i := 21) (N := some 161) (v := ?_) (a' := ?_) #[true, true, true, true, true, true, true, true, true, true, true, true, true, true, true, true, true, true, true, true, true, true, false] rfl rfl (take_ofW HT_.out HW_.out (by kernel_rfl)) (fun _ _ _ h => h) (Or.inl ⟨by rfl, ?_⟩) hHeld ?_ ?_
                                                                  rotate_left
                                                                  · rintro w' ⟨s0, s1, s2, s3, s4, s5⟩
                                                                    go_simp
                                                                    with_reducible rfl
                                                                  rotate_left
                                                                  · simp only [Act.put, List.setIfInBounds_toArray, List.set_cons_zero, List.set_cons_succ, i64_w, i32_w]
                                                                    rfl
                                                                  refine pure_ (i := 22) (N := some 162) (v := ?_) (a' := ?_) #[true, true, true, true, true, true, true, true, true, true, true, true, true, true, true, true, true, true, true, true, true, true, true] rfl rfl (any_of HT_.out (by kernel_rfl)) (fun _ _ _ h => h) (Or.inl ⟨by rfl, ?_⟩) ?_ ?_
                                                                  rotate_left
                                                                  · intro w'
                                                                    go_simp
                                                                    with_reducible rfl
                                                                  rotate_left
                                                                  · simp only [Act.put, List.setIfInBounds_toArray, List.set_cons_zero, List.set_cons_succ, i64_w, i32_w]
                                                                    rfl
                                                                  refine done_ (done_of HT_.out (by kernel_rfl)) ?_
                                                                  try go_wp2
                                                                  go_ret
                                                                  exact ⟨by first | rfl | (simp [errW_none, errW_some] <;> rfl) | (simp only [← hji12]; first | rfl | (simp [errW_none, errW_some] <;> rfl)) | (simp [*, errW_none, errW_some] <;> rfl), by repeat (first | (with_reducible first | exact HB.out | apply below_alloc | apply pw_below_drewN | apply below_drew1) | exact HB.out)⟩
                                                              · rw [if_neg c71] at H
                                                                exact absurd H (by simp)
                                                            · rw [if_neg c70] at H
                                                              exact absurd H (by simp)
                                                          · rw [if_neg c69] at H
                                                            exact absurd H (by simp)
                                                        · rw [if_neg c68] at H
                                                          exact absurd H (by simp)
                                                      · rw [if_neg c67] at H
                                                        exact absurd H (by simp)
                                                    · rw [if_neg c66] at H
                                                      exact absurd H (by simp)
                                                  · rw [if_neg c65] at H
                                                    exact absurd H (by simp)
                                                · rw [if_neg c64] at H
                                                  exact absurd H (by simp)
                                              · rw [if_neg c63] at H
                                                have c63b0 : decide (x22_5 < 8) = false := decide_eq_false c63
                                                clear c63
                                                have H' := Aside0.mk H
                                                clear H
                                                go_wp2
                                                go_roundg k5
                                                case measure => have := HJ4.out; have := HK2.out; have := HJ44.out; have := HK4.out; have := HK5.out; omega
                                                case rel => exact ⟨(wrap64 (x21_4 + 1)), (by first | rfl | (simp; done) | (simp [*]; done)), H', ⟨by have := HJ4.out; have := HK2.out; have := HJ44.out; have := HK4.out; have := HK5.out; omega⟩, ⟨by (with_reducible repeat (first | apply Kd.S_alloc | apply Kd.S_drewN | apply Kd.S_drew)); exact HO_15.out⟩, ⟨by (with_reducible repeat (first | apply Kd.S_alloc | apply Kd.S_drewN | apply Kd.S_drew)); exact HO_17.out⟩, ⟨by (with_reducible repeat (first | apply Kd.S_alloc | apply Kd.S_drewN | apply Kd.S_drew)); exact HO_19.out⟩, ⟨by repeat (first | (with_reducible exact HR159.out) | (with_reducible refine Kd.C_alloc ?_ _) | (with_reducible refine Kd.C_drewN ?_ _) | (with_reducible refine Kd.C_drew ?_) | exact HR159.out)⟩, ⟨by repeat (first | (with_reducible exact HR172.out) | (with_reducible refine Kd.C_alloc ?_ _) | (with_reducible refine Kd.C_drewN ?_ _) | (with_reducible refine Kd.C_drew ?_) | exact HR172.out)⟩, ⟨by repeat (first | (with_reducible first | exact HB.out | apply below_alloc | apply pw_below_drewN | apply below_drew1) | exact HB.out)⟩⟩
                                        · rw [if_neg c62] at H
                                          have c62b0 : decide (x21_4 < (wrap64 ((wrap64 ((wrap64 (Int.tmod a0 4)) + 1)) + (wrap64 (Int.tmod a1 4))))) = false := decide_eq_false c62
                                          clear c62
                                          replace H := Option.bind_eq_some_iff.mp H
                                          obtain ⟨t191, A810, H⟩ := H
                                          replace H : (some t191) = some r := H
                                          have A81 := Aside0.mk A810
                                          clear A810
                                          obtain rfl := Option.some.inj H
                                          go_wp2_with (first | ((with_reducible refine gate_callee (f := 9) rfl ?_); refine goesL_ (some 163) rfl rfl Try.func9 (by kernel_rfl) rfl #[] rfl (by (try simp only [List.map_toArray, List.map_cons, List.map_nil]); first | done | rfl | (simp only [List.length_drop, List.length_take]; rfl)) ?_; (with_reducible refine (flittinglaw03_answers.calls  t191 _ A81.out).mono ?_); rintro e w82 ⟨rfl, hb⟩; refine ⟨_, rfl, ?_⟩; have n0_ := Aside0.mk (Kd.S_below (by (with_reducible repeat (first | apply Kd.S_alloc | apply Kd.S_drewN | apply Kd.S_drew)); exact HO_15.out) hb); have n1_ := Aside0.mk (Kd.S_below (by (with_reducible repeat (first | apply Kd.S_alloc | apply Kd.S_drewN | apply Kd.S_drew)); exact HO_17.out) hb); have n2_ := Aside0.mk (Kd.S_below (by (with_reducible repeat (first | apply Kd.S_alloc | apply Kd.S_drewN | apply Kd.S_drew)); exact HO_19.out) hb); have n3_ := Aside0.mk (Kd.C_below (by repeat (first | (with_reducible exact HR159.out) | (with_reducible refine Kd.C_alloc ?_ _) | (with_reducible refine Kd.C_drewN ?_ _) | (with_reducible refine Kd.C_drew ?_) | exact HR159.out)) hb); have n4_ := Aside0.mk (Kd.C_below (by repeat (first | (with_reducible exact HR172.out) | (with_reducible refine Kd.C_alloc ?_ _) | (with_reducible refine Kd.C_drewN ?_ _) | (with_reducible refine Kd.C_drew ?_) | exact HR172.out)) hb); have n5_ := Aside0.mk (below_step (by repeat (first | (with_reducible first | exact HB.out | apply below_alloc | apply pw_below_drewN | apply below_drew1) | exact HB.out)) hb); clear HO_15; clear HO_17; clear HO_19; clear HR159; clear HR172; clear HB; have HO_15 := n0_; have HO_17 := n1_; have HO_19 := n2_; have HR159 := n3_; have HR172 := n4_; have HB := n5_; clear n0_ n1_ n2_ n3_ n4_ n5_; (try clear hb); (try clear hb2); (try clear hk); (try clear hi)))
                                          go_ret
                                          exact ⟨by first | rfl | (simp [errW_none, errW_some] <;> rfl) | (simp only [← hji12]; first | rfl | (simp [errW_none, errW_some] <;> rfl)) | (simp [*, errW_none, errW_some] <;> rfl), by repeat (first | (with_reducible first | exact HB.out | apply below_alloc | apply pw_below_drewN | apply below_drew1) | exact HB.out)⟩
                      · rw [if_neg c19] at H
                        exact absurd H (by simp)
                    · rw [if_neg c18] at H
                      exact absurd H (by simp)
                  · rw [if_neg c16] at H
                    exact absurd H (by simp)
                · rw [if_neg c15] at H
                  exact absurd H (by simp)
              · rw [if_neg c14] at H
                exact absurd H (by simp)
            · rw [if_neg c13] at H
              exact absurd H (by simp)
          · rw [if_neg c11] at H
            exact absurd H (by simp)
        · rw [if_neg c10] at H
          exact absurd H (by simp)

/-- THE ONE PURE STATEMENT of flittinglaw03_RsSums: yours. -/
def flittinglaw03_RsSums.Pure : Prop := ∀ (a0 : Int) (a1 : Int) (l2 : List Int) (l3 : List Int), (Lit.int .u8 a0).wf = true → (Lit.int .u8 a1).wf = true → l2.length ≤ maxLen → l2.length * 1 ≤ 140737488351232 → (∀ x ∈ l2, (Lit.int .u8 x).wf = true) → l3.length ≤ maxLen → l3.length * 1 ≤ 140737488351232 → (∀ x ∈ l3, (Lit.int .u8 x).wf = true) → ∃ k, flittinglaw03_RsSums.f k a0 a1 l2 l3 = some true
theorem flittinglaw03_RsSums.walk (P : flittinglaw03_RsSums.Pure) (a0 : Int) (a1 : Int) (a2 : Option Addr) (len2 cap2 : Nat) (z2 : List Int) (a3 : Option Addr) (len3 cap3 : Nat) (z3 : List Int) (w : World) (w0 : (Lit.int .u8 a0).wf = true) (w1 : (Lit.int .u8 a1).wf = true) (w2 : (a2 = none ∧ len2 = 0 ∧ cap2 = 0 ∧ z2 = []) ∨ ∃ x, a2 = some x ∧ len2 ≤ cap2 ∧ cap2 ≤ maxLen ∧ z2.length = cap2 ∧ (∀ i, i < z2.length → w.cell? (x.add i) = some (.int .u8 (z2.getD i 0))) ∧ ∀ n ∈ z2, (Lit.int .u8 n).wf = true) (y2 : len2 * 1 ≤ 140737488351232) (w3 : (a3 = none ∧ len3 = 0 ∧ cap3 = 0 ∧ z3 = []) ∨ ∃ x, a3 = some x ∧ len3 ≤ cap3 ∧ cap3 ≤ maxLen ∧ z3.length = cap3 ∧ (∀ i, i < z3.length → w.cell? (x.add i) = some (.int .u8 (z3.getD i 0))) ∧ ∀ n ∈ z3, (Lit.int .u8 n).wf = true) (y3 : len3 * 1 ≤ 140737488351232) :
    Calls Try.prog 5 #[.int .u8 a0, .int .u8 a1, .slice a2 len2 cap2, .slice a3 len3 cap3] w fun e w' => e = .returned (.bool true) ∧ Below w.heap.size w w' := by
  obtain ⟨l2, rfl, hr2, hm2, hw2, hc2⟩ := ReadsInt.ofRowC w2
  obtain ⟨l3, rfl, hr3, hm3, hw3, hc3⟩ := ReadsInt.ofRowC w3
  obtain ⟨k, h⟩ := P a0 a1 l2 l3 w0 w1 hm2 y2 hw2 hm3 y3 hw3
  refine (flittinglaw03_RsSums.calls k a0 a1 _ _ l2 _ _ l3 true w (Kd.C_of_reads (d := (0 : Int)) (h1 := fun _ => rfl) hr2) hc2 (Kd.C_of_reads (d := (0 : Int)) (h1 := fun _ => rfl) hr3) hc3 h).mono ?_
  rintro e w' ⟨rfl, hd⟩
  exact ⟨rfl, hd⟩

end Go.Proofs.Ytpgehfchdhjjeaa.PRsSums
