-- Written by myprint.py (this session's own driver of the kit's print, with contracts of its own handed in).
import Derived.Test.YtohlphmjhmcpoaaDoorPRankTargetsx0
namespace Go.Proofs.YtohlphmjhmcpoaaDoor.PRankTargets
open Go.RowKit Go.Proofs.YtohlphmjhmcpoaaDoorW.PrintWords Go.Proofs.YtohlphmjhmcpoaaDoorW.PrintLast Go.Proofs.YtohlphmjhmcpoaaDoorW.PrintMore
attribute [local go_sem] max2_int min2_int max_two min_two max_three min_three max_four min_four   -- for this text's walks alone
set_option linter.unusedVariables false
set_option linter.unusedSimpArgs false

/-! ### hash_Get: function 22 -/
def hash_Get.l0 : Nat → Int → List Int → Int → Int → Option (Int)
  | 0, _, _, _, _ => none
  | k + 1, x3, x6, x7, x8 => if x8 < x7 then (if 0 ≤ x8 then (if x8 < (x6.length : Int) then (hash_Get.l0 k (Go.bits .or .u64 (IntKind.u64.wrap (x3 * 256)) (IntKind.u64.wrap (rd x6 x8))) x6 x7 (wrap64 (x8 + 1))) else (none)) else (none)) else (some x3)
def hash_Get.f (k : Nat) (l0 : List Int) : Option (Int) := hash_Get.l0 k 0 l0 (l0.length : Int) 0
theorem hash_Get.mono_l : ∀ k, (∀ y0 y1 y2 y3, LeO (hash_Get.l0 k y0 y1 y2 y3) (hash_Get.l0 (k + 1) y0 y1 y2 y3))
  | 0 => fun _ _ _ _ r h => by simp [hash_Get.l0] at h
  | k + 1 => by
    have ih0 := hash_Get.mono_l k
    · intro y0 y1 y2 y3
      unfold hash_Get.l0
      repeat' first
      | (with_reducible exact ih0 _ _ _ _)
      | (with_reducible exact LeO.refl _)
      | (with_reducible exact LeO.none _)
      | (with_reducible refine LeO.ite ?_ ?_)
      | (with_reducible refine LeO.bind ?_ (fun _ => ?_))
      | exact ih0 _ _ _ _
      | exact LeO.none _
      | refine LeO.ite ?_ ?_
      | refine LeO.bind ?_ (fun _ => ?_)
theorem hash_Get.mono : ∀ a0 k, LeO (hash_Get.f k a0) (hash_Get.f (k + 1) a0) := by
  intro a0 k
  have ih0 := hash_Get.mono_l k
  unfold hash_Get.f
  repeat' first
      | (with_reducible exact ih0 _ _ _ _)
      | (with_reducible exact LeO.refl _)
      | (with_reducible exact LeO.none _)
      | (with_reducible refine LeO.ite ?_ ?_)
      | (with_reducible refine LeO.bind ?_ (fun _ => ?_))
      | exact ih0 _ _ _ _
      | exact LeO.none _
      | refine LeO.ite ?_ ?_
      | refine LeO.bind ?_ (fun _ => ?_)
set_option maxHeartbeats 8000000 in
set_option maxRecDepth 100000 in
theorem hash_Get.calls (k : Nat) (A0 : Option Addr) (c0 : Nat) (l0 : List Int) (r : Int) (w : World) (hr0 : Kd.C (Kd.int .u8) w A0 l0.length l0) (hc0 : l0.length ≤ c0) (h : hash_Get.f k l0 = some r) :
    Calls Tryd.prog 22 #[.slice A0 l0.length c0] w fun e w' => e = .returned (.int .u64 r) ∧ Drawn0 w w' := by
  have HR0 := Aside0.mk hr0
  have HC0 := Aside0.mk hc0
  clear hr0 hc0
  have H : (hash_Get.l0 k 0 l0 (l0.length : Int) 0) = some r := h
  clear h
  have H' := Aside0.mk H
  clear H
  go_enter Tryd.func22, Tryd.ntmps22
  go_wp2
  go_loopg [3, 8] k (fun kq v3 v8 w' => ∃ (x3_1 : Int) (x8_1 : Int), v3 = .int .u64 x3_1 ∧ v8 = .int .i64 x8_1 ∧ Aside0 (hash_Get.l0 kq x3_1 l0 (l0.length : Int) x8_1 = some r) ∧ Aside0 (kq ≤ k) ∧ Drawn0 w w')
  case atStart => exact ⟨(0), (0), (by first | rfl | (simp; done) | (simp [*]; done)), (by first | rfl | (simp; done) | (simp [*]; done)), H', ⟨Nat.le_refl _⟩, by repeat (first | exact Drawn0.refl _ | apply Drawn0.step)⟩
  case round =>
    clear H'
    obtain ⟨x3_1, x8_1, rfl, rfl, HA, HK1, ⟨m1, rfl⟩⟩ := hrel
    cases gk with
    | zero => exact absurd HA.out (by simp [hash_Get.l0])
    | succ k1 =>
      have H := HA.out
      clear HA
      simp only [hash_Get.l0] at H
      by_cases c2 : x8_1 < (l0.length : Int)
      · rw [if_pos c2] at H
        have c2b0 : decide (x8_1 < (l0.length : Int)) = true := decide_eq_true c2
        clear c2
        by_cases c3 : 0 ≤ x8_1
        · rw [if_pos c3] at H
          have c3b0 : decide (0 ≤ x8_1) = true := decide_eq_true c3
          clear c3
          by_cases c4 : x8_1 < (l0.length : Int)
          · rw [if_pos c4] at H
            have c4b0 : decide (x8_1 < (l0.length : Int)) = true := decide_eq_true c4
            clear c4
            have H' := Aside0.mk H
            clear H
            have p101 : 0 ≤ (x8_1 : Int) := of_decide_eq_true (by first | (with_reducible assumption) | assumption)
            have q101 : x8_1 < (l0.length : Int) := of_decide_eq_true (by first | (with_reducible assumption) | assumption)
            obtain ⟨ad101, e101, hx101_0⟩ := Kd.at_int HR0.out x8_1 p101 q101
            cases e101
            replace p101 := eq_true p101
            replace q101 := eq_true q101
            go_wp2
            go_roundg k1
            case measure => have := HK1.out; omega
            case rel => exact ⟨(Go.bits .or .u64 (IntKind.u64.wrap (x3_1 * 256)) (IntKind.u64.wrap (rd l0 x8_1))), (wrap64 (x8_1 + 1)), (by first | rfl | (simp; done) | (simp [*]; done)), (by first | rfl | (simp; done) | (simp [*]; done)), H', ⟨by have := HK1.out; omega⟩, by repeat (first | exact Drawn0.refl _ | apply Drawn0.step)⟩
          · rw [if_neg c4] at H
            exact absurd H (by simp)
        · rw [if_neg c3] at H
          exact absurd H (by simp)
      · rw [if_neg c2] at H
        have c2b0 : decide (x8_1 < (l0.length : Int)) = false := decide_eq_false c2
        clear c2
        obtain rfl := Option.some.inj H
        go_wp2
        go_ret
        exact ⟨by first | rfl | (simp; done) | (simp [*]; done), by repeat (first | exact Drawn0.refl _ | apply Drawn0.step)⟩

/-! ### hash_Put: function 24 -/
def hash_Put.l0 : Nat → List Int → Int → Int → Option (List Int)
  | 0, _, _, _ => none
  | k + 1, x0, x1, x7 => if x7 ≥ 0 then (if 0 ≤ (wrap64 (8 * x7)) then (if x0.length < 140737488355328 then (hash_Put.l0 k (x0 ++ [(shr .u64 x1 (wrap64 (8 * x7))) % 256]) x1 (wrap64 (x7 - 1))) else (none)) else (none)) else (some x0)
def hash_Put.f (k : Nat) (l0 : List Int) (a1 : Int) (a2 : Int) : Option (List Int) := hash_Put.l0 k l0 a1 (wrap64 (a2 - 1))
theorem hash_Put.mono_l : ∀ k, (∀ y0 y1 y2, LeO (hash_Put.l0 k y0 y1 y2) (hash_Put.l0 (k + 1) y0 y1 y2))
  | 0 => fun _ _ _ r h => by simp [hash_Put.l0] at h
  | k + 1 => by
    have ih0 := hash_Put.mono_l k
    · intro y0 y1 y2
      unfold hash_Put.l0
      repeat' first
      | (with_reducible exact ih0 _ _ _)
      | (with_reducible exact LeO.refl _)
      | (with_reducible exact LeO.none _)
      | (with_reducible refine LeO.ite ?_ ?_)
      | (with_reducible refine LeO.bind ?_ (fun _ => ?_))
      | exact ih0 _ _ _
      | exact LeO.none _
      | refine LeO.ite ?_ ?_
      | refine LeO.bind ?_ (fun _ => ?_)
theorem hash_Put.mono : ∀ a0 a1 a2 k, LeO (hash_Put.f k a0 a1 a2) (hash_Put.f (k + 1) a0 a1 a2) := by
  intro a0 a1 a2 k
  have ih0 := hash_Put.mono_l k
  unfold hash_Put.f
  repeat' first
      | (with_reducible exact ih0 _ _ _)
      | (with_reducible exact LeO.refl _)
      | (with_reducible exact LeO.none _)
      | (with_reducible refine LeO.ite ?_ ?_)
      | (with_reducible refine LeO.bind ?_ (fun _ => ?_))
      | exact ih0 _ _ _
      | exact LeO.none _
      | refine LeO.ite ?_ ?_
      | refine LeO.bind ?_ (fun _ => ?_)
set_option maxHeartbeats 8000000 in
set_option maxRecDepth 100000 in
theorem hash_Put.calls (k : Nat) (P0_ : Nat → Prop) (u9000_ : Value) (l0 : List Int) (a1 : Int) (a2 : Int) (r : List Int) (w0 w : World) (hB : Below w0.heap.size w0 w) (ho0 : Kd.R (Kd.int .u8) 5 w w0.heap.size P0_ u9000_ l0) (h : hash_Put.f k l0 a1 a2 = some r) :
    Calls Tryd.prog 24 #[u9000_, .int .u64 a1, .int .i64 a2] w fun e w' => ∃ v0_ : Value, e = .returned (v0_) ∧ Kd.R (Kd.int .u8) 5 w' w0.heap.size (fun k_ => (P0_ k_ ∨ w.heap.size ≤ k_)) v0_ r ∧ Below w0.heap.size w0 w' ∧ Kept w w' (fun k_ => P0_ k_) := by
  have HO0 := Aside0.mk (show Kd.R (Kd.int .u8) 5 w w0.heap.size (fun k_ => (P0_ k_ ∨ w.heap.size ≤ k_)) u9000_ l0 from Kd.R_mono ho0 (fun k_ hk => (.inl hk)))
  have HK := Aside0.mk (Kept.refl w (fun k_ => P0_ k_))
  have HW0 := Aside0.mk hB.size
  have HB := Aside0.mk hB
  clear hB
  have H : (hash_Put.l0 k l0 a1 (wrap64 (a2 - 1))) = some r := h
  clear h
  have H' := Aside0.mk H
  clear H
  go_enter Tryd.func24, Tryd.ntmps24
  go_wp2
  go_loopg [0, 7] k (fun kq v0 v7 w' => ∃ (x0_1 : List Int) (x7_1 : Int), v7 = .int .i64 x7_1 ∧ Aside0 (hash_Put.l0 kq x0_1 a1 x7_1 = some r) ∧ Aside0 (kq ≤ k) ∧ Aside0 (Kd.R (Kd.int .u8) 5 w' w0.heap.size (fun k_ => (P0_ k_ ∨ w.heap.size ≤ k_)) v0 x0_1) ∧ Aside0 (Kept w w' (fun k_ => P0_ k_)) ∧ Aside0 (Below w0.heap.size w0 w'))
  case atStart => exact ⟨(l0), (wrap64 (a2 - 1)), (by first | rfl | (simp; done) | (simp [*]; done)), H', ⟨Nat.le_refl _⟩, ⟨by (with_reducible repeat (first | apply Kd.R_alloc | apply Kd.R_drewN | apply Kd.R_drew)); exact HO0.out⟩, ⟨by repeat (first | (with_reducible first | exact HK.out | apply Kept.alloc | apply Kept.drewN | apply Kept.drew) | exact HK.out)⟩, ⟨by repeat (first | (with_reducible first | exact HB.out | apply below_alloc | apply pw_below_drewN | apply below_drew1) | exact HB.out)⟩⟩
  case round =>
    clear H'
    try clear c2
    try clear p2
    obtain ⟨x0_1, x7_1, rfl, HA, HK1, HO_0, HK, HB⟩ := hrel
    cases gk with
    | zero => exact absurd HA.out (by simp [hash_Put.l0])
    | succ k1 =>
      have H := HA.out
      clear HA
      simp only [hash_Put.l0] at H
      by_cases c4 : x7_1 ≥ 0
      · rw [if_pos c4] at H
        have c4b0 : decide (0 ≤ x7_1) = true := decide_eq_true c4
        clear c4
        obtain ⟨ji5, hji5⟩ : ∃ j_ : Int, (wrap64 (8 * x7_1)) = j_ := ⟨_, rfl⟩
        replace H : (if 0 ≤ (ji5) then (if x0_1.length < 140737488355328 then (hash_Put.l0 k1 (x0_1 ++ [(shr .u64 a1 (ji5)) % 256]) a1 (wrap64 (x7_1 - 1))) else (none)) else (none)) = some r := by first | (rw [hji5] at H; exact H) | (simp only [hji5] at H ⊢; exact H)
        have hji5w : (IntKind.i64.wrap (8 * x7_1)) = ji5 := (i64_w _).trans hji5
        by_cases c6 : 0 ≤ (ji5)
        · rw [if_pos c6] at H
          have c6b0 := eq_true c6
          have c6b1 : decide (0 ≤ (ji5)) = true := decide_eq_true c6
          clear c6
          obtain ⟨ji7, hji7⟩ : ∃ j_ : Int, (shr .u64 a1 (ji5)) = j_ := ⟨_, rfl⟩
          replace H : (if x0_1.length < 140737488355328 then (hash_Put.l0 k1 (x0_1 ++ [(ji7) % 256]) a1 (wrap64 (x7_1 - 1))) else (none)) = some r := by first | (rw [hji7] at H; exact H) | (simp only [hji7] at H ⊢; exact H)
          have hji7_ : (a1 / 2 ^ min (ji5).toNat 64) = ji7 := hji7
          have hji7z : (ji5) ≤ 64 → (a1 / 2 ^ (ji5).toNat) = ji7 := shr_small hji7
          by_cases c8 : x0_1.length < 140737488355328
          · rw [if_pos c8] at H
            have LMc8 := Aside0.mk c8
            clear c8
            obtain ⟨y102, hy102⟩ : ∃ y_ : List Int, y_ = (x0_1 ++ [(ji7) % 256]) := ⟨_, rfl⟩
            replace H : (hash_Put.l0 k1 y102 a1 (wrap64 (x7_1 - 1))) = some r := by first | (rw [hy102]; with_reducible exact H) | (have H2_ := (Option.bind_some _ _).symm.trans H; rw [hy102]; with_reducible exact H2_) | (have H2_ := (Option.bind_some _ _).symm.trans H; with_reducible exact H2_) | with_reducible exact H | (rw [hy102]; exact H) | exact H
            have Ny102 := Aside0.mk hy102
            clear hy102
            have H' := Aside0.mk H
            clear H
            go_wp2_with (first | ((with_reducible refine gate_builtin (b := .append) (xs := #[.tmp 14, .tmp 20]) rfl ?_); at_builtin; refine Kd.R_append (Kd.int .u8) (w0 := w0) w0.heap.size rfl (.tmp 14) (.tmp 20) 42 5 (.int .u8 0) 1 rfl Tryd.underlying42 info5 rfl (by decide) (by omega) u0 x0_1 ((ji7) % 256) [.int .u8 ((ji7) % 256)] (fun k_ => (P0_ k_ ∨ w.heap.size ≤ k_)) (fun _ => False) rfl rfl ?aP (fun _ hk => hk.elim) ?aF ?aO ?aB ?aS ?aL ?_; (case aP => exact rfl); (case aB => exact (by repeat (first | (with_reducible first | exact HB.out | apply below_alloc | apply pw_below_drewN | apply below_drew1) | exact HB.out))); (case aF => exact (fun k_ hk => (.inr (Nat.le_trans (by first | exact HK.out.1 | exact (show Kept w _ (fun k_ => P0_ k_) from by repeat (first | (with_reducible first | exact HK.out | apply Kept.alloc | apply Kept.drewN | apply Kept.drew) | exact HK.out)).1) hk)))); (case aO => exact (by (with_reducible repeat (first | apply Kd.R_alloc | apply Kd.R_drewN | apply Kd.R_drew)); exact HO_0.out)); (case aS => exact (below_size (by repeat (first | (with_reducible first | exact HB.out | apply below_alloc | apply pw_below_drewN | apply below_drew1) | exact HB.out)))); (case aL => have := LMc8.out; omega); intro v103 w9 ho hb hg hat; (first | rw [← Ny102.out] at ho | (simp only [Int.reduceToNat] at ho; rw [← Ny102.out] at ho)); have n0_ := Aside0.mk (hb); have n1_ := Aside0.mk (Kept.of_grown (S := (fun k_ => P0_ k_)) hg (by repeat (first | (with_reducible first | exact HK.out | apply Kept.alloc | apply Kept.drewN | apply Kept.drew) | exact HK.out)) (fun k_ e_ => (HO_0.out.1 k_ e_))); have n2_ := Aside0.mk (ho); clear HB; clear HK; clear HO_0; have HB := n0_; have HK := n1_; have HO104 := n2_; clear n0_ n1_ n2_; clear ho hb hg hat))
            go_roundg k1
            case measure => have := HK1.out; omega
            case rel => exact ⟨(y102), (wrap64 (x7_1 - 1)), (by first | rfl | (simp; done) | (simp [*]; done)), H', ⟨by have := HK1.out; omega⟩, ⟨by (with_reducible repeat (first | apply Kd.R_alloc | apply Kd.R_drewN | apply Kd.R_drew)); exact HO104.out⟩, ⟨by repeat (first | (with_reducible first | exact HK.out | apply Kept.alloc | apply Kept.drewN | apply Kept.drew) | exact HK.out)⟩, ⟨by repeat (first | (with_reducible first | exact HB.out | apply below_alloc | apply pw_below_drewN | apply below_drew1) | exact HB.out)⟩⟩
          · rw [if_neg c8] at H
            exact absurd H (by simp)
        · rw [if_neg c6] at H
          exact absurd H (by simp)
      · rw [if_neg c4] at H
        have c4b0 : decide (0 ≤ x7_1) = false := decide_eq_false c4
        clear c4
        obtain rfl := Option.some.inj H
        go_wp2
        go_ret
        exact ⟨_, by first | rfl | (simp [errW_none, errW_some] <;> rfl) | (simp [*, errW_none, errW_some] <;> rfl), by (with_reducible repeat (first | apply Kd.R_alloc | apply Kd.R_drewN | apply Kd.R_drew)); exact HO_0.out, by repeat (first | (with_reducible first | exact HB.out | apply below_alloc | apply pw_below_drewN | apply below_drew1) | exact HB.out), by repeat (first | (with_reducible first | exact HK.out | apply Kept.alloc | apply Kept.drewN | apply Kept.drew) | exact HK.out)⟩

/-! ### hash_right: function 51 -/
def hash_right.f (a0 : Int) (a1 : Int) : Option (Int) := if 0 ≤ a1 then (if 0 ≤ (wrap64 (32 - a1)) then (some (Go.bits .or .u32 (shr .u32 a0 a1) (shl .u32 a0 (wrap64 (32 - a1))))) else (none)) else (none)
set_option maxHeartbeats 8000000 in
set_option maxRecDepth 100000 in
theorem hash_right.calls (a0 : Int) (a1 : Int) (r : Int) (w : World) (h : hash_right.f a0 a1 = some r) :
    Calls Tryd.prog 51 #[.int .u32 a0, .int .i64 a1] w fun e w' => e = .returned (.int .u32 r) ∧ Drawn0 w w' := by
  have H : (if 0 ≤ a1 then (if 0 ≤ (wrap64 (32 - a1)) then (some (Go.bits .or .u32 (shr .u32 a0 a1) (shl .u32 a0 (wrap64 (32 - a1))))) else (none)) else (none)) = some r := h
  clear h
  by_cases c3 : 0 ≤ a1
  · rw [if_pos c3] at H
    have c3b0 := eq_true c3
    have c3b1 : decide (0 ≤ a1) = true := decide_eq_true c3
    clear c3
    obtain ⟨ji4, hji4⟩ : ∃ j_ : Int, (shr .u32 a0 a1) = j_ := ⟨_, rfl⟩
    replace H : (if 0 ≤ (wrap64 (32 - a1)) then (some (Go.bits .or .u32 (ji4) (shl .u32 a0 (wrap64 (32 - a1))))) else (none)) = some r := by first | (rw [hji4] at H; exact H) | (simp only [hji4] at H ⊢; exact H)
    have hji4_ : (a0 / 2 ^ min a1.toNat 32) = ji4 := hji4
    have hji4z : a1 ≤ 32 → (a0 / 2 ^ a1.toNat) = ji4 := shr_small hji4
    obtain ⟨ji5, hji5⟩ : ∃ j_ : Int, (wrap64 (32 - a1)) = j_ := ⟨_, rfl⟩
    replace H : (if 0 ≤ (ji5) then (some (Go.bits .or .u32 (ji4) (shl .u32 a0 (ji5)))) else (none)) = some r := by first | (rw [hji5] at H; exact H) | (simp only [hji5] at H ⊢; exact H)
    have hji5w : (IntKind.i64.wrap (32 - a1)) = ji5 := (i64_w _).trans hji5
    by_cases c6 : 0 ≤ (ji5)
    · rw [if_pos c6] at H
      have c6b0 := eq_true c6
      have c6b1 : decide (0 ≤ (ji5)) = true := decide_eq_true c6
      clear c6
      obtain ⟨ji7, hji7⟩ : ∃ j_ : Int, (shl .u32 a0 (ji5)) = j_ := ⟨_, rfl⟩
      replace H : (some (Go.bits .or .u32 (ji4) (ji7))) = some r := by first | (rw [hji7] at H; exact H) | (simp only [hji7] at H ⊢; exact H)
      have hji7_ : (IntKind.u32.wrap (a0 * 2 ^ min (ji5).toNat 32)) = ji7 := hji7
      have hji7z : (ji5) ≤ 32 → (IntKind.u32.wrap (a0 * 2 ^ (ji5).toNat)) = ji7 := shl_small hji7
      obtain rfl := Option.some.inj H
      go_enter Tryd.func51, Tryd.ntmps51
      go_wp2
      repeat (go_quiet (fail); try go_wp2)
      go_ret
      exact ⟨by first | rfl | (simp; done) | (simp only [← hji4, ← hji5, ← hji7] <;> (first | rfl | simp)) | (simp [*]; done), by repeat (first | exact Drawn0.refl _ | apply Drawn0.step)⟩
    · rw [if_neg c6] at H
      exact absurd H (by simp)
  · rw [if_neg c3] at H
    exact absurd H (by simp)

-- NOT PRINTED: function 44 (hash_widen)

-- NOT PRINTED: function 45 (hash_state_round)

-- NOT PRINTED: function 31 (hash_state_take)

/-! ### hash_Sum: function 23, by hand -/
def rr (x n : Int) : Int := Go.bits .or .u32 (shr .u32 x n) (shl .u32 x (32 - n))
theorem right_f (x n : Int) (h0 : 0 ≤ n) (h1 : n ≤ 32) : hash_right.f x n = some (rr x n) := by
  unfold hash_right.f rr
  have e : wrap64 (32 - n) = 32 - n := by unfold wrap64; omega
  rw [if_pos h0, e, if_pos (by omega)]
theorem right_calls (x n : Int) (w : World) (h0 : 0 ≤ n) (h1 : n ≤ 32) : Calls Tryd.prog 51 #[.int .u32 x, .int .i64 n] w fun e w' => e = .returned (.int .u32 (rr x n)) ∧ ∃ m, w' = w.drewN m :=
  (hash_right.calls x n (rr x n) w (right_f x n h0 h1)).mono fun e w' ⟨h, ⟨d⟩⟩ => ⟨h, d⟩
theorem quiet_add {P : Program} {f : FuncId} {args : Array Value} {w : World} {a n : Nat} {v : Value}
    (h : Calls P f args (w.drewN (a + n)) fun e w' => e = .returned v ∧ ∃ m, w' = (w.drewN (a + n)).drewN m) :
    Calls P f args (w.drewN (a + n)) fun e w'' => e = .returned v ∧ ∃ m, w'' = w.drewN (a + m) :=
  h.mono fun _ _ ⟨he, m, hm⟩ => ⟨he, n + m, by rw [hm, World.drewN_drewN, Nat.add_assoc]⟩
/-- A result that lies in a cell of the call's own: an array. -/
theorem end_cell {P : Program} {fn : Func} {R : Ending → World → Prop} {a : Act} {w : World} {p : Tmp} {ty t : TypeId} {g : Nat} {cs : Array Value} {fr : Nat × Nat} {d : TypeDesc} (h : fn.results = #[.cell p ty])
    (hp : a.tmps.getD p undef = .pointer (some ⟨g, 0, none⟩)) (hg : w.heap[g]? = some (.cells cs t fr)) (hu : P.underlying ty = some d) (hd : (match d with | .struct _ | .array _ _ => true | _ => false) = true)
    (hi : (P.info? ty).map (·.size) = some cs.size) (hdf : a.defers = []) (hR : R (.returned (.agg cs)) w) : bodyPost P fn R .ret a w :=
  bodyPost_ret (results_cell_row h a.tmps w g t cs fr d hp hg hu hd hi) hdf hR
/-- A state: eight numbers. -/
structure St where
  (a b c d e f g h : Int)
def St.v (s : St) : Value := .agg #[.int .u32 s.a, .int .u32 s.b, .int .u32 s.c, .int .u32 s.d, .int .u32 s.e, .int .u32 s.f, .int .u32 s.g, .int .u32 s.h]
def S1 (e : Int) : Int := Go.bits .xor .u32 (Go.bits .xor .u32 (rr e 6) (rr e 11)) (rr e 25)
def S0 (a : Int) : Int := Go.bits .xor .u32 (Go.bits .xor .u32 (rr a 2) (rr a 13)) (rr a 22)
def chP (e f g : Int) : Int := Go.bits .xor .u32 (Go.bits .and .u32 e (Go.bits .xor .u32 f g)) g
def mjP (a b c : Int) : Int := Go.bits .or .u32 (Go.bits .and .u32 a b) (Go.bits .and .u32 c (Go.bits .or .u32 a b))
def roundS (s : St) (n : Int) : St := ⟨(s.h + n + S1 s.e + chP s.e s.f s.g + (S0 s.a + mjP s.a s.b s.c)) % 4294967296, s.a, s.b, s.c, (s.d + (s.h + n + S1 s.e + chP s.e s.f s.g)) % 4294967296, s.e, s.f, s.g⟩
set_option maxHeartbeats 8000000 in
set_option maxRecDepth 100000 in
theorem round_calls (s0 s1 s2 s3 s4 s5 s6 s7 n : Int) (w : World) :
    Calls Tryd.prog 45 #[.agg #[.int .u32 s0, .int .u32 s1, .int .u32 s2, .int .u32 s3, .int .u32 s4, .int .u32 s5, .int .u32 s6, .int .u32 s7], .int .u32 n] w fun e w' => e = .returned (roundS ⟨s0, s1, s2, s3, s4, s5, s6, s7⟩ n).v ∧ Below w.heap.size w w' := by
  go_enter Tryd.func45, Tryd.ntmps45
  go_wp2_with fail
  go_quiet (fail)
  go_wp2_with fail
  go_quiet ((go_at_call 51; refine quiet_add (right_calls _ _ _ ?_ ?_) <;> omega))
  go_wp2_with fail
  go_quiet ((go_at_call 51; refine quiet_add (right_calls _ _ _ ?_ ?_) <;> omega))
  go_wp2_with fail
  refine bodyPost_ret (v := (roundS ⟨s0, s1, s2, s3, s4, s5, s6, s7⟩ n).v) (by simp [roundS, St.v, S1, chP, S0, mjP, results, Tryd.results45, go_sem]) rfl ⟨rfl, ?_⟩
  iterate 8 (refine Below.setCell ?_ (by simp) _)
  exact pw_below_drewN (((Below.refl _ _).alloc (Nat.le_refl _) _).alloc (by simp) _) _

def s0w (x : Int) : Int := Go.bits .xor .u32 (Go.bits .xor .u32 (rr x 7) (rr x 18)) (x / 8)
def s1w (y : Int) : Int := Go.bits .xor .u32 (Go.bits .xor .u32 (rr y 17) (rr y 19)) (y / 1024)
/-- The number of bytes, the highest first. -/
def be (l : List Int) : Int := l.foldl (fun v c => v * 256 + c) 0
def wNext (l : List Int) (i : Nat) : Int := (l.getD (i - 16) 0 + l.getD (i - 7) 0 + s0w (l.getD (i - 15) 0) + s1w (l.getD (i - 2) 0)) % 4294967296
def wl (b : List Int) : Nat → List Int
  | 0 => []
  | i + 1 => wl b i ++ [if i < 16 then be ((b.drop (4 * i)).take 4) % 4294967296 else wNext (wl b i) i]
theorem wl_length (b : List Int) (i : Nat) : (wl b i).length = i := by induction i with
  | zero => rfl
  | succ i ih => simp [wl, ih]
def wA (b : List Int) (i : Nat) : Array Value := ((wl b i).map (Value.int .u32) ++ List.replicate (64 - i) (Value.int .u32 0)).toArray
theorem wA_get (b : List Int) (k j : Nat) (hj : j < k) : (wA b k)[j]? = some (.int .u32 ((wl b k).getD j 0)) := by
  unfold wA
  have hl := wl_length b k
  rw [List.getElem?_toArray, List.getElem?_append_left (by simp; omega), List.getElem?_map, List.getD_eq_getElem?_getD, List.getElem?_eq_getElem (by omega)]
  rfl
theorem wA_zero (b : List Int) (k : Nat) (hk : k < 64) : (wA b k)[k]? = some (.int .u32 0) := by
  unfold wA
  have hl := wl_length b k
  rw [List.getElem?_toArray, List.getElem?_append_right (by simp; omega), List.length_map, hl, Nat.sub_self, List.getElem?_replicate, if_pos (by omega)]
theorem wA_set (b : List Int) (k : Nat) (hk : k < 64) (x : Int) (hx : (if k < 16 then be ((b.drop (4 * k)).take 4) % 4294967296 else wNext (wl b k) k) = x) : (wA b k).setIfInBounds k (.int .u32 x) = wA b (k + 1) := by
  unfold wA
  have hl := wl_length b k
  rw [List.setIfInBounds_toArray, List.set_append, if_neg (by simp; omega), List.length_map, hl, Nat.sub_self]
  obtain ⟨m, hm⟩ : ∃ m, 64 - k = m + 1 := ⟨63 - k, by omega⟩
  rw [hm, List.replicate_succ, List.set_cons_zero, show 64 - (k + 1) = m from by omega, wl, hx]
  simp
theorem be_snoc (l : List Int) (c : Int) : be (l ++ [c]) = be l * 256 + c := by simp [be]
theorem be_lt0 (l : List Int) : ∀ v : Int, 0 ≤ v → (∀ x ∈ l, 0 ≤ x ∧ x < 256) → 0 ≤ l.foldl (fun v c => v * 256 + c) v ∧ l.foldl (fun v c => v * 256 + c) v < (v + 1) * 256 ^ l.length := by
  induction l with
  | nil => intro v h0 _; simp; omega
  | cons c l ih =>
    intro v h0 h
    have hc := h c List.mem_cons_self
    have h1 := ih (v * 256 + c) (by omega) (fun x hx => h x (List.mem_cons_of_mem _ hx))
    refine ⟨h1.1, ?_⟩
    have h2 : (v * 256 + c + 1) * 256 ^ l.length ≤ (v + 1) * 256 * 256 ^ l.length := Int.mul_le_mul_of_nonneg_right (by omega) (Int.le_of_lt (Int.pow_pos (by decide)))
    rw [List.length_cons, Int.pow_succ, Int.mul_comm (256 ^ l.length) 256, ← Int.mul_assoc]
    exact Int.lt_of_lt_of_le h1.2 h2
theorem be_lt (l : List Int) (h : ∀ x ∈ l, 0 ≤ x ∧ x < 256) : 0 ≤ be l ∧ be l < 256 ^ l.length := by
  have := be_lt0 l 0 (Int.le_refl _) h
  simpa [be] using this
theorem C_part {k : IntKind} {w : World} {ad : Addr} {b : List Int} {c : Nat} (h : Kd.C (Kd.int k) w (some ad) b.length b) (i n : Nat) (hc : b.length ≤ c) (hi : i + n ≤ b.length) (hne : ¬ (c = i)) :
    Kd.C (Kd.int k) w (some (ad.add i)) ((b.drop i).take n).length ((b.drop i).take n) := by
  have h1 := Kd.C_drop (m := i) (c := c) h (by omega) hc
  rw [if_neg hne] at h1
  have h2 := Kd.C_take (m := n) h1 (by rw [List.length_drop]; omega)
  simpa [Kd.int, Kd.scalar] using h2
theorem or_low (v c : Int) (h0 : 0 ≤ v) (h1 : v < 72057594037927936) (h2 : 0 ≤ c) (h3 : c < 256) : Go.bits .or .u64 (IntKind.u64.wrap (v * 256)) (IntKind.u64.wrap c) = v * 256 + c := by
  rw [Go.IntKind.wrap_u64, Go.IntKind.wrap_u64, Int.emod_eq_of_lt (by omega) (by omega), Int.emod_eq_of_lt (by omega) (by omega)]
  exact Go.bits_join .u64 64 (by decide) (fun n h0 h1 => by rw [Go.IntKind.wrap_u64]; omega) 8 (v * 256) c (by omega) (by omega) (by omega) h2 (by omega) (by omega)
theorem pow_256 (i : Nat) (h : i ≤ 7) : (256 : Int) ^ i ≤ 72057594037927936 := by
  have : ∀ i < 8, (256 : Int) ^ i ≤ 72057594037927936 := by decide
  exact this i (by omega)
theorem get_run (d : Nat) : ∀ (k i : Nat) (l : List Int), d + i = l.length → d < k → l.length ≤ 8 → (∀ x ∈ l, 0 ≤ x ∧ x < 256) → hash_Get.l0 k (be (l.take i)) l (l.length : Int) (i : Int) = some (be l) := by
  induction d with
  | zero =>
    intro k i l hd hk hl hx
    obtain ⟨k, rfl⟩ : ∃ m, k = m + 1 := ⟨k - 1, by omega⟩
    simp only [hash_Get.l0]
    rw [if_neg (by omega), List.take_of_length_le (by omega)]
  | succ d ih =>
    intro k i l hd hk hl hx
    obtain ⟨k, rfl⟩ : ∃ m, k = m + 1 := ⟨k - 1, by omega⟩
    simp only [hash_Get.l0]
    have hi : i < l.length := by omega
    have hb := be_lt (l.take i) (fun x hx' => hx x (List.mem_of_mem_take hx'))
    rw [List.length_take, Nat.min_eq_left (by omega)] at hb
    have hp := pow_256 i (by omega)
    have hc := hx l[i] (List.getElem_mem hi)
    have e : rd l (i : Int) = l[i] := by simp [rd, hi]
    rw [if_pos (by omega), if_pos (by omega), if_pos (by omega), e, or_low _ _ hb.1 (by omega) hc.1 hc.2, ← be_snoc, ← List.take_succ_eq_append_getElem hi, show wrap64 ((i : Int) + 1) = ((i + 1 : Nat) : Int) from by unfold wrap64; omega]
    exact ih k (i + 1) l (by omega) (by omega) hl hx
theorem get_f (k : Nat) (l : List Int) (hk : 9 ≤ k) (hl : l.length ≤ 8) (hx : ∀ x ∈ l, 0 ≤ x ∧ x < 256) : hash_Get.f k l = some (be l) := get_run l.length k 0 l (by omega) (by omega) hl hx
theorem wA_size (b : List Int) : (wA b 64).size = 64 := by simp [wA, wl_length]
theorem wA0_size : (wA [] 0).size = 64 := by simp [wA, wl_length]
theorem wA_one (b : List Int) : (wA b 64).all (·.oneCell') = true := by simp [wA, Value.oneCell', Function.comp_def]
theorem wA_info (b : List Int) : (Tryd.prog.info? 53).map (·.size) = some (wA b 64).size := by rw [wA_size]; kernel_rfl
set_option maxHeartbeats 2000000 in
set_option maxRecDepth 100000 in
theorem widen_calls (A0 : Option Addr) (c0 : Nat) (b : List Int) (w : World) (hr0 : Kd.C (Kd.int .u8) w A0 b.length b) (hc0 : b.length ≤ c0) (hb : b.length = 64) (hby : ∀ x ∈ b, 0 ≤ x ∧ x < 256) :
    Calls Tryd.prog 44 #[.slice A0 b.length c0] w fun e w' => e = .returned (.agg (wA b 64)) ∧ Below w.heap.size w w' := by
  have hz : ∀ w, Sem.run Tryd.prog (zeroValue 53) w = .ok (.agg (wA [] 0)) w := fun w => by kernel_rfl
  have HR := Aside0.mk hr0
  have HC := Aside0.mk hc0
  have HL := Aside0.mk hb
  have HY := Aside0.mk hby
  clear hr0 hc0 hb hby
  go_enter Tryd.func44, Tryd.ntmps44
  go_wp2_with fail
  clear hz
  go_loopw [7] (fun i wr => ∃ k : Nat, k ≤ 64 ∧ i = .int .i64 k ∧ Aside0 (wr.heap[w.heap.size + 1]? = some (.cells (wA b k) 53 (0, 0))) ∧ Aside0 (wr.heap[w.heap.size]? = some (.cells (wA [] 0) 53 (0, 0))) ∧ Aside0 (Below w.heap.size w wr)) (fun i _ => 64 - (intOf i).toNat)
  case atStart => exact ⟨0, by omega, rfl, ⟨by rw [show wA b 0 = wA [] 0 from rfl]; have := blk_new (w.alloc (.cells (wA [] 0) 53)) (.cells (wA [] 0) 53); simpa using this⟩, ⟨blk_alloc (blk_new _ _) _⟩, ⟨((Below.refl _ _).alloc (Nat.le_refl _) _).alloc (by simp) _⟩⟩
  case round =>
    obtain ⟨k, hk, rfl, hblk, hblk0, hB⟩ := hrel
    by_cases hlt : k < 64
    · by_cases h16 : k < 16
      · have hf : wr.frozen? ⟨w.heap.size + 1, k, none⟩ = false := blk_frozen hblk.out _
        have hc0' : wr.cell? ⟨w.heap.size + 1, k, none⟩ = some (.int .u32 0) := (blk_cell hblk.out k).trans (wA_zero b k hlt)
        have HS := Aside0.mk (wA_set b k hlt _ (if_pos h16))
        obtain ⟨ad, rfl, _⟩ := HR.out.2.2 (by rw [HL.out]; decide)
        have h1 : 4 * (k : Int) + 4 ≤ (c0 : Int) := by have := HC.out; have := HL.out; omega
        have h2 : ¬ (c0 = 4 * k) := by have := HC.out; have := HL.out; omega
        have hl4 : ((b.drop (4 * k)).take 4).length = 4 := by have := HL.out; simp; omega
        have HG := Aside0.mk (get_f 9 ((b.drop (4 * k)).take 4) (Nat.le_refl _) (by omega) (fun x hx => HY.out x (List.mem_of_mem_drop (List.mem_of_mem_take hx))))
        have HL4 := Aside0.mk hl4
        clear hl4
        have HP := Aside0.mk (C_part (Kd.C_below HR.out hB.out) (4 * k) 4 HC.out (by have := HL.out; omega) h2)
        go_wp2_with fail
        refine calls_of_args (args' := #[.slice (some (ad.add (4 * k))) ((b.drop (4 * k)).take 4).length (c0 - 4 * k)]) (by rw [HL4.out]) ?_
        refine (hash_Get.calls 9 _ _ _ _ _ HP.out (by rw [HL4.out]; have := HC.out; have := HL.out; omega) HG.out).mono ?_
        rintro e w' ⟨rfl, ⟨nd, rfl⟩⟩
        go_wp2
        go_roundw
        case rel =>
          refine ⟨k + 1, by omega, by go_num, ⟨?_⟩, ⟨blk_far hblk0.out (by simp) _⟩, ⟨Below.setCell (p := ⟨w.heap.size + 1, k, none⟩) (pw_below_drewN hB.out _) (by simp) _⟩⟩
          exact blk_put hblk.out k _ HS.out
        case measure => simp [intOf]; omega
      · have h16' : 16 ≤ k := by omega
        have hx : ∀ j, j < k → wr.cell? ⟨w.heap.size + 1, j, none⟩ = some (.int .u32 ((wl b k).getD j 0)) := fun j hj => (blk_cell hblk.out j).trans (wA_get b k j hj)
        have hf : wr.frozen? ⟨w.heap.size + 1, k, none⟩ = false := blk_frozen hblk.out _
        have hc0 : wr.cell? ⟨w.heap.size + 1, k, none⟩ = some (.int .u32 0) := (blk_cell hblk.out k).trans (wA_zero b k hlt)
        have HS := Aside0.mk (wA_set b k hlt _ (if_neg h16))
        unfold wNext at HS
        have hc15 := hx (k - 15) (by omega)
        have hc2 := hx (k - 2) (by omega)
        have hc16 := hx (k - 16) (by omega)
        have hc7 := hx (k - 7) (by omega)
        generalize (wl b k).getD (k - 15) 0 = x15 at hc15 HS
        generalize (wl b k).getD (k - 2) 0 = x2 at hc2 HS
        generalize (wl b k).getD (k - 16) 0 = x16 at hc16 HS
        generalize (wl b k).getD (k - 7) 0 = x7 at hc7 HS
        have e15 : ((k : Int) - 15).toNat = k - 15 := by omega
        have e2 : ((k : Int) - 2).toNat = k - 2 := by omega
        have e16 : ((k : Int) - 16).toNat = k - 16 := by omega
        have e7 : ((k : Int) - 7).toNat = k - 7 := by omega
        clear hx
        go_wp2_with fail
        go_quiet (fail)
        go_wp2_with fail
        have w16 : IntKind.i64.wrap ((k : Int) - 16) = (k : Int) - 16 := by rw [Go.IntKind.wrap_i64]; omega
        have w7 : IntKind.i64.wrap ((k : Int) - 7) = (k : Int) - 7 := by rw [Go.IntKind.wrap_i64]; omega
        have g16 : (0 : Int) ≤ (k : Int) - 16 := by omega
        have g7 : (0 : Int) ≤ (k : Int) - 7 := by omega
        have l16 : (k : Int) - 16 < 64 := by omega
        have l7 : (k : Int) - 7 < 64 := by omega
        have g7' : (7 : Int) ≤ (k : Int) := by omega
        have l7' : (k : Int) < 71 := by omega
        have l16' : (k : Int) < 80 := by omega
        have n16 : ¬ (k = k - 16) := by omega
        have n7 : ¬ (k = k - 7) := by omega
        go_region_held3 (fun w' => w'.cell? ⟨w.heap.size + 1, k - 16, none⟩ = some (.int .u32 x16) ∧ w'.cell? ⟨w.heap.size + 1, k - 7, none⟩ = some (.int .u32 x7)) (first | go_keep | exact ⟨(World.cell?_setCell_other _ _ _ _ (fun e => n16 (congrArg Addr.off e))).trans hc16, (World.cell?_setCell_other _ _ _ _ (fun e => n7 (congrArg Addr.off e))).trans hc7⟩) (first | (go_at_call 51; refine (right_calls _ _ _ ?_ ?_).mono ?_; omega; omega; rintro e w' ⟨rfl, m, rfl⟩))
        clear w16 w7 g16 g7 l16 l7 n16 n7
        go_wp2
        go_roundw
        case rel =>
          refine ⟨k + 1, by omega, by go_num, ⟨?_⟩, ⟨blk_far hblk0.out (by simp) _⟩, ⟨Below.setCell (p := ⟨w.heap.size + 1, k, none⟩) (pw_below_drewN hB.out _) (by simp) _⟩⟩
          have e := HS.out
          rw [show (x16 + x7 + s0w x15 + s1w x2) % 4294967296 = IntKind.u32.wrap (IntKind.u32.wrap (IntKind.u32.wrap (x16 + x7) + s0w x15) + s1w x2) from by rw [IntKind.wrap_u32, IntKind.wrap_u32, IntKind.wrap_u32]; omega] at e
          exact blk_put hblk.out k _ e
        case measure => simp [intOf]; omega
    · obtain rfl : k = 64 := by omega
      have HI := Aside0.mk (wA_info b)
      have H1 := Aside0.mk (wA_one b)
      have HE := Aside0.mk (wA0_size.trans (wA_size b).symm)
      generalize hwa : wA b 64 = wa at *
      generalize hw0 : wA [] 0 = w0 at *
      have HWA := Aside0.mk hwa
      clear hwa hw0
      go_wp2_with (first | (refine wpList_load_row rfl 53 (.tmp 3) rfl (w.heap.size + 1) rfl 53 wa (0, 0) _ hblk.out Tryd.underlying53 rfl HI.out ?_) | (refine wpList_store_row rfl 53 (.tmp 2) (.tmp 61) rfl w.heap.size wa rfl rfl 53 w0 hblk0.out HI.out HE.out H1.out ?_))
      have HB2 : Below w.heap.size w (wr.setRow w.heap.size wa) := hB.out.trans ⟨rfl, rfl, rfl, by simp, fun k hk => setRow_other _ _ _ _ (by omega)⟩
      have hs := setRow_heap wr w.heap.size w0 wa 53 (0, 0) hblk0.out
      exact end_cell Tryd.results44 rfl hs Tryd.underlying53 rfl HI.out rfl ⟨by rw [HWA.out], HB2⟩

/-- The sixty-four numbers of the rounds (FIPS 180-4). -/
def turns : List Int := [1116352408, 1899447441, 3049323471, 3921009573, 961987163, 1508970993, 2453635748, 2870763221, 3624381080, 310598401, 607225278, 1426881987, 1925078388, 2162078206, 2614888103, 3248222580, 3835390401, 4022224774, 264347078, 604807628, 770255983, 1249150122, 1555081692, 1996064986, 2554220882, 2821834349, 2952996808, 3210313671, 3336571891, 3584528711, 113926993, 338241895, 666307205, 773529912, 1294757372, 1396182291, 1695183700, 1986661051, 2177026350, 2456956037, 2730485921, 2820302411, 3259730800, 3345764771, 3516065817, 3600352804, 4094571909, 275423344, 430227734, 506948616, 659060556, 883997877, 958139571, 1322822218, 1537002063, 1747873779, 1955562222, 2024104815, 2227730452, 2361852424, 2428436474, 2756734187, 3204031479, 3329325298]
def turn (k : Nat) : Int := turns.getD k 0
/-- The table lies where the program's start laid it. -/
def Tab (w : World) : Prop := ∀ k : Nat, k < 64 → w.cell? ⟨0, k, none⟩ = some (.int .u32 (turn k))
theorem Tab.below {w w' : World} (h : Tab w) (hb : Below w.heap.size w w') : Tab w' := fun k hk => pw_cell_below hb (h k hk)
theorem Tab.drewN {w : World} (h : Tab w) (n : Nat) : Tab (w.drewN n) := h
theorem Tab.alloc {w : World} (h : Tab w) (o : Obj) : Tab (w.alloc o) := h.below ((Below.refl _ _).alloc (Nat.le_refl _) o)
def St.arr (s : St) : Array Value := #[.int .u32 s.a, .int .u32 s.b, .int .u32 s.c, .int .u32 s.d, .int .u32 s.e, .int .u32 s.f, .int .u32 s.g, .int .u32 s.h]
def rnds (s : St) (b : List Int) : Nat → St
  | 0 => s
  | k + 1 => roundS (rnds s b k) (((wl b 64).getD k 0 + turn k) % 4294967296)
def addS (t s : St) : St := ⟨(t.a + s.a) % 4294967296, (t.b + s.b) % 4294967296, (t.c + s.c) % 4294967296, (t.d + s.d) % 4294967296, (t.e + s.e) % 4294967296, (t.f + s.f) % 4294967296, (t.g + s.g) % 4294967296, (t.h + s.h) % 4294967296⟩
def takeS (s : St) (b : List Int) : St := addS (rnds s b 64) s
theorem blk_new1 (w : World) (A B : Obj) : ((w.alloc A).alloc B).heap[w.heap.size + 1]? = some B := heap_alloc2_new w A B
theorem blk_new2 (w : World) (A B C : Obj) : (((w.alloc A).alloc B).alloc C).heap[w.heap.size + 2]? = some C := by
  have := blk_new ((w.alloc A).alloc B) C
  simpa using this
theorem arr_cells {w : World} {B t : Nat} {s : St} (h : w.heap[B]? = some (.cells s.arr t (0, 0))) :
    w.cell? ⟨B, 0, none⟩ = some (.int .u32 s.a) ∧ w.cell? ⟨B, 1, none⟩ = some (.int .u32 s.b) ∧ w.cell? ⟨B, 2, none⟩ = some (.int .u32 s.c) ∧ w.cell? ⟨B, 3, none⟩ = some (.int .u32 s.d) ∧
    w.cell? ⟨B, 4, none⟩ = some (.int .u32 s.e) ∧ w.cell? ⟨B, 5, none⟩ = some (.int .u32 s.f) ∧ w.cell? ⟨B, 6, none⟩ = some (.int .u32 s.g) ∧ w.cell? ⟨B, 7, none⟩ = some (.int .u32 s.h) :=
  ⟨blk_cell h 0, blk_cell h 1, blk_cell h 2, blk_cell h 3, blk_cell h 4, blk_cell h 5, blk_cell h 6, blk_cell h 7⟩
theorem arr_free {w : World} {B t : Nat} {cs : Array Value} (h : w.heap[B]? = some (.cells cs t (0, 0))) :
    w.frozen? ⟨B, 0, none⟩ = false ∧ w.frozen? ⟨B, 1, none⟩ = false ∧ w.frozen? ⟨B, 2, none⟩ = false ∧ w.frozen? ⟨B, 3, none⟩ = false ∧
    w.frozen? ⟨B, 4, none⟩ = false ∧ w.frozen? ⟨B, 5, none⟩ = false ∧ w.frozen? ⟨B, 6, none⟩ = false ∧ w.frozen? ⟨B, 7, none⟩ = false :=
  ⟨blk_frozen h 0, blk_frozen h 1, blk_frozen h 2, blk_frozen h 3, blk_frozen h 4, blk_frozen h 5, blk_frozen h 6, blk_frozen h 7⟩
theorem round_any (s0 s1 s2 s3 s4 s5 s6 s7 n : Int) (w : World) :
    Calls Tryd.prog 45 #[.agg #[.int .u32 s0, .int .u32 s1, .int .u32 s2, .int .u32 s3, .int .u32 s4, .int .u32 s5, .int .u32 s6, .int .u32 s7], .int .u32 n] w fun e w' => (∃ s : St, s = roundS ⟨s0, s1, s2, s3, s4, s5, s6, s7⟩ n ∧ e = .returned (.agg #[.int .u32 s.a, .int .u32 s.b, .int .u32 s.c, .int .u32 s.d, .int .u32 s.e, .int .u32 s.f, .int .u32 s.g, .int .u32 s.h])) ∧ Below w.heap.size w w' :=
  (round_calls s0 s1 s2 s3 s4 s5 s6 s7 n w).mono fun e w' ⟨he, hb⟩ => ⟨⟨_, rfl, he⟩, hb⟩
theorem arr_set {w : World} {B t : Nat} {s1 : St} (h : w.heap[B]? = some (.cells s1.arr t (0, 0))) (s : St) :
    ((((((((w.setCell ⟨B, 0, none⟩ (.int .u32 s.a)).setCell ⟨B, 1, none⟩ (.int .u32 s.b)).setCell ⟨B, 2, none⟩ (.int .u32 s.c)).setCell ⟨B, 3, none⟩ (.int .u32 s.d)).setCell ⟨B, 4, none⟩ (.int .u32 s.e)).setCell ⟨B, 5, none⟩ (.int .u32 s.f)).setCell ⟨B, 6, none⟩ (.int .u32 s.g)).setCell ⟨B, 7, none⟩ (.int .u32 s.h)).heap[B]? = some (.cells s.arr t (0, 0)) :=
  blk_put (blk_set (blk_set (blk_set (blk_set (blk_set (blk_set (blk_set h 0 _) 1 _) 2 _) 3 _) 4 _) 5 _) 6 _) 7 _ (by simp only [St.arr, List.setIfInBounds_toArray, List.set_cons_zero, List.set_cons_succ])
theorem arr_far {w : World} {B B' t : Nat} {cs : Array Value} (h : w.heap[B']? = some (.cells cs t (0, 0))) (hne : B' ≠ B) (s : St) :
    ((((((((w.setCell ⟨B, 0, none⟩ (.int .u32 s.a)).setCell ⟨B, 1, none⟩ (.int .u32 s.b)).setCell ⟨B, 2, none⟩ (.int .u32 s.c)).setCell ⟨B, 3, none⟩ (.int .u32 s.d)).setCell ⟨B, 4, none⟩ (.int .u32 s.e)).setCell ⟨B, 5, none⟩ (.int .u32 s.f)).setCell ⟨B, 6, none⟩ (.int .u32 s.g)).setCell ⟨B, 7, none⟩ (.int .u32 s.h)).heap[B']? = some (.cells cs t (0, 0)) :=
  blk_far (blk_far (blk_far (blk_far (blk_far (blk_far (blk_far (blk_far h hne _) hne _) hne _) hne _) hne _) hne _) hne _) hne _
theorem arr_below {w0 w : World} {N B : Nat} (h : Below N w0 w) (hN : N ≤ B) (s : St) :
    Below N w0 ((((((((w.setCell ⟨B, 0, none⟩ (.int .u32 s.a)).setCell ⟨B, 1, none⟩ (.int .u32 s.b)).setCell ⟨B, 2, none⟩ (.int .u32 s.c)).setCell ⟨B, 3, none⟩ (.int .u32 s.d)).setCell ⟨B, 4, none⟩ (.int .u32 s.e)).setCell ⟨B, 5, none⟩ (.int .u32 s.f)).setCell ⟨B, 6, none⟩ (.int .u32 s.g)).setCell ⟨B, 7, none⟩ (.int .u32 s.h)) :=
  (((((((h.setCell hN _).setCell hN _).setCell hN _).setCell hN _).setCell hN _).setCell hN _).setCell hN _).setCell hN _
def St.l (s : St) : List Int := [s.a, s.b, s.c, s.d, s.e, s.f, s.g, s.h]
/-- The first k numbers have been added. -/
def mixA (t s : St) (k : Nat) : Array Value := ((List.range 8).map fun j => Value.int .u32 (if j < k then (t.l.getD j 0 + s.l.getD j 0) % 4294967296 else t.l.getD j 0)).toArray
theorem mixA_zero (t s : St) : mixA t s 0 = t.arr := rfl
theorem mixA_end (t s : St) : mixA t s 8 = (addS t s).arr := rfl
theorem mixA_get (t s : St) (k : Nat) (hk : k < 8) : (mixA t s k)[k]? = some (.int .u32 (t.l.getD k 0)) := by simp [mixA, hk]
theorem arr_get (s : St) (k : Nat) (hk : k < 8) : s.arr[k]? = some (.int .u32 (s.l.getD k 0)) := by
  match k, hk with
  | 0, _ => rfl
  | 1, _ => rfl
  | 2, _ => rfl
  | 3, _ => rfl
  | 4, _ => rfl
  | 5, _ => rfl
  | 6, _ => rfl
  | 7, _ => rfl
theorem mixA_set (t s : St) (k : Nat) (hk : k < 8) : (mixA t s k).setIfInBounds k (.int .u32 ((t.l.getD k 0 + s.l.getD k 0) % 4294967296)) = mixA t s (k + 1) := by
  match k, hk with
  | 0, _ => rfl
  | 1, _ => rfl
  | 2, _ => rfl
  | 3, _ => rfl
  | 4, _ => rfl
  | 5, _ => rfl
  | 6, _ => rfl
  | 7, _ => rfl
theorem run_index_arr {P : Program} {T E len : Nat} {cs : Array Value} {k : Nat} {x : Value} {kd : IntKind} (hT : P.underlying T = some (.array len E)) (hE : P.underlying E = some (.int kd)) (hs : ∀ w, (sizeOf E).run P w = .ok 1 w) (hk : k < len) (hx : cs[k]? = some x) (w : World) :
    (Instr.index T (.agg cs) (.int .i64 (k : Int))).run P w = .ok x w := by
  simp [Instr.index, asIntOf, run_underlying hT, hs, hk, part, isAgg, run_underlying hE, hx]
set_option maxHeartbeats 2000000 in
set_option maxRecDepth 100000 in
theorem take_calls (s : St) (A0 : Option Addr) (c0 : Nat) (b : List Int) (w : World) (hT : Tab w) (hr0 : Kd.C (Kd.int .u8) w A0 b.length b) (hc0 : b.length ≤ c0) (hb : b.length = 64) (hby : ∀ x ∈ b, 0 ≤ x ∧ x < 256) :
    Calls Tryd.prog 31 #[.agg s.arr, .slice A0 b.length c0] w fun e w' => e = .returned (.agg (takeS s b).arr) ∧ Below w.heap.size w w' := by
  have HT := Aside0.mk hT
  have HR := Aside0.mk hr0
  have HC := Aside0.mk hc0
  have HL := Aside0.mk hb
  have HY := Aside0.mk hby
  clear hT hr0 hc0 hb hby
  unfold St.arr
  go_enter Tryd.func31, Tryd.ntmps31
  go_wp2_with fail
  refine (widen_calls A0 c0 b _ (by repeat (first | exact HR.out | (with_reducible refine Kd.C_alloc ?_ _))) HC.out HL.out HY.out).mono ?_
  rintro e w1 ⟨rfl, hb1⟩
  have hB1 : Below w.heap.size w w1 := (((((Below.refl _ _).alloc (Nat.le_refl _) _).alloc (by simp) _).alloc (by simp only [World.size_alloc]; omega) _)).trans (hb1.mono (by simp only [World.size_alloc]; omega))
  have hk0 : w1.heap[w.heap.size]? = some (.cells s.arr 56 (0, 0)) := blk_below (blk_alloc (blk_alloc (blk_new _ _) _) _) hb1
  have hk1 : w1.heap[w.heap.size + 1]? = some (.cells (St.arr ⟨0, 0, 0, 0, 0, 0, 0, 0⟩) 56 (0, 0)) := blk_below (blk_alloc (blk_new1 _ _ _) _) hb1
  have hk2 : w1.heap[w.heap.size + 2]? = some (.cells s.arr 56 (0, 0)) := blk_below (blk_new2 _ _ _ _) hb1
  have HB1 := Aside0.mk hB1
  have HK0 := Aside0.mk hk0
  have HK1 := Aside0.mk hk1
  have HK2 := Aside0.mk hk2
  clear hb1 hB1 hk0 hk1 hk2
  go_wp2_with fail
  go_loopw [12] (fun i wr => ∃ k : Nat, k ≤ 64 ∧ i = .int .i64 k ∧ Aside0 (wr.heap[w.heap.size + 2]? = some (.cells (rnds s b k).arr 56 (0, 0))) ∧ Aside0 (wr.heap[w.heap.size]? = some (.cells s.arr 56 (0, 0))) ∧ Aside0 (wr.heap[w.heap.size + 1]? = some (.cells (St.arr ⟨0, 0, 0, 0, 0, 0, 0, 0⟩) 56 (0, 0))) ∧ Aside0 (Below w.heap.size w wr)) (fun i _ => 64 - (intOf i).toNat)
  case atStart => exact ⟨0, by omega, rfl, HK2, HK0, HK1, HB1⟩
  case round =>
    clear HK0 HK1 HK2 HB1
    obtain ⟨k, hk, rfl, hk2, hk0, hk1, hB⟩ := hrel
    by_cases hlt : k < 64
    · have hidx := run_index_arr (P := Tryd.prog) (T := 53) (E := 52) (k := k) (len := 64) (cs := wA b 64) Tryd.underlying53 Tryd.underlying52 (fun w => by kernel_rfl) hlt (wA_get b 64 k hlt)
      have ht : wr.cell? ⟨0, k, none⟩ = some (.int .u32 (turn k)) := (HT.out.below hB.out) k hlt
      have hrn : rnds s b (k + 1) = roundS (rnds s b k) (((wl b 64).getD k 0 + turn k) % 4294967296) := rfl
      have HRN := Aside0.mk hrn
      clear hrn
      generalize (wl b 64).getD k 0 = wk at hidx HRN
      generalize turn k = tk at ht HRN
      generalize hs2 : rnds s b (k + 1) = s2 at HRN
      have HS2 := Aside0.mk hs2
      clear hs2
      generalize rnds s b k = s1 at hk2 HRN
      obtain ⟨x0, x1, x2, x3, x4, x5, x6, x7⟩ := s1
      obtain ⟨e0, e1, e2, e3, e4, e5, e6, e7⟩ := arr_cells hk2.out
      go_wp2_with fail
      go_region_with (go_at_call 45; refine (round_any x0 x1 x2 x3 x4 x5 x6 x7 _ _).mono ?_; rintro e w2 ⟨⟨s', hs', rfl⟩, hb2⟩; have HS' := Aside0.mk hs'; clear hs'; obtain ⟨f0, f1, f2, f3, f4, f5, f6, f7⟩ := arr_cells ((hb2.block (w.heap.size + 2) (blk_lt hk2.out)).trans hk2.out); obtain ⟨g0, g1, g2, g3, g4, g5, g6, g7⟩ := arr_free ((hb2.block (w.heap.size + 2) (blk_lt hk2.out)).trans hk2.out); have HB2 := Aside0.mk hb2; clear hb2)
      all_goals
        go_wp2
        go_roundw
        case rel =>
          have es : s' = s2 := by rw [HS'.out, HRN.out, Go.IntKind.wrap_u32]
          subst es
          have hw2 : w2.heap[w.heap.size + 2]? = some (.cells (St.arr ⟨x0, x1, x2, x3, x4, x5, x6, x7⟩) 56 (0, 0)) := (HB2.out.block (w.heap.size + 2) (blk_lt hk2.out)).trans hk2.out
          have hw0 : w2.heap[w.heap.size]? = some (.cells s.arr 56 (0, 0)) := (HB2.out.block w.heap.size (blk_lt hk0.out)).trans hk0.out
          have hw1 : w2.heap[w.heap.size + 1]? = some (.cells (St.arr ⟨0, 0, 0, 0, 0, 0, 0, 0⟩) 56 (0, 0)) := (HB2.out.block (w.heap.size + 1) (blk_lt hk1.out)).trans hk1.out
          have hwB : Below w.heap.size w w2 := (hB.out.drew).trans (HB2.out.mono (Nat.le_of_lt (blk_lt hk0.out)))
          refine ⟨k + 1, by omega, by go_num, ⟨?_⟩, ⟨arr_far hw0 (by omega) s'⟩, ⟨arr_far hw1 (by omega) s'⟩, ⟨arr_below hwB (by omega) s'⟩⟩
          rw [HS2.out]
          exact arr_set hw2 s'
        case measure => simp [intOf]; omega
    · obtain rfl : k = 64 := by omega
      have htk : takeS s b = addS (rnds s b 64) s := rfl
      have HTK := Aside0.mk htk
      clear htk
      generalize rnds s b 64 = t at hk2 HTK
      go_wp2_with fail
      go_loopw [24] (fun i wr => ∃ k : Nat, k ≤ 8 ∧ i = .int .i64 k ∧ Aside0 (wr.heap[w.heap.size + 2]? = some (.cells (mixA t s k) 56 (0, 0))) ∧ Aside0 (wr.heap[w.heap.size]? = some (.cells s.arr 56 (0, 0))) ∧ Aside0 (wr.heap[w.heap.size + 1]? = some (.cells (St.arr ⟨0, 0, 0, 0, 0, 0, 0, 0⟩) 56 (0, 0))) ∧ Aside0 (Below w.heap.size w wr)) (fun i _ => 8 - (intOf i).toNat)
      case atStart => exact ⟨0, by omega, rfl, hk2, hk0, hk1, hB⟩
      case round =>
        clear hk2 hk0 hk1 hB
        obtain ⟨j, hj, rfl, hm2, hm0, hm1, hB⟩ := hrel
        by_cases hj8 : j < 8
        · have HS := Aside0.mk (mixA_set t s j hj8)
          have c2 := (blk_cell hm2.out j).trans (mixA_get t s j hj8)
          have c0' := (blk_cell hm0.out j).trans (arr_get s j hj8)
          have f2 := blk_frozen hm2.out j
          generalize t.l.getD j 0 = tj at HS c2
          generalize s.l.getD j 0 = sj at HS c0'
          go_wp2_with fail
          go_region
          all_goals
            go_wp2
            go_roundw
            case rel => exact ⟨j + 1, by omega, by go_num, ⟨blk_put hm2.out j _ HS.out⟩, ⟨blk_far hm0.out (show w.heap.size ≠ w.heap.size + 2 by omega) _⟩, ⟨blk_far hm1.out (show w.heap.size + 1 ≠ w.heap.size + 2 by omega) _⟩, ⟨(hB.out.drew).setCell (p := ⟨w.heap.size + 2, j, none⟩) (by simp) _⟩⟩
            case measure => simp [intOf]; omega
        · obtain rfl : j = 8 := by omega
          have hm3 : wr.heap[w.heap.size + 2]? = some (.cells (addS t s).arr 56 (0, 0)) := hm2.out
          have HR2 := Aside0.mk hm3
          obtain ⟨e0, e1, e2, e3, e4, e5, e6, e7⟩ := arr_cells hm3
          obtain ⟨d0, d1, d2, d3, d4, d5, d6, d7⟩ := arr_cells hm1.out
          obtain ⟨g0, g1, g2, g3, g4, g5, g6, g7⟩ := arr_free hm1.out
          clear hm3
          generalize hu : addS t s = u at *
          have HU := Aside0.mk hu
          clear hu
          go_wp2
          refine end_cell (cs := u.arr) Tryd.results31 rfl (arr_set hm1.out u) Tryd.underlying56 rfl (by kernel_rfl) rfl ⟨?_, arr_below hB.out (by omega) u⟩
          rw [HTK.out]
          rfl

/-- The bytes behind a text: a 1, as many 0 as make the length 56 modulo 64, the length in bits. -/
def padN (n : Nat) : Nat := (119 - n % 64) % 64
def enc (v : Int) : Nat → List Int
  | 0 => []
  | n + 1 => v / 256 ^ n % 256 :: enc v n
theorem enc_length (v : Int) (n : Nat) : (enc v n).length = n := by induction n with
  | zero => rfl
  | succ n ih => simp [enc, ih]
theorem enc_bytes (v : Int) (n : Nat) : ∀ x ∈ enc v n, 0 ≤ x ∧ x < 256 := by
  induction n with
  | zero => intro x hx; cases hx
  | succ n ih =>
    intro x hx
    rcases List.mem_cons.1 hx with rfl | hx
    · exact ⟨Int.emod_nonneg _ (by decide), Int.emod_lt_of_pos _ (by decide)⟩
    · exact ih x hx
theorem put_run (n : Nat) : ∀ (k : Nat) (l : List Int) (v : Int), n ≤ 8 → n < k → l.length + n < 140737488355328 → hash_Put.l0 k l v ((n : Int) - 1) = some (l ++ enc v n) := by
  induction n with
  | zero =>
    intro k l v _ hk _
    obtain ⟨k, rfl⟩ : ∃ m, k = m + 1 := ⟨k - 1, by omega⟩
    simp only [hash_Put.l0]
    rw [if_neg (by omega), enc, List.append_nil]
  | succ n ih =>
    intro k l v hn hk hl
    obtain ⟨k, rfl⟩ : ∃ m, k = m + 1 := ⟨k - 1, by omega⟩
    simp only [hash_Put.l0]
    have e1 : ((n + 1 : Nat) : Int) - 1 = (n : Int) := by omega
    have e2 : wrap64 (8 * (n : Int)) = ((8 * n : Nat) : Int) := by unfold wrap64; omega
    have e3 : wrap64 ((n : Int) - 1) = (n : Int) - 1 := by unfold wrap64; omega
    have e4 : shr .u64 v ((8 * n : Nat) : Int) = v / 256 ^ n := by
      unfold shr
      rw [Int.toNat_natCast, Nat.min_eq_left (by simp [IntKind.bits]; omega), Int.pow_mul]
      rfl
    rw [e1, e2, e3, e4, if_pos (by omega), if_pos (by omega), if_pos (by omega), ih k _ v (by omega) (by omega) (by simp; omega), enc, List.append_assoc]
    rfl
theorem put_f (k : Nat) (l : List Int) (v : Int) (n : Nat) (hn : n ≤ 8) (hk : 9 ≤ k) (hl : l.length + n < 140737488355328) : hash_Put.f k l v (n : Int) = some (l ++ enc v n) := by
  unfold hash_Put.f
  rw [show wrap64 ((n : Int) - 1) = (n : Int) - 1 from by unfold wrap64; omega]
  exact put_run n k l v hn (by omega) hl
def sumPad (b : List Int) : List Int := b ++ 128 :: (List.replicate (padN b.length) 0 ++ enc (8 * b.length) 8)
def init : St := ⟨1779033703, 3144134277, 1013904242, 2773480762, 1359893119, 2600822924, 528734635, 1541459225⟩
def blocks (s : St) : Nat → List Int → St
  | 0, _ => s
  | n + 1, l => blocks (takeS s (l.take 64)) n (l.drop 64)
def outB (s : St) : List Int := s.l.flatMap fun v => enc v 4
def sumF (b : List Int) : List Int := outB (blocks init ((sumPad b).length / 64) (sumPad b))

theorem take_any (s : St) (A0 : Option Addr) (c0 : Nat) (b : List Int) (w : World) (hT : Tab w) (hr0 : Kd.C (Kd.int .u8) w A0 b.length b) (hc0 : b.length ≤ c0) (hb : b.length = 64) (hby : ∀ x ∈ b, 0 ≤ x ∧ x < 256) :
    Calls Tryd.prog 31 #[.agg s.arr, .slice A0 b.length c0] w fun e w' => (∃ s' : St, s' = takeS s b ∧ e = .returned (.agg #[.int .u32 s'.a, .int .u32 s'.b, .int .u32 s'.c, .int .u32 s'.d, .int .u32 s'.e, .int .u32 s'.f, .int .u32 s'.g, .int .u32 s'.h])) ∧ Below w.heap.size w w' :=
  (take_calls s A0 c0 b w hT hr0 hc0 hb hby).mono fun e w' ⟨he, hb⟩ => ⟨⟨_, rfl, he⟩, hb⟩
def okS (s : St) : Prop := ∀ x ∈ s.l, 0 ≤ x ∧ x < 4294967296
theorem okS_take (s : St) (b : List Int) : okS (takeS s b) := by
  intro x hx
  have hm : ∀ a b : Int, 0 ≤ (a + b) % 4294967296 ∧ (a + b) % 4294967296 < 4294967296 := fun a b => ⟨Int.emod_nonneg _ (by decide), Int.emod_lt_of_pos _ (by decide)⟩
  simp only [takeS, addS, St.l, List.mem_cons, List.not_mem_nil, or_false] at hx
  rcases hx with rfl | rfl | rfl | rfl | rfl | rfl | rfl | rfl <;> exact hm _ _
theorem okS_init : okS init := by
  intro x hx
  simp only [init, St.l, List.mem_cons, List.not_mem_nil, or_false] at hx
  rcases hx with rfl | rfl | rfl | rfl | rfl | rfl | rfl | rfl <;> decide
def lenOf : Value → Nat
  | .slice _ n _ => n
  | _ => 0
def hash_Sum.f (l0 : List Int) : Option (List Int) := if l0.length < 1099511627776 ∧ ∀ x ∈ l0, 0 ≤ x ∧ x < 256 then some (sumF l0) else none
set_option maxHeartbeats 2000000 in
set_option maxRecDepth 100000 in
theorem hash_Sum.calls (A0 : Option Addr) (c0 : Nat) (l0 : List Int) (r : List Int) (w : World) (hr0 : Kd.C (Kd.int .u8) w A0 l0.length l0) (hc0 : l0.length ≤ c0) (hT : Tab w) (h : hash_Sum.f l0 = some r) :
    Calls Tryd.prog 23 #[.slice A0 l0.length c0] w fun e w' => ∃ v0_ : Value, e = .returned (v0_) ∧ Kd.R (Kd.int .u8) 5 w' w.heap.size (fun _ => True) v0_ r ∧ Below w.heap.size w w' := by
  unfold hash_Sum.f at h
  split at h
  · rename_i hh
    obtain ⟨hlt, hby⟩ := hh
    obtain rfl := Option.some.inj h
    clear h
    have HT := Aside0.mk hT
    have HR := Aside0.mk hr0
    have HC := Aside0.mk hc0
    have HY := Aside0.mk hby
    have LM := Aside0.mk hlt
    have HB := Aside0.mk (Below.refl w.heap.size w)
    clear hT hr0 hc0 hby hlt
    go_enter Tryd.func23, Tryd.ntmps23
    go_wp2_with (first | ((with_reducible refine gate_builtin (b := .append) (xs := #[.const (.slice none 0 0), .tmp 8]) rfl ?_); at_builtin; refine Kd.R_append_rows (Kd.int .u8) (w0 := w) (Rr := (Kd.int .u8).K w) w.heap.size rfl (.const (.slice none 0 0)) (.tmp 8) 42 5 (.int .u8 0) 1 rfl Tryd.underlying42 info5 rfl (by decide) (by decide) (.slice none 0 0) [] l0 A0 l0.length c0 (fun _ => True) (fun _ => False) rfl rfl (Kd.R_nil _ _ _ _ _) HR.out (fun _ _ h => h) (fun _ hk => hk.elim) (fun _ _ => trivial) HB.out (Nat.le_refl _) (by have := LM.out; simp only [List.length_nil]; omega) ?_; intro v1 w1 ho hb hg hat; have HO := Aside0.mk ho; have HB1 := Aside0.mk hb; clear ho hb hg hat) | ((with_reducible refine gate_builtin (b := .append) (xs := #[.tmp 9, .tmp 10]) rfl ?_); at_builtin; refine Kd.R_append (Kd.int .u8) (w0 := w) w.heap.size rfl (.tmp 9) (.tmp 10) 42 5 (.int .u8 0) 1 rfl Tryd.underlying42 info5 rfl (by decide) (by decide) v1 ([] ++ l0) 128 [.int .u8 128] (fun _ => True) (fun _ => False) rfl rfl rfl (fun _ hk => hk.elim) (fun _ _ => trivial) HO.out HB1.out HB1.out.size (by have := LM.out; simp only [List.nil_append]; omega) ?_; intro v2 w2 ho hb hg hat; have HO2 := Aside0.mk ho; have HB2 := Aside0.mk hb; clear ho hb hg hat))
    have HP : Aside0 (Kd.R (Kd.int .u8) 5 w2 w.heap.size (fun _ => True) v2 (l0 ++ 128 :: List.replicate 0 0)) := ⟨HO2.out⟩
    clear HO HB1 HO2
    go_loopw [3] (fun v wr => ∃ j : Nat, j ≤ padN l0.length ∧ Aside0 (Kd.R (Kd.int .u8) 5 wr w.heap.size (fun _ => True) v (l0 ++ 128 :: List.replicate j 0)) ∧ Aside0 (Below w.heap.size w wr)) (fun v _ => l0.length + 200 - lenOf v)
    case atStart => exact ⟨0, Nat.zero_le _, HP, HB2⟩
    case round =>
      clear HP HB2
      obtain ⟨j, hj, hR, hB⟩ := hrel
      have hlen : (l0 ++ 128 :: List.replicate j 0).length = l0.length + 1 + j := by simp; omega
      have HN : Aside0 ((l0 ++ 128 :: List.replicate j 0) ++ [0] = l0 ++ 128 :: List.replicate (j + 1) 0) := ⟨by rw [List.append_assoc, List.cons_append, ← List.replicate_succ']⟩
      have HE : Aside0 (j = padN l0.length → (l0 ++ 128 :: List.replicate j 0) ++ enc (8 * l0.length) 8 = sumPad l0) := ⟨fun e => by rw [e, sumPad, List.append_assoc, List.cons_append]⟩
      generalize l0 ++ 128 :: List.replicate j 0 = L at hR hlen HN HE
      have HLen := Aside0.mk hlen
      have hlim : L.length < 1099511627776 + 100 := by have := LM.out; have : padN l0.length < 64 := Nat.mod_lt _ (by decide); omega
      obtain ⟨A1, c1, rfl, hle, hC⟩ := Kd.R_reads hR.out
      have HLe := Aside0.mk hle
      have HC1 := Aside0.mk hC
      by_cases hjp : j < padN l0.length
      · have ht : (((L.length : Int) % 64) != 56) = true := by rw [bne_iff_ne, hlen]; unfold padN at hjp; omega
        clear hlen hle hC
        go_wp2_with ((with_reducible refine gate_builtin (b := .append) (xs := #[.tmp 16, .tmp 17]) rfl ?_); at_builtin; refine Kd.R_append (Kd.int .u8) (w0 := w) w.heap.size rfl (.tmp 16) (.tmp 17) 42 5 (.int .u8 0) 1 rfl Tryd.underlying42 info5 rfl (by decide) (by decide) (.slice A1 L.length c1) L 0 [.int .u8 0] (fun _ => True) (fun _ => False) rfl rfl rfl (fun _ hk => hk.elim) (fun _ _ => trivial) hR.out hB.out hB.out.size (by omega) ?_; intro v2 w2 ho hb hg hat; have HO2 := Aside0.mk ho; have HB2 := Aside0.mk hb; clear ho hb hg hat)
        go_roundw
        case rel => exact ⟨j + 1, by omega, ⟨by rw [← HN.out]; exact HO2.out⟩, HB2⟩
        case measure =>
          obtain ⟨A2, c2, rfl, _, _⟩ := Kd.R_reads HO2.out
          have h1 := HLen.out
          have h2 : padN l0.length < 64 := Nat.mod_lt _ (by decide)
          simp only [lenOf, Array.getD_eq_getD_getElem?, List.getElem?_toArray, List.getElem?_cons_succ, List.getElem?_cons_zero, Option.getD_some, List.length_append, List.length_cons, List.length_nil]
          omega
      · have hjp' : j = padN l0.length := by omega
        have ht : (((L.length : Int) % 64) != 56) = false := by rw [bne_eq_false_iff_eq, hlen, hjp']; unfold padN; omega
        have HF := Aside0.mk (HE.out hjp')
        have HPut : Aside0 (hash_Put.f 9 L (8 * (l0.length : Int)) 8 = some (L ++ enc (8 * l0.length) 8)) := ⟨put_f 9 L (8 * (l0.length : Int)) 8 (by decide) (by decide) (by omega)⟩
        have e8 : IntKind.u64.wrap (8 * IntKind.u64.wrap (l0.length : Int)) = 8 * (l0.length : Int) := by have := LM.out; rw [Go.IntKind.wrap_u64, Go.IntKind.wrap_u64]; omega
        have HE8 := Aside0.mk e8
        clear hlen hle hC hjp hjp' e8
        go_wp2_with fail
        refine calls_of_args (args' := #[.slice A1 L.length c1, .int .u64 (8 * (l0.length : Int)), .int .i64 8]) (by rw [HE8.out]) ?_
        refine (hash_Put.calls 9 (fun _ => True) _ L _ 8 _ w wr hB.out hR.out HPut.out).mono ?_
        rintro e w3 ⟨v3, rfl, ho3, hb3, _⟩
        rw [HF.out] at ho3
        obtain ⟨A3, c3, rfl, hle3, hC3⟩ := Kd.R_reads ho3
        have hl3 : (sumPad l0).length = 64 * ((sumPad l0).length / 64) := by unfold sumPad padN; simp [enc_length]; omega
        have hy3 : ∀ x ∈ sumPad l0, 0 ≤ x ∧ x < 256 := by
          intro x hx
          unfold sumPad at hx
          rcases List.mem_append.1 hx with hx | hx
          · exact HY.out x hx
          · rcases List.mem_cons.1 hx with rfl | hx
            · decide
            · rcases List.mem_append.1 hx with hx | hx
              · rw [List.eq_of_mem_replicate hx]; decide
              · exact enc_bytes _ _ x hx
        have HF3 : Aside0 (blocks init ((sumPad l0).length / 64) (sumPad l0) = blocks init ((sumPad l0).length / 64) (sumPad l0)) := ⟨rfl⟩
        have hsum : sumF l0 = outB (blocks init ((sumPad l0).length / 64) (sumPad l0)) := rfl
        have HSum := Aside0.mk hsum
        have HL3 := Aside0.mk hl3
        have HY3 := Aside0.mk hy3
        have HC3 := Aside0.mk hC3
        have HLe3 := Aside0.mk hle3
        have HB3 := Aside0.mk hb3
        clear hsum hl3 hy3 hC3 hle3 hb3 ho3 HF HPut HE8 HE HN HF3 hR hB HC1 HLe ht hlim HLen
        generalize hS : sumPad l0 = S at *
        clear hS
        generalize hF : blocks init (S.length / 64) S = FIN at HSum
        have HFI := Aside0.mk hF
        clear hF
        go_wp2_with fail
        go_loopw [3] (fun v wr => ∃ (m : Nat) (s : St) (A : Option Addr) (L : List Int) (c : Nat), v = .slice A L.length c ∧ Aside0 (Kd.C (Kd.int .u8) w3 A L.length L) ∧ Aside0 (L.length ≤ c) ∧ Aside0 (L.length = 64 * m) ∧ Aside0 (∀ x ∈ L, 0 ≤ x ∧ x < 256) ∧ Aside0 (blocks s m L = FIN) ∧ Aside0 (okS s) ∧ Aside0 (wr.heap[w3.heap.size]? = some (.cells s.arr 56 (0, 0))) ∧ Aside0 (Below w.heap.size w wr) ∧ Aside0 (Below w3.heap.size w3 wr)) (fun v _ => lenOf v)
        case atStart => exact ⟨S.length / 64, init, A3, S, c3, rfl, HC3, HLe3, HL3, HY3, HFI, ⟨okS_init⟩, ⟨blk_new _ _⟩, ⟨HB3.out.alloc HB3.out.size _⟩, ⟨(Below.refl _ _).alloc (Nat.le_refl _) _⟩⟩
        case round =>
          have HW3 := Aside0.mk HB3.out.size
          clear HC3 HLe3 HL3 HY3 HFI HB3
          obtain ⟨m, s, A, L, c, rfl, hC, hle, hlm, hy, hfin, hok, hG, hB, hB3⟩ := hrel
          cases m with
          | zero =>
            have h0 : L.length = 0 := hlm.out
            have hd : decide (0 < L.length) = false := decide_eq_false (by omega)
            have hs : s = FIN := hfin.out
            subst hs
            have hd2 : decide ((0 : Int) < (L.length : Int)) = false := decide_eq_false (by omega)
            clear h0
            obtain ⟨e0, e1, e2, e3, e4, e5, e6, e7⟩ := arr_cells hG.out
            go_wp2_with fail
            go_loopw [5, 36] (fun v i wr => ∃ j : Nat, j ≤ 8 ∧ i = .int .i64 j ∧ Aside0 (Kd.R (Kd.int .u8) 5 wr w.heap.size (fun _ => True) v ((s.l.take j).flatMap fun x => enc x 4)) ∧ Aside0 (Below w.heap.size w wr)) (fun _ i _ => 8 - (intOf i).toNat)
            case atStart => exact ⟨0, by omega, rfl, ⟨Kd.R_nil _ _ _ _ _⟩, hB⟩
            case round =>
              clear e0 e1 e2 e3 e4 e5 e6 e7 hG hC hle hlm hB
              obtain ⟨j, hj, rfl, hR, hB⟩ := hrel
              by_cases hj8 : j < 8
              · have hidx := run_index_arr (P := Tryd.prog) (T := 56) (E := 52) (k := j) (len := 8) (cs := s.arr) Tryd.underlying56 Tryd.underlying52 (fun w => by kernel_rfl) hj8 (arr_get s j hj8)
                unfold St.arr at hidx
                have hjl : j < s.l.length := hj8
                have hx := hok.out s.l[j] (List.getElem_mem hjl)
                have HN : Aside0 (((s.l.take j).flatMap fun x => enc x 4) ++ enc s.l[j] 4 = (s.l.take (j + 1)).flatMap fun x => enc x 4) := ⟨by rw [List.take_succ_eq_append_getElem hjl, List.flatMap_append]; simp⟩
                have hll : ((s.l.take j).flatMap fun x => enc x 4).length ≤ 32 := by
                  have h1 : ∀ l : List Int, (l.flatMap fun x => enc x 4).length = 4 * l.length := fun l => by
                    induction l with
                    | nil => rfl
                    | cons x l ih => rw [List.flatMap_cons, List.length_append, ih, enc_length, List.length_cons]; omega
                  rw [h1, List.length_take]; omega
                have ex : s.l.getD j 0 = s.l[j] := by simp [hjl]
                rw [ex] at hidx
                generalize s.l[j] = x at *
                clear ex
                generalize ((s.l.take j).flatMap fun x => enc x 4) = out at *
                have HP : Aside0 (hash_Put.f 9 out x 4 = some (out ++ enc x 4)) := ⟨put_f 9 out x 4 (by decide) (by decide) (by omega)⟩
                have ew : IntKind.u64.wrap x = x := by rw [Go.IntKind.wrap_u64]; omega
                have HEW := Aside0.mk ew
                have HX := Aside0.mk hx
                clear ew hx hll
                go_wp2_with fail
                refine calls_of_args (args' := #[u5, .int .u64 x, .int .i64 4]) (by rw [HEW.out]) ?_
                refine (hash_Put.calls 9 (fun _ => True) _ out x 4 _ w wr hB.out hR.out HP.out).mono ?_
                rintro e w5 ⟨v5, rfl, ho5, hb5, _⟩
                have HO5 := Aside0.mk ho5
                have HB5 := Aside0.mk hb5
                clear ho5 hb5
                go_wp2
                go_roundw
                case rel => exact ⟨j + 1, by omega, by go_num, ⟨by rw [← HN.out]; exact Kd.R_mono HO5.out (fun _ _ => trivial)⟩, HB5⟩
                case measure => simp [intOf]; omega
              · obtain rfl : j = 8 := by omega
                have HOut : Aside0 (((s.l.take 8).flatMap fun x => enc x 4) = outB s) := ⟨rfl⟩
                go_wp2
                go_ret
                exact ⟨_, rfl, by rw [HSum.out]; exact hR.out, hB.out⟩
          | succ m =>
            have hl64 : 64 ≤ L.length := by have := hlm.out; omega
            have hc64 : 64 ≤ c := by have := hle.out; omega
            have hd : decide (0 < L.length) = true := decide_eq_true (by omega)
            have hd2 : decide ((0 : Int) < (L.length : Int)) = true := decide_eq_true (by omega)
            obtain ⟨e0, e1, e2, e3, e4, e5, e6, e7⟩ := arr_cells hG.out
            have ht64 : (L.take 64).length = 64 := by simp; omega
            have HT64 := Aside0.mk ht64
            have HTk := Aside0.mk (Kd.C_take (Kd.C_below hC.out hB3.out) hl64)
            have HLc := Aside0.mk hc64
            have HYt : Aside0 (∀ x ∈ L.take 64, 0 ≤ x ∧ x < 256) := ⟨fun x hx => hy.out x (List.mem_of_mem_take hx)⟩
            have HTab := Aside0.mk (HT.out.below hB.out)
            clear ht64
            go_wp2_with fail
            go_region_with (go_at_call 31; refine calls_of_args (args' := #[.agg s.arr, .slice A (L.take 64).length c]) (by rw [HT64.out]; rfl) ?_; refine (take_any s A c (L.take 64) _ (by exact HTab.out) (by exact Kd.C_drew HTk.out) (by rw [HT64.out]; exact HLc.out) HT64.out HYt.out).mono ?_; rintro e w4 ⟨⟨s', hs', rfl⟩, hb4⟩; have HS' := Aside0.mk hs'; clear hs'; obtain ⟨f0, f1, f2, f3, f4, f5, f6, f7⟩ := arr_cells ((hb4.block w3.heap.size (blk_lt hG.out)).trans hG.out); obtain ⟨g0, g1, g2, g3, g4, g5, g6, g7⟩ := arr_free ((hb4.block w3.heap.size (blk_lt hG.out)).trans hG.out); have HB4 := Aside0.mk hb4; clear hb4)
            all_goals
              go_wp2
              go_roundw
              case rel =>
                have hd := Kd.C_drop (m := 64) (c := c) hC.out hl64 hle.out
                have hw4 : w4.heap[w3.heap.size]? = some (.cells s.arr 56 (0, 0)) := (HB4.out.block w3.heap.size (blk_lt hG.out)).trans hG.out
                have hwB : Below w.heap.size w w4 := (hB.out.drew).trans (HB4.out.mono hB.out.size)
                have hwB3 : Below w3.heap.size w3 w4 := (hB3.out.drew).trans (HB4.out.mono hB3.out.size)
                have hlen := hlm.out
                refine ⟨m, s', _, L.drop 64, c - 64, by rw [List.length_drop], ⟨?_⟩, ⟨by rw [List.length_drop]; have := hle.out; omega⟩, ⟨by rw [List.length_drop]; omega⟩, ⟨fun x hx => hy.out x (List.mem_of_mem_drop hx)⟩, ⟨?_⟩, ⟨?_⟩, ⟨arr_set hw4 s'⟩, ⟨arr_below hwB HW3.out s'⟩, ⟨arr_below hwB3 (Nat.le_refl _) s'⟩⟩
                · have e : (fun x : Addr => ({ block := x.block, off := x.off + 64 } : Addr)) = fun x => x.add (64 * (Kd.int .u8).sz) := by
                    funext x; simp [Addr.add, Kd.int, Kd.scalar]
                  rw [e]; exact hd
                · rw [HS'.out]; exact hfin.out
                · rw [HS'.out]; exact okS_take _ _
              case measure => simp [lenOf]; omega
  · cases h

end Go.Proofs.YtohlphmjhmcpoaaDoor.PRankTargets
