-- Written by myprint.py (this session's own driver of the kit's print, with contracts of its own handed in).
import Derived.Test.YtohlphmjhmcpoaaDoorPRankTargetsx0
import Derived.Test.YtohlphmjhmcpoaaDoorPRankTargetsx1
namespace Go.Proofs.YtohlphmjhmcpoaaDoor.PRankTargets
open Go.RowKit Go.Proofs.YtohlphmjhmcpoaaDoorW.PrintWords Go.Proofs.YtohlphmjhmcpoaaDoorW.PrintLast Go.Proofs.YtohlphmjhmcpoaaDoorW.PrintMore
attribute [local go_sem] max2_int min2_int max_two min_two max_three min_three max_four min_four   -- for this text's walks alone
set_option linter.unusedVariables false
set_option linter.unusedSimpArgs false

/-! ### flittingref01_Read: function 19 -/
def flittingref01_Read.l0 : Nat → List Int → Int → Int → Option (Int)
  | 0, _, _, _ => none
  | k + 1, x0, x3, x4 => if x4 < (x0.length : Int) then (if 0 ≤ x4 then (flittingref01_Read.l0 k x0 (IntKind.u64.wrap ((IntKind.u64.wrap (x3 * 256)) + (IntKind.u64.wrap (rd x0 x4)))) (wrap64 (x4 + 1))) else (none)) else (some x3)
def flittingref01_Read.f (k : Nat) (l0 : List Int) : Option (Int) := flittingref01_Read.l0 k l0 0 0
theorem flittingref01_Read.mono_l : ∀ k, (∀ y0 y1 y2, LeO (flittingref01_Read.l0 k y0 y1 y2) (flittingref01_Read.l0 (k + 1) y0 y1 y2))
  | 0 => fun _ _ _ r h => by simp [flittingref01_Read.l0] at h
  | k + 1 => by
    have ih0 := flittingref01_Read.mono_l k
    · intro y0 y1 y2
      unfold flittingref01_Read.l0
      repeat' first
      | (with_reducible exact ih0 _ _ _)
      | (with_reducible exact LeO.refl _)
      | (with_reducible exact LeO.none _)
      | (with_reducible refine LeO.ite ?_ ?_)
      | (with_reducible refine LeO.bind ?_ (fun _ => ?_))
      | exact ih0 _ _ _
      | exact LeO.none _
      | refine LeO.ite ?_ ?_
      | refine LeO.bind ?_ (fun _ => ?_)
theorem flittingref01_Read.mono : ∀ a0 k, LeO (flittingref01_Read.f k a0) (flittingref01_Read.f (k + 1) a0) := by
  intro a0 k
  have ih0 := flittingref01_Read.mono_l k
  unfold flittingref01_Read.f
  repeat' first
      | (with_reducible exact ih0 _ _ _)
      | (with_reducible exact LeO.refl _)
      | (with_reducible exact LeO.none _)
      | (with_reducible refine LeO.ite ?_ ?_)
      | (with_reducible refine LeO.bind ?_ (fun _ => ?_))
      | exact ih0 _ _ _
      | exact LeO.none _
      | refine LeO.ite ?_ ?_
      | refine LeO.bind ?_ (fun _ => ?_)
set_option maxHeartbeats 8000000 in
set_option maxRecDepth 100000 in
theorem flittingref01_Read.calls (k : Nat) (A0 : Option Addr) (c0 : Nat) (l0 : List Int) (r : Int) (w : World) (hr0 : Kd.C (Kd.int .u8) w A0 l0.length l0) (hc0 : l0.length ≤ c0) (h : flittingref01_Read.f k l0 = some r) :
    Calls Tryd.prog 19 #[.slice A0 l0.length c0] w fun e w' => e = .returned (.int .u64 r) ∧ Drawn0 w w' := by
  have HR0 := Aside0.mk hr0
  have HC0 := Aside0.mk hc0
  clear hr0 hc0
  have H : (flittingref01_Read.l0 k l0 0 0) = some r := h
  clear h
  have H' := Aside0.mk H
  clear H
  go_enter Tryd.func19, Tryd.ntmps19
  go_wp2
  go_loopg [3, 4] k (fun kq v3 v4 w' => ∃ (x3_1 : Int) (x4_1 : Int), v3 = .int .u64 x3_1 ∧ v4 = .int .i64 x4_1 ∧ Aside0 (flittingref01_Read.l0 kq l0 x3_1 x4_1 = some r) ∧ Aside0 (kq ≤ k) ∧ Drawn0 w w')
  case atStart => exact ⟨(0), (0), (by first | rfl | (simp; done) | (simp [*]; done)), (by first | rfl | (simp; done) | (simp [*]; done)), H', ⟨Nat.le_refl _⟩, by repeat (first | exact Drawn0.refl _ | apply Drawn0.step)⟩
  case round =>
    clear H'
    try clear c1
    obtain ⟨x3_1, x4_1, rfl, rfl, HA, HK1, ⟨m1, rfl⟩⟩ := hrel
    cases gk with
    | zero => exact absurd HA.out (by simp [flittingref01_Read.l0])
    | succ k1 =>
      have H := HA.out
      clear HA
      simp only [flittingref01_Read.l0] at H
      by_cases c2 : x4_1 < (l0.length : Int)
      · rw [if_pos c2] at H
        have c2b0 : decide (x4_1 < (l0.length : Int)) = true := decide_eq_true c2
        clear c2
        by_cases c3 : 0 ≤ x4_1
        · rw [if_pos c3] at H
          have c3b0 : decide (0 ≤ x4_1) = true := decide_eq_true c3
          clear c3
          have H' := Aside0.mk H
          clear H
          have p148 : 0 ≤ (x4_1 : Int) := of_decide_eq_true (by first | (with_reducible assumption) | assumption)
          have q148 : x4_1 < (l0.length : Int) := of_decide_eq_true (by first | (with_reducible assumption) | assumption)
          obtain ⟨ad148, e148, hx148_0⟩ := Kd.at_int HR0.out x4_1 p148 q148
          cases e148
          replace p148 := eq_true p148
          replace q148 := eq_true q148
          go_wp2
          go_roundg k1
          case measure => have := HK1.out; omega
          case rel => exact ⟨(IntKind.u64.wrap ((IntKind.u64.wrap (x3_1 * 256)) + (IntKind.u64.wrap (rd l0 x4_1)))), (wrap64 (x4_1 + 1)), (by first | rfl | (simp; done) | (simp [*]; done)), (by first | rfl | (simp; done) | (simp [*]; done)), H', ⟨by have := HK1.out; omega⟩, by repeat (first | exact Drawn0.refl _ | apply Drawn0.step)⟩
        · rw [if_neg c3] at H
          exact absurd H (by simp)
      · rw [if_neg c2] at H
        have c2b0 : decide (x4_1 < (l0.length : Int)) = false := decide_eq_false c2
        clear c2
        obtain rfl := Option.some.inj H
        go_wp2
        go_ret
        exact ⟨by first | rfl | (simp; done) | (simp [*]; done), by repeat (first | exact Drawn0.refl _ | apply Drawn0.step)⟩

/-! ### flittingref01_Num: function 21 -/
def flittingref01_Num.l0 : Nat → Int → List Int → Int → Option (List Int)
  | 0, _, _, _ => none
  | k + 1, x0, x5, x6 => if x6 ≥ 0 then (if 0 ≤ x6 then (if x6 < (x5.length : Int) then (flittingref01_Num.l0 k (IntKind.u64.wrap (Int.tdiv x0 256)) (x5.set (x6 : Int).toNat ((x0) % 256)) (wrap64 (x6 - 1))) else (none)) else (none)) else (some x5)
def flittingref01_Num.f (k : Nat) (a0 : Int) (a1 : Int) : Option (List Int) := if 0 ≤ a1 then (if (a1 : Int).toNat ≤ 281474976710656 then (flittingref01_Num.l0 k a0 (List.replicate (a1 : Int).toNat 0) (wrap64 (a1 - 1))) else (none)) else (none)
theorem flittingref01_Num.mono_l : ∀ k, (∀ y0 y1 y2, LeO (flittingref01_Num.l0 k y0 y1 y2) (flittingref01_Num.l0 (k + 1) y0 y1 y2))
  | 0 => fun _ _ _ r h => by simp [flittingref01_Num.l0] at h
  | k + 1 => by
    have ih0 := flittingref01_Num.mono_l k
    · intro y0 y1 y2
      unfold flittingref01_Num.l0
      repeat' first
      | (with_reducible exact ih0 _ _ _)
      | (with_reducible exact LeO.refl _)
      | (with_reducible exact LeO.none _)
      | (with_reducible refine LeO.ite ?_ ?_)
      | (with_reducible refine LeO.bind ?_ (fun _ => ?_))
      | exact ih0 _ _ _
      | exact LeO.none _
      | refine LeO.ite ?_ ?_
      | refine LeO.bind ?_ (fun _ => ?_)
theorem flittingref01_Num.mono : ∀ a0 a1 k, LeO (flittingref01_Num.f k a0 a1) (flittingref01_Num.f (k + 1) a0 a1) := by
  intro a0 a1 k
  have ih0 := flittingref01_Num.mono_l k
  unfold flittingref01_Num.f
  repeat' first
      | (with_reducible exact ih0 _ _ _)
      | (with_reducible exact LeO.refl _)
      | (with_reducible exact LeO.none _)
      | (with_reducible refine LeO.ite ?_ ?_)
      | (with_reducible refine LeO.bind ?_ (fun _ => ?_))
      | exact ih0 _ _ _
      | exact LeO.none _
      | refine LeO.ite ?_ ?_
      | refine LeO.bind ?_ (fun _ => ?_)
set_option maxHeartbeats 8000000 in
set_option maxRecDepth 100000 in
theorem flittingref01_Num.calls (k : Nat) (a0 : Int) (a1 : Int) (r : List Int) (w : World) (h : flittingref01_Num.f k a0 a1 = some r) :
    Calls Tryd.prog 21 #[.int .u64 a0, .int .i64 a1] w fun e w' => ∃ v0_ : Value, e = .returned (v0_) ∧ Kd.R (Kd.int .u8) 5 w' w.heap.size (fun _ => True) v0_ r ∧ Below w.heap.size w w' := by
  have HB := Aside0.mk (Below.refl w.heap.size w)
  have H : (if 0 ≤ a1 then (if (a1 : Int).toNat ≤ 281474976710656 then (flittingref01_Num.l0 k a0 (List.replicate (a1 : Int).toNat 0) (wrap64 (a1 - 1))) else (none)) else (none)) = some r := h
  clear h
  by_cases c3 : 0 ≤ a1
  · rw [if_pos c3] at H
    have c3b0 := eq_true c3
    have c3b1 : decide (0 ≤ a1) = true := decide_eq_true c3
    clear c3
    by_cases c4 : (a1 : Int).toNat ≤ 281474976710656
    · rw [if_pos c4] at H
      have c4b0 := eq_true c4
      have c4b1 : decide ((a1 : Int).toNat ≤ 281474976710656) = true := decide_eq_true c4
      clear c4
      obtain ⟨y149, hy149⟩ : ∃ y_ : List Int, y_ = (List.replicate (a1 : Int).toNat 0) := ⟨_, rfl⟩
      replace H : (flittingref01_Num.l0 k a0 y149 (wrap64 (a1 - 1))) = some r := by first | (rw [hy149]; with_reducible exact H) | (have H2_ := (Option.bind_some _ _).symm.trans H; rw [hy149]; with_reducible exact H2_) | (have H2_ := (Option.bind_some _ _).symm.trans H; with_reducible exact H2_) | with_reducible exact H | (rw [hy149]; exact H) | exact H
      have Ny149 := Aside0.mk hy149
      clear hy149
      have H' := Aside0.mk H
      clear H
      go_enter Tryd.func21, Tryd.ntmps21
      go_wp2_with (first | ((with_reducible refine gate_dst (N := 8) rfl ?_); refine Kd.R_make (Kd.int .u8) _ 5 rfl (N := 8) rfl 42 _ _ rfl a1 rfl rfl Tryd.underlying42 (.int .u8 0) 1 info5 rfl (by decide) (by omega) 0 (ok := fun _ => True) (okp := fun _ => True) rfl (fun _ hk => hk) trivial (of_decide_eq_true (by first | (with_reducible assumption) | assumption)) (Nat.le_trans (Nat.mul_le_mul_right _ (of_decide_eq_true (by first | (with_reducible assumption) | assumption) : a1.toNat ≤ 281474976710656)) (by omega)) (Below.refl _ _) (Nat.le_refl _) ?_; intro v150 w5 ho6 hb hg_ hnew_; clear hg_ hnew_; (first | rw [← Ny149.out] at ho6 | (simp only [Int.reduceToNat] at ho6; rw [← Ny149.out] at ho6)); have n0_ := Aside0.mk (Kd.R_lower ho6 (below_size (by repeat (first | (with_reducible first | exact HB.out | apply below_alloc | apply pw_below_drewN | apply below_drew1) | exact HB.out)))); have n1_ := Aside0.mk (below_step (by repeat (first | (with_reducible first | exact HB.out | apply below_alloc | apply pw_below_drewN | apply below_drew1) | exact HB.out)) hb); clear HB; have HO151 := n0_; have HB := n1_; clear n0_ n1_; clear hb ho6))
      go_loopg [0, 6] k (fun kq v0 v6 w' => ∃ (x0_1 : Int) (x5_1 : List Int) (x6_1 : Int), v0 = .int .u64 x0_1 ∧ v6 = .int .i64 x6_1 ∧ Aside0 (flittingref01_Num.l0 kq x0_1 x5_1 x6_1 = some r) ∧ Aside0 (kq ≤ k) ∧ Aside0 (Kd.R (Kd.int .u8) 5 w' w.heap.size (fun _ => True) v150 x5_1) ∧ Aside0 (Below w.heap.size w w'))
      case atStart => exact ⟨(a0), (y149), (wrap64 (a1 - 1)), (by first | rfl | (simp; done) | (simp [*]; done)), (by first | rfl | (simp; done) | (simp [*]; done)), H', ⟨Nat.le_refl _⟩, ⟨by (with_reducible repeat (first | apply Kd.R_alloc | apply Kd.R_drewN | apply Kd.R_drew)); exact HO151.out⟩, ⟨by repeat (first | (with_reducible first | exact HB.out | apply below_alloc | apply pw_below_drewN | apply below_drew1) | exact HB.out)⟩⟩
      case round =>
        clear H'
        try clear c2
        try clear p2
        try clear c3
        try clear c3b0
        try clear c3b1
        try clear c4
        try clear c4b0
        try clear c4b1
        try clear p6
        obtain ⟨x0_1, x5_1, x6_1, rfl, rfl, HA, HK1, HO_5, HB⟩ := hrel
        cases gk with
        | zero => exact absurd HA.out (by simp [flittingref01_Num.l0])
        | succ k1 =>
          have H := HA.out
          clear HA
          simp only [flittingref01_Num.l0] at H
          by_cases c7 : x6_1 ≥ 0
          · rw [if_pos c7] at H
            have c7b0 : decide (0 ≤ x6_1) = true := decide_eq_true c7
            clear c7
            by_cases c8 : 0 ≤ x6_1
            · rw [if_pos c8] at H
              have c8b0 : decide (0 ≤ x6_1) = true := decide_eq_true c8
              clear c8
              by_cases c9 : x6_1 < (x5_1.length : Int)
              · rw [if_pos c9] at H
                have c9b0 : decide (x6_1 < (x5_1.length : Int)) = true := decide_eq_true c9
                clear c9
                obtain ⟨y152, hy152⟩ : ∃ y_ : List Int, y_ = (x5_1.set (x6_1 : Int).toNat ((x0_1) % 256)) := ⟨_, rfl⟩
                replace H : (flittingref01_Num.l0 k1 (IntKind.u64.wrap (Int.tdiv x0_1 256)) y152 (wrap64 (x6_1 - 1))) = some r := by first | (rw [hy152]; with_reducible exact H) | (have H2_ := (Option.bind_some _ _).symm.trans H; rw [hy152]; with_reducible exact H2_) | (have H2_ := (Option.bind_some _ _).symm.trans H; with_reducible exact H2_) | with_reducible exact H | (rw [hy152]; exact H) | exact H
                have Ny152 := Aside0.mk hy152
                clear hy152
                have H' := Aside0.mk H
                clear H
                have p10 : 0 ≤ (x6_1 : Int) := of_decide_eq_true (by first | (with_reducible assumption) | assumption)
                have q10 : (x6_1 : Int) < ((x5_1.length : Int) : Int) := of_decide_eq_true (by first | (with_reducible assumption) | assumption)
                obtain ⟨go10, co10, eo10, gb10, gl10, cl10, HG10⟩ := Kd.R_form HO_5.out (by omega)
                (first | cases eo10 | (injection eo10 with ea_ en_ ec_; (first | subst ea_ | (injection ea_ with ea_; subst ea_)); subst ec_; clear en_))
                have GB10 := Aside0.mk gb10
                have GG10 := Aside0.mk HG10
                clear gb10 gl10 HG10
                obtain ⟨hx10_0, hf10_0⟩ := Kd.R_celln 0 HO_5.out (x6_1 : Int) p10 q10
                replace p10 := eq_true p10
                replace q10 := eq_true q10
                have HP11 := Kd.R_putg HO_5.out (x6_1 : Int) ((x0_1) % 256)
                go_wp2_with (first | ((with_reducible refine gate_store (t := 5) (p := 19) rfl ?_); refine store_event (t := 5) (p := 19) (v := ?vo_w12) (w1 := (wr.setCell ⟨go10, (x6_1 : Int).toNat, none⟩ (.int .u8 ((x0_1) % 256)))) ?hg ?ho ?hn ?hr ?_; (case ho => rfl); (case hg => rfl); (case hn => rfl); (case hr => first | (go_simp; done) | (go_simp; rfl)); intro w12 hw; have hg : wr.grownBy w12 (some go10) := (by rw [hw]; exact HP11.2); have hp_ : Kd.R (Kd.int .u8) 5 w12 w.heap.size (fun _ => True) (.slice (some ⟨go10, 0, none⟩) x5_1.length co10) y152 := (by rw [hw, Ny152.out]; exact HP11.1); clear HP11; have n0_ := Aside0.mk (hp_); have n1_ := Aside0.mk ((by rw [hw]; exact below_set (HB.out) GB10.out : Below w.heap.size w w12)); clear HO_5; clear HB; have HO_5 := n0_; have HB := n1_; clear n0_ n1_; clear hg hw hp_))
                go_roundg k1
                case measure => have := HK1.out; omega
                case rel => exact ⟨(IntKind.u64.wrap (Int.tdiv x0_1 256)), (y152), (wrap64 (x6_1 - 1)), (by first | rfl | (simp; done) | (simp [*]; done)), (by first | rfl | (simp; done) | (simp [*]; done)), H', ⟨by have := HK1.out; omega⟩, ⟨by (with_reducible repeat (first | apply Kd.R_alloc | apply Kd.R_drewN | apply Kd.R_drew)); exact HO_5.out⟩, ⟨by repeat (first | (with_reducible first | exact HB.out | apply below_alloc | apply pw_below_drewN | apply below_drew1) | exact HB.out)⟩⟩
              · rw [if_neg c9] at H
                exact absurd H (by simp)
            · rw [if_neg c8] at H
              exact absurd H (by simp)
          · rw [if_neg c7] at H
            have c7b0 : decide (0 ≤ x6_1) = false := decide_eq_false c7
            clear c7
            obtain rfl := Option.some.inj H
            go_wp2
            go_ret
            exact ⟨_, by first | rfl | (simp [errW_none, errW_some] <;> rfl) | (simp [*, errW_none, errW_some] <;> rfl), by (with_reducible repeat (first | apply Kd.R_alloc | apply Kd.R_drewN | apply Kd.R_drew)); exact HO_5.out, by repeat (first | (with_reducible first | exact HB.out | apply below_alloc | apply pw_below_drewN | apply below_drew1) | exact HB.out)⟩
    · rw [if_neg c4] at H
      exact absurd H (by simp)
  · rw [if_neg c3] at H
    exact absurd H (by simp)

/-! ### flittingref01_rot: function 30 -/
def flittingref01_rot.f (a0 : Int) (a1 : Int) : Option (Int) := if 0 ≤ a1 then (if 0 ≤ (IntKind.u64.wrap (32 - a1)) then (some (Go.bits .or .u32 (shr .u32 a0 a1) (shl .u32 a0 (IntKind.u64.wrap (32 - a1))))) else (none)) else (none)
set_option maxHeartbeats 8000000 in
set_option maxRecDepth 100000 in
theorem flittingref01_rot.calls (a0 : Int) (a1 : Int) (r : Int) (w : World) (h : flittingref01_rot.f a0 a1 = some r) :
    Calls Tryd.prog 30 #[.int .u32 a0, .int .u64 a1] w fun e w' => e = .returned (.int .u32 r) ∧ Drawn0 w w' := by
  have H : (if 0 ≤ a1 then (if 0 ≤ (IntKind.u64.wrap (32 - a1)) then (some (Go.bits .or .u32 (shr .u32 a0 a1) (shl .u32 a0 (IntKind.u64.wrap (32 - a1))))) else (none)) else (none)) = some r := h
  clear h
  by_cases c3 : 0 ≤ a1
  · rw [if_pos c3] at H
    have c3b0 := eq_true c3
    have c3b1 : decide (0 ≤ a1) = true := decide_eq_true c3
    clear c3
    obtain ⟨ji4, hji4⟩ : ∃ j_ : Int, (shr .u32 a0 a1) = j_ := ⟨_, rfl⟩
    replace H : (if 0 ≤ (IntKind.u64.wrap (32 - a1)) then (some (Go.bits .or .u32 (ji4) (shl .u32 a0 (IntKind.u64.wrap (32 - a1))))) else (none)) = some r := by first | (rw [hji4] at H; exact H) | (simp only [hji4] at H ⊢; exact H)
    have hji4_ : (a0 / 2 ^ min a1.toNat 32) = ji4 := hji4
    have hji4z : a1 ≤ 32 → (a0 / 2 ^ a1.toNat) = ji4 := shr_small hji4
    obtain ⟨ji5, hji5⟩ : ∃ j_ : Int, (IntKind.u64.wrap (32 - a1)) = j_ := ⟨_, rfl⟩
    replace H : (if 0 ≤ (ji5) then (some (Go.bits .or .u32 (ji4) (shl .u32 a0 (ji5)))) else (none)) = some r := by first | (rw [hji5] at H; exact H) | (simp only [hji5] at H ⊢; exact H)
    by_cases c6 : 0 ≤ (ji5)
    · rw [if_pos c6] at H
      have c6b0 := eq_true c6
      have c6b1 : decide (0 ≤ (ji5)) = true := decide_eq_true c6
      clear c6
      obtain ⟨ji7, hji7⟩ : ∃ j_ : Int, (shl .u32 a0 (ji5)) = j_ := ⟨_, rfl⟩
      replace H : (some (Go.bits .or .u32 (ji4) (ji7))) = some r := by first | (rw [hji7] at H; exact H) | (simp only [hji7] at H ⊢; exact H)
      have hji7_ : (IntKind.u32.wrap (a0 * 2 ^ min (ji5).toNat 32)) = ji7 := hji7
      have hji7z : (ji5) ≤ 32 → (IntKind.u32.wrap (a0 * 2 ^ (ji5).toNat)) = ji7 := shl_small hji7
      obtain rfl := Option.some.inj H
      go_enter Tryd.func30, Tryd.ntmps30
      go_wp2
      go_ret
      exact ⟨by first | rfl | (simp; done) | (simp only [← hji4, ← hji5, ← hji7] <;> (first | rfl | simp)) | (simp [*]; done), by repeat (first | exact Drawn0.refl _ | apply Drawn0.step)⟩
    · rw [if_neg c6] at H
      exact absurd H (by simp)
  · rw [if_neg c3] at H
    exact absurd H (by simp)

/-! ### flittingref01_Sha: function 20, by hand -/
theorem rot_calls (x n : Int) (w : World) (h0 : 0 ≤ n) (h1 : n ≤ 32) : Calls Tryd.prog 30 #[.int .u32 x, .int .u64 n] w fun e w' => e = .returned (.int .u32 (rr x n)) ∧ ∃ m, w' = w.drewN m := by
  have e : IntKind.u64.wrap (32 - n) = 32 - n := by rw [Go.IntKind.wrap_u64]; omega
  have hf : flittingref01_rot.f x n = some (rr x n) := by
    unfold flittingref01_rot.f rr
    rw [if_pos h0, e, if_pos (by omega)]
  exact (flittingref01_rot.calls x n (rr x n) w hf).mono fun e w' ⟨h, ⟨d⟩⟩ => ⟨h, d⟩
def turnsA : Array Value := (turns.map (Value.int .u32)).toArray
theorem turnsA_get (k : Nat) (hk : k < 64) : turnsA[k]? = some (.int .u32 (turn k)) := by
  have hl : turns.length = 64 := rfl
  unfold turnsA turn
  rw [List.getElem?_toArray, List.getElem?_map, List.getD_eq_getElem?_getD, List.getElem?_eq_getElem (by omega)]
  rfl
theorem turnsA_size : turnsA.size = 64 := rfl
theorem turnsA_one : turnsA.all (·.oneCell') = true := by simp [turnsA, turns, Value.oneCell']
theorem enc_snoc (v : Int) (n : Nat) : enc v (n + 1) = enc (v / 256) n ++ [v % 256] := by
  induction n with
  | zero => simp [enc]
  | succ n ih =>
    have e : v / 256 ^ (n + 1) = v / 256 / 256 ^ n := by rw [Int.pow_succ, Int.mul_comm, Int.ediv_ediv_of_nonneg (by decide)]
    rw [enc, ih, enc, e, List.cons_append]
theorem num_run (n : Nat) : ∀ (k : Nat) (v : Int) (out : List Int), n < k → n ≤ out.length → n ≤ 8 → 0 ≤ v → v < 18446744073709551616 → flittingref01_Num.l0 k v out ((n : Int) - 1) = some (enc v n ++ out.drop n) := by
  induction n with
  | zero =>
    intro k v out hk _ _ _ _
    obtain ⟨k, rfl⟩ : ∃ m, k = m + 1 := ⟨k - 1, by omega⟩
    simp only [flittingref01_Num.l0]
    rw [if_neg (by omega), enc]
    simp
  | succ n ih =>
    intro k v out hk hl hn h0 h1
    obtain ⟨k, rfl⟩ : ∃ m, k = m + 1 := ⟨k - 1, by omega⟩
    simp only [flittingref01_Num.l0]
    have e1 : ((n + 1 : Nat) : Int) - 1 = (n : Int) := by omega
    have e3 : wrap64 ((n : Int) - 1) = (n : Int) - 1 := by unfold wrap64; omega
    have e4 : IntKind.u64.wrap (Int.tdiv v 256) = v / 256 := by rw [Int.tdiv_eq_ediv_of_nonneg h0, Go.IntKind.wrap_u64]; omega
    have e5 : (out.set n (v % 256)).drop n = v % 256 :: out.drop (n + 1) := by
      rw [List.drop_set, if_neg (by omega), Nat.sub_self, List.drop_eq_getElem_cons (by omega), List.set_cons_zero]
    rw [e1, e3, e4, if_pos (by omega), if_pos (by omega), if_pos (by omega), Int.toNat_natCast, ih k _ _ (by omega) (by simp; omega) (by omega) (by omega) (by omega), enc_snoc, e5]
    simp
theorem num_f (k : Nat) (v : Int) (n : Nat) (hn : n ≤ 8) (hk : 9 ≤ k) (h0 : 0 ≤ v) (h1 : v < 18446744073709551616) : flittingref01_Num.f k v (n : Int) = some (enc v n) := by
  unfold flittingref01_Num.f
  rw [if_pos (by omega), Int.toNat_natCast, if_pos (by omega), show wrap64 ((n : Int) - 1) = (n : Int) - 1 from by unfold wrap64; omega, num_run n k v _ (by omega) (by simp) hn h0 h1]
  simp
theorem read_run (d : Nat) : ∀ (k i : Nat) (l : List Int), d + i = l.length → d < k → l.length ≤ 8 → (∀ x ∈ l, 0 ≤ x ∧ x < 256) → flittingref01_Read.l0 k l (be (l.take i)) (i : Int) = some (be l) := by
  induction d with
  | zero =>
    intro k i l hd hk hl hx
    obtain ⟨k, rfl⟩ : ∃ m, k = m + 1 := ⟨k - 1, by omega⟩
    simp only [flittingref01_Read.l0]
    rw [if_neg (by omega), List.take_of_length_le (by omega)]
  | succ d ih =>
    intro k i l hd hk hl hx
    obtain ⟨k, rfl⟩ : ∃ m, k = m + 1 := ⟨k - 1, by omega⟩
    simp only [flittingref01_Read.l0]
    have hi : i < l.length := by omega
    have hb := be_lt (l.take i) (fun x hx' => hx x (List.mem_of_mem_take hx'))
    rw [List.length_take, Nat.min_eq_left (by omega)] at hb
    have hp := pow_256 i (by omega)
    have hc := hx l[i] (List.getElem_mem hi)
    have e : rd l (i : Int) = l[i] := by simp [rd, hi]
    have e2 : IntKind.u64.wrap (IntKind.u64.wrap (be (l.take i) * 256) + IntKind.u64.wrap l[i]) = be (l.take i) * 256 + l[i] := by
      rw [Go.IntKind.wrap_u64, Go.IntKind.wrap_u64, Go.IntKind.wrap_u64]; omega
    rw [if_pos (by omega), if_pos (by omega), e, e2, ← be_snoc, ← List.take_succ_eq_append_getElem hi, show wrap64 ((i : Int) + 1) = ((i + 1 : Nat) : Int) from by unfold wrap64; omega]
    exact ih k (i + 1) l (by omega) (by omega) hl hx
theorem read_f (k : Nat) (l : List Int) (hk : 9 ≤ k) (hl : l.length ≤ 8) (hx : ∀ x ∈ l, 0 ≤ x ∧ x < 256) : flittingref01_Read.f k l = some (be l) := read_run l.length k 0 l (by omega) (by omega) hl hx
theorem R_empty {w : World} {base g : Nat} (hb : base ≤ g) (h : w.heap[g]? = some (.cells #[] 5 (0, 0))) : Kd.R (Kd.int .u8) 5 w base (fun _ => True) (.slice (some ⟨g, 0, none⟩) 0 0) [] :=
  Kd.R_of_own ⟨rfl, .inr ⟨g, 0, #[], rfl, hb, h, Nat.le_refl _, by decide, rfl, rfl⟩⟩ (fun _ _ => trivial)
theorem sha_world (w : World) : ∃ W1 : World, W1 = ((((w.alloc (.cells (wA [] 0) 53)).setRow w.heap.size turnsA).alloc (.cells #[.int .u32 1779033703, .int .u32 3144134277, .int .u32 1013904242, .int .u32 2773480762, .int .u32 1359893119, .int .u32 2600822924, .int .u32 528734635, .int .u32 1541459225] 54)).alloc (.cells #[] 5)) ∧
    W1.heap[w.heap.size]? = some (.cells turnsA 53 (0, 0)) ∧ W1.heap[w.heap.size + 1]? = some (.cells init.arr 54 (0, 0)) ∧ W1.heap[w.heap.size + 1 + 1]? = some (.cells #[] 5 (0, 0)) ∧ W1.heap.size = w.heap.size + 3 ∧ Below w.heap.size w W1 := by
  have h0 := setRow_heap (w.alloc (.cells (wA [] 0) 53)) w.heap.size (wA [] 0) turnsA 53 (0, 0) (blk_new _ _)
  have hs : ((w.alloc (.cells (wA [] 0) 53)).setRow w.heap.size turnsA).heap.size = w.heap.size + 1 := by simp
  have hb : Below w.heap.size w ((w.alloc (.cells (wA [] 0) 53)).setRow w.heap.size turnsA) :=
    ((Below.refl _ _).alloc (Nat.le_refl _) _).trans ⟨rfl, rfl, rfl, by simp, fun k hk => setRow_other _ _ _ _ (by omega)⟩
  generalize (w.alloc (.cells (wA [] 0) 53)).setRow w.heap.size turnsA = V at *
  refine ⟨_, rfl, blk_alloc (blk_alloc h0 _) _, ?_, ?_, by simp [hs], (hb.alloc (by omega) _).alloc (by simp; omega) _⟩
  · exact blk_alloc (by rw [← hs]; exact blk_new _ _) _
  · have : (V.alloc (.cells init.arr 54)).heap.size = w.heap.size + 1 + 1 := by simp [hs]
    rw [← this]; exact blk_new _ _
theorem takeS_eq (s : St) (b : List Int) : takeS s b = addS (rnds s b 64) s := by unfold takeS; exact Eq.refl _
theorem addS_comm (t s : St) : addS t s = addS s t := by
  unfold addS
  simp only [St.mk.injEq]
  refine ⟨?_, ?_, ?_, ?_, ?_, ?_, ?_, ?_⟩ <;> rw [Int.add_comm]
attribute [local irreducible] takeS
theorem blocks_succ (s : St) (n : Nat) (l : List Int) : blocks s (n + 1) l = blocks (takeS s (l.take 64)) n (l.drop 64) := rfl
theorem blocks_step {s : St} {m j : Nat} {S : List Int} {FIN : St} (h : blocks s (m + 1) (S.drop (64 * j)) = FIN) : blocks (takeS s ((S.drop (64 * j)).take 64)) m (S.drop (64 * (j + 1))) = FIN := by
  have e : S.drop (64 * (j + 1)) = (S.drop (64 * j)).drop 64 := by rw [List.drop_drop]; congr 1
  rw [e, ← blocks_succ]
  exact h
theorem part_part (S : List Int) (j k : Nat) (hk : k < 16) : (S.drop (64 * j + 4 * k)).take 4 = (((S.drop (64 * j)).take 64).drop (4 * k)).take 4 := by
  have e : min 4 (64 - 4 * k) = 4 := by omega
  rw [List.drop_take, List.take_take, e, List.drop_drop]
theorem part_length (S : List Int) (j : Nat) (h : 64 * j + 64 ≤ S.length) : ((S.drop (64 * j)).take 64).length = 64 := by simp; omega
theorem wl_pre (b : List Int) (k : Nat) : ∀ d, (wl b (k + 1 + d)).getD k 0 = (wl b (k + 1)).getD k 0
  | 0 => rfl
  | d + 1 => by
    rw [← wl_pre b k d, show k + 1 + (d + 1) = (k + 1 + d) + 1 from rfl, wl]
    have hl := wl_length b (k + 1 + d)
    rw [List.getD_eq_getElem?_getD, List.getD_eq_getElem?_getD, List.getElem?_append_left (by omega)]
theorem wl_all (b : List Int) (k : Nat) (hk : k < 64) : (wl b (k + 1)).getD k 0 = (wl b 64).getD k 0 := by
  have := wl_pre b k (63 - k)
  rw [show k + 1 + (63 - k) = 64 from by omega] at this
  exact this.symm
def chR (e f g : Int) : Int := Go.bits .xor .u32 (Go.bits .and .u32 e f) (Go.bits .and .u32 (Go.bits .xor .u32 IntKind.u32.max e) g)
def mjR (a b c : Int) : Int := Go.bits .xor .u32 (Go.bits .xor .u32 (Go.bits .and .u32 a b) (Go.bits .and .u32 a c)) (Go.bits .and .u32 b c)
theorem bv_wrap (v : BitVec 32) : IntKind.u32.wrap (v.toNat : Int) = (v.toNat : Int) := by
  rw [Go.IntKind.wrap_u32]
  have := v.isLt
  omega
theorem bv_back (v : BitVec 32) : BitVec.ofInt 32 (v.toNat : Int) = v := by simp
theorem val_xor (x y : Int) : Go.bits .xor .u32 x y = ((BitVec.ofInt 32 x ^^^ BitVec.ofInt 32 y).toNat : Int) := bv_wrap _
theorem val_and (x y : Int) : Go.bits .and .u32 x y = ((BitVec.ofInt 32 x &&& BitVec.ofInt 32 y).toNat : Int) := bv_wrap _
theorem val_or (x y : Int) : Go.bits .or .u32 x y = ((BitVec.ofInt 32 x ||| BitVec.ofInt 32 y).toNat : Int) := bv_wrap _
theorem ch_bv (e f g : BitVec 32) : (e &&& f) ^^^ ((BitVec.ofInt 32 IntKind.u32.max ^^^ e) &&& g) = (e &&& (f ^^^ g)) ^^^ g := by
  have h : BitVec.ofInt 32 IntKind.u32.max = BitVec.allOnes 32 := by decide
  have ho : ∀ (i : Nat) (hi : i < 32), (BitVec.allOnes 32)[i] = true := fun i hi => by simp only [BitVec.getElem_allOnes]
  rw [h]
  generalize BitVec.allOnes 32 = o at ho
  ext i hi
  simp [ho i hi]
  cases e[i] <;> cases f[i] <;> cases g[i] <;> rfl
theorem mj_bv (a b c : BitVec 32) : ((a &&& b) ^^^ (a &&& c)) ^^^ (b &&& c) = (a &&& b) ||| (c &&& (a ||| b)) := by
  ext i hi
  simp
  cases a[i] <;> cases b[i] <;> cases c[i] <;> rfl
theorem chR_eq (e f g : Int) : chR e f g = chP e f g := by
  unfold chR chP
  simp only [val_xor, val_and, bv_back, ch_bv]
theorem mjR_eq (a b c : Int) : mjR a b c = mjP a b c := by
  unfold mjR mjP
  simp only [val_xor, val_and, val_or, bv_back, mj_bv]
theorem roundR (x0 x1 x2 x3 x4 x5 x6 x7 wk tk : Int) : roundS ⟨x0, x1, x2, x3, x4, x5, x6, x7⟩ ((wk + tk) % 4294967296) =
    ⟨(x7 + S1 x4 + chR x4 x5 x6 + tk + wk + (S0 x0 + mjR x0 x1 x2)) % 4294967296, x0, x1, x2, (x3 + (x7 + S1 x4 + chR x4 x5 x6 + tk + wk)) % 4294967296, x4, x5, x6⟩ := by
  rw [chR_eq, mjR_eq]
  unfold roundS
  simp only [St.mk.injEq, and_true, true_and]
  generalize S1 x4 = p
  generalize chP x4 x5 x6 = q
  generalize S0 x0 = r
  generalize mjP x0 x1 x2 = t
  constructor <;> omega
theorem okS_round (s : St) (n : Int) (h : okS s) : okS (roundS s n) := by
  have hm : ∀ a : Int, 0 ≤ a % 4294967296 ∧ a % 4294967296 < 4294967296 := fun a => ⟨Int.emod_nonneg _ (by decide), Int.emod_lt_of_pos _ (by decide)⟩
  obtain ⟨a, b, c, d, e, f, g, h'⟩ := s
  intro x hx
  simp only [roundS, St.l, List.mem_cons, List.not_mem_nil, or_false] at hx
  rcases hx with rfl | rfl | rfl | rfl | rfl | rfl | rfl | rfl
  · exact hm _
  · exact h _ (by simp [St.l])
  · exact h _ (by simp [St.l])
  · exact h _ (by simp [St.l])
  · exact hm _
  · exact h _ (by simp [St.l])
  · exact h _ (by simp [St.l])
  · exact h _ (by simp [St.l])
theorem arr_setN {w : World} {B t : Nat} {s1 : St} (h : w.heap[B]? = some (.cells s1.arr t (0, 0))) (a b c d e f g i : Int) : ((((((((w.setCell ⟨B, 0, none⟩ (.int .u32 a)).setCell ⟨B, 1, none⟩ (.int .u32 b)).setCell ⟨B, 2, none⟩ (.int .u32 c)).setCell ⟨B, 3, none⟩ (.int .u32 d)).setCell ⟨B, 4, none⟩ (.int .u32 e)).setCell ⟨B, 5, none⟩ (.int .u32 f)).setCell ⟨B, 6, none⟩ (.int .u32 g)).setCell ⟨B, 7, none⟩ (.int .u32 i)).heap[B]? = some (.cells (St.arr ⟨a, b, c, d, e, f, g, i⟩) t (0, 0)) := arr_set h ⟨a, b, c, d, e, f, g, i⟩
theorem arr_farN {w : World} {B B' t : Nat} {cs : Array Value} (h : w.heap[B']? = some (.cells cs t (0, 0))) (hne : B' ≠ B) (a b c d e f g i : Int) : ((((((((w.setCell ⟨B, 0, none⟩ (.int .u32 a)).setCell ⟨B, 1, none⟩ (.int .u32 b)).setCell ⟨B, 2, none⟩ (.int .u32 c)).setCell ⟨B, 3, none⟩ (.int .u32 d)).setCell ⟨B, 4, none⟩ (.int .u32 e)).setCell ⟨B, 5, none⟩ (.int .u32 f)).setCell ⟨B, 6, none⟩ (.int .u32 g)).setCell ⟨B, 7, none⟩ (.int .u32 i)).heap[B']? = some (.cells cs t (0, 0)) := arr_far h hne ⟨a, b, c, d, e, f, g, i⟩
theorem arr_belowN {w0 w : World} {N B : Nat} (h : Below N w0 w) (hN : N ≤ B) (a b c d e f g i : Int) : Below N w0 ((((((((w.setCell ⟨B, 0, none⟩ (.int .u32 a)).setCell ⟨B, 1, none⟩ (.int .u32 b)).setCell ⟨B, 2, none⟩ (.int .u32 c)).setCell ⟨B, 3, none⟩ (.int .u32 d)).setCell ⟨B, 4, none⟩ (.int .u32 e)).setCell ⟨B, 5, none⟩ (.int .u32 f)).setCell ⟨B, 6, none⟩ (.int .u32 g)).setCell ⟨B, 7, none⟩ (.int .u32 i)) := arr_below h hN ⟨a, b, c, d, e, f, g, i⟩
theorem quiet_one {P : Program} {f : FuncId} {args : Array Value} {w : World} {n : Nat} {v : Value}
    (h : Calls P f args (w.drewN n) fun e w' => e = .returned v ∧ ∃ m, w' = (w.drewN n).drewN m) :
    Calls P f args (w.drewN n) fun e w'' => e = .returned v ∧ ∃ m, w'' = w.drewN m :=
  h.mono fun _ _ ⟨he, m, hm⟩ => ⟨he, n + m, by rw [hm, World.drewN_drewN]⟩
theorem wp_world {P : Program} {c : Code} {Q : Exit → Act → World → Prop} {a : Act} {w : World} (h : ∀ wx, wx = w → Code.wp P c Q a wx) : Code.wp P c Q a w := h w rfl
theorem meas_lt {n j m : Nat} {x : Int} (h : 64 * j + 64 * (m + 1) = n) (hx : x = 64 * ((j + 1 : Nat) : Int)) : n - (intOf (.int .i64 x)).toNat < n - (intOf (.int .i64 (64 * (j : Int)))).toNat := by
  simp only [intOf]
  omega
theorem w64_add {j n : Nat} (h : 64 * j + 64 ≤ n) (h2 : n < 1099511627776 + 200) : wrap64 (64 * (j : Int) + 64) = 64 * ((j + 1 : Nat) : Int) := by unfold wrap64; omega
def flittingref01_Sha.f (l0 : List Int) : Option (List Int) := if l0.length < 1099511627776 ∧ ∀ x ∈ l0, 0 ≤ x ∧ x < 256 then some (sumF l0) else none
set_option maxHeartbeats 2000000 in
set_option maxRecDepth 100000 in
theorem flittingref01_Sha.calls (A0 : Option Addr) (c0 : Nat) (l0 : List Int) (r : List Int) (w : World) (hr0 : Kd.C (Kd.int .u8) w A0 l0.length l0) (hc0 : l0.length ≤ c0) (h : flittingref01_Sha.f l0 = some r) :
    Calls Tryd.prog 20 #[.slice A0 l0.length c0] w fun e w' => ∃ v0_ : Value, e = .returned (v0_) ∧ Kd.R (Kd.int .u8) 5 w' w.heap.size (fun _ => True) v0_ r ∧ Below w.heap.size w w' := by
  unfold flittingref01_Sha.f at h
  split at h
  · rename_i hh
    obtain ⟨hlt, hby⟩ := hh
    obtain rfl := Option.some.inj h
    clear h
    have hz : ∀ w, Sem.run Tryd.prog (zeroValue 53) w = .ok (.agg (wA [] 0)) w := fun w => by kernel_rfl
    have HR := Aside0.mk hr0
    have HC := Aside0.mk hc0
    have HY := Aside0.mk hby
    have LM := Aside0.mk hlt
    clear hr0 hc0 hby hlt
    go_enter Tryd.func20, Tryd.ntmps20
    have H1 := Aside0.mk turnsA_one
    have HI : Aside0 ((Tryd.prog.info? 53).map (·.size) = some turnsA.size) := ⟨by rw [turnsA_size]; kernel_rfl⟩
    have HE := Aside0.mk (wA0_size.trans turnsA_size.symm)
    have HG : Aside0 (∀ k : Nat, k < 64 → turnsA[k]? = some (.int .u32 (turn k))) := ⟨turnsA_get⟩
    obtain ⟨W1, hW1, hk1, hh1, hm1, hs1, hb1⟩ := sha_world w
    have HW1 := Aside0.mk hW1
    have HK := Aside0.mk hk1
    have HH := Aside0.mk hh1
    have HM := Aside0.mk hm1
    have HS := Aside0.mk hs1
    have HB0 := Aside0.mk hb1
    clear hW1 hk1 hh1 hm1 hs1 hb1
    have HB := Aside0.mk (Below.refl (w.heap.size + 1 + 1) W1)
    have HC1 := Aside0.mk (Kd.C_below HR.out HB0.out)
    clear HR
    go_wp2_with (first | (refine wpList_buildFlatArrTo rfl 53 52 64 _ rfl .u32 turns (some 15) rfl Tryd.underlying53 (by kernel_rfl) (by kernel_rfl) (by kernel_rfl) ?_; rw [show (turns.map (Value.int .u32)).toArray = turnsA from rfl]; generalize turnsA = tA at *) | (refine wpList_store_row rfl 53 (.tmp 3) (.tmp 15) rfl w.heap.size tA rfl rfl 53 (wA [] 0) (blk_new _ _) HI.out HE.out H1.out ?_) | ((with_reducible refine gate_builtin (b := .append) (xs := #[.tmp 17, .tmp 18]) rfl ?_); at_builtin; rw [← HW1.out]; refine Kd.R_append_rows (Kd.int .u8) (w0 := W1) (Rr := (Kd.int .u8).K W1) (w.heap.size + 1 + 1) rfl (.tmp 17) (.tmp 18) 42 5 (.int .u8 0) 1 rfl Tryd.underlying42 info5 rfl (by decide) (by decide) (.slice (some ⟨w.heap.size + 1 + 1, 0, none⟩) 0 0) [] l0 A0 l0.length c0 (fun _ => True) (fun _ => False) rfl rfl (R_empty (Nat.le_refl _) HM.out) HC1.out (fun _ _ h => h) (fun _ hk => hk.elim) (fun _ _ => trivial) HB.out (by rw [HS.out]; omega) (by have := LM.out; simp only [List.length_nil]; omega) ?_; intro v1 w1 ho hb hg hat; have HO := Aside0.mk ho; have HB1 := Aside0.mk hb; clear ho hb hg hat) | ((with_reducible refine gate_builtin (b := .append) (xs := #[.tmp 19, .tmp 20]) rfl ?_); at_builtin; refine Kd.R_append (Kd.int .u8) (w0 := W1) (w.heap.size + 1 + 1) rfl (.tmp 19) (.tmp 20) 42 5 (.int .u8 0) 1 rfl Tryd.underlying42 info5 rfl (by decide) (by decide) v1 ([] ++ l0) 128 [.int .u8 128] (fun _ => True) (fun _ => False) rfl rfl rfl (fun _ hk => hk.elim) (fun _ _ => trivial) HO.out HB1.out (by have h1 := HB1.out.size; have h2 := HS.out; omega) (by have := LM.out; simp only [List.nil_append]; omega) ?_; intro v2 w2 ho hb hg hat; have HO2 := Aside0.mk ho; have HB2 := Aside0.mk hb; clear ho hb hg hat))
    have HP : Aside0 (Kd.R (Kd.int .u8) 5 w2 (w.heap.size + 1 + 1) (fun _ => True) v2 (l0 ++ 128 :: List.replicate 0 0)) := ⟨HO2.out⟩
    clear HO HB1 HO2 H1 HI HE HW1 HM HC1 HB
    go_loopw [5] (fun v wr => ∃ j : Nat, j ≤ padN l0.length ∧ Aside0 (Kd.R (Kd.int .u8) 5 wr (w.heap.size + 1 + 1) (fun _ => True) v (l0 ++ 128 :: List.replicate j 0)) ∧ Aside0 (Below (w.heap.size + 1 + 1) W1 wr)) (fun v _ => l0.length + 200 - lenOf v)
    case atStart => exact ⟨0, Nat.zero_le _, HP, HB2⟩
    case round =>
      clear HP HB2
      obtain ⟨j, hj, hR, hB⟩ := hrel
      have hlen : (l0 ++ 128 :: List.replicate j 0).length = l0.length + 1 + j := by simp; omega
      have HN : Aside0 ((l0 ++ 128 :: List.replicate j 0) ++ [0] = l0 ++ 128 :: List.replicate (j + 1) 0) := ⟨by rw [List.append_assoc, List.cons_append, ← List.replicate_succ']⟩
      have HE : Aside0 (j = padN l0.length → (l0 ++ 128 :: List.replicate j 0) ++ enc (8 * l0.length) 8 = sumPad l0) := ⟨fun e => by rw [e, sumPad, List.append_assoc, List.cons_append]⟩
      generalize l0 ++ 128 :: List.replicate j 0 = L at hR hlen HN HE
      have HLen := Aside0.mk hlen
      have hlim : L.length < 1099511627776 + 100 := by have := LM.out; have : padN l0.length < 64 := Nat.mod_lt _ (by decide); omega
      obtain ⟨A1, c1, rfl, hle, hC⟩ := Kd.R_reads hR.out
      have HLe := Aside0.mk hle
      have HC1 := Aside0.mk hC
      have HSz : Aside0 (w.heap.size + 1 + 1 ≤ wr.heap.size) := ⟨by have h1 := hB.out.size; have h2 := HS.out; omega⟩
      by_cases hjp : j < padN l0.length
      · have ht : (((L.length : Int) % 64) != 56) = true := by rw [bne_iff_ne, hlen]; unfold padN at hjp; omega
        clear hlen hle hC
        go_wp2_with ((with_reducible refine gate_builtin (b := .append) (xs := #[.tmp 26, .tmp 27]) rfl ?_); at_builtin; refine Kd.R_append (Kd.int .u8) (w0 := W1) (w.heap.size + 1 + 1) rfl (.tmp 26) (.tmp 27) 42 5 (.int .u8 0) 1 rfl Tryd.underlying42 info5 rfl (by decide) (by decide) (.slice A1 L.length c1) L 0 [.int .u8 0] (fun _ => True) (fun _ => False) rfl rfl rfl (fun _ hk => hk.elim) (fun _ _ => trivial) hR.out hB.out HSz.out (by omega) ?_; intro v2 w2 ho hb hg hat; have HO2 := Aside0.mk ho; have HB2 := Aside0.mk hb; clear ho hb hg hat)
        go_roundw
        case rel => exact ⟨j + 1, by omega, ⟨by rw [← HN.out]; exact HO2.out⟩, HB2⟩
        case measure =>
          obtain ⟨A2, c2, rfl, _, _⟩ := Kd.R_reads HO2.out
          have h1 := HLen.out
          have h2 : padN l0.length < 64 := Nat.mod_lt _ (by decide)
          simp only [lenOf, Array.getD_eq_getD_getElem?, List.getElem?_toArray, List.getElem?_cons_succ, List.getElem?_cons_zero, Option.getD_some, List.length_append, List.length_cons, List.length_nil]
          omega
      · have hjp' : j = padN l0.length := by omega
        have ht : (((L.length : Int) % 64) != 56) = false := by rw [bne_eq_false_iff_eq, hlen, hjp']; unfold padN; omega
        have HF := Aside0.mk (HE.out hjp')
        have HNum : Aside0 (flittingref01_Num.f 9 (8 * (l0.length : Int)) 8 = some (enc (8 * l0.length) 8)) := ⟨num_f 9 (8 * (l0.length : Int)) 8 (by decide) (by decide) (by omega) (by have := LM.out; omega)⟩
        have e8 : IntKind.u64.wrap (wrap64 (8 * (l0.length : Int))) = 8 * (l0.length : Int) := by have := LM.out; rw [Go.IntKind.wrap_u64]; unfold wrap64; omega
        have HE8 := Aside0.mk e8
        have HH1 := Aside0.mk hlim
        clear hlen hle hC hjp hjp' e8 hlim
        go_wp2_with fail
        refine calls_of_args (args' := #[.int .u64 (8 * (l0.length : Int)), .int .i64 8]) (by rw [HE8.out]) ?_
        refine (flittingref01_Num.calls 9 _ 8 _ wr HNum.out).mono ?_
        rintro e wn ⟨vn, rfl, hon, hbn⟩
        obtain ⟨An, cn, rfl, hlen, hCn⟩ := Kd.R_reads hon
        have HCn := Aside0.mk hCn
        have HRn := Aside0.mk (Kd.R_below hR.out hbn)
        have HBn : Aside0 (Below (w.heap.size + 1 + 1) W1 wn) := ⟨hB.out.trans (hbn.mono HSz.out)⟩
        have HSn : Aside0 (w.heap.size + 1 + 1 ≤ wn.heap.size) := ⟨Nat.le_trans HSz.out hbn.size⟩
        have he8 : (enc (8 * (l0.length : Int)) 8).length = 8 := enc_length _ _
        have HEN := Aside0.mk he8
        clear hon hbn hCn hlen hR hB HC1 HLe he8
        go_wp2_with ((with_reducible refine gate_builtin (b := .append) (xs := #[.tmp 29, .tmp 34]) rfl ?_); at_builtin; refine Kd.R_append_rows (Kd.int .u8) (w0 := W1) (Rr := (Kd.int .u8).K wn) (w.heap.size + 1 + 1) rfl (.tmp 29) (.tmp 34) 42 5 (.int .u8 0) 1 rfl Tryd.underlying42 info5 rfl (by decide) (by decide) (.slice A1 L.length c1) L (enc (8 * (l0.length : Int)) 8) An _ cn (fun _ => True) (fun _ => False) rfl rfl HRn.out HCn.out (fun _ _ h => h) (fun _ hk => hk.elim) (fun _ _ => trivial) HBn.out HSn.out (by have := HH1.out; have := HEN.out; omega) ?_; intro v3 w3 ho hb hg hat; have HO3 := Aside0.mk ho; have HB3 := Aside0.mk hb; clear ho hb hg hat)
        rw [HF.out] at HO3
        have hl3 : (sumPad l0).length = 64 * ((sumPad l0).length / 64) := by unfold sumPad padN; simp [enc_length]; omega
        have hm3 : (sumPad l0).length < 1099511627776 + 200 := by have h1 := HF.out; have h2 := HH1.out; have h3 := HEN.out; rw [← h1, List.length_append, h3]; omega
        have hy3 : ∀ x ∈ sumPad l0, 0 ≤ x ∧ x < 256 := by
          intro x hx
          unfold sumPad at hx
          rcases List.mem_append.1 hx with hx | hx
          · exact HY.out x hx
          · rcases List.mem_cons.1 hx with rfl | hx
            · decide
            · rcases List.mem_append.1 hx with hx | hx
              · rw [List.eq_of_mem_replicate hx]; decide
              · exact enc_bytes _ _ x hx
        have hpos : 0 < (sumPad l0).length := by unfold sumPad; rw [List.length_append, List.length_cons]; omega
        have hsum : sumF l0 = outB (blocks init ((sumPad l0).length / 64) (sumPad l0)) := rfl
        have HSum := Aside0.mk hsum
        have HL3 := Aside0.mk hl3
        have HY3 := Aside0.mk hy3
        have HM3 := Aside0.mk hm3
        obtain ⟨g3, c3, rfl, hg3, _⟩ := Kd.R_form HO3.out hpos
        have HR3 : Aside0 (Kd.R (Kd.int .u8) 5 w3 (w.heap.size + 1 + 1) (fun k => w.heap.size + 1 + 1 ≤ k) (.slice (some ⟨g3, 0, none⟩) (sumPad l0).length c3) (sumPad l0)) := ⟨Kd.R_mono (Kd.R_bound HO3.out) (fun k hk => hk.2.1)⟩
        have hc3 : (sumPad l0).length ≤ c3 := (Kd.R_reads' HO3.out).2.1
        have HC3 := Aside0.mk hc3
        have HK3 : Aside0 (w3.heap[w.heap.size]? = some (.cells tA 53 (0, 0))) := ⟨(HB3.out.block _ (by omega)).trans HK.out⟩
        have HH3 : Aside0 (w3.heap[w.heap.size + 1]? = some (.cells init.arr 54 (0, 0))) := ⟨(HB3.out.block _ (by omega)).trans HH.out⟩
        have HBw : Aside0 (Below w.heap.size w w3) := ⟨HB0.out.trans (HB3.out.mono (by omega))⟩
        clear hsum hl3 hy3 hm3 hpos hc3 HO3 HB3 HF HN HE HLen HSz HNum HE8 HH1 HCn HRn HBn HSn HEN ht HK HH HS HB0 HY HC
        generalize hS : sumPad l0 = S at *
        clear hS
        generalize hF : blocks init (S.length / 64) S = FIN at HSum
        have HFI := Aside0.mk hF
        clear hF
        go_loopw [6] (fun v wr => ∃ (j m : Nat) (s : St), v = .int .i64 (64 * (j : Int)) ∧ Aside0 (64 * j + 64 * m = S.length) ∧ Aside0 (blocks s m (S.drop (64 * j)) = FIN) ∧ Aside0 (okS s) ∧ Aside0 (wr.heap[w.heap.size + 1]? = some (.cells s.arr 54 (0, 0))) ∧ Aside0 (wr.heap[w.heap.size]? = some (.cells tA 53 (0, 0))) ∧ Aside0 (Kd.R (Kd.int .u8) 5 wr (w.heap.size + 1 + 1) (fun k => w.heap.size + 1 + 1 ≤ k) (.slice (some ⟨g3, 0, none⟩) S.length c3) S) ∧ Aside0 (Below w.heap.size w wr)) (fun v _ => S.length - (intOf v).toNat)
        case atStart => exact ⟨0, S.length / 64, init, rfl, ⟨by have := HL3.out; omega⟩, HFI, ⟨okS_init⟩, HH3, HK3, HR3, HBw⟩
        case round =>
          clear HR3 HK3 HH3 HBw HFI
          obtain ⟨j, m, s, rfl, hjm, hfin, hok, hh, hk, hR, hB⟩ := hrel
          rename World => wo
          cases m with
          | zero =>
            have hjl : 64 * j = S.length := by have := hjm.out; omega
            have hd : decide (64 * (j : Int) < (S.length : Int)) = false := decide_eq_false (by omega)
            have hs : s = FIN := hfin.out
            subst hs
            clear hjl
            go_wp2_with fail
            go_loopw [13, 14] (fun v i wi => ∃ q : Nat, q ≤ 8 ∧ i = .int .i64 q ∧ Aside0 (Kd.R (Kd.int .u8) 5 wi wo.heap.size (fun _ => True) v ((s.l.take q).flatMap fun x => enc x 4)) ∧ Aside0 (Below wo.heap.size wo wi)) (fun _ i _ => 8 - (intOf i).toNat)
            case atStart => exact ⟨0, by omega, rfl, ⟨Kd.R_nil _ _ _ _ _⟩, ⟨Below.refl _ _⟩⟩
            case round =>
              obtain ⟨q, hq, rfl, hRo, hBo⟩ := hrel
              by_cases hq8 : q < 8
              · have hql : q < s.l.length := hq8
                have hc := (blk_cell (blk_below hh.out hBo.out) q).trans (arr_get s q hq8)
                have hx := hok.out s.l[q] (List.getElem_mem hql)
                have HN : Aside0 (((s.l.take q).flatMap fun x => enc x 4) ++ enc s.l[q] 4 = (s.l.take (q + 1)).flatMap fun x => enc x 4) := ⟨by rw [List.take_succ_eq_append_getElem hql, List.flatMap_append]; simp⟩
                have hll : ((s.l.take q).flatMap fun x => enc x 4).length ≤ 32 := by
                  have h1 : ∀ l : List Int, (l.flatMap fun x => enc x 4).length = 4 * l.length := fun l => by
                    induction l with
                    | nil => rfl
                    | cons x l ih => rw [List.flatMap_cons, List.length_append, ih, enc_length, List.length_cons]; omega
                  rw [h1, List.length_take]; omega
                have ex : s.l.getD q 0 = s.l[q] := by simp [hql]
                rw [ex] at hc
                generalize s.l[q] = x at *
                clear ex
                generalize ((s.l.take q).flatMap fun x => enc x 4) = out at *
                have HP : Aside0 (flittingref01_Num.f 9 x 4 = some (enc x 4)) := ⟨num_f 9 x 4 (by decide) (by decide) (by omega) (by omega)⟩
                have ew : IntKind.u64.wrap x = x := by rw [Go.IntKind.wrap_u64]; omega
                have HEW := Aside0.mk ew
                have HLL := Aside0.mk hll
                have he4 : Aside0 ((enc x 4).length = 4) := ⟨enc_length _ _⟩
                clear ew hx hll
                go_wp2_with fail
                refine calls_of_args (args' := #[.int .u64 x, .int .i64 4]) (by rw [HEW.out]) ?_
                refine (flittingref01_Num.calls 9 x 4 _ wr HP.out).mono ?_
                rintro e wn ⟨vn, rfl, hon, hbn⟩
                obtain ⟨An, cn, rfl, hlen, hCn⟩ := Kd.R_reads hon
                have HCn := Aside0.mk hCn
                have HRn := Aside0.mk (Kd.R_below hRo.out hbn)
                have HBn : Aside0 (Below wo.heap.size wo wn) := ⟨hBo.out.trans (hbn.mono hBo.out.size)⟩
                clear hon hbn hCn hlen hRo hBo
                go_wp2_with ((with_reducible refine gate_builtin (b := .append) (xs := #[.tmp 212, .tmp 217]) rfl ?_); at_builtin; refine Kd.R_append_rows (Kd.int .u8) (w0 := wo) (Rr := (Kd.int .u8).K wn) wo.heap.size rfl (.tmp 212) (.tmp 217) 42 5 (.int .u8 0) 1 rfl Tryd.underlying42 info5 rfl (by decide) (by decide) u13 out (enc x 4) An _ cn (fun _ => True) (fun _ => False) rfl rfl HRn.out HCn.out (fun _ _ h => h) (fun _ hk => hk.elim) (fun _ _ => trivial) HBn.out HBn.out.size (by have := HLL.out; have := he4.out; omega) ?_; intro v4 w4 ho hb hg hat; have HO4 := Aside0.mk ho; have HB4 := Aside0.mk hb; clear ho hb hg hat)
                go_roundw
                case rel => exact ⟨q + 1, by omega, by go_num, ⟨by rw [← HN.out]; exact HO4.out⟩, HB4⟩
                case measure => simp [intOf]; omega
              · obtain rfl : q = 8 := by omega
                have HOut : Aside0 (((s.l.take 8).flatMap fun x => enc x 4) = outB s) := ⟨rfl⟩
                go_wp2
                go_ret
                exact ⟨_, rfl, by rw [HSum.out]; exact Kd.R_lower hRo.out hB.out.size, hB.out.trans (hBo.out.mono hB.out.size)⟩
          | succ m =>
            have hj64 : 64 * j + 64 ≤ S.length := by have := hjm.out; omega
            have hlim := HM3.out
            have hd : decide (64 * (j : Int) < (S.length : Int)) = true := decide_eq_true (by omega)
            obtain ⟨e0, e1, e2, e3, e4, e5, e6, e7⟩ := arr_cells (blk_alloc hh.out (.cells (wA [] 0) 53))
            go_wp2_with fail
            have hb64 : ((S.drop (64 * j)).take 64).length = 64 := part_length S j hj64
            have HBL := Aside0.mk hb64
            have HBP : Aside0 (∀ k, k < 16 → (S.drop (64 * j + 4 * k)).take 4 = (((S.drop (64 * j)).take 64).drop (4 * k)).take 4) := ⟨part_part S j⟩
            have HBF : Aside0 (blocks (takeS s ((S.drop (64 * j)).take 64)) m (S.drop (64 * (j + 1))) = FIN) := ⟨blocks_step hfin.out⟩
            have HBY : Aside0 (∀ x ∈ (S.drop (64 * j)).take 64, 0 ≤ x ∧ x < 256) := ⟨fun x hx => HY3.out x (List.mem_of_mem_drop (List.mem_of_mem_take hx))⟩
            generalize (S.drop (64 * j)).take 64 = b at HBL HBP HBF HBY
            have HJ := Aside0.mk hj64
            clear hb64 e0 e1 e2 e3 e4 e5 e6 e7 hj64 hfin
            go_loopw [9] (fun i wi => ∃ k : Nat, k ≤ 64 ∧ i = .int .i64 k ∧ Aside0 (wi.heap[wo.heap.size]? = some (.cells (wA b k) 53 (0, 0))) ∧ Aside0 (wi.heap[wo.heap.size + 1]? = some (.cells (rnds s b k).arr 54 (0, 0))) ∧ Aside0 (okS (rnds s b k)) ∧ Aside0 (Below wo.heap.size wo wi)) (fun i _ => 64 - (intOf i).toNat)
            case atStart => exact ⟨0, by omega, rfl, ⟨by rw [show wA b 0 = wA [] 0 from rfl]; exact blk_alloc (blk_new _ _) _⟩, ⟨blk_new1 _ _ _⟩, hok, ⟨((Below.refl _ _).alloc (Nat.le_refl _) _).alloc (by simp) _⟩⟩
            case round =>
              obtain ⟨k, hk64, rfl, hw, hs, hrok, hBi⟩ := hrel
              by_cases hlt : k < 64
              · by_cases h16 : k < 16
                · have hf : wr.frozen? ⟨wo.heap.size, k, none⟩ = false := blk_frozen hw.out _
                  have hcz : wr.cell? ⟨wo.heap.size, k, none⟩ = some (.int .u32 0) := (blk_cell hw.out k).trans (wA_zero b k hlt)
                  have HS := Aside0.mk (wA_set b k hlt _ (if_pos h16))
                  have h1 : 64 * (j : Int) + 4 * (k : Int) + 4 ≤ (S.length : Int) := by have := HJ.out; omega
                  have h1c : 64 * (j : Int) + 4 * (k : Int) + 4 ≤ (c3 : Int) := by have := HC3.out; omega
                  have h2 : ¬ (c3 = 64 * j + 4 * k) := by have := HC3.out; omega
                  have hl4 : ((b.drop (4 * k)).take 4).length = 4 := by have := HBL.out; simp; omega
                  have HRd := Aside0.mk (read_f 9 ((b.drop (4 * k)).take 4) (Nat.le_refl _) (by omega) (fun x hx => HBY.out x (List.mem_of_mem_drop (List.mem_of_mem_take hx))))
                  have hCp := C_part (Kd.R_reads' (Kd.R_below hR.out hBi.out)).2.2 (64 * j + 4 * k) 4 HC3.out (by omega) h2
                  rw [HBP.out k h16] at hCp
                  have HL4 := Aside0.mk hl4
                  have HCp := Aside0.mk hCp
                  clear hl4 hCp
                  go_wp2_with fail
                  refine calls_of_args (args' := #[.slice (some (Addr.add ⟨g3, 0, none⟩ (64 * j + 4 * k))) ((b.drop (4 * k)).take 4).length (c3 - (64 * j + 4 * k))]) (by rw [HL4.out]; simp [Addr.add]) ?_
                  refine (flittingref01_Read.calls 9 _ _ _ _ _ HCp.out (by rw [HL4.out]; have := HC3.out; omega) HRd.out).mono ?_
                  rintro e wq ⟨rfl, ⟨nd, rfl⟩⟩
                  go_wp2_with fail
                  refine wp_world ?_
                  intro wx hx
                  have fw : Aside0 (wx.heap[wo.heap.size]? = some (.cells (wA b (k + 1)) 53 (0, 0))) := ⟨by rw [hx]; exact blk_put (blk_drewN hw.out nd) k _ HS.out⟩
                  have fs : Aside0 (wx.heap[wo.heap.size + 1]? = some (.cells (rnds s b k).arr 54 (0, 0))) := ⟨by rw [hx]; exact blk_far (blk_drewN hs.out nd) (by simp) _⟩
                  have fB : Aside0 (Below wo.heap.size wo wx) := ⟨by rw [hx]; exact Below.setCell (p := ⟨wo.heap.size, k, none⟩) (pw_below_drewN hBi.out _) (by simp) _⟩
                  clear hx HCp HRd HL4 h1 h1c h2 hf hcz HS h16 hw hs hBi
                  have ht : wx.cell? ⟨w.heap.size, k, none⟩ = some (.int .u32 (turn k)) := (blk_cell (blk_below hk.out fB.out) k).trans (HG.out k hlt)
                  have hwk : wx.cell? ⟨wo.heap.size, k, none⟩ = some (.int .u32 ((wl b 64).getD k 0)) := by rw [← wl_all b k hlt]; exact (blk_cell fw.out k).trans (wA_get b (k + 1) k (by omega))
                  have HRN : Aside0 (rnds s b (k + 1) = roundS (rnds s b k) (((wl b 64).getD k 0 + turn k) % 4294967296)) := ⟨rfl⟩
                  generalize (wl b 64).getD k 0 = wk at hwk HRN
                  generalize turn k = tk at ht HRN
                  generalize hs2 : rnds s b (k + 1) = s2 at HRN
                  have HS2 := Aside0.mk hs2
                  clear hs2
                  generalize rnds s b k = s1 at fs HRN hrok
                  obtain ⟨x0, x1, x2, x3, x4, x5, x6, x7⟩ := s1
                  obtain ⟨e0, e1, e2, e3, e4, e5, e6, e7⟩ := arr_cells fs.out
                  go_wp2_with fail
                  go_quiet ((go_at_call 30; first | (refine quiet_one (rot_calls _ _ _ ?_ ?_) <;> omega) | (refine quiet_add (rot_calls _ _ _ ?_ ?_) <;> omega)))
                  go_wp2_with fail
                  go_quiet ((go_at_call 30; first | (refine quiet_one (rot_calls _ _ _ ?_ ?_) <;> omega) | (refine quiet_add (rot_calls _ _ _ ?_ ?_) <;> omega)))
                  obtain ⟨g0, g1, g2, g3, g4, g5, g6, g7⟩ := arr_free fs.out
                  go_wp2_with fail
                  go_roundw
                  case rel =>
                    refine ⟨k + 1, by omega, by go_num, ⟨arr_farN (t := 53) (blk_drewN fw.out _) (by simp) _ _ _ _ _ _ _ _⟩, ⟨?_⟩, ⟨?_⟩, ⟨arr_belowN (pw_below_drewN fB.out _) (by simp) _ _ _ _ _ _ _ _⟩⟩
                    · refine (arr_setN (t := 54) (blk_drewN fs.out _) _ _ _ _ _ _ _ _).trans ?_
                      rw [HS2.out, HRN.out, roundR]
                      rfl
                    · rw [HS2.out, HRN.out]
                      exact okS_round _ _ hrok.out
                  case measure => simp [intOf]; omega
                · have h16' : 16 ≤ k := by omega
                  have hx : ∀ j, j < k → wr.cell? ⟨wo.heap.size, j, none⟩ = some (.int .u32 ((wl b k).getD j 0)) := fun j hj => (blk_cell hw.out j).trans (wA_get b k j hj)
                  have hf : wr.frozen? ⟨wo.heap.size, k, none⟩ = false := blk_frozen hw.out _
                  have hc0 : wr.cell? ⟨wo.heap.size, k, none⟩ = some (.int .u32 0) := (blk_cell hw.out k).trans (wA_zero b k hlt)
                  have HS := Aside0.mk (wA_set b k hlt _ (if_neg h16))
                  unfold wNext at HS
                  have hc15 := hx (k - 15) (by omega)
                  have hc2 := hx (k - 2) (by omega)
                  have hc16 := hx (k - 16) (by omega)
                  have hc7 := hx (k - 7) (by omega)
                  generalize (wl b k).getD (k - 15) 0 = x15 at hc15 HS
                  generalize (wl b k).getD (k - 2) 0 = x2 at hc2 HS
                  generalize (wl b k).getD (k - 16) 0 = x16 at hc16 HS
                  generalize (wl b k).getD (k - 7) 0 = x7 at hc7 HS
                  have e15 : ((k : Int) - 15).toNat = k - 15 := by omega
                  have e2 : ((k : Int) - 2).toNat = k - 2 := by omega
                  have e16 : ((k : Int) - 16).toNat = k - 16 := by omega
                  have e7 : ((k : Int) - 7).toNat = k - 7 := by omega
                  clear hx
                  have w16 : IntKind.i64.wrap ((k : Int) - 16) = (k : Int) - 16 := by rw [Go.IntKind.wrap_i64]; omega
                  have w7 : IntKind.i64.wrap ((k : Int) - 7) = (k : Int) - 7 := by rw [Go.IntKind.wrap_i64]; omega
                  have w15 : IntKind.i64.wrap ((k : Int) - 15) = (k : Int) - 15 := by rw [Go.IntKind.wrap_i64]; omega
                  have w2 : IntKind.i64.wrap ((k : Int) - 2) = (k : Int) - 2 := by rw [Go.IntKind.wrap_i64]; omega
                  have g16 : (0 : Int) ≤ (k : Int) - 16 := by omega
                  have g7 : (0 : Int) ≤ (k : Int) - 7 := by omega
                  have g15 : (0 : Int) ≤ (k : Int) - 15 := by omega
                  have g2 : (0 : Int) ≤ (k : Int) - 2 := by omega
                  have l16 : (k : Int) - 16 < 64 := by omega
                  have l7 : (k : Int) - 7 < 64 := by omega
                  have l15 : (k : Int) - 15 < 64 := by omega
                  have l2 : (k : Int) - 2 < 64 := by omega
                  have g2' : (2 : Int) ≤ (k : Int) := by omega
                  have g7' : (7 : Int) ≤ (k : Int) := by omega
                  have g15' : (15 : Int) ≤ (k : Int) := by omega
                  have g16' : (16 : Int) ≤ (k : Int) := by omega
                  have l2' : (k : Int) < 66 := by omega
                  have l7' : (k : Int) < 71 := by omega
                  have l15' : (k : Int) < 79 := by omega
                  have l16' : (k : Int) < 80 := by omega
                  have n16 : ¬ (k = k - 16) := by omega
                  have n7 : ¬ (k = k - 7) := by omega
                  have n15 : ¬ (k = k - 15) := by omega
                  have n2 : ¬ (k = k - 2) := by omega
                  go_wp2_with fail
                  go_region_held3 (fun w' => w'.cell? ⟨wo.heap.size, k - 16, none⟩ = some (.int .u32 x16) ∧ w'.cell? ⟨wo.heap.size, k - 7, none⟩ = some (.int .u32 x7) ∧ w'.cell? ⟨wo.heap.size, k - 15, none⟩ = some (.int .u32 x15) ∧ w'.cell? ⟨wo.heap.size, k - 2, none⟩ = some (.int .u32 x2)) (first | go_keep | exact ⟨(World.cell?_setCell_other _ _ _ _ (fun e => n16 (congrArg Addr.off e))).trans hc16, (World.cell?_setCell_other _ _ _ _ (fun e => n7 (congrArg Addr.off e))).trans hc7, (World.cell?_setCell_other _ _ _ _ (fun e => n15 (congrArg Addr.off e))).trans hc15, (World.cell?_setCell_other _ _ _ _ (fun e => n2 (congrArg Addr.off e))).trans hc2⟩) (first | (go_at_call 30; refine (rot_calls _ _ _ ?_ ?_).mono ?_; omega; omega; rintro e w' ⟨rfl, m, rfl⟩))
                  go_wp2_with fail
                  refine wp_world ?_
                  intro wx hx
                  have he : (x16 + x7 + Go.bits .xor .u32 (Go.bits .xor .u32 (rr x15 7) (rr x15 18)) (x15 / 8) + Go.bits .xor .u32 (Go.bits .xor .u32 (rr x2 17) (rr x2 19)) (x2 / 1024)) % 4294967296 = IntKind.u32.wrap (IntKind.u32.wrap (IntKind.u32.wrap (x16 + x7) + Go.bits .xor .u32 (Go.bits .xor .u32 (rr x15 7) (rr x15 18)) (x15 / 8)) + Go.bits .xor .u32 (Go.bits .xor .u32 (rr x2 17) (rr x2 19)) (x2 / 1024)) := by rw [IntKind.wrap_u32, IntKind.wrap_u32, IntKind.wrap_u32]; omega
                  have hs' := HS.out
                  unfold s0w s1w at hs'
                  rw [he] at hs'
                  have fw : Aside0 (wx.heap[wo.heap.size]? = some (.cells (wA b (k + 1)) 53 (0, 0))) := ⟨by rw [hx]; exact blk_put (blk_drewN hw.out _) k _ hs'⟩
                  have fs : Aside0 (wx.heap[wo.heap.size + 1]? = some (.cells (rnds s b k).arr 54 (0, 0))) := ⟨by rw [hx]; exact blk_far (blk_drewN hs.out _) (by simp) _⟩
                  have fB : Aside0 (Below wo.heap.size wo wx) := ⟨by rw [hx]; exact Below.setCell (p := ⟨wo.heap.size, k, none⟩) (pw_below_drewN hBi.out _) (by simp) _⟩
                  clear hx hs' he hf hc0 HS h16 hw hs hBi hc15 hc2 hc16 hc7 e15 e2 e16 e7 w16 w7 w15 w2 g16 g7 g15 g2 l16 l7 l15 l2 g2' g7' g15' g16' l2' l7' l15' l16' n16 n7 n15 n2
                  have ht : wx.cell? ⟨w.heap.size, k, none⟩ = some (.int .u32 (turn k)) := (blk_cell (blk_below hk.out fB.out) k).trans (HG.out k hlt)
                  have hwk : wx.cell? ⟨wo.heap.size, k, none⟩ = some (.int .u32 ((wl b 64).getD k 0)) := by rw [← wl_all b k hlt]; exact (blk_cell fw.out k).trans (wA_get b (k + 1) k (by omega))
                  have HRN : Aside0 (rnds s b (k + 1) = roundS (rnds s b k) (((wl b 64).getD k 0 + turn k) % 4294967296)) := ⟨rfl⟩
                  generalize (wl b 64).getD k 0 = wk at hwk HRN
                  generalize turn k = tk at ht HRN
                  generalize hs2 : rnds s b (k + 1) = s2 at HRN
                  have HS2 := Aside0.mk hs2
                  clear hs2
                  generalize rnds s b k = s1 at fs HRN hrok
                  obtain ⟨x0, x1, x2, x3, x4, x5, x6, x7⟩ := s1
                  obtain ⟨e0, e1, e2, e3, e4, e5, e6, e7⟩ := arr_cells fs.out
                  go_wp2_with fail
                  go_quiet ((go_at_call 30; first | (refine quiet_one (rot_calls _ _ _ ?_ ?_) <;> omega) | (refine quiet_add (rot_calls _ _ _ ?_ ?_) <;> omega)))
                  go_wp2_with fail
                  go_quiet ((go_at_call 30; first | (refine quiet_one (rot_calls _ _ _ ?_ ?_) <;> omega) | (refine quiet_add (rot_calls _ _ _ ?_ ?_) <;> omega)))
                  obtain ⟨g0, g1, g2, g3, g4, g5, g6, g7⟩ := arr_free fs.out
                  go_wp2_with fail
                  go_roundw
                  case rel =>
                    refine ⟨k + 1, by omega, by go_num, ⟨arr_farN (t := 53) (blk_drewN fw.out _) (by simp) _ _ _ _ _ _ _ _⟩, ⟨?_⟩, ⟨?_⟩, ⟨arr_belowN (pw_below_drewN fB.out _) (by simp) _ _ _ _ _ _ _ _⟩⟩
                    · refine (arr_setN (t := 54) (blk_drewN fs.out _) _ _ _ _ _ _ _ _).trans ?_
                      rw [HS2.out, HRN.out, roundR]
                      rfl
                    · rw [HS2.out, HRN.out]
                      exact okS_round _ _ hrok.out
                  case measure => simp [intOf]; omega
              · obtain rfl : k = 64 := by omega
                have HTK : Aside0 (takeS s b = addS s (rnds s b 64)) := ⟨(takeS_eq s b).trans (addS_comm _ _)⟩
                generalize rnds s b 64 = t at hs HTK hrok
                rename World => wx
                have HH2 : Aside0 (wx.heap[w.heap.size + 1]? = some (.cells s.arr 54 (0, 0))) := ⟨blk_below hh.out hBi.out⟩
                have HK2 : Aside0 (wx.heap[w.heap.size]? = some (.cells tA 53 (0, 0))) := ⟨blk_below hk.out hBi.out⟩
                have HR2 := Aside0.mk (Kd.R_below hR.out hBi.out)
                have HB2 : Aside0 (Below w.heap.size w wx) := ⟨hB.out.trans (hBi.out.mono hB.out.size)⟩
                have HWo : Aside0 (w.heap.size + 1 < wo.heap.size) := ⟨blk_lt hh.out⟩
                clear hw hrok hBi hh hk hR hB
                go_wp2_with fail
                go_loopw [12] (fun i wi => ∃ q : Nat, q ≤ 8 ∧ i = .int .i64 q ∧ Aside0 (wi.heap[w.heap.size + 1]? = some (.cells (mixA s t q) 54 (0, 0))) ∧ Aside0 (KeepBut wx wi (w.heap.size + 1) none) ∧ Aside0 (Below w.heap.size w wi)) (fun i _ => 8 - (intOf i).toNat)
                case atStart => exact ⟨0, by omega, rfl, ⟨by rw [mixA_zero]; exact HH2.out⟩, ⟨KeepBut.refl _ _ _⟩, HB2⟩
                case round =>
                  obtain ⟨q, hq, rfl, hm, hkb, hBq⟩ := hrel
                  by_cases hq8 : q < 8
                  · have HS := Aside0.mk (mixA_set s t q hq8)
                    have c2 := (blk_cell hm.out q).trans (mixA_get s t q hq8)
                    have c0' := (blk_cell (hkb.out.blk hs.out (by have := HWo.out; omega) (by simp)) q).trans (arr_get t q hq8)
                    have f2 := blk_frozen hm.out q
                    generalize s.l.getD q 0 = sq at HS c2
                    generalize t.l.getD q 0 = tq at HS c0'
                    go_wp2_with fail
                    go_region
                    all_goals
                      go_wp2
                      go_roundw
                      case rel => exact ⟨q + 1, by omega, by go_num, ⟨blk_put hm.out q _ HS.out⟩, ⟨(keep_drew hkb.out).set_ q _⟩, ⟨(hBq.out.drew).setCell (p := ⟨w.heap.size + 1, q, none⟩) (by simp) _⟩⟩
                      case measure => simp [intOf]; omega
                  · obtain rfl : q = 8 := by omega
                    have hm3 : Aside0 (wr.heap[w.heap.size + 1]? = some (.cells (takeS s b).arr 54 (0, 0))) := ⟨by rw [HTK.out, ← mixA_end]; exact hm.out⟩
                    have hw64 := w64_add HJ.out HM3.out
                    go_wp2
                    go_roundw
                    case rel => exact ⟨j + 1, m, takeS s b, by rw [hw64], ⟨by have := hjm.out; omega⟩, HBF, ⟨okS_take _ _⟩, hm3, ⟨hkb.out.blk HK2.out (by omega) (by simp)⟩, ⟨Kd.R_keep HR2.out hkb.out (fun k hk => by omega)⟩, hBq⟩
                    case measure =>
                      show (_ : Nat) < _
                      exact meas_lt hjm.out hw64
  · cases h

/-! ### flittingref01_Weight: function 14 -/
def flittingref01_Weight.f (k : Nat) (a0 : Int) (a1 : Int) : Option (Int) := (flittingref01_Num.f k (IntKind.u64.wrap (a0)) 8).bind fun t153 => ((flittingref01_Num.f k (IntKind.u64.wrap (a1)) 8).bind fun t156 => (if t153.length + t156.length < 140737488355328 then ((flittingref01_Sha.f (t153 ++ t156)).bind fun t162 => (if 8 ≤ (t162.length : Int) then ((flittingref01_Read.f k (t162.take 8)).bind fun t169 => (some t169)) else (none))) else (none)))
theorem flittingref01_Weight.mono : ∀ a0 a1 k, LeO (flittingref01_Weight.f k a0 a1) (flittingref01_Weight.f (k + 1) a0 a1) := by
  intro a0 a1 k
  unfold flittingref01_Weight.f
  repeat' first
      | (with_reducible exact flittingref01_Num.mono _ _ _)
      | (with_reducible exact flittingref01_Read.mono _ _)
      | (with_reducible exact LeO.refl _)
      | (with_reducible exact LeO.none _)
      | (with_reducible refine LeO.ite ?_ ?_)
      | (with_reducible refine LeO.bind ?_ (fun _ => ?_))
      | exact flittingref01_Num.mono _ _ _
      | exact flittingref01_Read.mono _ _
      | exact LeO.none _
      | refine LeO.ite ?_ ?_
      | refine LeO.bind ?_ (fun _ => ?_)
set_option maxHeartbeats 8000000 in
set_option maxRecDepth 100000 in
theorem flittingref01_Weight.calls (k : Nat) (a0 : Int) (a1 : Int) (r : Int) (w : World) (h : flittingref01_Weight.f k a0 a1 = some r) :
    Calls Tryd.prog 14 #[.int .i64 a0, .int .i64 a1] w fun e w' => e = .returned (.int .u64 r) ∧ Below w.heap.size w w' := by
  have HB := Aside0.mk (Below.refl w.heap.size w)
  have H : ((flittingref01_Num.f k (IntKind.u64.wrap (a0)) 8).bind fun t153 => ((flittingref01_Num.f k (IntKind.u64.wrap (a1)) 8).bind fun t156 => (if t153.length + t156.length < 140737488355328 then ((flittingref01_Sha.f (t153 ++ t156)).bind fun t162 => (if 8 ≤ (t162.length : Int) then ((flittingref01_Read.f k (t162.take 8)).bind fun t169 => (some t169)) else (none))) else (none)))) = some r := h
  clear h
  replace H := Option.bind_eq_some_iff.mp H
  obtain ⟨t153, A30, H⟩ := H
  replace H : ((flittingref01_Num.f k (IntKind.u64.wrap (a1)) 8).bind fun t156 => (if t153.length + t156.length < 140737488355328 then ((flittingref01_Sha.f (t153 ++ t156)).bind fun t162 => (if 8 ≤ (t162.length : Int) then ((flittingref01_Read.f k (t162.take 8)).bind fun t169 => (some t169)) else (none))) else (none))) = some r := H
  have A3 := Aside0.mk A30
  clear A30
  replace H := Option.bind_eq_some_iff.mp H
  obtain ⟨t156, A40, H⟩ := H
  replace H : (if t153.length + t156.length < 140737488355328 then ((flittingref01_Sha.f (t153 ++ t156)).bind fun t162 => (if 8 ≤ (t162.length : Int) then ((flittingref01_Read.f k (t162.take 8)).bind fun t169 => (some t169)) else (none))) else (none)) = some r := H
  have A4 := Aside0.mk A40
  clear A40
  by_cases c5 : t153.length + t156.length < 140737488355328
  · rw [if_pos c5] at H
    have LMc5 := Aside0.mk c5
    clear c5
    obtain ⟨y159, hy159⟩ : ∃ y_ : List Int, y_ = (t153 ++ t156) := ⟨_, rfl⟩
    replace H : ((flittingref01_Sha.f y159).bind fun t162 => (if 8 ≤ (t162.length : Int) then ((flittingref01_Read.f k (t162.take 8)).bind fun t169 => (some t169)) else (none))) = some r := by first | (rw [hy159]; with_reducible exact H) | (have H2_ := (Option.bind_some _ _).symm.trans H; rw [hy159]; with_reducible exact H2_) | (have H2_ := (Option.bind_some _ _).symm.trans H; with_reducible exact H2_) | with_reducible exact H | (rw [hy159]; exact H) | exact H
    have Ny159 := Aside0.mk hy159
    clear hy159
    replace H := Option.bind_eq_some_iff.mp H
    obtain ⟨t162, A60, H⟩ := H
    replace H : (if 8 ≤ (t162.length : Int) then ((flittingref01_Read.f k (t162.take 8)).bind fun t169 => (some t169)) else (none)) = some r := H
    have A6 := Aside0.mk A60
    clear A60
    by_cases c7 : 8 ≤ (t162.length : Int)
    · rw [if_pos c7] at H
      have c7b0 := eq_true c7
      have c7b1 : decide (8 ≤ (t162.length : Int)) = true := decide_eq_true c7
      clear c7
      obtain ⟨y165, hy165⟩ : ∃ y_ : List Int, y_ = (t162.take 8) := ⟨_, rfl⟩
      replace H : ((flittingref01_Read.f k y165).bind fun t169 => (some t169)) = some r := by first | (rw [hy165]; with_reducible exact H) | (have H2_ := (Option.bind_some _ _).symm.trans H; rw [hy165]; with_reducible exact H2_) | (have H2_ := (Option.bind_some _ _).symm.trans H; with_reducible exact H2_) | with_reducible exact H | (rw [hy165]; exact H) | exact H
      have Ny165 := Aside0.mk hy165
      clear hy165
      replace H := Option.bind_eq_some_iff.mp H
      obtain ⟨t169, A80, H⟩ := H
      replace H : (some t169) = some r := H
      have A8 := Aside0.mk A80
      clear A80
      obtain rfl := Option.some.inj H
      go_enter Tryd.func14, Tryd.ntmps14
      go_wp2_with (first | ((with_reducible refine gate_callee (f := 21) rfl ?_); refine goesL_ (some 7) rfl rfl Tryd.func21 (by kernel_rfl) rfl #[.int .u64 (IntKind.u64.wrap (a0)), .int .i64 8] rfl (by (try simp only [List.map_toArray, List.map_cons, List.map_nil]); first | done | rfl | (simp only [List.length_drop, List.length_take]; rfl)) ?_; (with_reducible refine (flittingref01_Num.calls k (IntKind.u64.wrap (a0)) 8 t153 _ A3.out).mono ?_); rintro e w9 ⟨v154, rfl, ho0, hb⟩; refine ⟨_, rfl, ?_⟩; have n0_ := Aside0.mk (Kd.R_lower ho0 (below_size (by repeat (first | (with_reducible first | exact HB.out | apply below_alloc | apply pw_below_drewN | apply below_drew1) | exact HB.out)))); have n1_ := Aside0.mk (below_step (by repeat (first | (with_reducible first | exact HB.out | apply below_alloc | apply pw_below_drewN | apply below_drew1) | exact HB.out)) hb); clear HB; have HO155 := n0_; have HB := n1_; clear n0_ n1_; (try clear hb); (try clear hb2); (try clear hk); (try clear hi); (try clear ho0)) | ((with_reducible refine gate_callee (f := 21) rfl ?_); refine goesL_ (some 10) rfl rfl Tryd.func21 (by kernel_rfl) rfl #[.int .u64 (IntKind.u64.wrap (a1)), .int .i64 8] rfl (by (try simp only [List.map_toArray, List.map_cons, List.map_nil]); first | done | rfl | (simp only [List.length_drop, List.length_take]; rfl)) ?_; (with_reducible refine (flittingref01_Num.calls k (IntKind.u64.wrap (a1)) 8 t156 _ A4.out).mono ?_); rintro e w10 ⟨v157, rfl, ho0, hb⟩; refine ⟨_, rfl, ?_⟩; have n0_ := Aside0.mk (Kd.R_elder' (by (with_reducible repeat (first | apply Kd.R_alloc | apply Kd.R_drewN | apply Kd.R_drew)); exact HO155.out) (Kd.R_base ho0) hb); have n1_ := Aside0.mk (Kd.R_lower (Kd.R_new' ho0 (Kd.R_lt (by (with_reducible repeat (first | apply Kd.R_alloc | apply Kd.R_drewN | apply Kd.R_drew)); exact HO155.out))) (below_size (by repeat (first | (with_reducible first | exact HB.out | apply below_alloc | apply pw_below_drewN | apply below_drew1) | exact HB.out)))); have n2_ := Aside0.mk (below_step (by repeat (first | (with_reducible first | exact HB.out | apply below_alloc | apply pw_below_drewN | apply below_drew1) | exact HB.out)) hb); clear HO155; clear HB; have HO155 := n0_; have HO158 := n1_; have HB := n2_; clear n0_ n1_ n2_; (try clear hb); (try clear hb2); (try clear hk); (try clear hi); (try clear ho0); obtain ⟨Ao12, co12, eo12⟩ := Kd.R_slice HO158.out; subst eo12) | ((with_reducible refine gate_builtin (b := .append) (xs := #[.tmp 7, .tmp 10]) rfl ?_); at_builtin; refine Kd.R_append_rows (Kd.int .u8) (w0 := w) w.heap.size rfl (.tmp 7) (.tmp 10) 42 5 (.int .u8 0) 1 rfl Tryd.underlying42 info5 rfl (by decide) (by omega) v154 t153 t156 _ _ _ (fun k_ => some k_ ≠ (.slice Ao12 t156.length co12 : Value).ownBlock) (fun _ => False) rfl rfl ?aO ?aR (fun _ _ h => h) (fun _ h => h.elim) ?aF ?aB ?aS ?aL ?_; (case aR => repeat (first | exact (Kd.R_reads' HO158.out).2.2 | (with_reducible refine Kd.C_alloc ?_ _) | (with_reducible refine Kd.C_drewN ?_ _) | (with_reducible refine Kd.C_drew ?_))); (case aB => exact (by repeat (first | (with_reducible first | exact HB.out | apply below_alloc | apply pw_below_drewN | apply below_drew1) | exact HB.out))); (case aF => exact (fun k_ hk => Kd.fresh' (Kd.R_lt (by (with_reducible repeat (first | apply Kd.R_alloc | apply Kd.R_drewN | apply Kd.R_drew)); exact HO158.out)) k_ hk)); (case aO => exact (by (with_reducible repeat (first | apply Kd.R_alloc | apply Kd.R_drewN | apply Kd.R_drew)); exact Kd.R_mono HO155.out (fun _ hk => hk.2))); (case aS => exact (below_size (by repeat (first | (with_reducible first | exact HB.out | apply below_alloc | apply pw_below_drewN | apply below_drew1) | exact HB.out)))); (case aL => have := LMc5.out; omega); intro v160 w11 ho hb hg hat; (first | rw [← Ny159.out] at ho | (simp only [Int.reduceToNat] at ho; rw [← Ny159.out] at ho)); have n0_ := Aside0.mk (Kd.R_after (ok := (fun _ => True)) (by (with_reducible repeat (first | apply Kd.R_alloc | apply Kd.R_drewN | apply Kd.R_drew)); exact HO158.out) hg hat); have n1_ := Aside0.mk (hb); have n2_ := Aside0.mk (ho); clear HO158; clear HB; clear HO155; have HO158 := n0_; have HB := n1_; have HO161 := n2_; clear n0_ n1_ n2_; clear ho hb hg hat; obtain ⟨Ao13, co13, eo13⟩ := Kd.R_slice HO161.out; subst eo13) | ((with_reducible refine gate_callee (f := 20) rfl ?_); refine goesL_ (some 12) rfl rfl Tryd.func20 (by kernel_rfl) rfl #[.slice Ao13 y159.length co13] rfl (by (try simp only [List.map_toArray, List.map_cons, List.map_nil]); first | done | rfl | (simp only [List.length_drop, List.length_take]; rfl)) ?_; (with_reducible refine (flittingref01_Sha.calls _ _ y159 t162 _ ?side1 ?side2 A6.out).mono ?_); (case side1 => repeat (first | exact (Kd.R_reads' HO161.out).2.2 | (with_reducible refine Kd.C_alloc ?_ _) | (with_reducible refine Kd.C_drewN ?_ _) | (with_reducible refine Kd.C_drew ?_))); (case side2 => exact (Kd.R_reads' HO161.out).2.1); rintro e w14 ⟨v163, rfl, ho0, hb⟩; refine ⟨_, rfl, ?_⟩; have n0_ := Aside0.mk (Kd.R_elder' (by (with_reducible repeat (first | apply Kd.R_alloc | apply Kd.R_drewN | apply Kd.R_drew)); exact HO158.out) (Kd.R_base ho0) hb); have n1_ := Aside0.mk (Kd.R_elder' (by (with_reducible repeat (first | apply Kd.R_alloc | apply Kd.R_drewN | apply Kd.R_drew)); exact HO161.out) (Kd.R_base ho0) hb); have n2_ := Aside0.mk (Kd.R_lower (Kd.R_new' (Kd.R_new' ho0 (Kd.R_lt (by (with_reducible repeat (first | apply Kd.R_alloc | apply Kd.R_drewN | apply Kd.R_drew)); exact HO158.out))) (Kd.R_lt (by (with_reducible repeat (first | apply Kd.R_alloc | apply Kd.R_drewN | apply Kd.R_drew)); exact HO161.out))) (below_size (by repeat (first | (with_reducible first | exact HB.out | apply below_alloc | apply pw_below_drewN | apply below_drew1) | exact HB.out)))); have n3_ := Aside0.mk (below_step (by repeat (first | (with_reducible first | exact HB.out | apply below_alloc | apply pw_below_drewN | apply below_drew1) | exact HB.out)) hb); clear HO158; clear HO161; clear HB; have HO158 := n0_; have HO161 := n1_; have HO164 := n2_; have HB := n3_; clear n0_ n1_ n2_ n3_; (try clear hb); (try clear hb2); (try clear hk); (try clear hi); (try clear ho0); obtain ⟨Ao16, co16, eo16⟩ := Kd.R_slice HO164.out; subst eo16; have q15 : (8 : Int) ≤ ((t162.length : Int) : Int) := of_decide_eq_true (by first | (with_reducible assumption) | assumption); obtain ⟨i015, hi015, _, hsz15, _⟩ := info_parts info5; have hroom15 : t162.length ≤ co16 := (Kd.R_reads' HO164.out).2.1; have hC15 : Kd.C (Kd.int .u8) _ Ao16 t162.length t162 := (Kd.R_reads' HO164.out).2.2; have hcut15 := cut_to (P := Tryd.prog) 42 5 .i64 Tryd.underlying42 hi015 Ao16 t162.length co16 8 (by omega) q15 hroom15; have hr15 := Kd.C_take (m := 8) hC15 (by omega); have hy15 : y165.length = (8 : Int).toNat := (by rw [Ny165.out, List.length_take]; omega); rw [← Ny165.out] at hr15; rw [← hy15] at hcut15; have HR168 := Aside0.mk hr15; have HC168 := Aside0.mk (show y165.length ≤ co16 from by omega); clear hr15 hC15 hroom15 hi015 hsz15; have KY15 := Aside0.mk hy15; clear hy15; have KL15 := Aside0.mk (show 8 ≤ t162.length from by omega); replace q15 := eq_true q15) | ((with_reducible refine gate_callee (f := 19) rfl ?_); refine goesL_ (some 14) rfl rfl Tryd.func19 (by kernel_rfl) rfl #[.slice Ao16 y165.length co16] rfl (by (try simp only [List.map_toArray, List.map_cons, List.map_nil]); first | done | rfl | (simp only [List.length_drop, List.length_take]; rfl)) ?_; (with_reducible refine (flittingref01_Read.calls k _ _ y165 t169 _ ?side1 ?side2 A8.out).mono ?_); (case side1 => repeat (first | exact (by repeat (first | (with_reducible exact HR168.out) | (with_reducible refine Kd.C_alloc ?_ _) | (with_reducible refine Kd.C_drewN ?_ _) | (with_reducible refine Kd.C_drew ?_) | exact HR168.out)) | (with_reducible refine Kd.C_alloc ?_ _) | (with_reducible refine Kd.C_drewN ?_ _) | (with_reducible refine Kd.C_drew ?_))); (case side2 => exact HC168.out); rintro e w' ⟨rfl, ⟨nd, rfl⟩⟩; refine ⟨_, rfl, ?_⟩))
      go_ret
      exact ⟨by first | rfl | (simp [errW_none, errW_some] <;> rfl) | (simp [*, errW_none, errW_some] <;> rfl), by repeat (first | (with_reducible first | exact HB.out | apply below_alloc | apply pw_below_drewN | apply below_drew1) | exact HB.out)⟩
    · rw [if_neg c7] at H
      exact absurd H (by simp)
  · rw [if_neg c5] at H
    exact absurd H (by simp)

end Go.Proofs.YtohlphmjhmcpoaaDoor.PRankTargets
