-- Written by myprint.py (this session's own driver of the kit's print, with contracts of its own handed in).
import Derived.Test.YtohlphmjhmcpoaaDoorPRankSpreadsx0
import Derived.Test.YtohlphmjhmcpoaaDoorPRankSpreadsx3
namespace Go.Proofs.YtohlphmjhmcpoaaDoor.PRankSpreads
open Go.RowKit Go.Proofs.YtohlphmjhmcpoaaDoorW.PrintWords Go.Proofs.YtohlphmjhmcpoaaDoorW.PrintLast Go.Proofs.YtohlphmjhmcpoaaDoorW.PrintMore
attribute [local go_sem] max2_int min2_int max_two min_two max_three min_three max_four min_four   -- for this text's walks alone
set_option linter.unusedVariables false
set_option linter.unusedSimpArgs false

/-! ### flittinglaw12_RankSpreads: function 7 -/
mutual
def flittinglaw12_RankSpreads.l0 : Nat → Int → List Int → Int → Option (Bool)
  | 0, _, _, _ => none
  | k + 1, x3, x4, x5 => if x5 < x3 then (if 0 ≤ x5 then (if x5 < (x4.length : Int) then (flittinglaw12_RankSpreads.l0 k x3 (x4.set (x5 : Int).toNat 1) (wrap64 (x5 + 1))) else (none)) else (none)) else (if 0 ≤ x3 then (if (x3 : Int).toNat ≤ 35184372088832 then (flittinglaw12_RankSpreads.l1 k x3 x4 (List.replicate (x3 : Int).toNat 0) 0) else (none)) else (none))
def flittinglaw12_RankSpreads.l1 : Nat → Int → List Int → List Int → Int → Option (Bool)
  | 0, _, _, _, _ => none
  | k + 1, x3, x4, x6, x7 => if x7 < 400 then ((rank_Targets.f x7 x4 1).bind fun bt153 => (if bt153.2 = true then (if (bt153.1.length : Int) = 1 then (if 0 < (bt153.1.length : Int) then (if 0 ≤ (rd bt153.1 0) then (if (rd bt153.1 0) < (x6.length : Int) then (flittinglaw12_RankSpreads.l1 k x3 x4 (x6.set ((rd bt153.1 0) : Int).toNat (wrap64 ((rd x6 (rd bt153.1 0)) + 1))) (wrap64 (x7 + 1))) else (none)) else (none)) else (none)) else (some false)) else (some false))) else (flittinglaw12_RankSpreads.l2 k x3 x6 0)
def flittinglaw12_RankSpreads.l2 : Nat → Int → List Int → Int → Option (Bool)
  | 0, _, _, _ => none
  | k + 1, x3, x6, x10 => if x10 < x3 then (if 0 ≤ x10 then (if x10 < (x6.length : Int) then (if (rd x6 x10) = 0 then (some false) else (flittinglaw12_RankSpreads.l2 k x3 x6 (wrap64 (x10 + 1)))) else (none)) else (none)) else ((flittinglaw12_answers.f).bind fun t161 => (some t161))
end
def flittinglaw12_RankSpreads.f (k : Nat) (a0 : Int) : Option (Bool) := if 0 ≤ (wrap64 ((wrap64 (Int.tmod a0 6)) + 2)) then (if (wrap64 ((wrap64 (Int.tmod a0 6)) + 2) : Int).toNat ≤ 35184372088832 then (flittinglaw12_RankSpreads.l0 k (wrap64 ((wrap64 (Int.tmod a0 6)) + 2)) (List.replicate (wrap64 ((wrap64 (Int.tmod a0 6)) + 2) : Int).toNat 0) 0) else (none)) else (none)
theorem flittinglaw12_RankSpreads.mono_l : ∀ k, (∀ y0 y1 y2, LeO (flittinglaw12_RankSpreads.l0 k y0 y1 y2) (flittinglaw12_RankSpreads.l0 (k + 1) y0 y1 y2)) ∧ (∀ y0 y1 y2 y3, LeO (flittinglaw12_RankSpreads.l1 k y0 y1 y2 y3) (flittinglaw12_RankSpreads.l1 (k + 1) y0 y1 y2 y3)) ∧ (∀ y0 y1 y2, LeO (flittinglaw12_RankSpreads.l2 k y0 y1 y2) (flittinglaw12_RankSpreads.l2 (k + 1) y0 y1 y2))
  | 0 => ⟨fun _ _ _ r h => by simp [flittinglaw12_RankSpreads.l0] at h, fun _ _ _ _ r h => by simp [flittinglaw12_RankSpreads.l1] at h, fun _ _ _ r h => by simp [flittinglaw12_RankSpreads.l2] at h⟩
  | k + 1 => by
    obtain ⟨ih0, ih1, ih2⟩ := flittinglaw12_RankSpreads.mono_l k
    refine ⟨?_, ?_, ?_⟩
    · intro y0 y1 y2
      unfold flittinglaw12_RankSpreads.l0
      repeat' first
      | (with_reducible exact ih0 _ _ _)
      | (with_reducible exact ih1 _ _ _ _)
      | (with_reducible exact ih2 _ _ _)
      | (with_reducible exact LeO.refl _)
      | (with_reducible exact LeO.none _)
      | (with_reducible refine LeO.ite ?_ ?_)
      | (with_reducible refine LeO.bind ?_ (fun _ => ?_))
      | exact ih0 _ _ _
      | exact ih1 _ _ _ _
      | exact ih2 _ _ _
      | exact LeO.none _
      | refine LeO.ite ?_ ?_
      | refine LeO.bind ?_ (fun _ => ?_)
    · intro y0 y1 y2 y3
      unfold flittinglaw12_RankSpreads.l1
      repeat' first
      | (with_reducible exact ih0 _ _ _)
      | (with_reducible exact ih1 _ _ _ _)
      | (with_reducible exact ih2 _ _ _)
      | (with_reducible exact LeO.refl _)
      | (with_reducible exact LeO.none _)
      | (with_reducible refine LeO.ite ?_ ?_)
      | (with_reducible refine LeO.bind ?_ (fun _ => ?_))
      | exact ih0 _ _ _
      | exact ih1 _ _ _ _
      | exact ih2 _ _ _
      | exact LeO.none _
      | refine LeO.ite ?_ ?_
      | refine LeO.bind ?_ (fun _ => ?_)
    · intro y0 y1 y2
      unfold flittinglaw12_RankSpreads.l2
      repeat' first
      | (with_reducible exact ih0 _ _ _)
      | (with_reducible exact ih1 _ _ _ _)
      | (with_reducible exact ih2 _ _ _)
      | (with_reducible exact LeO.refl _)
      | (with_reducible exact LeO.none _)
      | (with_reducible refine LeO.ite ?_ ?_)
      | (with_reducible refine LeO.bind ?_ (fun _ => ?_))
      | exact ih0 _ _ _
      | exact ih1 _ _ _ _
      | exact ih2 _ _ _
      | exact LeO.none _
      | refine LeO.ite ?_ ?_
      | refine LeO.bind ?_ (fun _ => ?_)
theorem flittinglaw12_RankSpreads.mono : ∀ a0 k, LeO (flittinglaw12_RankSpreads.f k a0) (flittinglaw12_RankSpreads.f (k + 1) a0) := by
  intro a0 k
  obtain ⟨ih0, ih1, ih2⟩ := flittinglaw12_RankSpreads.mono_l k
  unfold flittinglaw12_RankSpreads.f
  repeat' first
      | (with_reducible exact ih0 _ _ _)
      | (with_reducible exact ih1 _ _ _ _)
      | (with_reducible exact ih2 _ _ _)
      | (with_reducible exact LeO.refl _)
      | (with_reducible exact LeO.none _)
      | (with_reducible refine LeO.ite ?_ ?_)
      | (with_reducible refine LeO.bind ?_ (fun _ => ?_))
      | exact ih0 _ _ _
      | exact ih1 _ _ _ _
      | exact ih2 _ _ _
      | exact LeO.none _
      | refine LeO.ite ?_ ?_
      | refine LeO.bind ?_ (fun _ => ?_)
set_option maxHeartbeats 8000000 in
set_option maxRecDepth 100000 in
theorem flittinglaw12_RankSpreads.calls (k : Nat) (a0 : Int) (r : Bool) (w : World) (hT : Tab w) (h : flittinglaw12_RankSpreads.f k a0 = some r) :
    Calls Tryd.prog 7 #[.int .u8 a0] w fun e w' => e = .returned (.bool r) ∧ Below w.heap.size w w' := by
  have HT := Aside0.mk hT
  clear hT
  have HB := Aside0.mk (Below.refl w.heap.size w)
  have H : (if 0 ≤ (wrap64 ((wrap64 (Int.tmod a0 6)) + 2)) then (if (wrap64 ((wrap64 (Int.tmod a0 6)) + 2) : Int).toNat ≤ 35184372088832 then (flittinglaw12_RankSpreads.l0 k (wrap64 ((wrap64 (Int.tmod a0 6)) + 2)) (List.replicate (wrap64 ((wrap64 (Int.tmod a0 6)) + 2) : Int).toNat 0) 0) else (none)) else (none)) = some r := h
  clear h
  obtain ⟨ji2, hji2⟩ : ∃ j_ : Int, (wrap64 ((wrap64 (Int.tmod a0 6)) + 2)) = j_ := ⟨_, rfl⟩
  replace H : (if 0 ≤ (ji2) then (if (ji2 : Int).toNat ≤ 35184372088832 then (flittinglaw12_RankSpreads.l0 k ji2 (List.replicate (ji2 : Int).toNat 0) 0) else (none)) else (none)) = some r := by first | (rw [hji2] at H; exact H) | (simp only [hji2] at H ⊢; exact H)
  have hji2w : (IntKind.i64.wrap ((wrap64 (Int.tmod a0 6)) + 2)) = ji2 := (i64_w _).trans hji2
  by_cases c3 : 0 ≤ (ji2)
  · rw [if_pos c3] at H
    have c3b0 := eq_true c3
    have c3b1 : decide (0 ≤ (ji2)) = true := decide_eq_true c3
    clear c3
    by_cases c4 : (ji2 : Int).toNat ≤ 35184372088832
    · rw [if_pos c4] at H
      have c4b0 := eq_true c4
      have c4b1 : decide ((ji2 : Int).toNat ≤ 35184372088832) = true := decide_eq_true c4
      clear c4
      obtain ⟨y146, hy146⟩ : ∃ y_ : List Int, y_ = (List.replicate (ji2 : Int).toNat 0) := ⟨_, rfl⟩
      replace H : (flittinglaw12_RankSpreads.l0 k ji2 y146 0) = some r := by first | (rw [hy146]; with_reducible exact H) | (have H2_ := (Option.bind_some _ _).symm.trans H; rw [hy146]; with_reducible exact H2_) | (have H2_ := (Option.bind_some _ _).symm.trans H; with_reducible exact H2_) | with_reducible exact H | (rw [hy146]; exact H) | exact H
      have Ny146 := Aside0.mk hy146
      clear hy146
      have H' := Aside0.mk H
      clear H
      go_enter Tryd.func7, Tryd.ntmps7
      go_wp2_with (first | ((with_reducible refine gate_dst (N := 16) rfl ?_); (try (refine gate_guard (by rfl) ?_; dsimp only)); refine Kd.R_make (Kd.int .i64) _ 3 rfl (N := 16) rfl 22 _ _ rfl ji2 rfl rfl Tryd.underlying22 (.int .i64 0) 8 info3 rfl (by decide) (by omega) 0 (ok := fun _ => True) (okp := fun _ => True) rfl (fun _ hk => hk) trivial (of_decide_eq_true (by first | (with_reducible assumption) | assumption)) (Nat.le_trans (Nat.mul_le_mul_right _ (of_decide_eq_true (by first | (with_reducible assumption) | assumption) : ji2.toNat ≤ 35184372088832)) (by omega)) (Below.refl _ _) (Nat.le_refl _) ?_; intro v147 w5 ho6 hb hg_ hnew_; clear hg_ hnew_; (first | rw [← Ny146.out] at ho6 | (simp only [Int.reduceToNat] at ho6; rw [← Ny146.out] at ho6)); have n0_ := Aside0.mk (Kd.R_lower ho6 (below_size (by repeat (first | (with_reducible first | exact HB.out | apply below_alloc | apply pw_below_drewN | apply below_drew1) | exact HB.out)))); have n1_ := Aside0.mk (below_step (by repeat (first | (with_reducible first | exact HB.out | apply below_alloc | apply pw_below_drewN | apply below_drew1) | exact HB.out)) hb); clear HB; have HO148 := n0_; have HB := n1_; clear n0_ n1_; clear hb ho6))
      go_loopg [5] k (fun kq v5 w' => ∃ (x4_1 : List Int) (x5_1 : Int), v5 = .int .i64 x5_1 ∧ Aside0 (flittinglaw12_RankSpreads.l0 kq ji2 x4_1 x5_1 = some r) ∧ Aside0 (kq ≤ k) ∧ Aside0 (Kd.R (Kd.int .i64) 3 w' w.heap.size (fun _ => True) v147 x4_1) ∧ Aside0 (Below w.heap.size w w'))
      case atStart => exact ⟨(y146), (0), (by first | rfl | (simp; done) | (simp [*]; done)), H', ⟨Nat.le_refl _⟩, ⟨by (with_reducible repeat (first | apply Kd.R_alloc | apply Kd.R_drewN | apply Kd.R_drew)); exact HO148.out⟩, ⟨by repeat (first | (with_reducible first | exact HB.out | apply below_alloc | apply pw_below_drewN | apply below_drew1) | exact HB.out)⟩⟩
      case round =>
        clear H'
        try clear p2
        try clear c3
        try clear c3b0
        try clear c3b1
        try clear c4
        try clear c4b0
        try clear c4b1
        try clear p6
        obtain ⟨x4_1, x5_1, rfl, HA, HK1, HO_4, HB⟩ := hrel
        cases gk with
        | zero => exact absurd HA.out (by simp [flittinglaw12_RankSpreads.l0])
        | succ k1 =>
          have H := HA.out
          clear HA
          simp only [flittinglaw12_RankSpreads.l0] at H
          by_cases c7 : x5_1 < ji2
          · rw [if_pos c7] at H
            have c7b0 : decide (x5_1 < ji2) = true := decide_eq_true c7
            clear c7
            by_cases c8 : 0 ≤ x5_1
            · rw [if_pos c8] at H
              have c8b0 : decide (0 ≤ x5_1) = true := decide_eq_true c8
              clear c8
              by_cases c9 : x5_1 < (x4_1.length : Int)
              · rw [if_pos c9] at H
                have c9b0 : decide (x5_1 < (x4_1.length : Int)) = true := decide_eq_true c9
                clear c9
                obtain ⟨y149, hy149⟩ : ∃ y_ : List Int, y_ = (x4_1.set (x5_1 : Int).toNat 1) := ⟨_, rfl⟩
                replace H : (flittinglaw12_RankSpreads.l0 k1 ji2 y149 (wrap64 (x5_1 + 1))) = some r := by first | (rw [hy149]; with_reducible exact H) | (have H2_ := (Option.bind_some _ _).symm.trans H; rw [hy149]; with_reducible exact H2_) | (have H2_ := (Option.bind_some _ _).symm.trans H; with_reducible exact H2_) | with_reducible exact H | (rw [hy149]; exact H) | exact H
                have Ny149 := Aside0.mk hy149
                clear hy149
                have H' := Aside0.mk H
                clear H
                have p10 : 0 ≤ (x5_1 : Int) := of_decide_eq_true (by first | (with_reducible assumption) | assumption)
                have q10 : (x5_1 : Int) < ((x4_1.length : Int) : Int) := of_decide_eq_true (by first | (with_reducible assumption) | assumption)
                obtain ⟨go10, co10, eo10, gb10, gl10, cl10, HG10⟩ := Kd.R_form HO_4.out (by omega)
                (first | cases eo10 | (injection eo10 with ea_ en_ ec_; (first | subst ea_ | (injection ea_ with ea_; subst ea_)); subst ec_; clear en_))
                have GB10 := Aside0.mk gb10
                have GG10 := Aside0.mk HG10
                clear gb10 gl10 HG10
                obtain ⟨hx10_0, hf10_0⟩ := Kd.R_celln 0 HO_4.out (x5_1 : Int) p10 q10
                replace p10 := eq_true p10
                replace q10 := eq_true q10
                have HP11 := Kd.R_putg HO_4.out (x5_1 : Int) 1
                go_wp2_with (first | ((with_reducible refine gate_store (t := 3) (p := 24) rfl ?_); refine store_event (t := 3) (p := 24) (v := ?vo_w12) (w1 := (wr.setCell ⟨go10, (x5_1 : Int).toNat, none⟩ (.int .i64 1))) ?hg ?ho ?hn ?hr ?_; (case ho => rfl); (case hg => rfl); (case hn => rfl); (case hr => first | (go_simp; done) | (go_simp; rfl)); intro w12 hw; have hg : wr.grownBy w12 (some go10) := (by rw [hw]; exact HP11.2); have hp_ : Kd.R (Kd.int .i64) 3 w12 w.heap.size (fun _ => True) (.slice (some ⟨go10, 0, none⟩) x4_1.length co10) y149 := (by rw [hw, Ny149.out]; exact HP11.1); clear HP11; have n0_ := Aside0.mk (hp_); have n1_ := Aside0.mk ((by rw [hw]; exact below_set (HB.out) GB10.out : Below w.heap.size w w12)); clear HO_4; clear HB; have HO_4 := n0_; have HB := n1_; clear n0_ n1_; clear hg hw hp_))
                go_roundg k1
                case measure => have := HK1.out; omega
                case rel => exact ⟨(y149), (wrap64 (x5_1 + 1)), (by first | rfl | (simp; done) | (simp [*]; done)), H', ⟨by have := HK1.out; omega⟩, ⟨by (with_reducible repeat (first | apply Kd.R_alloc | apply Kd.R_drewN | apply Kd.R_drew)); exact HO_4.out⟩, ⟨by repeat (first | (with_reducible first | exact HB.out | apply below_alloc | apply pw_below_drewN | apply below_drew1) | exact HB.out)⟩⟩
              · rw [if_neg c9] at H
                exact absurd H (by simp)
            · rw [if_neg c8] at H
              exact absurd H (by simp)
          · rw [if_neg c7] at H
            have c7b0 : decide (x5_1 < ji2) = false := decide_eq_false c7
            clear c7
            by_cases c13 : 0 ≤ ji2
            · rw [if_pos c13] at H
              have c13b0 := eq_true c13
              have c13b1 : decide (0 ≤ ji2) = true := decide_eq_true c13
              clear c13
              by_cases c14 : (ji2 : Int).toNat ≤ 35184372088832
              · rw [if_pos c14] at H
                have c14b0 := eq_true c14
                have c14b1 : decide ((ji2 : Int).toNat ≤ 35184372088832) = true := decide_eq_true c14
                clear c14
                obtain ⟨y150, hy150⟩ : ∃ y_ : List Int, y_ = (List.replicate (ji2 : Int).toNat 0) := ⟨_, rfl⟩
                replace H : (flittinglaw12_RankSpreads.l1 k1 ji2 x4_1 y150 0) = some r := by first | (rw [hy150]; with_reducible exact H) | (have H2_ := (Option.bind_some _ _).symm.trans H; rw [hy150]; with_reducible exact H2_) | (have H2_ := (Option.bind_some _ _).symm.trans H; with_reducible exact H2_) | with_reducible exact H | (rw [hy150]; exact H) | exact H
                have Ny150 := Aside0.mk hy150
                clear hy150
                have H' := Aside0.mk H
                clear H
                go_wp2_with (first | ((with_reducible refine gate_dst (N := 26) rfl ?_); (try (refine gate_guard (by rfl) ?_; dsimp only)); refine Kd.R_make (Kd.int .i64) _ 3 rfl (N := 26) rfl 22 _ _ rfl ji2 rfl rfl Tryd.underlying22 (.int .i64 0) 8 info3 rfl (by decide) (by omega) 0 (ok := fun _ => True) (okp := fun _ => True) rfl (fun _ hk => hk) trivial (of_decide_eq_true (by first | (with_reducible assumption) | assumption)) (Nat.le_trans (Nat.mul_le_mul_right _ (of_decide_eq_true (by first | (with_reducible assumption) | assumption) : ji2.toNat ≤ 35184372088832)) (by omega)) (Below.refl _ _) (Nat.le_refl _) ?_; intro v151 w15 ho16 hb hg_ hnew_; clear hg_ hnew_; (first | rw [← Ny150.out] at ho16 | (simp only [Int.reduceToNat] at ho16; rw [← Ny150.out] at ho16)); have n0_ := Aside0.mk (Kd.R_elder' (by (with_reducible repeat (first | apply Kd.R_alloc | apply Kd.R_drewN | apply Kd.R_drew)); exact HO_4.out) (Kd.R_base ho16) hb); have n1_ := Aside0.mk (Kd.R_lower (Kd.R_new' ho16 (Kd.R_lt (by (with_reducible repeat (first | apply Kd.R_alloc | apply Kd.R_drewN | apply Kd.R_drew)); exact HO_4.out))) (below_size (by repeat (first | (with_reducible first | exact HB.out | apply below_alloc | apply pw_below_drewN | apply below_drew1) | exact HB.out)))); have n2_ := Aside0.mk (below_step (by repeat (first | (with_reducible first | exact HB.out | apply below_alloc | apply pw_below_drewN | apply below_drew1) | exact HB.out)) hb); clear HO_4; clear HB; have HO_4 := n0_; have HO152 := n1_; have HB := n2_; clear n0_ n1_ n2_; clear hb ho16))
                go_loopg [7] k1 (fun kq v7 w' => ∃ (x6_2 : List Int) (x7_2 : Int), v7 = .int .i64 x7_2 ∧ Aside0 (flittinglaw12_RankSpreads.l1 kq ji2 x4_1 x6_2 x7_2 = some r) ∧ Aside0 (kq ≤ k1) ∧ Aside0 (Kd.R (Kd.int .i64) 3 w' w.heap.size (fun k_ => some k_ ≠ (v151 : Value).ownBlock) v147 x4_1) ∧ Aside0 (Kd.R (Kd.int .i64) 3 w' w.heap.size (fun k_ => some k_ ≠ (v147 : Value).ownBlock) v151 x6_2) ∧ Aside0 (Below w.heap.size w w'))
                case atStart => exact ⟨(y150), (0), (by first | rfl | (simp; done) | (simp [*]; done)), H', ⟨Nat.le_refl _⟩, ⟨by (with_reducible repeat (first | apply Kd.R_alloc | apply Kd.R_drewN | apply Kd.R_drew)); exact Kd.R_mono HO_4.out (fun _ hk => hk.2)⟩, ⟨by (with_reducible repeat (first | apply Kd.R_alloc | apply Kd.R_drewN | apply Kd.R_drew)); exact Kd.R_mono HO152.out (fun _ hk => hk.2)⟩, ⟨by repeat (first | (with_reducible first | exact HB.out | apply below_alloc | apply pw_below_drewN | apply below_drew1) | exact HB.out)⟩⟩
                case round =>
                  clear H'
                  try clear c1
                  try clear p1
                  try clear q1
                  try clear hx1
                  try clear hf1
                  try clear p2
                  try clear c3
                  try clear c3b0
                  try clear c3b1
                  try clear c4
                  try clear c4b0
                  try clear c4b1
                  try clear p6
                  try clear c7
                  try clear c7b0
                  try clear c8
                  try clear c8b0
                  try clear c9
                  try clear c9b0
                  try clear p10
                  try clear q10
                  try clear hx10
                  try clear hf10
                  try clear c13
                  try clear c13b0
                  try clear c13b1
                  try clear c14
                  try clear c14b0
                  try clear c14b1
                  try clear hx10_0
                  try clear p10
                  try clear p2
                  try clear p6
                  try clear q10
                  obtain ⟨x6_2, x7_2, rfl, HA, HK2, HO_4, HO_6, HB⟩ := hrel
                  cases gk with
                  | zero => exact absurd HA.out (by simp [flittinglaw12_RankSpreads.l1])
                  | succ k2 =>
                    have H := HA.out
                    clear HA
                    simp only [flittinglaw12_RankSpreads.l1] at H
                    by_cases c17 : x7_2 < 400
                    · rw [if_pos c17] at H
                      have c17b0 : decide (x7_2 < 400) = true := decide_eq_true c17
                      clear c17
                      replace H := Option.bind_eq_some_iff.mp H
                      obtain ⟨⟨t153, t156⟩, A180, H⟩ := H
                      replace H : (if t156 = true then (if (t153.length : Int) = 1 then (if 0 < (t153.length : Int) then (if 0 ≤ (rd t153 0) then (if (rd t153 0) < (x6_2.length : Int) then (flittinglaw12_RankSpreads.l1 k2 ji2 x4_1 (x6_2.set ((rd t153 0) : Int).toNat (wrap64 ((rd x6_2 (rd t153 0)) + 1))) (wrap64 (x7_2 + 1))) else (none)) else (none)) else (none)) else (some false)) else (some false)) = some r := H
                      have A18 := Aside0.mk A180
                      clear A180
                      by_cases c19 : t156 = true
                      · subst c19
                        have H1 : (if (t153.length : Int) = 1 then (if 0 < (t153.length : Int) then (if 0 ≤ (rd t153 0) then (if (rd t153 0) < (x6_2.length : Int) then (flittinglaw12_RankSpreads.l1 k2 ji2 x4_1 (x6_2.set ((rd t153 0) : Int).toNat (wrap64 ((rd x6_2 (rd t153 0)) + 1))) (wrap64 (x7_2 + 1))) else (none)) else (none)) else (none)) else (some false)) = some r := by rw [if_pos rfl] at H; exact H
                        clear H
                        have H := H1
                        clear H1
                        by_cases c20 : (t153.length : Int) = 1
                        · rw [if_pos c20] at H
                          have c20b0 : ((t153.length : Int) == 1) = true := beq_iff_eq.mpr c20
                          have c20b1 : ((t153.length : Int) != 1) = false := bne_eq_false_iff_eq.mpr c20
                          clear c20
                          by_cases c21 : 0 < (t153.length : Int)
                          · rw [if_pos c21] at H
                            have c21b0 : decide (0 < (t153.length : Int)) = true := decide_eq_true c21
                            have c21b1 : decide (0 < t153.length) = true := decide_eq_true (by omega)
                            clear c21
                            by_cases c22 : 0 ≤ (rd t153 0)
                            · rw [if_pos c22] at H
                              have c22b0 : decide (0 ≤ (rd t153 0)) = true := decide_eq_true c22
                              clear c22
                              by_cases c23 : (rd t153 0) < (x6_2.length : Int)
                              · rw [if_pos c23] at H
                                have c23b0 : decide ((rd t153 0) < (x6_2.length : Int)) = true := decide_eq_true c23
                                clear c23
                                obtain ⟨y159, hy159⟩ : ∃ y_ : List Int, y_ = (x6_2.set ((rd t153 0) : Int).toNat (wrap64 ((rd x6_2 (rd t153 0)) + 1))) := ⟨_, rfl⟩
                                replace H : (flittinglaw12_RankSpreads.l1 k2 ji2 x4_1 y159 (wrap64 (x7_2 + 1))) = some r := by first | (rw [hy159]; with_reducible exact H) | (have H2_ := (Option.bind_some _ _).symm.trans H; rw [hy159]; with_reducible exact H2_) | (have H2_ := (Option.bind_some _ _).symm.trans H; with_reducible exact H2_) | with_reducible exact H | (rw [hy159]; exact H) | exact H
                                have Ny159 := Aside0.mk hy159
                                clear hy159
                                have H' := Aside0.mk H
                                clear H
                                obtain ⟨Ao25, co25, eo25⟩ := Kd.R_slice HO_4.out
                                subst eo25
                                go_wp2_with (first | ((with_reducible refine gate_callee (f := 12) rfl ?_); refine goesL_ (some 34) rfl rfl Tryd.func12 (by kernel_rfl) rfl #[.int .i64 x7_2, .slice Ao25 x4_1.length co25, .int .i64 1] rfl (by (try simp only [List.map_toArray, List.map_cons, List.map_nil]); first | done | rfl | (simp only [List.length_drop, List.length_take]; rfl)) ?_; (with_reducible refine (rank_Targets.calls x7_2 _ _ x4_1 1 t153 true _ ?side1 ?side2 (by first | exact HT.out | exact Tab.below HT.out (by repeat (first | (with_reducible first | exact HB.out | apply below_alloc | apply pw_below_drewN | apply below_drew1) | exact HB.out))) A18.out).mono ?_); (case side1 => repeat (first | exact (Kd.R_reads' HO_4.out).2.2 | (with_reducible refine Kd.C_alloc ?_ _) | (with_reducible refine Kd.C_drewN ?_ _) | (with_reducible refine Kd.C_drew ?_))); (case side2 => exact (Kd.R_reads' HO_4.out).2.1); rintro e w26 ⟨v154, rfl, ho0, hb⟩; refine ⟨_, rfl, ?_⟩; have n0_ := Aside0.mk (Kd.R_below (by (with_reducible repeat (first | apply Kd.R_alloc | apply Kd.R_drewN | apply Kd.R_drew)); exact HO_4.out) hb); have n1_ := Aside0.mk (Kd.R_below (by (with_reducible repeat (first | apply Kd.R_alloc | apply Kd.R_drewN | apply Kd.R_drew)); exact HO_6.out) hb); have n2_ := Aside0.mk (Kd.V_lower (Kd.V_mono (ok' := fun k_ => some k_ ≠ (.slice Ao25 x4_1.length co25 : Value).ownBlock ∧ some k_ ≠ (v151 : Value).ownBlock) ho0 (fun k_ hk_ => ⟨(Kd.fresh' (Kd.R_lt (by (with_reducible repeat (first | apply Kd.R_alloc | apply Kd.R_drewN | apply Kd.R_drew)); exact HO_4.out)) k_ hk_), (Kd.fresh' (Kd.R_lt (by (with_reducible repeat (first | apply Kd.R_alloc | apply Kd.R_drewN | apply Kd.R_drew)); exact HO_6.out)) k_ hk_)⟩)) (below_size (by repeat (first | (with_reducible first | exact HB.out | apply below_alloc | apply pw_below_drewN | apply below_drew1) | exact HB.out)))); have n3_ := Aside0.mk (below_step (by repeat (first | (with_reducible first | exact HB.out | apply below_alloc | apply pw_below_drewN | apply below_drew1) | exact HB.out)) hb); clear HO_4; clear HO_6; clear HB; have HO_4 := n0_; have HO_6 := n1_; have HO155 := n2_; have HB := n3_; clear n0_ n1_ n2_ n3_; (try clear hb); (try clear hb2); (try clear hk); (try clear hi); (try clear ho0); obtain ⟨Ao27, co27, eo27⟩ := Kd.V_slice HO155.out; subst eo27; have p157 : 0 ≤ (0 : Int) := (by omega); have q157 : 0 < (t153.length : Int) := of_decide_eq_true (by first | (with_reducible assumption) | assumption); obtain ⟨ad157, e157, hx157_0⟩ := Kd.at_int (Kd.V_reads' HO155.out).2.2 0 p157 q157; cases e157; have qi157 : (0 < t153.length) = True := eq_true (by omega); (try rw [show ((0 : Int)).toNat = 0 from rfl] at hx157_0); (try rw [Addr.add_zero'] at hx157_0); replace p157 := eq_true p157; replace q157 := eq_true q157; obtain ⟨Ao28, co28, eo28⟩ := Kd.R_slice HO_6.out; subst eo28; have p158 : 0 ≤ ((rd t153 0) : Int) := of_decide_eq_true (by first | (with_reducible assumption) | assumption); have q158 : (rd t153 0) < (x6_2.length : Int) := of_decide_eq_true (by first | (with_reducible assumption) | assumption); obtain ⟨ad158, e158, hx158_0⟩ := Kd.at_int (Kd.R_reads' HO_6.out).2.2 (rd t153 0) p158 q158; cases e158; replace p158 := eq_true p158; replace q158 := eq_true q158; have p24 : 0 ≤ ((rd t153 0) : Int) := of_decide_eq_true (by first | (with_reducible assumption) | assumption); have q24 : ((rd t153 0) : Int) < ((x6_2.length : Int) : Int) := of_decide_eq_true (by first | (with_reducible assumption) | assumption); obtain ⟨go24, co24, eo24, gb24, gl24, cl24, HG24⟩ := Kd.R_form HO_6.out (by omega); (first | cases eo24 | (injection eo24 with ea_ en_ ec_; (first | subst ea_ | (injection ea_ with ea_; subst ea_)); subst ec_; clear en_)); have GB24 := Aside0.mk gb24; have GG24 := Aside0.mk HG24; clear gb24 gl24 HG24; (first | simp only [add_plain] at hx158_0 | skip); obtain ⟨hx24_0, hf24_0⟩ := Kd.R_celln 0 HO_6.out ((rd t153 0) : Int) p24 q24; replace p24 := eq_true p24; replace q24 := eq_true q24; obtain ⟨hy29_, hz29_⟩ := Kd.R_celln 0 HO_6.out ((rd t153 0) : Int) (of_decide_eq_true (by first | (with_reducible assumption) | assumption)) (of_decide_eq_true (by first | (with_reducible assumption) | assumption)); have HP29 := Kd.R_putg HO_6.out ((rd t153 0) : Int) (wrap64 ((rd x6_2 (rd t153 0)) + 1))) | ((with_reducible refine gate_store (t := 3) (p := 51) rfl ?_); refine store_event (t := 3) (p := 51) (v := ?vo_w30) (w1 := (w26.setCell ⟨go24, ((rd t153 0) : Int).toNat, none⟩ (.int .i64 (wrap64 ((rd x6_2 (rd t153 0)) + 1))))) ?hg ?ho ?hn ?hr ?_; (case ho => rfl); (case hg => rfl); (case hn => rfl); (case hr => first | (go_simp; done) | (go_simp; rfl)); intro w30 hw; have hg : w26.grownBy w30 (some go24) := (by rw [hw]; exact HP29.2); have hp_ : Kd.R (Kd.int .i64) 3 w30 w.heap.size (fun k_ => some k_ ≠ (.slice Ao25 x4_1.length co25 : Value).ownBlock) (.slice (some ⟨go24, 0, none⟩) x6_2.length co28) y159 := (by rw [hw, Ny159.out]; exact HP29.1); clear HP29; have n0_ := Aside0.mk (Kd.R_after (v := (.slice (some ⟨go24, 0, none⟩) x6_2.length co28)) (v1 := (.slice (some ⟨go24, 0, none⟩) x6_2.length co28)) (ok := (fun _ => True)) (by (with_reducible repeat (first | apply Kd.R_alloc | apply Kd.R_drewN | apply Kd.R_drew)); exact Kd.R_mono HO_4.out (fun _ hk => ⟨trivial, hk⟩)) hg (.inl rfl)); have n1_ := Aside0.mk (hp_); have n2_ := Aside0.mk (Kd.V_afterv (v := (.slice (some ⟨go24, 0, none⟩) x6_2.length co28)) (v1 := (.slice (some ⟨go24, 0, none⟩) x6_2.length co28)) (ok := (fun k_ => some k_ ≠ (.slice Ao25 x4_1.length co25 : Value).ownBlock)) (by (with_reducible repeat (first | apply Kd.V_alloc | apply Kd.V_drewN | apply Kd.V_drew)); exact HO155.out) hg (.inl rfl)); have n3_ := Aside0.mk ((by rw [hw]; exact below_set (HB.out) GB24.out : Below w.heap.size w w30)); clear HO_4; clear HO_6; clear HO155; clear HB; have HO_4 := n0_; have HO_6 := n1_; have HO155 := n2_; have HB := n3_; clear n0_ n1_ n2_ n3_; clear hg hw hp_))
                                go_roundg k2
                                case measure => have := HK1.out; have := HK2.out; omega
                                case rel => exact ⟨(y159), (wrap64 (x7_2 + 1)), (by first | rfl | (simp; done) | (simp [*]; done)), H', ⟨by have := HK1.out; have := HK2.out; omega⟩, ⟨by (with_reducible repeat (first | apply Kd.R_alloc | apply Kd.R_drewN | apply Kd.R_drew)); exact Kd.R_mono HO_4.out (fun _ hk => hk.2)⟩, ⟨by (with_reducible repeat (first | apply Kd.R_alloc | apply Kd.R_drewN | apply Kd.R_drew)); exact HO_6.out⟩, ⟨by repeat (first | (with_reducible first | exact HB.out | apply below_alloc | apply pw_below_drewN | apply below_drew1) | exact HB.out)⟩⟩
                              · rw [if_neg c23] at H
                                exact absurd H (by simp)
                            · rw [if_neg c22] at H
                              exact absurd H (by simp)
                          · rw [if_neg c21] at H
                            exact absurd H (by simp)
                        · rw [if_neg c20] at H
                          have c20b0 : ((t153.length : Int) == 1) = false := beq_eq_false_iff_ne.mpr c20
                          have c20b1 : ((t153.length : Int) != 1) = true := bne_iff_ne.mpr c20
                          obtain rfl := Option.some.inj H
                          obtain ⟨Ao31, co31, eo31⟩ := Kd.R_slice HO_4.out
                          subst eo31
                          go_wp2_with (first | ((with_reducible refine gate_callee (f := 12) rfl ?_); refine goesL_ (some 34) rfl rfl Tryd.func12 (by kernel_rfl) rfl #[.int .i64 x7_2, .slice Ao31 x4_1.length co31, .int .i64 1] rfl (by (try simp only [List.map_toArray, List.map_cons, List.map_nil]); first | done | rfl | (simp only [List.length_drop, List.length_take]; rfl)) ?_; (with_reducible refine (rank_Targets.calls x7_2 _ _ x4_1 1 t153 true _ ?side1 ?side2 (by first | exact HT.out | exact Tab.below HT.out (by repeat (first | (with_reducible first | exact HB.out | apply below_alloc | apply pw_below_drewN | apply below_drew1) | exact HB.out))) A18.out).mono ?_); (case side1 => repeat (first | exact (Kd.R_reads' HO_4.out).2.2 | (with_reducible refine Kd.C_alloc ?_ _) | (with_reducible refine Kd.C_drewN ?_ _) | (with_reducible refine Kd.C_drew ?_))); (case side2 => exact (Kd.R_reads' HO_4.out).2.1); rintro e w32 ⟨v154, rfl, ho0, hb⟩; refine ⟨_, rfl, ?_⟩; have n0_ := Aside0.mk (Kd.R_below (by (with_reducible repeat (first | apply Kd.R_alloc | apply Kd.R_drewN | apply Kd.R_drew)); exact HO_4.out) hb); have n1_ := Aside0.mk (Kd.R_below (by (with_reducible repeat (first | apply Kd.R_alloc | apply Kd.R_drewN | apply Kd.R_drew)); exact HO_6.out) hb); have n2_ := Aside0.mk (Kd.V_lower (Kd.V_mono (ok' := fun k_ => some k_ ≠ (.slice Ao31 x4_1.length co31 : Value).ownBlock ∧ some k_ ≠ (v151 : Value).ownBlock) ho0 (fun k_ hk_ => ⟨(Kd.fresh' (Kd.R_lt (by (with_reducible repeat (first | apply Kd.R_alloc | apply Kd.R_drewN | apply Kd.R_drew)); exact HO_4.out)) k_ hk_), (Kd.fresh' (Kd.R_lt (by (with_reducible repeat (first | apply Kd.R_alloc | apply Kd.R_drewN | apply Kd.R_drew)); exact HO_6.out)) k_ hk_)⟩)) (below_size (by repeat (first | (with_reducible first | exact HB.out | apply below_alloc | apply pw_below_drewN | apply below_drew1) | exact HB.out)))); have n3_ := Aside0.mk (below_step (by repeat (first | (with_reducible first | exact HB.out | apply below_alloc | apply pw_below_drewN | apply below_drew1) | exact HB.out)) hb); clear HO_4; clear HO_6; clear HB; have HO_4 := n0_; have HO_6 := n1_; have HO155 := n2_; have HB := n3_; clear n0_ n1_ n2_ n3_; (try clear hb); (try clear hb2); (try clear hk); (try clear hi); (try clear ho0); obtain ⟨Ao33, co33, eo33⟩ := Kd.V_slice HO155.out; subst eo33))
                          go_ret
                          exact ⟨by first | rfl | (simp [errW_none, errW_some] <;> rfl) | (simp only [← hji2]; first | rfl | (simp [errW_none, errW_some] <;> rfl)) | (simp [*, errW_none, errW_some] <;> rfl), by repeat (first | (with_reducible first | exact HB.out | apply below_alloc | apply pw_below_drewN | apply below_drew1) | exact HB.out)⟩
                      · replace c19 := Bool.eq_false_iff.mpr c19
                        subst c19
                        have H1 : (some false) = some r := by rw [if_neg (show ¬ (false = true) by decide)] at H; exact H
                        clear H
                        have H := H1
                        clear H1
                        obtain rfl := Option.some.inj H
                        obtain ⟨Ao34, co34, eo34⟩ := Kd.R_slice HO_4.out
                        subst eo34
                        go_wp2_with (first | ((with_reducible refine gate_callee (f := 12) rfl ?_); refine goesL_ (some 34) rfl rfl Tryd.func12 (by kernel_rfl) rfl #[.int .i64 x7_2, .slice Ao34 x4_1.length co34, .int .i64 1] rfl (by (try simp only [List.map_toArray, List.map_cons, List.map_nil]); first | done | rfl | (simp only [List.length_drop, List.length_take]; rfl)) ?_; (with_reducible refine (rank_Targets.calls x7_2 _ _ x4_1 1 t153 false _ ?side1 ?side2 (by first | exact HT.out | exact Tab.below HT.out (by repeat (first | (with_reducible first | exact HB.out | apply below_alloc | apply pw_below_drewN | apply below_drew1) | exact HB.out))) A18.out).mono ?_); (case side1 => repeat (first | exact (Kd.R_reads' HO_4.out).2.2 | (with_reducible refine Kd.C_alloc ?_ _) | (with_reducible refine Kd.C_drewN ?_ _) | (with_reducible refine Kd.C_drew ?_))); (case side2 => exact (Kd.R_reads' HO_4.out).2.1); rintro e w35 ⟨v154, rfl, ho0, hb⟩; refine ⟨_, rfl, ?_⟩; have n0_ := Aside0.mk (Kd.R_below (by (with_reducible repeat (first | apply Kd.R_alloc | apply Kd.R_drewN | apply Kd.R_drew)); exact HO_4.out) hb); have n1_ := Aside0.mk (Kd.R_below (by (with_reducible repeat (first | apply Kd.R_alloc | apply Kd.R_drewN | apply Kd.R_drew)); exact HO_6.out) hb); have n2_ := Aside0.mk (Kd.V_lower (Kd.V_mono (ok' := fun k_ => some k_ ≠ (.slice Ao34 x4_1.length co34 : Value).ownBlock ∧ some k_ ≠ (v151 : Value).ownBlock) ho0 (fun k_ hk_ => ⟨(Kd.fresh' (Kd.R_lt (by (with_reducible repeat (first | apply Kd.R_alloc | apply Kd.R_drewN | apply Kd.R_drew)); exact HO_4.out)) k_ hk_), (Kd.fresh' (Kd.R_lt (by (with_reducible repeat (first | apply Kd.R_alloc | apply Kd.R_drewN | apply Kd.R_drew)); exact HO_6.out)) k_ hk_)⟩)) (below_size (by repeat (first | (with_reducible first | exact HB.out | apply below_alloc | apply pw_below_drewN | apply below_drew1) | exact HB.out)))); have n3_ := Aside0.mk (below_step (by repeat (first | (with_reducible first | exact HB.out | apply below_alloc | apply pw_below_drewN | apply below_drew1) | exact HB.out)) hb); clear HO_4; clear HO_6; clear HB; have HO_4 := n0_; have HO_6 := n1_; have HO155 := n2_; have HB := n3_; clear n0_ n1_ n2_ n3_; (try clear hb); (try clear hb2); (try clear hk); (try clear hi); (try clear ho0)))
                        go_ret
                        exact ⟨by first | rfl | (simp [errW_none, errW_some] <;> rfl) | (simp only [← hji2]; first | rfl | (simp [errW_none, errW_some] <;> rfl)) | (simp [*, errW_none, errW_some] <;> rfl), by repeat (first | (with_reducible first | exact HB.out | apply below_alloc | apply pw_below_drewN | apply below_drew1) | exact HB.out)⟩
                    · rw [if_neg c17] at H
                      have c17b0 : decide (x7_2 < 400) = false := decide_eq_false c17
                      clear c17
                      have H' := Aside0.mk H
                      clear H
                      go_wp2
                      go_loopg [10] k2 (fun kq v10 w' => ∃ (x10_3 : Int), v10 = .int .i64 x10_3 ∧ Aside0 (flittinglaw12_RankSpreads.l2 kq ji2 x6_2 x10_3 = some r) ∧ Aside0 (kq ≤ k2) ∧ Aside0 (Kd.R (Kd.int .i64) 3 w' w.heap.size (fun _ => True) v151 x6_2) ∧ Aside0 (Below w.heap.size w w'))
                      case atStart => exact ⟨(0), (by first | rfl | (simp; done) | (simp [*]; done)), H', ⟨Nat.le_refl _⟩, ⟨by (with_reducible repeat (first | apply Kd.R_alloc | apply Kd.R_drewN | apply Kd.R_drew)); exact Kd.R_mono HO_6.out (fun _ hk => trivial)⟩, ⟨by repeat (first | (with_reducible first | exact HB.out | apply below_alloc | apply pw_below_drewN | apply below_drew1) | exact HB.out)⟩⟩
                      case round =>
                        clear H'
                        try clear c1
                        try clear p1
                        try clear q1
                        try clear hx1
                        try clear qi1
                        try clear hf1
                        try clear c2
                        try clear p2
                        try clear q2
                        try clear hx2
                        try clear hf2
                        try clear c3
                        try clear c3b0
                        try clear c3b1
                        try clear c4
                        try clear c4b0
                        try clear c4b1
                        try clear p6
                        try clear c7
                        try clear c7b0
                        try clear c8
                        try clear c8b0
                        try clear c9
                        try clear c9b0
                        try clear p10
                        try clear q10
                        try clear hx10
                        try clear hf10
                        try clear c12
                        try clear c13
                        try clear c13b0
                        try clear c13b1
                        try clear c14
                        try clear c14b0
                        try clear c14b1
                        try clear p15
                        try clear q15
                        try clear hx15
                        try clear qi15
                        try clear c17
                        try clear c17b0
                        try clear c19
                        try clear c20
                        try clear c20b0
                        try clear c20b1
                        try clear c21
                        try clear c21b0
                        try clear c21b1
                        try clear c22
                        try clear c22b0
                        try clear c23
                        try clear c23b0
                        try clear p24
                        try clear q24
                        try clear hx24
                        try clear hf24
                        try clear hx10_0
                        try clear hx157_0
                        try clear hx158_0
                        try clear hx24_0
                        try clear p1
                        try clear p10
                        try clear p157
                        try clear p158
                        try clear p2
                        try clear p24
                        try clear p6
                        try clear q1
                        try clear q10
                        try clear q157
                        try clear q158
                        try clear q24
                        obtain ⟨x10_3, rfl, HA, HK3, HO_6, HB⟩ := hrel
                        cases gk with
                        | zero => exact absurd HA.out (by simp [flittinglaw12_RankSpreads.l2])
                        | succ k3 =>
                          have H := HA.out
                          clear HA
                          simp only [flittinglaw12_RankSpreads.l2] at H
                          by_cases c36 : x10_3 < ji2
                          · rw [if_pos c36] at H
                            have c36b0 : decide (x10_3 < ji2) = true := decide_eq_true c36
                            clear c36
                            by_cases c37 : 0 ≤ x10_3
                            · rw [if_pos c37] at H
                              have c37b0 : decide (0 ≤ x10_3) = true := decide_eq_true c37
                              clear c37
                              by_cases c38 : x10_3 < (x6_2.length : Int)
                              · rw [if_pos c38] at H
                                have c38b0 : decide (x10_3 < (x6_2.length : Int)) = true := decide_eq_true c38
                                clear c38
                                by_cases c39 : (rd x6_2 x10_3) = 0
                                · rw [if_pos c39] at H
                                  have c39b0 : ((rd x6_2 x10_3) == 0) = true := beq_iff_eq.mpr c39
                                  have c39b1 : ((rd x6_2 x10_3) != 0) = false := bne_eq_false_iff_eq.mpr c39
                                  clear c39
                                  obtain rfl := Option.some.inj H
                                  obtain ⟨Ao40, co40, eo40⟩ := Kd.R_slice HO_6.out
                                  subst eo40
                                  have p160 : 0 ≤ (x10_3 : Int) := of_decide_eq_true (by first | (with_reducible assumption) | assumption)
                                  have q160 : x10_3 < (x6_2.length : Int) := of_decide_eq_true (by first | (with_reducible assumption) | assumption)
                                  obtain ⟨ad160, e160, hx160_0⟩ := Kd.at_int (Kd.R_reads' HO_6.out).2.2 x10_3 p160 q160
                                  cases e160
                                  replace p160 := eq_true p160
                                  replace q160 := eq_true q160
                                  go_wp2
                                  go_ret
                                  exact ⟨by first | rfl | (simp [errW_none, errW_some] <;> rfl) | (simp only [← hji2]; first | rfl | (simp [errW_none, errW_some] <;> rfl)) | (simp [*, errW_none, errW_some] <;> rfl), by repeat (first | (with_reducible first | exact HB.out | apply below_alloc | apply pw_below_drewN | apply below_drew1) | exact HB.out)⟩
                                · rw [if_neg c39] at H
                                  have c39b0 : ((rd x6_2 x10_3) == 0) = false := beq_eq_false_iff_ne.mpr c39
                                  have c39b1 : ((rd x6_2 x10_3) != 0) = true := bne_iff_ne.mpr c39
                                  have H' := Aside0.mk H
                                  clear H
                                  obtain ⟨Ao41, co41, eo41⟩ := Kd.R_slice HO_6.out
                                  subst eo41
                                  have p160 : 0 ≤ (x10_3 : Int) := of_decide_eq_true (by first | (with_reducible assumption) | assumption)
                                  have q160 : x10_3 < (x6_2.length : Int) := of_decide_eq_true (by first | (with_reducible assumption) | assumption)
                                  obtain ⟨ad160, e160, hx160_0⟩ := Kd.at_int (Kd.R_reads' HO_6.out).2.2 x10_3 p160 q160
                                  cases e160
                                  replace p160 := eq_true p160
                                  replace q160 := eq_true q160
                                  go_wp2
                                  go_roundg k3
                                  case measure => have := HK1.out; have := HK2.out; have := HK3.out; omega
                                  case rel => exact ⟨(wrap64 (x10_3 + 1)), (by first | rfl | (simp; done) | (simp [*]; done)), H', ⟨by have := HK1.out; have := HK2.out; have := HK3.out; omega⟩, ⟨by (with_reducible repeat (first | apply Kd.R_alloc | apply Kd.R_drewN | apply Kd.R_drew)); exact HO_6.out⟩, ⟨by repeat (first | (with_reducible first | exact HB.out | apply below_alloc | apply pw_below_drewN | apply below_drew1) | exact HB.out)⟩⟩
                              · rw [if_neg c38] at H
                                exact absurd H (by simp)
                            · rw [if_neg c37] at H
                              exact absurd H (by simp)
                          · rw [if_neg c36] at H
                            have c36b0 : decide (x10_3 < ji2) = false := decide_eq_false c36
                            clear c36
                            replace H := Option.bind_eq_some_iff.mp H
                            obtain ⟨t161, A420, H⟩ := H
                            replace H : (some t161) = some r := H
                            have A42 := Aside0.mk A420
                            clear A420
                            obtain rfl := Option.some.inj H
                            go_wp2_with (first | ((with_reducible refine gate_callee (f := 8) rfl ?_); refine goesL_ (some 62) rfl rfl Tryd.func8 (by kernel_rfl) rfl #[] rfl (by (try simp only [List.map_toArray, List.map_cons, List.map_nil]); first | done | rfl | (simp only [List.length_drop, List.length_take]; rfl)) ?_; (with_reducible refine (flittinglaw12_answers.calls  t161 _ (by first | exact HT.out | exact Tab.below HT.out (by repeat (first | (with_reducible first | exact HB.out | apply below_alloc | apply pw_below_drewN | apply below_drew1) | exact HB.out))) A42.out).mono ?_); rintro e w43 ⟨rfl, hb⟩; refine ⟨_, rfl, ?_⟩; have n0_ := Aside0.mk (Kd.R_below (by (with_reducible repeat (first | apply Kd.R_alloc | apply Kd.R_drewN | apply Kd.R_drew)); exact HO_6.out) hb); have n1_ := Aside0.mk (below_step (by repeat (first | (with_reducible first | exact HB.out | apply below_alloc | apply pw_below_drewN | apply below_drew1) | exact HB.out)) hb); clear HO_6; clear HB; have HO_6 := n0_; have HB := n1_; clear n0_ n1_; (try clear hb); (try clear hb2); (try clear hk); (try clear hi)))
                            go_ret
                            exact ⟨by first | rfl | (simp [errW_none, errW_some] <;> rfl) | (simp only [← hji2]; first | rfl | (simp [errW_none, errW_some] <;> rfl)) | (simp [*, errW_none, errW_some] <;> rfl), by repeat (first | (with_reducible first | exact HB.out | apply below_alloc | apply pw_below_drewN | apply below_drew1) | exact HB.out)⟩
              · rw [if_neg c14] at H
                exact absurd H (by simp)
            · rw [if_neg c13] at H
              exact absurd H (by simp)
    · rw [if_neg c4] at H
      exact absurd H (by simp)
  · rw [if_neg c3] at H
    exact absurd H (by simp)

/-- THE ONE PURE STATEMENT of flittinglaw12_RankSpreads: yours. -/
def flittinglaw12_RankSpreads.Pure : Prop := ∀ (a0 : Int), (Lit.int .u8 a0).wf = true → ∃ k, flittinglaw12_RankSpreads.f k a0 = some true
theorem flittinglaw12_RankSpreads.walk (P : flittinglaw12_RankSpreads.Pure) (a0 : Int) (w : World) (hT : Tab w) (w0 : (Lit.int .u8 a0).wf = true) :
    Calls Tryd.prog 7 #[.int .u8 a0] w fun e w' => e = .returned (.bool true) ∧ Below w.heap.size w w' := by
  obtain ⟨k, h⟩ := P a0 w0
  refine (flittinglaw12_RankSpreads.calls k a0 true w hT h).mono ?_
  rintro e w' ⟨rfl, hd⟩
  exact ⟨rfl, hd⟩

end Go.Proofs.YtohlphmjhmcpoaaDoor.PRankSpreads
