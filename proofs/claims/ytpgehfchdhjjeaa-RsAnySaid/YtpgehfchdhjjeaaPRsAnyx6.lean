-- Written by myprint.py (this session's own driver of the kit's print, with contracts of its own handed in).
import Derived.Test.YtpgehfchdhjjeaaPRsAnyx0
import Derived.Test.YtpgehfchdhjjeaaPRsAnyx3
import Derived.Test.YtpgehfchdhjjeaaPRsAnyx5
namespace Go.Proofs.Ytpgehfchdhjjeaa.PRsAny
open Go.RowKit Go.Proofs.YtpgehfchdhjjeaaW.PrintWords Go.Proofs.YtpgehfchdhjjeaaW.PrintLast Go.Proofs.YtpgehfchdhjjeaaW.PrintMore
attribute [local go_sem] max2_int min2_int max_two min_two max_three min_three max_four min_four   -- for this text's walks alone
set_option linter.unusedVariables false
set_option linter.unusedSimpArgs false

/-! ### flittinglaw03_RsAny: function 7 -/
mutual
def flittinglaw03_RsAny.j0 : Nat → Int → Int → Int → Int → List Int → List (List Int) → Bool → Option (Bool)
  | 0, _, _, _, _, _, _, _ => none
  | k + 1, x3, x4, x11, x12, x13, x14, x58 => if x58 = true then (some false) else ((some (([] : List (List Int)) : List (List Int))).bind fun y176 => (if y176.length + x14.length < 5864062014805 then (flittinglaw03_RsAny.l0 k x3 x4 x11 x12 x13 x14 (y176 ++ x14) 0 0) else (none)))
def flittinglaw03_RsAny.l0 : Nat → Int → Int → Int → Int → List Int → List (List Int) → List (List Int) → Int → Int → Option (Bool)
  | 0, _, _, _, _, _, _, _, _, _ => none
  | k + 1, x3, x4, x11, x12, x13, x14, x16, x17, x18 => if x18 < (x16.length : Int) then (flittinglaw03_RsAny.j2 k x3 x4 x11 x12 x13 x14 x16 x17 x18 (decide (x17 < x12))) else (flittinglaw03_RsAny.j2 k x3 x4 x11 x12 x13 x14 x16 x17 x18 false)
def flittinglaw03_RsAny.j2 : Nat → Int → Int → Int → Int → List Int → List (List Int) → List (List Int) → Int → Int → Bool → Option (Bool)
  | 0, _, _, _, _, _, _, _, _, _, _ => none
  | k + 1, x3, x4, x11, x12, x13, x14, x16, x17, x18, x70 => if x70 = true then (if 0 ≤ (IntKind.u64.wrap (x18)) then (if (Int.tmod (shr .u8 x3 (IntKind.u64.wrap (x18))) 2) = 1 then (if 0 ≤ x18 then (if x18 < (x16.length : Int) then (flittinglaw03_RsAny.l0 k x3 x4 x11 x12 x13 x14 (x16.set (x18 : Int).toNat ([] : List Int)) (wrap64 (x17 + 1)) (wrap64 (x18 + 1))) else (none)) else (none)) else (flittinglaw03_RsAny.l0 k x3 x4 x11 x12 x13 x14 x16 x17 (wrap64 (x18 + 1)))) else (none)) else ((rs_Decode.f x11 x12 x16).bind fun bt183 => (if (wrap64 (x11 + x12)) = 0 then (none) else ((rs_Rebuild.f k x11 x12 x16 (Int.tmod (wrap64 (x4)) (wrap64 (x11 + x12)))).bind fun bt187 => ((flittinglaw03_answers.f).bind fun t191 => (if t191 = true then (if bt183.2 = 0 then ((flittingref01_Same.f k bt183.1 x13).bind fun t192 => (if t192 = true then (if bt187.2 = 0 then (if 0 ≤ (Int.tmod (wrap64 (x4)) (wrap64 (x11 + x12))) then (if (Int.tmod (wrap64 (x4)) (wrap64 (x11 + x12))) < (x14.length : Int) then ((flittingref01_Same.f k bt187.1 (rd_L1 x14 (Int.tmod (wrap64 (x4)) (wrap64 (x11 + x12))))).bind fun t194 => (some t194)) else (none)) else (none)) else (some false)) else (some false))) else (some false)) else (some false))))))
end
def flittinglaw03_RsAny.f (k : Nat) (a0 : Int) (a1 : Int) (l2 : List Int) (a3 : Int) (a4 : Int) : Option (Bool) := if (l2.length : Int) > 100 then ((flittinglaw03_answers.f).bind fun t157 => (some t157)) else ((some (([] : List Int) : List Int)).bind fun y158 => (if y158.length + l2.length < 140737488355328 then ((some (y158 ++ l2 : List Int)).bind fun y161 => (if y161.length + 32 < 140737488355328 then ((some (y161 ++ List.replicate 32 0 : List Int)).bind fun y164 => (if 0 ≤ (wrap64 (8 * (wrap64 ((wrap64 (Int.tmod a0 4)) + 1)))) then (if (wrap64 (8 * (wrap64 ((wrap64 (Int.tmod a0 4)) + 1)))) ≤ (y164.length : Int) then ((some (y164.take ((wrap64 (8 * (wrap64 ((wrap64 (Int.tmod a0 4)) + 1)))) : Int).toNat : List Int)).bind fun y167 => ((rs_Encode.f (wrap64 ((wrap64 (Int.tmod a0 4)) + 1)) (wrap64 (Int.tmod a1 4)) y167).bind fun bt172 => (if bt172.2 = 0 then (flittinglaw03_RsAny.j0 k a3 a4 (wrap64 ((wrap64 (Int.tmod a0 4)) + 1)) (wrap64 (Int.tmod a1 4)) y167 bt172.1 ((bt172.1.length : Int) != (wrap64 ((wrap64 ((wrap64 (Int.tmod a0 4)) + 1)) + (wrap64 (Int.tmod a1 4)))))) else (flittinglaw03_RsAny.j0 k a3 a4 (wrap64 ((wrap64 (Int.tmod a0 4)) + 1)) (wrap64 (Int.tmod a1 4)) y167 bt172.1 true)))) else (none)) else (none))) else (none))) else (none)))
theorem flittinglaw03_RsAny.mono_l : ∀ k, (∀ y0 y1 y2 y3 y4 y5 y6, LeO (flittinglaw03_RsAny.j0 k y0 y1 y2 y3 y4 y5 y6) (flittinglaw03_RsAny.j0 (k + 1) y0 y1 y2 y3 y4 y5 y6)) ∧ (∀ y0 y1 y2 y3 y4 y5 y6 y7 y8, LeO (flittinglaw03_RsAny.l0 k y0 y1 y2 y3 y4 y5 y6 y7 y8) (flittinglaw03_RsAny.l0 (k + 1) y0 y1 y2 y3 y4 y5 y6 y7 y8)) ∧ (∀ y0 y1 y2 y3 y4 y5 y6 y7 y8 y9, LeO (flittinglaw03_RsAny.j2 k y0 y1 y2 y3 y4 y5 y6 y7 y8 y9) (flittinglaw03_RsAny.j2 (k + 1) y0 y1 y2 y3 y4 y5 y6 y7 y8 y9))
  | 0 => ⟨fun _ _ _ _ _ _ _ r h => by simp [flittinglaw03_RsAny.j0] at h, fun _ _ _ _ _ _ _ _ _ r h => by simp [flittinglaw03_RsAny.l0] at h, fun _ _ _ _ _ _ _ _ _ _ r h => by simp [flittinglaw03_RsAny.j2] at h⟩
  | k + 1 => by
    obtain ⟨ih0, ih1, ih2⟩ := flittinglaw03_RsAny.mono_l k
    refine ⟨?_, ?_, ?_⟩
    · intro y0 y1 y2 y3 y4 y5 y6
      unfold flittinglaw03_RsAny.j0
      repeat' first
      | (with_reducible exact ih0 _ _ _ _ _ _ _)
      | (with_reducible exact ih1 _ _ _ _ _ _ _ _ _)
      | (with_reducible exact ih2 _ _ _ _ _ _ _ _ _ _)
      | (with_reducible exact flittingref01_Same.mono _ _ _)
      | (with_reducible exact rs_Rebuild.mono _ _ _ _ _)
      | (with_reducible exact LeO.refl _)
      | (with_reducible exact LeO.none _)
      | (with_reducible refine LeO.ite ?_ ?_)
      | (with_reducible refine LeO.bind ?_ (fun _ => ?_))
      | exact ih0 _ _ _ _ _ _ _
      | exact ih1 _ _ _ _ _ _ _ _ _
      | exact ih2 _ _ _ _ _ _ _ _ _ _
      | exact flittingref01_Same.mono _ _ _
      | exact rs_Rebuild.mono _ _ _ _ _
      | exact LeO.none _
      | refine LeO.ite ?_ ?_
      | refine LeO.bind ?_ (fun _ => ?_)
    · intro y0 y1 y2 y3 y4 y5 y6 y7 y8
      unfold flittinglaw03_RsAny.l0
      repeat' first
      | (with_reducible exact ih0 _ _ _ _ _ _ _)
      | (with_reducible exact ih1 _ _ _ _ _ _ _ _ _)
      | (with_reducible exact ih2 _ _ _ _ _ _ _ _ _ _)
      | (with_reducible exact flittingref01_Same.mono _ _ _)
      | (with_reducible exact rs_Rebuild.mono _ _ _ _ _)
      | (with_reducible exact LeO.refl _)
      | (with_reducible exact LeO.none _)
      | (with_reducible refine LeO.ite ?_ ?_)
      | (with_reducible refine LeO.bind ?_ (fun _ => ?_))
      | exact ih0 _ _ _ _ _ _ _
      | exact ih1 _ _ _ _ _ _ _ _ _
      | exact ih2 _ _ _ _ _ _ _ _ _ _
      | exact flittingref01_Same.mono _ _ _
      | exact rs_Rebuild.mono _ _ _ _ _
      | exact LeO.none _
      | refine LeO.ite ?_ ?_
      | refine LeO.bind ?_ (fun _ => ?_)
    · intro y0 y1 y2 y3 y4 y5 y6 y7 y8 y9
      unfold flittinglaw03_RsAny.j2
      repeat' first
      | (with_reducible exact ih0 _ _ _ _ _ _ _)
      | (with_reducible exact ih1 _ _ _ _ _ _ _ _ _)
      | (with_reducible exact ih2 _ _ _ _ _ _ _ _ _ _)
      | (with_reducible exact flittingref01_Same.mono _ _ _)
      | (with_reducible exact rs_Rebuild.mono _ _ _ _ _)
      | (with_reducible exact LeO.refl _)
      | (with_reducible exact LeO.none _)
      | (with_reducible refine LeO.ite ?_ ?_)
      | (with_reducible refine LeO.bind ?_ (fun _ => ?_))
      | exact ih0 _ _ _ _ _ _ _
      | exact ih1 _ _ _ _ _ _ _ _ _
      | exact ih2 _ _ _ _ _ _ _ _ _ _
      | exact flittingref01_Same.mono _ _ _
      | exact rs_Rebuild.mono _ _ _ _ _
      | exact LeO.none _
      | refine LeO.ite ?_ ?_
      | refine LeO.bind ?_ (fun _ => ?_)
theorem flittinglaw03_RsAny.mono : ∀ a0 a1 a2 a3 a4 k, LeO (flittinglaw03_RsAny.f k a0 a1 a2 a3 a4) (flittinglaw03_RsAny.f (k + 1) a0 a1 a2 a3 a4) := by
  intro a0 a1 a2 a3 a4 k
  obtain ⟨ih0, ih1, ih2⟩ := flittinglaw03_RsAny.mono_l k
  unfold flittinglaw03_RsAny.f
  repeat' first
      | (with_reducible exact ih0 _ _ _ _ _ _ _)
      | (with_reducible exact ih1 _ _ _ _ _ _ _ _ _)
      | (with_reducible exact ih2 _ _ _ _ _ _ _ _ _ _)
      | (with_reducible exact flittingref01_Same.mono _ _ _)
      | (with_reducible exact rs_Rebuild.mono _ _ _ _ _)
      | (with_reducible exact LeO.refl _)
      | (with_reducible exact LeO.none _)
      | (with_reducible refine LeO.ite ?_ ?_)
      | (with_reducible refine LeO.bind ?_ (fun _ => ?_))
      | exact ih0 _ _ _ _ _ _ _
      | exact ih1 _ _ _ _ _ _ _ _ _
      | exact ih2 _ _ _ _ _ _ _ _ _ _
      | exact flittingref01_Same.mono _ _ _
      | exact rs_Rebuild.mono _ _ _ _ _
      | exact LeO.none _
      | refine LeO.ite ?_ ?_
      | refine LeO.bind ?_ (fun _ => ?_)
set_option maxHeartbeats 8000000 in
set_option maxRecDepth 100000 in
theorem flittinglaw03_RsAny.calls (k : Nat) (a0 : Int) (a1 : Int) (A2 : Option Addr) (c2 : Nat) (l2 : List Int) (a3 : Int) (a4 : Int) (r : Bool) (w : World) (hr2 : Kd.C (Kd.int .u8) w A2 l2.length l2) (hc2 : l2.length ≤ c2) (h : flittinglaw03_RsAny.f k a0 a1 l2 a3 a4 = some r) :
    Calls Try.prog 7 #[.int .u8 a0, .int .u8 a1, .slice A2 l2.length c2, .int .u8 a3, .int .u8 a4] w fun e w' => e = .returned (.bool r) ∧ Below w.heap.size w w' := by
  have HR2 := Aside0.mk hr2
  have HC2 := Aside0.mk hc2
  clear hr2 hc2
  have HB := Aside0.mk (Below.refl w.heap.size w)
  have H : (if (l2.length : Int) > 100 then ((flittinglaw03_answers.f).bind fun t157 => (some t157)) else ((some (([] : List Int) : List Int)).bind fun y158 => (if y158.length + l2.length < 140737488355328 then ((some (y158 ++ l2 : List Int)).bind fun y161 => (if y161.length + 32 < 140737488355328 then ((some (y161 ++ List.replicate 32 0 : List Int)).bind fun y164 => (if 0 ≤ (wrap64 (8 * (wrap64 ((wrap64 (Int.tmod a0 4)) + 1)))) then (if (wrap64 (8 * (wrap64 ((wrap64 (Int.tmod a0 4)) + 1)))) ≤ (y164.length : Int) then ((some (y164.take ((wrap64 (8 * (wrap64 ((wrap64 (Int.tmod a0 4)) + 1)))) : Int).toNat : List Int)).bind fun y167 => ((rs_Encode.f (wrap64 ((wrap64 (Int.tmod a0 4)) + 1)) (wrap64 (Int.tmod a1 4)) y167).bind fun bt172 => (if bt172.2 = 0 then (flittinglaw03_RsAny.j0 k a3 a4 (wrap64 ((wrap64 (Int.tmod a0 4)) + 1)) (wrap64 (Int.tmod a1 4)) y167 bt172.1 ((bt172.1.length : Int) != (wrap64 ((wrap64 ((wrap64 (Int.tmod a0 4)) + 1)) + (wrap64 (Int.tmod a1 4)))))) else (flittinglaw03_RsAny.j0 k a3 a4 (wrap64 ((wrap64 (Int.tmod a0 4)) + 1)) (wrap64 (Int.tmod a1 4)) y167 bt172.1 true)))) else (none)) else (none))) else (none))) else (none)))) = some r := h
  clear h
  by_cases c6 : (l2.length : Int) > 100
  · rw [if_pos c6] at H
    have c6b0 : decide (100 < (l2.length : Int)) = true := decide_eq_true c6
    have c6b1 : decide (100 < l2.length) = true := decide_eq_true (by omega)
    clear c6
    replace H := Option.bind_eq_some_iff.mp H
    obtain ⟨t157, A70, H⟩ := H
    replace H : (some t157) = some r := H
    have A7 := Aside0.mk A70
    clear A70
    obtain rfl := Option.some.inj H
    go_enter Try.func7, Try.ntmps7
    go_wp2_with (first | ((with_reducible refine gate_callee (f := 9) rfl ?_); refine goesL_ (some 34) rfl rfl Try.func9 (by kernel_rfl) rfl #[] rfl (by (try simp only [List.map_toArray, List.map_cons, List.map_nil]); first | done | rfl | (simp only [List.length_drop, List.length_take]; rfl)) ?_; (with_reducible refine (flittinglaw03_answers.calls  t157 _ A7.out).mono ?_); rintro e w8 ⟨rfl, hb⟩; refine ⟨_, rfl, ?_⟩; have n0_ := Aside0.mk (below_step (by repeat (first | (with_reducible first | exact HB.out | apply below_alloc | apply pw_below_drewN | apply below_drew1) | exact HB.out)) hb); clear HB; have HB := n0_; clear n0_; (try clear hb); (try clear hb2); (try clear hk); (try clear hi)))
    go_ret
    exact ⟨by first | rfl | (simp [errW_none, errW_some] <;> rfl) | (simp [*, errW_none, errW_some] <;> rfl), by repeat (first | (with_reducible first | exact HB.out | apply below_alloc | apply pw_below_drewN | apply below_drew1) | exact HB.out)⟩
  · rw [if_neg c6] at H
    have c6b0 : decide (100 < (l2.length : Int)) = false := decide_eq_false c6
    have c6b1 : decide (100 < l2.length) = false := decide_eq_false (by omega)
    clear c6
    obtain ⟨y158, hy158⟩ : ∃ y_ : List Int, y_ = (([] : List Int)) := ⟨_, rfl⟩
    replace H : (if y158.length + l2.length < 140737488355328 then ((some (y158 ++ l2 : List Int)).bind fun y161 => (if y161.length + 32 < 140737488355328 then ((some (y161 ++ List.replicate 32 0 : List Int)).bind fun y164 => (if 0 ≤ (wrap64 (8 * (wrap64 ((wrap64 (Int.tmod a0 4)) + 1)))) then (if (wrap64 (8 * (wrap64 ((wrap64 (Int.tmod a0 4)) + 1)))) ≤ (y164.length : Int) then ((some (y164.take ((wrap64 (8 * (wrap64 ((wrap64 (Int.tmod a0 4)) + 1)))) : Int).toNat : List Int)).bind fun y167 => ((rs_Encode.f (wrap64 ((wrap64 (Int.tmod a0 4)) + 1)) (wrap64 (Int.tmod a1 4)) y167).bind fun bt172 => (if bt172.2 = 0 then (flittinglaw03_RsAny.j0 k a3 a4 (wrap64 ((wrap64 (Int.tmod a0 4)) + 1)) (wrap64 (Int.tmod a1 4)) y167 bt172.1 ((bt172.1.length : Int) != (wrap64 ((wrap64 ((wrap64 (Int.tmod a0 4)) + 1)) + (wrap64 (Int.tmod a1 4)))))) else (flittinglaw03_RsAny.j0 k a3 a4 (wrap64 ((wrap64 (Int.tmod a0 4)) + 1)) (wrap64 (Int.tmod a1 4)) y167 bt172.1 true)))) else (none)) else (none))) else (none))) else (none)) = some r := by first | (rw [hy158]; with_reducible exact H) | (have H2_ := (Option.bind_some _ _).symm.trans H; rw [hy158]; with_reducible exact H2_) | (have H2_ := (Option.bind_some _ _).symm.trans H; with_reducible exact H2_) | with_reducible exact H | (rw [hy158]; exact H) | exact H
    have Ny158 := Aside0.mk hy158
    clear hy158
    by_cases c9 : y158.length + l2.length < 140737488355328
    · rw [if_pos c9] at H
      have LMc9 := Aside0.mk c9
      clear c9
      obtain ⟨y161, hy161⟩ : ∃ y_ : List Int, y_ = (y158 ++ l2) := ⟨_, rfl⟩
      replace H : (if y161.length + 32 < 140737488355328 then ((some (y161 ++ List.replicate 32 0 : List Int)).bind fun y164 => (if 0 ≤ (wrap64 (8 * (wrap64 ((wrap64 (Int.tmod a0 4)) + 1)))) then (if (wrap64 (8 * (wrap64 ((wrap64 (Int.tmod a0 4)) + 1)))) ≤ (y164.length : Int) then ((some (y164.take ((wrap64 (8 * (wrap64 ((wrap64 (Int.tmod a0 4)) + 1)))) : Int).toNat : List Int)).bind fun y167 => ((rs_Encode.f (wrap64 ((wrap64 (Int.tmod a0 4)) + 1)) (wrap64 (Int.tmod a1 4)) y167).bind fun bt172 => (if bt172.2 = 0 then (flittinglaw03_RsAny.j0 k a3 a4 (wrap64 ((wrap64 (Int.tmod a0 4)) + 1)) (wrap64 (Int.tmod a1 4)) y167 bt172.1 ((bt172.1.length : Int) != (wrap64 ((wrap64 ((wrap64 (Int.tmod a0 4)) + 1)) + (wrap64 (Int.tmod a1 4)))))) else (flittinglaw03_RsAny.j0 k a3 a4 (wrap64 ((wrap64 (Int.tmod a0 4)) + 1)) (wrap64 (Int.tmod a1 4)) y167 bt172.1 true)))) else (none)) else (none))) else (none)) = some r := by first | (rw [hy161]; with_reducible exact H) | (have H2_ := (Option.bind_some _ _).symm.trans H; rw [hy161]; with_reducible exact H2_) | (have H2_ := (Option.bind_some _ _).symm.trans H; with_reducible exact H2_) | with_reducible exact H | (rw [hy161]; exact H) | exact H
      have Ny161 := Aside0.mk hy161
      clear hy161
      by_cases c10 : y161.length + 32 < 140737488355328
      · rw [if_pos c10] at H
        have LMc10 := Aside0.mk c10
        clear c10
        obtain ⟨y164, hy164⟩ : ∃ y_ : List Int, y_ = (y161 ++ List.replicate 32 0) := ⟨_, rfl⟩
        replace H : (if 0 ≤ (wrap64 (8 * (wrap64 ((wrap64 (Int.tmod a0 4)) + 1)))) then (if (wrap64 (8 * (wrap64 ((wrap64 (Int.tmod a0 4)) + 1)))) ≤ (y164.length : Int) then ((some (y164.take ((wrap64 (8 * (wrap64 ((wrap64 (Int.tmod a0 4)) + 1)))) : Int).toNat : List Int)).bind fun y167 => ((rs_Encode.f (wrap64 ((wrap64 (Int.tmod a0 4)) + 1)) (wrap64 (Int.tmod a1 4)) y167).bind fun bt172 => (if bt172.2 = 0 then (flittinglaw03_RsAny.j0 k a3 a4 (wrap64 ((wrap64 (Int.tmod a0 4)) + 1)) (wrap64 (Int.tmod a1 4)) y167 bt172.1 ((bt172.1.length : Int) != (wrap64 ((wrap64 ((wrap64 (Int.tmod a0 4)) + 1)) + (wrap64 (Int.tmod a1 4)))))) else (flittinglaw03_RsAny.j0 k a3 a4 (wrap64 ((wrap64 (Int.tmod a0 4)) + 1)) (wrap64 (Int.tmod a1 4)) y167 bt172.1 true)))) else (none)) else (none)) = some r := by first | (rw [hy164]; with_reducible exact H) | (have H2_ := (Option.bind_some _ _).symm.trans H; rw [hy164]; with_reducible exact H2_) | (have H2_ := (Option.bind_some _ _).symm.trans H; with_reducible exact H2_) | with_reducible exact H | (rw [hy164]; exact H) | exact H
        have Ny164 := Aside0.mk hy164
        clear hy164
        obtain ⟨ji11, hji11⟩ : ∃ j_ : Int, (wrap64 (8 * (wrap64 ((wrap64 (Int.tmod a0 4)) + 1)))) = j_ := ⟨_, rfl⟩
        replace H : (if 0 ≤ (ji11) then (if (ji11) ≤ (y164.length : Int) then ((some (y164.take ((ji11) : Int).toNat : List Int)).bind fun y167 => ((rs_Encode.f (wrap64 ((wrap64 (Int.tmod a0 4)) + 1)) (wrap64 (Int.tmod a1 4)) y167).bind fun bt172 => (if bt172.2 = 0 then (flittinglaw03_RsAny.j0 k a3 a4 (wrap64 ((wrap64 (Int.tmod a0 4)) + 1)) (wrap64 (Int.tmod a1 4)) y167 bt172.1 ((bt172.1.length : Int) != (wrap64 ((wrap64 ((wrap64 (Int.tmod a0 4)) + 1)) + (wrap64 (Int.tmod a1 4)))))) else (flittinglaw03_RsAny.j0 k a3 a4 (wrap64 ((wrap64 (Int.tmod a0 4)) + 1)) (wrap64 (Int.tmod a1 4)) y167 bt172.1 true)))) else (none)) else (none)) = some r := by first | (rw [hji11] at H; exact H) | (simp only [hji11] at H ⊢; exact H)
        have hji11w : (IntKind.i64.wrap (8 * (wrap64 ((wrap64 (Int.tmod a0 4)) + 1)))) = ji11 := (i64_w _).trans hji11
        by_cases c12 : 0 ≤ (ji11)
        · rw [if_pos c12] at H
          have c12b0 := eq_true c12
          have c12b1 : decide (0 ≤ (ji11)) = true := decide_eq_true c12
          clear c12
          by_cases c13 : (ji11) ≤ (y164.length : Int)
          · rw [if_pos c13] at H
            have c13b0 := eq_true c13
            have c13b1 : decide ((ji11) ≤ (y164.length : Int)) = true := decide_eq_true c13
            clear c13
            obtain ⟨y167, hy167⟩ : ∃ y_ : List Int, y_ = (y164.take ((ji11) : Int).toNat) := ⟨_, rfl⟩
            replace H : ((rs_Encode.f (wrap64 ((wrap64 (Int.tmod a0 4)) + 1)) (wrap64 (Int.tmod a1 4)) y167).bind fun bt172 => (if bt172.2 = 0 then (flittinglaw03_RsAny.j0 k a3 a4 (wrap64 ((wrap64 (Int.tmod a0 4)) + 1)) (wrap64 (Int.tmod a1 4)) y167 bt172.1 ((bt172.1.length : Int) != (wrap64 ((wrap64 ((wrap64 (Int.tmod a0 4)) + 1)) + (wrap64 (Int.tmod a1 4)))))) else (flittinglaw03_RsAny.j0 k a3 a4 (wrap64 ((wrap64 (Int.tmod a0 4)) + 1)) (wrap64 (Int.tmod a1 4)) y167 bt172.1 true))) = some r := by first | (rw [hy167]; with_reducible exact H) | (have H2_ := (Option.bind_some _ _).symm.trans H; rw [hy167]; with_reducible exact H2_) | (have H2_ := (Option.bind_some _ _).symm.trans H; with_reducible exact H2_) | with_reducible exact H | (rw [hy167]; exact H) | exact H
            have Ny167 := Aside0.mk hy167
            clear hy167
            replace H := Option.bind_eq_some_iff.mp H
            obtain ⟨⟨t172, t173⟩, A140, H⟩ := H
            replace H : (if t173 = 0 then (flittinglaw03_RsAny.j0 k a3 a4 (wrap64 ((wrap64 (Int.tmod a0 4)) + 1)) (wrap64 (Int.tmod a1 4)) y167 t172 ((t172.length : Int) != (wrap64 ((wrap64 ((wrap64 (Int.tmod a0 4)) + 1)) + (wrap64 (Int.tmod a1 4)))))) else (flittinglaw03_RsAny.j0 k a3 a4 (wrap64 ((wrap64 (Int.tmod a0 4)) + 1)) (wrap64 (Int.tmod a1 4)) y167 t172 true)) = some r := H
            have A14 := Aside0.mk A140
            clear A140
            have HC15 := Aside0.mk H
            clear H
            go_enter Try.func7, Try.ntmps7
            go_upto_region 6 with (first | ((with_reducible refine gate_dst (N := 35) rfl ?_); (try (refine gate_guard (by rfl) ?_; dsimp only)); refine Kd.R_lit (Kd.int .u8) _ 5 ?hg (N := 35) ?hd (xs := ([] : List Int)) (inner := []) (ok := fun _ => True) (okp := fun _ => True) ?hr ?hp (fun _ hk => hk) trivial (Below.refl _ _) (Nat.le_refl _) (by simp) ?_; (case hd => rfl); (case hg => rfl); (case hr => first | (go_simp; done) | (go_simp; rfl)); (case hp => exact (Reps.none _ _)); intro v159 w16 ho17 hb hg_ hnew_; clear hg_ hnew_; (first | rw [← Ny158.out] at ho17 | (simp only [Int.reduceToNat] at ho17; rw [← Ny158.out] at ho17)); have n0_ := Aside0.mk (Kd.R_lower ho17 (below_size (by repeat (first | (with_reducible first | exact HB.out | apply below_alloc | apply pw_below_drewN | apply below_drew1) | exact HB.out)))); have n1_ := Aside0.mk (below_step (by repeat (first | (with_reducible first | exact HB.out | apply below_alloc | apply pw_below_drewN | apply below_drew1) | exact HB.out)) hb); clear HB; have HO160 := n0_; have HB := n1_; clear n0_ n1_; clear hb ho17) | ((with_reducible refine gate_builtin (b := .append) (xs := #[.tmp 35, .tmp 36]) rfl ?_); (try (refine gate_guard (by rfl) ?_; dsimp only)); at_builtin; refine Kd.R_append_rows (Kd.int .u8) (w0 := w) w.heap.size rfl (.tmp 35) (.tmp 36) 22 5 (.int .u8 0) 1 rfl Try.underlying22 info5 rfl (by decide) (by omega) v159 y158 l2 _ _ _ (fun _ => True) (fun _ => False) rfl rfl ?aO ?aR (fun _ _ h => h) (fun _ h => h.elim) ?aF ?aB ?aS ?aL ?_; (case aR => repeat (first | exact (Kd.C_below HR2.out HB.out) | (with_reducible refine Kd.C_alloc ?_ _) | (with_reducible refine Kd.C_drewN ?_ _) | (with_reducible refine Kd.C_drew ?_))); (case aB => exact (by repeat (first | (with_reducible first | exact HB.out | apply below_alloc | apply pw_below_drewN | apply below_drew1) | exact HB.out))); (case aF => exact (fun _ _ => trivial)); (case aO => exact (by (with_reducible repeat (first | apply Kd.R_alloc | apply Kd.R_drewN | apply Kd.R_drew)); exact HO160.out)); (case aS => exact (below_size (by repeat (first | (with_reducible first | exact HB.out | apply below_alloc | apply pw_below_drewN | apply below_drew1) | exact HB.out)))); (case aL => have := LMc9.out; omega); intro v162 w18 ho hb hg hat; (first | rw [← Ny161.out] at ho | (simp only [Int.reduceToNat] at ho; rw [← Ny161.out] at ho)); have n0_ := Aside0.mk (hb); have n1_ := Aside0.mk (ho); clear HB; clear HO160; have HB := n0_; have HO163 := n1_; clear n0_ n1_; clear ho hb hg hat) | (at_builtin; refine Kd.R_append_zeros (Kd.int .u8) (w0 := w) w.heap.size rfl (.tmp 37) (.const (.int .i64 32)) 22 3 5 (.int .u8 0) 1 rfl Try.underlying22 Try.underlying3 info5 rfl (by decide) (by omega) v162 y161 0 (32 : Int) (fun _ => True) rfl rfl rfl ?aF ?aO (by omega) ?aB ?aS ?aL ?_; (case aB => exact (by repeat (first | (with_reducible first | exact HB.out | apply below_alloc | apply pw_below_drewN | apply below_drew1) | exact HB.out))); (case aF => exact (fun _ _ => trivial)); (case aO => exact (by (with_reducible repeat (first | apply Kd.R_alloc | apply Kd.R_drewN | apply Kd.R_drew)); exact HO163.out)); (case aS => exact (below_size (by repeat (first | (with_reducible first | exact HB.out | apply below_alloc | apply pw_below_drewN | apply below_drew1) | exact HB.out)))); (case aL => have := LMc10.out; omega); intro v165 w19 ho hb hg hat; (first | rw [← Ny164.out] at ho | (simp only [Int.reduceToNat] at ho; rw [← Ny164.out] at ho)); have n0_ := Aside0.mk (hb); have n1_ := Aside0.mk (ho); clear HB; clear HO163; have HB := n0_; have HO166 := n1_; clear n0_ n1_; clear ho hb hg hat; obtain ⟨Ao21, co21, eo21⟩ := Kd.R_slice HO166.out; subst eo21; have q20 : ((ji11) : Int) ≤ ((y164.length : Int) : Int) := of_decide_eq_true (by first | (with_reducible assumption) | assumption); obtain ⟨i020, hi020, _, hsz20, _⟩ := info_parts info5; have hroom20 : y164.length ≤ co21 := (Kd.R_reads' HO166.out).2.1; have hC20 : Kd.F (Kd.int .u8) _ _ Ao21 y164.length y164 := (Kd.V_at (base := w.heap.size) (Kd.R_V HO166.out)).2.2; have hcut20 := cut_to (P := Try.prog) 22 5 .i64 Try.underlying22 hi020 Ao21 y164.length co21 (ji11) (of_decide_eq_true (by first | (with_reducible assumption) | assumption)) q20 hroom20; have hr20 := Kd.F_take (m := ((ji11) : Int).toNat) hC20 (by omega); have hy20 : y167.length = ((ji11) : Int).toNat := (by rw [Ny167.out, List.length_take]; omega); rw [← Ny167.out] at hr20; rw [← hy20] at hcut20; have HO171 := Aside0.mk (show Kd.V (Kd.int .u8) 5 _ w.heap.size _ (.slice Ao21 y167.length co21) y167 from Kd.V_mk (by omega) hr20); have HC171 := Aside0.mk (show y167.length ≤ co21 from by omega); clear hr20 hC20 hroom20 hi020 hsz20; have KY20 := Aside0.mk hy20; clear hy20; replace q20 := eq_true q20) | ((with_reducible refine gate_callee (f := 10) rfl ?_); refine goesL_ (some 46) rfl rfl Try.func10 (by kernel_rfl) rfl #[.int .i64 (wrap64 ((wrap64 (Int.tmod a0 4)) + 1)), .int .i64 (wrap64 (Int.tmod a1 4)), .slice Ao21 y167.length co21] rfl (by (try simp only [List.map_toArray, List.map_cons, List.map_nil]); first | done | rfl | (simp only [List.length_drop, List.length_take]; rfl)) ?_; (with_reducible refine (rs_Encode.calls (wrap64 ((wrap64 (Int.tmod a0 4)) + 1)) (wrap64 (Int.tmod a1 4)) _ _ y167 t172 t173 _ ?side1 ?side2 A14.out).mono ?_); (case side1 => repeat (first | exact (Kd.V_reads' HO171.out).2.2 | (with_reducible refine Kd.C_alloc ?_ _) | (with_reducible refine Kd.C_drewN ?_ _) | (with_reducible refine Kd.C_drew ?_))); (case side2 => exact (Kd.V_reads' HO171.out).2.1); rintro e w22 ⟨v174, rfl, ho0, hb⟩; refine ⟨_, rfl, ?_⟩; have n0_ := Aside0.mk (Kd.R_below (by (with_reducible repeat (first | apply Kd.R_alloc | apply Kd.R_drewN | apply Kd.R_drew)); exact HO166.out) hb); have n1_ := Aside0.mk (Kd.V_elder' (by (with_reducible repeat (first | apply Kd.V_alloc | apply Kd.V_drewN | apply Kd.V_drew)); exact HO171.out) (Kd.S_base ho0) hb); have n2_ := Aside0.mk (Kd.N_lower (Kd.N_mono (ok' := fun k_ => some k_ ≠ (.slice Ao21 y164.length co21 : Value).ownBlock) (Kd.S_N (Kd.S_bound ho0)) (fun k_ hk_ => (Kd.fresh' (Kd.R_lt (by (with_reducible repeat (first | apply Kd.R_alloc | apply Kd.R_drewN | apply Kd.R_drew)); exact HO166.out)) k_ hk_.2.1))) (below_size (by repeat (first | (with_reducible first | exact HB.out | apply below_alloc | apply pw_below_drewN | apply below_drew1) | exact HB.out)))); have n3_ := Aside0.mk (below_step (by repeat (first | (with_reducible first | exact HB.out | apply below_alloc | apply pw_below_drewN | apply below_drew1) | exact HB.out)) hb); clear HO166; clear HO171; clear HB; have HO166 := n0_; have HO171 := n1_; have HO175 := n2_; have HB := n3_; clear n0_ n1_ n2_ n3_; (try clear hb); (try clear hb2); (try clear hk); (try clear hi); (try clear ho0)))
            (try simp only [Act.put, List.setIfInBounds_toArray, List.set_cons_zero, List.set_cons_succ])
            go_cut [58] (fun v58 wc => ∃ (kq : Nat) (x58_14 : Bool), v58 = .bool x58_14 ∧ Aside0 (flittinglaw03_RsAny.j0 kq a3 a4 (wrap64 ((wrap64 (Int.tmod a0 4)) + 1)) (wrap64 (Int.tmod a1 4)) y167 t172 x58_14 = some r) ∧ Aside0 (kq ≤ k) ∧ Aside0 (Kd.V (Kd.int .u8) 5 wc w.heap.size (fun k_ => some k_ ≠ (v174 : Value).ownBlock) (.slice Ao21 y167.length co21) y167) ∧ Aside0 (Kd.N (Kd.slice 5 (Kd.int .u8)) 22 wc w.heap.size (fun _ => True) v174 t172) ∧ Aside0 (Below w.heap.size w wc))
            case first =>
              have H := HC15.out
              clear HC15
              by_cases c23 : t173 = 0
              · rw [if_pos c23] at H
                have c23b0 : (t173 == 0) = true := beq_iff_eq.mpr c23
                have c23b1 : (t173 != 0) = false := bne_eq_false_iff_eq.mpr c23
                clear c23
                (first | rw [c23b0] | (simp only [i64_w, i32_w]; rw [c23b0]) | skip)
                have H' := Aside0.mk H
                clear H
                obtain ⟨Ao24, co24, eo24⟩ := Kd.N_slice HO175.out
                subst eo24
                go_wp2
                go_meet
                case rel => exact ⟨_, (((t172.length : Int) != (wrap64 ((wrap64 ((wrap64 (Int.tmod a0 4)) + 1)) + (wrap64 (Int.tmod a1 4)))))), (by first | rfl | (simp; done) | (simp [*]; done)), H', ⟨by first | omega | exact Nat.le_refl _⟩, ⟨by (with_reducible repeat (first | apply Kd.V_alloc | apply Kd.V_drewN | apply Kd.V_drew)); exact Kd.V_mono HO171.out (fun _ hk => hk.2)⟩, ⟨by (with_reducible repeat (first | apply Kd.N_alloc | apply Kd.N_drewN | apply Kd.N_drew)); exact Kd.N_mono HO175.out (fun _ hk => trivial)⟩, ⟨by repeat (first | (with_reducible first | exact HB.out | apply below_alloc | apply pw_below_drewN | apply below_drew1) | exact HB.out)⟩⟩
              · rw [if_neg c23] at H
                have c23b0 : (t173 == 0) = false := beq_eq_false_iff_ne.mpr c23
                have c23b1 : (t173 != 0) = true := bne_iff_ne.mpr c23
                (first | rw [c23b0] | (simp only [i64_w, i32_w]; rw [c23b0]) | skip)
                have H' := Aside0.mk H
                clear H
                go_wp2
                go_meet
                case rel => exact ⟨_, (true), (by first | rfl | (simp; done) | (simp [*]; done)), H', ⟨by first | omega | exact Nat.le_refl _⟩, ⟨by (with_reducible repeat (first | apply Kd.V_alloc | apply Kd.V_drewN | apply Kd.V_drew)); exact Kd.V_mono HO171.out (fun _ hk => hk.2)⟩, ⟨by (with_reducible repeat (first | apply Kd.N_alloc | apply Kd.N_drewN | apply Kd.N_drew)); exact Kd.N_mono HO175.out (fun _ hk => trivial)⟩, ⟨by repeat (first | (with_reducible first | exact HB.out | apply below_alloc | apply pw_below_drewN | apply below_drew1) | exact HB.out)⟩⟩
            case rest =>
              clear HC15
              try clear c1
              try clear c2
              try clear p2
              try clear q2
              try clear c6
              try clear c6b0
              try clear c6b1
              try clear p6
              try clear c7
              try clear c9
              try clear c10
              try clear c12
              try clear c12b0
              try clear c12b1
              try clear c13
              try clear c13b0
              try clear c13b1
              try clear q20
              try clear c23
              try clear c23b0
              try clear c23b1
              try clear q20
              obtain ⟨kq, x58_14, rfl, HA, HJ14, HO_13, HO_14, HB⟩ := hcut
              cases kq with
              | zero => exact absurd HA.out (by simp [flittinglaw03_RsAny.j0])
              | succ kj14 =>
                have H := HA.out
                clear HA
                simp only [flittinglaw03_RsAny.j0] at H
                by_cases c25 : x58_14 = true
                · subst c25
                  have H1 : (some false) = some r := by rw [if_pos rfl] at H; exact H
                  clear H
                  have H := H1
                  clear H1
                  obtain rfl := Option.some.inj H
                  go_wp2
                  go_ret
                  exact ⟨by first | rfl | (simp [errW_none, errW_some] <;> rfl) | (simp only [← hji11]; first | rfl | (simp [errW_none, errW_some] <;> rfl)) | (simp [*, errW_none, errW_some] <;> rfl), by repeat (first | (with_reducible first | exact HB.out | apply below_alloc | apply pw_below_drewN | apply below_drew1) | exact HB.out)⟩
                · replace c25 := Bool.eq_false_iff.mpr c25
                  subst c25
                  have H1 : ((some (([] : List (List Int)) : List (List Int))).bind fun y176 => (if y176.length + t172.length < 5864062014805 then (flittinglaw03_RsAny.l0 kj14 a3 a4 (wrap64 ((wrap64 (Int.tmod a0 4)) + 1)) (wrap64 (Int.tmod a1 4)) y167 t172 (y176 ++ t172) 0 0) else (none))) = some r := by rw [if_neg (show ¬ (false = true) by decide)] at H; exact H
                  clear H
                  have H := H1
                  clear H1
                  obtain ⟨y176, hy176⟩ : ∃ y_ : List (List Int), y_ = (([] : List (List Int))) := ⟨_, rfl⟩
                  replace H : (if y176.length + t172.length < 5864062014805 then (flittinglaw03_RsAny.l0 kj14 a3 a4 (wrap64 ((wrap64 (Int.tmod a0 4)) + 1)) (wrap64 (Int.tmod a1 4)) y167 t172 (y176 ++ t172) 0 0) else (none)) = some r := by first | (rw [hy176]; with_reducible exact H) | (have H2_ := (Option.bind_some _ _).symm.trans H; rw [hy176]; with_reducible exact H2_) | (have H2_ := (Option.bind_some _ _).symm.trans H; with_reducible exact H2_) | with_reducible exact H | (rw [hy176]; exact H) | exact H
                  have Ny176 := Aside0.mk hy176
                  clear hy176
                  by_cases c26 : y176.length + t172.length < 5864062014805
                  · rw [if_pos c26] at H
                    have LMc26 := Aside0.mk c26
                    clear c26
                    obtain ⟨y179, hy179⟩ : ∃ y_ : List (List Int), y_ = (y176 ++ t172) := ⟨_, rfl⟩
                    replace H : (flittinglaw03_RsAny.l0 kj14 a3 a4 (wrap64 ((wrap64 (Int.tmod a0 4)) + 1)) (wrap64 (Int.tmod a1 4)) y167 t172 y179 0 0) = some r := by first | (rw [hy179]; with_reducible exact H) | (have H2_ := (Option.bind_some _ _).symm.trans H; rw [hy179]; with_reducible exact H2_) | (have H2_ := (Option.bind_some _ _).symm.trans H; with_reducible exact H2_) | with_reducible exact H | (rw [hy179]; exact H) | exact H
                    have Ny179 := Aside0.mk hy179
                    clear hy179
                    have H' := Aside0.mk H
                    clear H
                    go_wp2_with (first | ((with_reducible refine gate_dst (N := 59) rfl ?_); (try (refine gate_guard (by rfl) ?_; dsimp only)); refine Kd.N_lit (Kd.slice 5 (Kd.int .u8)) _ 22 ?hg (N' := 59) ?hd (xs := ([] : List (List Int))) (inner := []) (ok := (fun k_ => some k_ ≠ (v174 : Value).ownBlock)) (okp := (fun k_ => some k_ ≠ (v174 : Value).ownBlock)) ?hr ?hp (fun _ hk => hk) ((show ∀ k_, wc.heap.size ≤ k_ → (fun k_ => some k_ ≠ (v174 : Value).ownBlock) k_ from fun k_ hk => Kd.fresh' (Kd.N_lt (by (with_reducible repeat (first | apply Kd.N_alloc | apply Kd.N_drewN | apply Kd.N_drew)); exact HO_14.out)) k_ hk) _ (Nat.le_refl _)) (Below.refl _ _) (Nat.le_refl _) (by simp) ?_; (case hd => rfl); (case hg => rfl); (case hr => first | (go_simp; done) | (go_simp; rfl)); (case hp => exact (Reps.none _ _)); intro v177 w27 ho28 hb hg_ hnew_; clear hg_ hnew_; (first | rw [← Ny176.out] at ho28 | (simp only [Int.reduceToNat] at ho28; rw [← Ny176.out] at ho28)); have n0_ := Aside0.mk (Kd.V_elder' (by (with_reducible repeat (first | apply Kd.V_alloc | apply Kd.V_drewN | apply Kd.V_drew)); exact HO_13.out) (Kd.N_base ho28) hb); have n1_ := Aside0.mk (Kd.N_elder' (by (with_reducible repeat (first | apply Kd.N_alloc | apply Kd.N_drewN | apply Kd.N_drew)); exact HO_14.out) (Kd.N_base ho28) hb); have n2_ := Aside0.mk (Kd.N_lower ho28 (below_size (by repeat (first | (with_reducible first | exact HB.out | apply below_alloc | apply pw_below_drewN | apply below_drew1) | exact HB.out)))); have n3_ := Aside0.mk (below_step (by repeat (first | (with_reducible first | exact HB.out | apply below_alloc | apply pw_below_drewN | apply below_drew1) | exact HB.out)) hb); clear HO_13; clear HO_14; clear HB; have HO_13 := n0_; have HO_14 := n1_; have HO178 := n2_; have HB := n3_; clear n0_ n1_ n2_ n3_; clear hb ho28; obtain ⟨Ao30, co30, eo30⟩ := Kd.N_slice HO_14.out; subst eo30) | ((with_reducible refine gate_builtin (b := .append) (xs := #[.tmp 59, .tmp 60]) rfl ?_); (try (refine gate_guard (by rfl) ?_; dsimp only)); at_builtin; refine Kd.N_append_rows (Kd.slice 5 (Kd.int .u8)) (w0 := w) w.heap.size rfl (.tmp 59) (.tmp 60) 24 22 (.slice none 0 0) 24 rfl Try.underlying24 info22 rfl (by decide) (by omega) v177 y176 t172 _ _ _ (fun _ => True) (fun k_ => ((fun _ => True)) k_ ∧ some k_ ≠ (v177 : Value).ownBlock) rfl rfl ?aO ?aR (fun _ hk => hk) ?aF ?aB ?aS ?aL ?_; (case aR => exact (by skip; exact Kd.N_F (Kd.N_mono (ok' := (fun k_ => ((fun _ => True)) k_ ∧ some k_ ≠ (v177 : Value).ownBlock)) (HO_14.out) (fun k_ hk => ⟨trivial, hk.2⟩)))); (case aB => exact (by repeat (first | (with_reducible first | exact HB.out | apply below_alloc | apply pw_below_drewN | apply below_drew1) | exact HB.out))); (case aF => exact (fun _ _ => trivial)); (case aO => exact (by (with_reducible repeat (first | apply Kd.N_alloc | apply Kd.N_drewN | apply Kd.N_drew)); exact Kd.N_mono HO178.out (fun _ hk => trivial))); (case aS => exact (below_size (by repeat (first | (with_reducible first | exact HB.out | apply below_alloc | apply pw_below_drewN | apply below_drew1) | exact HB.out)))); (case aL => have := LMc26.out; omega); intro v180 w29 ho hb hg hat; (first | rw [← Ny179.out] at ho | (simp only [Int.reduceToNat] at ho; rw [← Ny179.out] at ho)); have n0_ := Aside0.mk (Kd.V_afterv (ok := (fun k_ => some k_ ≠ (.slice Ao30 t172.length co30 : Value).ownBlock)) (by (with_reducible repeat (first | apply Kd.V_alloc | apply Kd.V_drewN | apply Kd.V_drew)); exact HO_13.out) hg hat); have n1_ := Aside0.mk (Kd.N_afterv (ok := (fun _ => True)) (by (with_reducible repeat (first | apply Kd.N_alloc | apply Kd.N_drewN | apply Kd.N_drew)); exact HO_14.out) hg hat); have n2_ := Aside0.mk (hb); have n3_ := Aside0.mk (ho); clear HO_13; clear HO_14; clear HB; clear HO178; have HO_13 := n0_; have HO_14 := n1_; have HB := n2_; have HO181 := n3_; clear n0_ n1_ n2_ n3_; clear ho hb hg hat))
                    go_loopg [17, 18] kj14 (fun kq v17 v18 w' => ∃ (x16_2 : List (List Int)) (x17_2 : Int) (x18_2 : Int), v17 = .int .i64 x17_2 ∧ v18 = .int .i64 x18_2 ∧ Aside0 (flittinglaw03_RsAny.l0 kq a3 a4 (wrap64 ((wrap64 (Int.tmod a0 4)) + 1)) (wrap64 (Int.tmod a1 4)) y167 t172 x16_2 x17_2 x18_2 = some r) ∧ Aside0 (kq ≤ kj14) ∧ Aside0 (Kd.V (Kd.int .u8) 5 w' w.heap.size (fun k_ => some k_ ≠ ((.slice Ao30 t172.length co30) : Value).ownBlock ∧ some k_ ≠ (v180 : Value).ownBlock) (.slice Ao21 y167.length co21) y167) ∧ Aside0 (Kd.N (Kd.slice 5 (Kd.int .u8)) 22 w' w.heap.size (fun k_ => some k_ ≠ (v180 : Value).ownBlock) (.slice Ao30 t172.length co30) t172) ∧ Aside0 (Kd.N (Kd.slice 5 (Kd.int .u8)) 22 w' w.heap.size (fun _ => True) v180 x16_2) ∧ Aside0 (Below w.heap.size w w'))
                    case atStart => exact ⟨(y179), (0), (0), (by first | rfl | (simp; done) | (simp [*]; done)), (by first | rfl | (simp; done) | (simp [*]; done)), H', ⟨Nat.le_refl _⟩, ⟨by (with_reducible repeat (first | apply Kd.V_alloc | apply Kd.V_drewN | apply Kd.V_drew)); exact HO_13.out⟩, ⟨by (with_reducible repeat (first | apply Kd.N_alloc | apply Kd.N_drewN | apply Kd.N_drew)); exact Kd.N_mono HO_14.out (fun _ hk => hk.2)⟩, ⟨by (with_reducible repeat (first | apply Kd.N_alloc | apply Kd.N_drewN | apply Kd.N_drew)); exact HO181.out⟩, ⟨by repeat (first | (with_reducible first | exact HB.out | apply below_alloc | apply pw_below_drewN | apply below_drew1) | exact HB.out)⟩⟩
                    case round =>
                      clear H'
                      try clear c1
                      try clear c2
                      try clear p2
                      try clear q2
                      try clear c6
                      try clear c6b0
                      try clear c6b1
                      try clear p6
                      try clear c7
                      try clear c9
                      try clear c10
                      try clear c12
                      try clear c12b0
                      try clear c12b1
                      try clear c13
                      try clear c13b0
                      try clear c13b1
                      try clear q20
                      try clear c23
                      try clear c23b0
                      try clear c23b1
                      try clear c25
                      try clear c26
                      try clear p2
                      try clear p6
                      try clear q2
                      try clear q20
                      obtain ⟨x16_2, x17_2, x18_2, rfl, rfl, HA, HK2, HO_13, HO_14, HO_16, HB⟩ := hrel
                      cases gk with
                      | zero => exact absurd HA.out (by simp [flittinglaw03_RsAny.l0])
                      | succ k2 =>
                        have H := HA.out
                        clear HA
                        simp only [flittinglaw03_RsAny.l0] at H
                        have HC31 := Aside0.mk H
                        clear H
                        go_upto_region 11 with (fail)
                        go_cut [70] (fun v70 wc => ∃ (kq : Nat) (x70_30 : Bool), v70 = .bool x70_30 ∧ Aside0 (flittinglaw03_RsAny.j2 kq a3 a4 (wrap64 ((wrap64 (Int.tmod a0 4)) + 1)) (wrap64 (Int.tmod a1 4)) y167 t172 x16_2 x17_2 x18_2 x70_30 = some r) ∧ Aside0 (kq ≤ k2) ∧ Aside0 (Kd.V (Kd.int .u8) 5 wc w.heap.size (fun k_ => some k_ ≠ ((.slice Ao30 t172.length co30) : Value).ownBlock ∧ some k_ ≠ (v180 : Value).ownBlock) (.slice Ao21 y167.length co21) y167) ∧ Aside0 (Kd.N (Kd.slice 5 (Kd.int .u8)) 22 wc w.heap.size (fun k_ => some k_ ≠ (v180 : Value).ownBlock) (.slice Ao30 t172.length co30) t172) ∧ Aside0 (Kd.N (Kd.slice 5 (Kd.int .u8)) 22 wc w.heap.size (fun _ => True) v180 x16_2) ∧ Aside0 (Below w.heap.size w wc))
                        case first =>
                          have H := HC31.out
                          clear HC31
                          by_cases c32 : x18_2 < (x16_2.length : Int)
                          · rw [if_pos c32] at H
                            have c32b0 : decide (x18_2 < (x16_2.length : Int)) = true := decide_eq_true c32
                            clear c32
                            (first | rw [c32b0] | (simp only [i64_w, i32_w]; rw [c32b0]) | skip)
                            have H' := Aside0.mk H
                            clear H
                            obtain ⟨Ao33, co33, eo33⟩ := Kd.N_slice HO_16.out
                            subst eo33
                            go_wp2
                            go_meet
                            case rel => exact ⟨_, (decide (x17_2 < (wrap64 (Int.tmod a1 4)))), (by first | rfl | (simp; done) | (simp [*]; done)), H', ⟨by have := HJ14.out; have := HK2.out; first | omega | exact Nat.le_refl _⟩, ⟨by (with_reducible repeat (first | apply Kd.V_alloc | apply Kd.V_drewN | apply Kd.V_drew)); exact HO_13.out⟩, ⟨by (with_reducible repeat (first | apply Kd.N_alloc | apply Kd.N_drewN | apply Kd.N_drew)); exact HO_14.out⟩, ⟨by (with_reducible repeat (first | apply Kd.N_alloc | apply Kd.N_drewN | apply Kd.N_drew)); exact HO_16.out⟩, ⟨by repeat (first | (with_reducible first | exact HB.out | apply below_alloc | apply pw_below_drewN | apply below_drew1) | exact HB.out)⟩⟩
                          · rw [if_neg c32] at H
                            have c32b0 : decide (x18_2 < (x16_2.length : Int)) = false := decide_eq_false c32
                            clear c32
                            (first | rw [c32b0] | (simp only [i64_w, i32_w]; rw [c32b0]) | skip)
                            have H' := Aside0.mk H
                            clear H
                            obtain ⟨Ao34, co34, eo34⟩ := Kd.N_slice HO_16.out
                            subst eo34
                            go_wp2
                            go_meet
                            case rel => exact ⟨_, (false), (by first | rfl | (simp; done) | (simp [*]; done)), H', ⟨by have := HJ14.out; have := HK2.out; first | omega | exact Nat.le_refl _⟩, ⟨by (with_reducible repeat (first | apply Kd.V_alloc | apply Kd.V_drewN | apply Kd.V_drew)); exact HO_13.out⟩, ⟨by (with_reducible repeat (first | apply Kd.N_alloc | apply Kd.N_drewN | apply Kd.N_drew)); exact HO_14.out⟩, ⟨by (with_reducible repeat (first | apply Kd.N_alloc | apply Kd.N_drewN | apply Kd.N_drew)); exact HO_16.out⟩, ⟨by repeat (first | (with_reducible first | exact HB.out | apply below_alloc | apply pw_below_drewN | apply below_drew1) | exact HB.out)⟩⟩
                        case rest =>
                          clear HC31
                          try clear c1
                          try clear c2
                          try clear p2
                          try clear q2
                          try clear c3
                          try clear c6
                          try clear c6b0
                          try clear c6b1
                          try clear p6
                          try clear c7
                          try clear c9
                          try clear c10
                          try clear c12
                          try clear c12b0
                          try clear c12b1
                          try clear c13
                          try clear c13b0
                          try clear c13b1
                          try clear q20
                          try clear c23
                          try clear c23b0
                          try clear c23b1
                          try clear c25
                          try clear c26
                          try clear c32
                          try clear c32b0
                          try clear p2
                          try clear p6
                          try clear q2
                          try clear q20
                          obtain ⟨kq, x70_30, rfl, HA, HJ30, HO_13, HO_14, HO_16, HB⟩ := hcut
                          cases kq with
                          | zero => exact absurd HA.out (by simp [flittinglaw03_RsAny.j2])
                          | succ kj30 =>
                            have H := HA.out
                            clear HA
                            simp only [flittinglaw03_RsAny.j2] at H
                            by_cases c35 : x70_30 = true
                            · subst c35
                              have H1 : (if 0 ≤ (IntKind.u64.wrap (x18_2)) then (if (Int.tmod (shr .u8 a3 (IntKind.u64.wrap (x18_2))) 2) = 1 then (if 0 ≤ x18_2 then (if x18_2 < (x16_2.length : Int) then (flittinglaw03_RsAny.l0 kj30 a3 a4 (wrap64 ((wrap64 (Int.tmod a0 4)) + 1)) (wrap64 (Int.tmod a1 4)) y167 t172 (x16_2.set (x18_2 : Int).toNat ([] : List Int)) (wrap64 (x17_2 + 1)) (wrap64 (x18_2 + 1))) else (none)) else (none)) else (flittinglaw03_RsAny.l0 kj30 a3 a4 (wrap64 ((wrap64 (Int.tmod a0 4)) + 1)) (wrap64 (Int.tmod a1 4)) y167 t172 x16_2 x17_2 (wrap64 (x18_2 + 1)))) else (none)) = some r := by rw [if_pos rfl] at H; exact H
                              clear H
                              have H := H1
                              clear H1
                              obtain ⟨ji36, hji36⟩ : ∃ j_ : Int, (IntKind.u64.wrap (x18_2)) = j_ := ⟨_, rfl⟩
                              replace H : (if 0 ≤ (ji36) then (if (Int.tmod (shr .u8 a3 (ji36)) 2) = 1 then (if 0 ≤ x18_2 then (if x18_2 < (x16_2.length : Int) then (flittinglaw03_RsAny.l0 kj30 a3 a4 (wrap64 ((wrap64 (Int.tmod a0 4)) + 1)) (wrap64 (Int.tmod a1 4)) y167 t172 (x16_2.set (x18_2 : Int).toNat ([] : List Int)) (wrap64 (x17_2 + 1)) (wrap64 (x18_2 + 1))) else (none)) else (none)) else (flittinglaw03_RsAny.l0 kj30 a3 a4 (wrap64 ((wrap64 (Int.tmod a0 4)) + 1)) (wrap64 (Int.tmod a1 4)) y167 t172 x16_2 x17_2 (wrap64 (x18_2 + 1)))) else (none)) = some r := by first | (rw [hji36] at H; exact H) | (simp only [hji36] at H ⊢; exact H)
                              by_cases c37 : 0 ≤ (ji36)
                              · rw [if_pos c37] at H
                                have c37b0 := eq_true c37
                                have c37b1 : decide (0 ≤ (ji36)) = true := decide_eq_true c37
                                clear c37
                                obtain ⟨ji38, hji38⟩ : ∃ j_ : Int, (shr .u8 a3 (ji36)) = j_ := ⟨_, rfl⟩
                                replace H : (if (Int.tmod (ji38) 2) = 1 then (if 0 ≤ x18_2 then (if x18_2 < (x16_2.length : Int) then (flittinglaw03_RsAny.l0 kj30 a3 a4 (wrap64 ((wrap64 (Int.tmod a0 4)) + 1)) (wrap64 (Int.tmod a1 4)) y167 t172 (x16_2.set (x18_2 : Int).toNat ([] : List Int)) (wrap64 (x17_2 + 1)) (wrap64 (x18_2 + 1))) else (none)) else (none)) else (flittinglaw03_RsAny.l0 kj30 a3 a4 (wrap64 ((wrap64 (Int.tmod a0 4)) + 1)) (wrap64 (Int.tmod a1 4)) y167 t172 x16_2 x17_2 (wrap64 (x18_2 + 1)))) = some r := by first | (rw [hji38] at H; exact H) | (simp only [hji38] at H ⊢; exact H)
                                have hji38_ : (a3 / 2 ^ min (ji36).toNat 8) = ji38 := hji38
                                have hji38z : (ji36) ≤ 8 → (a3 / 2 ^ (ji36).toNat) = ji38 := shr_small hji38
                                by_cases c39 : (Int.tmod (ji38) 2) = 1
                                · rw [if_pos c39] at H
                                  have c39b0 : ((Int.tmod (ji38) 2) == 1) = true := beq_iff_eq.mpr c39
                                  have c39b1 : ((Int.tmod (ji38) 2) != 1) = false := bne_eq_false_iff_eq.mpr c39
                                  clear c39
                                  by_cases c40 : 0 ≤ x18_2
                                  · rw [if_pos c40] at H
                                    have c40b0 : decide (0 ≤ x18_2) = true := decide_eq_true c40
                                    clear c40
                                    by_cases c41 : x18_2 < (x16_2.length : Int)
                                    · rw [if_pos c41] at H
                                      have c41b0 : decide (x18_2 < (x16_2.length : Int)) = true := decide_eq_true c41
                                      clear c41
                                      obtain ⟨y182, hy182⟩ : ∃ y_ : List (List Int), y_ = (x16_2.set (x18_2 : Int).toNat ([] : List Int)) := ⟨_, rfl⟩
                                      replace H : (flittinglaw03_RsAny.l0 kj30 a3 a4 (wrap64 ((wrap64 (Int.tmod a0 4)) + 1)) (wrap64 (Int.tmod a1 4)) y167 t172 y182 (wrap64 (x17_2 + 1)) (wrap64 (x18_2 + 1))) = some r := by first | (rw [hy182]; with_reducible exact H) | (have H2_ := (Option.bind_some _ _).symm.trans H; rw [hy182]; with_reducible exact H2_) | (have H2_ := (Option.bind_some _ _).symm.trans H; with_reducible exact H2_) | with_reducible exact H | (rw [hy182]; exact H) | exact H
                                      have Ny182 := Aside0.mk hy182
                                      clear hy182
                                      have H' := Aside0.mk H
                                      clear H
                                      have p42 : 0 ≤ (x18_2 : Int) := of_decide_eq_true (by first | (with_reducible assumption) | assumption)
                                      have q42 : (x18_2 : Int) < ((x16_2.length : Int) : Int) := of_decide_eq_true (by first | (with_reducible assumption) | assumption)
                                      obtain ⟨go42, co42, eo42, gb42, gl42, cl42, HG42⟩ := Kd.N_form HO_16.out (by omega)
                                      (first | cases eo42 | (injection eo42 with ea_ en_ ec_; (first | subst ea_ | (injection ea_ with ea_; subst ea_)); subst ec_; clear en_))
                                      have GB42 := Aside0.mk gb42
                                      have GG42 := Aside0.mk HG42
                                      clear gb42 gl42 HG42
                                      obtain ⟨ce42, hcl42, hM42, hcc42, hfr42⟩ := Kd.N_elem HO_16.out [] (x18_2 : Int) p42 q42
                                      obtain ⟨ua42_0, uc42_0, rfl, ul42_0, ge42_0⟩ := Kd.FK_slice_open hM42
                                      have hx42_0 := hcc42 0 _ rfl
                                      have hf42_0 := hfr42 0
                                      (try simp only [show ((Kd.slice 5 (Kd.int .u8))).sz = 1 from rfl, Nat.mul_one, Nat.add_zero] at hx42_0)
                                      (try simp only [show ((Kd.slice 5 (Kd.int .u8))).sz = 1 from rfl, Nat.mul_one, Nat.add_zero] at hf42_0)
                                      clear hcl42 hcc42 hfr42 hM42
                                      replace p42 := eq_true p42
                                      replace q42 := eq_true q42
                                      have HX43 := Aside0.mk (show Kd.N (Kd.slice 5 (Kd.int .u8)) 22 wc w.heap.size (fun _ => True) (.slice (some ⟨go42, 0, none⟩) x16_2.length co42) x16_2 from (by (with_reducible repeat (first | apply Kd.N_alloc | apply Kd.N_drewN | apply Kd.N_drew)); exact HO_16.out))
                                      obtain ⟨ce43, hcl43, hM43, hcc43, hfr43⟩ := Kd.N_elem HX43.out [] (x18_2 : Int) (of_decide_eq_true (by first | (with_reducible assumption) | assumption)) (by have h_ : (x18_2 : Int) < ((x16_2.length : Int) : Int) := of_decide_eq_true (by first | (with_reducible assumption) | assumption); first | exact h_ | (have e_ := (Kd.N_reads' HO_16.out).1; omega) | simpa using h_)
                                      obtain ⟨ua43_0, uc43_0, rfl, ul43_0, ge43_0⟩ := Kd.FK_slice_open hM43
                                      have HP43 := Kd.N_seg HX43.out (x18_2 : Int) (of_decide_eq_true (by first | (with_reducible assumption) | assumption)) (by have h_ : (x18_2 : Int) < ((x16_2.length : Int) : Int) := of_decide_eq_true (by first | (with_reducible assumption) | assumption); first | exact h_ | (have e_ := (Kd.N_reads' HO_16.out).1; omega) | simpa using h_) (seg := [.slice none 0 0]) (j := 0) hcl43 hcc43 (show 1 ≤ 1 from by decide) (x' := ([] : List Int)) (Kd.FK_slice_mk (Nat.le_refl _) (Kd.F_nil _ _ _)) (fun _ hk => hk)
                                      have hx43_0 := hcc43 0 _ rfl
                                      (try simp only [show ((Kd.slice 5 (Kd.int .u8))).sz = 1 from rfl, Nat.mul_one, Nat.add_zero] at hx43_0)
                                      have hf43_0 := hfr43 0
                                      (try simp only [show ((Kd.slice 5 (Kd.int .u8))).sz = 1 from rfl, Nat.mul_one, Nat.add_zero] at hf43_0)
                                      clear hcl43 hcc43 hfr43 hM43
                                      (try simp only [show ((Kd.slice 5 (Kd.int .u8))).sz = 1 from rfl, Nat.mul_one, Nat.add_zero] at HP43)
                                      (try simp only [show ((Kd.slice 5 (Kd.int .u8))).sz = 1 from rfl, Nat.mul_one, Nat.add_zero] at HP43)
                                      go_wp2_with (first | ((with_reducible refine gate_store (t := 22) (p := 81) rfl ?_); refine store_event (t := 22) (p := 81) (v := ?vo_w44) (w1 := (wc.setCell ⟨go42, (x18_2 : Int).toNat, none⟩ (.slice none 0 0))) ?hg ?ho ?hn ?hr ?_; (case ho => rfl); (case hg => rfl); (case hn => rfl); (case hr => first | (go_simp; done) | (go_simp; rfl)); intro w44 hw; have hg : wc.grownBy w44 (some go42) := (by rw [hw]; exact HP43.2); have hp_ : Kd.N (Kd.slice 5 (Kd.int .u8)) 22 w44 w.heap.size (fun _ => True) (.slice (some ⟨go42, 0, none⟩) x16_2.length co42) y182 := (by rw [hw, Ny182.out]; exact HP43.1); clear HP43; have n0_ := Aside0.mk (Kd.V_afterv (v := (.slice (some ⟨go42, 0, none⟩) x16_2.length co42)) (v1 := (.slice (some ⟨go42, 0, none⟩) x16_2.length co42)) (ok := (fun k_ => some k_ ≠ (.slice Ao30 t172.length co30 : Value).ownBlock)) (by (with_reducible repeat (first | apply Kd.V_alloc | apply Kd.V_drewN | apply Kd.V_drew)); exact HO_13.out) hg (.inl rfl)); have n1_ := Aside0.mk (Kd.N_afterv (v := (.slice (some ⟨go42, 0, none⟩) x16_2.length co42)) (v1 := (.slice (some ⟨go42, 0, none⟩) x16_2.length co42)) (ok := (fun _ => True)) (by (with_reducible repeat (first | apply Kd.N_alloc | apply Kd.N_drewN | apply Kd.N_drew)); exact Kd.N_mono HO_14.out (fun _ hk => ⟨trivial, hk⟩)) hg (.inl rfl)); have n2_ := Aside0.mk (hp_); have n3_ := Aside0.mk ((by rw [hw]; exact below_set (HB.out) GB42.out : Below w.heap.size w w44)); clear HO_13; clear HO_14; clear HO_16; clear HB; have HO_13 := n0_; have HO_14 := n1_; have HO_16 := n2_; have HB := n3_; clear n0_ n1_ n2_ n3_; clear hg hw hp_))
                                      go_roundg kj30
                                      case measure => have := HJ14.out; have := HK2.out; have := HJ30.out; omega
                                      case rel => exact ⟨(y182), (wrap64 (x17_2 + 1)), (wrap64 (x18_2 + 1)), (by first | rfl | (simp; done) | (simp [*]; done)), (by first | rfl | (simp; done) | (simp [*]; done)), H', ⟨by have := HJ14.out; have := HK2.out; have := HJ30.out; omega⟩, ⟨by (with_reducible repeat (first | apply Kd.V_alloc | apply Kd.V_drewN | apply Kd.V_drew)); exact HO_13.out⟩, ⟨by (with_reducible repeat (first | apply Kd.N_alloc | apply Kd.N_drewN | apply Kd.N_drew)); exact Kd.N_mono HO_14.out (fun _ hk => hk.2)⟩, ⟨by (with_reducible repeat (first | apply Kd.N_alloc | apply Kd.N_drewN | apply Kd.N_drew)); exact HO_16.out⟩, ⟨by repeat (first | (with_reducible first | exact HB.out | apply below_alloc | apply pw_below_drewN | apply below_drew1) | exact HB.out)⟩⟩
                                    · rw [if_neg c41] at H
                                      exact absurd H (by simp)
                                  · rw [if_neg c40] at H
                                    exact absurd H (by simp)
                                · rw [if_neg c39] at H
                                  have c39b0 : ((Int.tmod (ji38) 2) == 1) = false := beq_eq_false_iff_ne.mpr c39
                                  have c39b1 : ((Int.tmod (ji38) 2) != 1) = true := bne_iff_ne.mpr c39
                                  have H' := Aside0.mk H
                                  clear H
                                  go_wp2
                                  go_roundg kj30
                                  case measure => have := HJ14.out; have := HK2.out; have := HJ30.out; omega
                                  case rel => exact ⟨(x16_2), (x17_2), (wrap64 (x18_2 + 1)), (by first | rfl | (simp; done) | (simp [*]; done)), (by first | rfl | (simp; done) | (simp [*]; done)), H', ⟨by have := HJ14.out; have := HK2.out; have := HJ30.out; omega⟩, ⟨by (with_reducible repeat (first | apply Kd.V_alloc | apply Kd.V_drewN | apply Kd.V_drew)); exact HO_13.out⟩, ⟨by (with_reducible repeat (first | apply Kd.N_alloc | apply Kd.N_drewN | apply Kd.N_drew)); exact HO_14.out⟩, ⟨by (with_reducible repeat (first | apply Kd.N_alloc | apply Kd.N_drewN | apply Kd.N_drew)); exact HO_16.out⟩, ⟨by repeat (first | (with_reducible first | exact HB.out | apply below_alloc | apply pw_below_drewN | apply below_drew1) | exact HB.out)⟩⟩
                              · rw [if_neg c37] at H
                                exact absurd H (by simp)
                            · replace c35 := Bool.eq_false_iff.mpr c35
                              subst c35
                              have H1 : ((rs_Decode.f (wrap64 ((wrap64 (Int.tmod a0 4)) + 1)) (wrap64 (Int.tmod a1 4)) x16_2).bind fun bt183 => (if (wrap64 ((wrap64 ((wrap64 (Int.tmod a0 4)) + 1)) + (wrap64 (Int.tmod a1 4)))) = 0 then (none) else ((rs_Rebuild.f kj30 (wrap64 ((wrap64 (Int.tmod a0 4)) + 1)) (wrap64 (Int.tmod a1 4)) x16_2 (Int.tmod (wrap64 (a4)) (wrap64 ((wrap64 ((wrap64 (Int.tmod a0 4)) + 1)) + (wrap64 (Int.tmod a1 4)))))).bind fun bt187 => ((flittinglaw03_answers.f).bind fun t191 => (if t191 = true then (if bt183.2 = 0 then ((flittingref01_Same.f kj30 bt183.1 y167).bind fun t192 => (if t192 = true then (if bt187.2 = 0 then (if 0 ≤ (Int.tmod (wrap64 (a4)) (wrap64 ((wrap64 ((wrap64 (Int.tmod a0 4)) + 1)) + (wrap64 (Int.tmod a1 4))))) then (if (Int.tmod (wrap64 (a4)) (wrap64 ((wrap64 ((wrap64 (Int.tmod a0 4)) + 1)) + (wrap64 (Int.tmod a1 4))))) < (t172.length : Int) then ((flittingref01_Same.f kj30 bt187.1 (rd_L1 t172 (Int.tmod (wrap64 (a4)) (wrap64 ((wrap64 ((wrap64 (Int.tmod a0 4)) + 1)) + (wrap64 (Int.tmod a1 4))))))).bind fun t194 => (some t194)) else (none)) else (none)) else (some false)) else (some false))) else (some false)) else (some false)))))) = some r := by rw [if_neg (show ¬ (false = true) by decide)] at H; exact H
                              clear H
                              have H := H1
                              clear H1
                              replace H := Option.bind_eq_some_iff.mp H
                              obtain ⟨⟨t183, t186⟩, A450, H⟩ := H
                              replace H : (if (wrap64 ((wrap64 ((wrap64 (Int.tmod a0 4)) + 1)) + (wrap64 (Int.tmod a1 4)))) = 0 then (none) else ((rs_Rebuild.f kj30 (wrap64 ((wrap64 (Int.tmod a0 4)) + 1)) (wrap64 (Int.tmod a1 4)) x16_2 (Int.tmod (wrap64 (a4)) (wrap64 ((wrap64 ((wrap64 (Int.tmod a0 4)) + 1)) + (wrap64 (Int.tmod a1 4)))))).bind fun bt187 => ((flittinglaw03_answers.f).bind fun t191 => (if t191 = true then (if t186 = 0 then ((flittingref01_Same.f kj30 t183 y167).bind fun t192 => (if t192 = true then (if bt187.2 = 0 then (if 0 ≤ (Int.tmod (wrap64 (a4)) (wrap64 ((wrap64 ((wrap64 (Int.tmod a0 4)) + 1)) + (wrap64 (Int.tmod a1 4))))) then (if (Int.tmod (wrap64 (a4)) (wrap64 ((wrap64 ((wrap64 (Int.tmod a0 4)) + 1)) + (wrap64 (Int.tmod a1 4))))) < (t172.length : Int) then ((flittingref01_Same.f kj30 bt187.1 (rd_L1 t172 (Int.tmod (wrap64 (a4)) (wrap64 ((wrap64 ((wrap64 (Int.tmod a0 4)) + 1)) + (wrap64 (Int.tmod a1 4))))))).bind fun t194 => (some t194)) else (none)) else (none)) else (some false)) else (some false))) else (some false)) else (some false))))) = some r := H
                              have A45 := Aside0.mk A450
                              clear A450
                              by_cases c46 : (wrap64 ((wrap64 ((wrap64 (Int.tmod a0 4)) + 1)) + (wrap64 (Int.tmod a1 4)))) = 0
                              · rw [if_pos c46] at H
                                exact absurd H (by simp)
                              · rw [if_neg c46] at H
                                have c46b0 : ((wrap64 ((wrap64 ((wrap64 (Int.tmod a0 4)) + 1)) + (wrap64 (Int.tmod a1 4)))) == 0) = false := beq_eq_false_iff_ne.mpr c46
                                have c46b1 : ((wrap64 ((wrap64 ((wrap64 (Int.tmod a0 4)) + 1)) + (wrap64 (Int.tmod a1 4)))) != 0) = true := bne_iff_ne.mpr c46
                                replace H := Option.bind_eq_some_iff.mp H
                                obtain ⟨⟨t187, t188⟩, A470, H⟩ := H
                                replace H : ((flittinglaw03_answers.f).bind fun t191 => (if t191 = true then (if t186 = 0 then ((flittingref01_Same.f kj30 t183 y167).bind fun t192 => (if t192 = true then (if t188 = 0 then (if 0 ≤ (Int.tmod (wrap64 (a4)) (wrap64 ((wrap64 ((wrap64 (Int.tmod a0 4)) + 1)) + (wrap64 (Int.tmod a1 4))))) then (if (Int.tmod (wrap64 (a4)) (wrap64 ((wrap64 ((wrap64 (Int.tmod a0 4)) + 1)) + (wrap64 (Int.tmod a1 4))))) < (t172.length : Int) then ((flittingref01_Same.f kj30 t187 (rd_L1 t172 (Int.tmod (wrap64 (a4)) (wrap64 ((wrap64 ((wrap64 (Int.tmod a0 4)) + 1)) + (wrap64 (Int.tmod a1 4))))))).bind fun t194 => (some t194)) else (none)) else (none)) else (some false)) else (some false))) else (some false)) else (some false))) = some r := H
                                have A47 := Aside0.mk A470
                                clear A470
                                replace H := Option.bind_eq_some_iff.mp H
                                obtain ⟨t191, A480, H⟩ := H
                                replace H : (if t191 = true then (if t186 = 0 then ((flittingref01_Same.f kj30 t183 y167).bind fun t192 => (if t192 = true then (if t188 = 0 then (if 0 ≤ (Int.tmod (wrap64 (a4)) (wrap64 ((wrap64 ((wrap64 (Int.tmod a0 4)) + 1)) + (wrap64 (Int.tmod a1 4))))) then (if (Int.tmod (wrap64 (a4)) (wrap64 ((wrap64 ((wrap64 (Int.tmod a0 4)) + 1)) + (wrap64 (Int.tmod a1 4))))) < (t172.length : Int) then ((flittingref01_Same.f kj30 t187 (rd_L1 t172 (Int.tmod (wrap64 (a4)) (wrap64 ((wrap64 ((wrap64 (Int.tmod a0 4)) + 1)) + (wrap64 (Int.tmod a1 4))))))).bind fun t194 => (some t194)) else (none)) else (none)) else (some false)) else (some false))) else (some false)) else (some false)) = some r := H
                                have A48 := Aside0.mk A480
                                clear A480
                                by_cases c49 : t191 = true
                                · subst c49
                                  have H1 : (if t186 = 0 then ((flittingref01_Same.f kj30 t183 y167).bind fun t192 => (if t192 = true then (if t188 = 0 then (if 0 ≤ (Int.tmod (wrap64 (a4)) (wrap64 ((wrap64 ((wrap64 (Int.tmod a0 4)) + 1)) + (wrap64 (Int.tmod a1 4))))) then (if (Int.tmod (wrap64 (a4)) (wrap64 ((wrap64 ((wrap64 (Int.tmod a0 4)) + 1)) + (wrap64 (Int.tmod a1 4))))) < (t172.length : Int) then ((flittingref01_Same.f kj30 t187 (rd_L1 t172 (Int.tmod (wrap64 (a4)) (wrap64 ((wrap64 ((wrap64 (Int.tmod a0 4)) + 1)) + (wrap64 (Int.tmod a1 4))))))).bind fun t194 => (some t194)) else (none)) else (none)) else (some false)) else (some false))) else (some false)) = some r := by rw [if_pos rfl] at H; exact H
                                  clear H
                                  have H := H1
                                  clear H1
                                  by_cases c50 : t186 = 0
                                  · rw [if_pos c50] at H
                                    have c50b0 : (t186 == 0) = true := beq_iff_eq.mpr c50
                                    have c50b1 : (t186 != 0) = false := bne_eq_false_iff_eq.mpr c50
                                    clear c50
                                    replace H := Option.bind_eq_some_iff.mp H
                                    obtain ⟨t192, A510, H⟩ := H
                                    replace H : (if t192 = true then (if t188 = 0 then (if 0 ≤ (Int.tmod (wrap64 (a4)) (wrap64 ((wrap64 ((wrap64 (Int.tmod a0 4)) + 1)) + (wrap64 (Int.tmod a1 4))))) then (if (Int.tmod (wrap64 (a4)) (wrap64 ((wrap64 ((wrap64 (Int.tmod a0 4)) + 1)) + (wrap64 (Int.tmod a1 4))))) < (t172.length : Int) then ((flittingref01_Same.f kj30 t187 (rd_L1 t172 (Int.tmod (wrap64 (a4)) (wrap64 ((wrap64 ((wrap64 (Int.tmod a0 4)) + 1)) + (wrap64 (Int.tmod a1 4))))))).bind fun t194 => (some t194)) else (none)) else (none)) else (some false)) else (some false)) = some r := H
                                    have A51 := Aside0.mk A510
                                    clear A510
                                    by_cases c52 : t192 = true
                                    · subst c52
                                      have H1 : (if t188 = 0 then (if 0 ≤ (Int.tmod (wrap64 (a4)) (wrap64 ((wrap64 ((wrap64 (Int.tmod a0 4)) + 1)) + (wrap64 (Int.tmod a1 4))))) then (if (Int.tmod (wrap64 (a4)) (wrap64 ((wrap64 ((wrap64 (Int.tmod a0 4)) + 1)) + (wrap64 (Int.tmod a1 4))))) < (t172.length : Int) then ((flittingref01_Same.f kj30 t187 (rd_L1 t172 (Int.tmod (wrap64 (a4)) (wrap64 ((wrap64 ((wrap64 (Int.tmod a0 4)) + 1)) + (wrap64 (Int.tmod a1 4))))))).bind fun t194 => (some t194)) else (none)) else (none)) else (some false)) = some r := by rw [if_pos rfl] at H; exact H
                                      clear H
                                      have H := H1
                                      clear H1
                                      by_cases c53 : t188 = 0
                                      · rw [if_pos c53] at H
                                        have c53b0 : (t188 == 0) = true := beq_iff_eq.mpr c53
                                        have c53b1 : (t188 != 0) = false := bne_eq_false_iff_eq.mpr c53
                                        clear c53
                                        obtain ⟨ji54, hji54⟩ : ∃ j_ : Int, (Int.tmod (wrap64 (a4)) (wrap64 ((wrap64 ((wrap64 (Int.tmod a0 4)) + 1)) + (wrap64 (Int.tmod a1 4))))) = j_ := ⟨_, rfl⟩
                                        replace H : (if 0 ≤ (ji54) then (if (ji54) < (t172.length : Int) then ((flittingref01_Same.f kj30 t187 (rd_L1 t172 (ji54))).bind fun t194 => (some t194)) else (none)) else (none)) = some r := by first | (rw [hji54] at H; exact H) | (simp only [hji54] at H ⊢; exact H)
                                        (try rw [hji54] at A45)
                                        (try rw [hji54] at A47)
                                        (try rw [hji54] at A48)
                                        (try rw [hji54] at A51)
                                        by_cases c55 : 0 ≤ (ji54)
                                        · rw [if_pos c55] at H
                                          have c55b0 : decide (0 ≤ (ji54)) = true := decide_eq_true c55
                                          clear c55
                                          by_cases c56 : (ji54) < (t172.length : Int)
                                          · rw [if_pos c56] at H
                                            have c56b0 : decide ((ji54) < (t172.length : Int)) = true := decide_eq_true c56
                                            clear c56
                                            replace H := Option.bind_eq_some_iff.mp H
                                            obtain ⟨t194, A570, H⟩ := H
                                            replace H : (some t194) = some r := H
                                            have A57 := Aside0.mk A570
                                            clear A570
                                            obtain rfl := Option.some.inj H
                                            obtain ⟨Ao58, co58, eo58⟩ := Kd.N_slice HO_16.out
                                            subst eo58
                                            go_wp2_with (first | ((with_reducible refine gate_callee (f := 13) rfl ?_); refine goesL_ (some 88) rfl rfl Try.func13 (by kernel_rfl) rfl #[.int .i64 (wrap64 ((wrap64 (Int.tmod a0 4)) + 1)), .int .i64 (wrap64 (Int.tmod a1 4)), .slice Ao58 x16_2.length co58] rfl (by (try simp only [List.map_toArray, List.map_cons, List.map_nil]); first | done | rfl | (simp only [List.length_drop, List.length_take]; rfl)) ?_; (with_reducible refine (rs_Decode.calls (wrap64 ((wrap64 (Int.tmod a0 4)) + 1)) (wrap64 (Int.tmod a1 4)) _ _ x16_2 t183 t186 _ ?side1 ?side2 A45.out).mono ?_); (case side1 => repeat (first | exact (Kd.N_reads' HO_16.out).2.2 | (with_reducible refine Kd.C_alloc ?_ _) | (with_reducible refine Kd.C_drewN ?_ _) | (with_reducible refine Kd.C_drew ?_))); (case side2 => exact (Kd.N_reads' HO_16.out).2.1); rintro e w59 ⟨v184, rfl, ho0, hb⟩; refine ⟨_, rfl, ?_⟩; have n0_ := Aside0.mk (Kd.V_below (by (with_reducible repeat (first | apply Kd.V_alloc | apply Kd.V_drewN | apply Kd.V_drew)); exact HO_13.out) hb); have n1_ := Aside0.mk (Kd.N_below (by (with_reducible repeat (first | apply Kd.N_alloc | apply Kd.N_drewN | apply Kd.N_drew)); exact HO_14.out) hb); have n2_ := Aside0.mk (Kd.N_below (by (with_reducible repeat (first | apply Kd.N_alloc | apply Kd.N_drewN | apply Kd.N_drew)); exact HO_16.out) hb); have n3_ := Aside0.mk (Kd.V_lower (Kd.V_mono (ok' := fun k_ => some k_ ≠ (.slice Ao30 t172.length co30 : Value).ownBlock ∧ some k_ ≠ (.slice Ao58 x16_2.length co58 : Value).ownBlock) ho0 (fun k_ hk_ => ⟨(Kd.fresh' (Kd.N_lt (by (with_reducible repeat (first | apply Kd.N_alloc | apply Kd.N_drewN | apply Kd.N_drew)); exact HO_14.out)) k_ hk_), (Kd.fresh' (Kd.N_lt (by (with_reducible repeat (first | apply Kd.N_alloc | apply Kd.N_drewN | apply Kd.N_drew)); exact HO_16.out)) k_ hk_)⟩)) (below_size (by repeat (first | (with_reducible first | exact HB.out | apply below_alloc | apply pw_below_drewN | apply below_drew1) | exact HB.out)))); have n4_ := Aside0.mk (below_step (by repeat (first | (with_reducible first | exact HB.out | apply below_alloc | apply pw_below_drewN | apply below_drew1) | exact HB.out)) hb); clear HO_13; clear HO_14; clear HO_16; clear HB; have HO_13 := n0_; have HO_14 := n1_; have HO_16 := n2_; have HO185 := n3_; have HB := n4_; clear n0_ n1_ n2_ n3_ n4_; (try clear hb); (try clear hb2); (try clear hk); (try clear hi); (try clear ho0)) | ((with_reducible refine gate_callee (f := 15) rfl ?_); refine goesL_ (some 102) rfl rfl Try.func15 (by kernel_rfl) rfl #[.int .i64 (wrap64 ((wrap64 (Int.tmod a0 4)) + 1)), .int .i64 (wrap64 (Int.tmod a1 4)), .slice Ao58 x16_2.length co58, .int .i64 ji54] rfl (by (try simp only [List.map_toArray, List.map_cons, List.map_nil]); first | done | (simp only [hji54]; rfl) | rfl | (simp only [List.length_drop, List.length_take]; rfl)) ?_; (with_reducible refine (rs_Rebuild.calls kj30 (wrap64 ((wrap64 (Int.tmod a0 4)) + 1)) (wrap64 (Int.tmod a1 4)) _ _ x16_2 ji54 t187 t188 _ ?side1 ?side2 A47.out).mono ?_); (case side1 => repeat (first | exact (Kd.N_reads' HO_16.out).2.2 | (with_reducible refine Kd.C_alloc ?_ _) | (with_reducible refine Kd.C_drewN ?_ _) | (with_reducible refine Kd.C_drew ?_))); (case side2 => exact (Kd.N_reads' HO_16.out).2.1); rintro e w60 ⟨v189, rfl, ho0, hb⟩; refine ⟨_, rfl, ?_⟩; have n0_ := Aside0.mk (Kd.V_elder' (by (with_reducible repeat (first | apply Kd.V_alloc | apply Kd.V_drewN | apply Kd.V_drew)); exact HO_13.out) (Kd.R_base ho0) hb); have n1_ := Aside0.mk (Kd.N_elder' (by (with_reducible repeat (first | apply Kd.N_alloc | apply Kd.N_drewN | apply Kd.N_drew)); exact HO_14.out) (Kd.R_base ho0) hb); have n2_ := Aside0.mk (Kd.N_elder' (by (with_reducible repeat (first | apply Kd.N_alloc | apply Kd.N_drewN | apply Kd.N_drew)); exact HO_16.out) (Kd.R_base ho0) hb); have n3_ := Aside0.mk (Kd.V_elder' (by (with_reducible repeat (first | apply Kd.V_alloc | apply Kd.V_drewN | apply Kd.V_drew)); exact HO185.out) (Kd.R_base ho0) hb); have n4_ := Aside0.mk (Kd.R_lower ho0 (below_size (by repeat (first | (with_reducible first | exact HB.out | apply below_alloc | apply pw_below_drewN | apply below_drew1) | exact HB.out)))); have n5_ := Aside0.mk (below_step (by repeat (first | (with_reducible first | exact HB.out | apply below_alloc | apply pw_below_drewN | apply below_drew1) | exact HB.out)) hb); clear HO_13; clear HO_14; clear HO_16; clear HO185; clear HB; have HO_13 := n0_; have HO_14 := n1_; have HO_16 := n2_; have HO185 := n3_; have HO190 := n4_; have HB := n5_; clear n0_ n1_ n2_ n3_ n4_ n5_; (try clear hb); (try clear hb2); (try clear hk); (try clear hi); (try clear ho0)) | ((with_reducible refine gate_callee (f := 9) rfl ?_); refine goesL_ (some 105) rfl rfl Try.func9 (by kernel_rfl) rfl #[] rfl (by (try simp only [List.map_toArray, List.map_cons, List.map_nil]); first | done | rfl | (simp only [List.length_drop, List.length_take]; rfl)) ?_; (with_reducible refine (flittinglaw03_answers.calls  true _ A48.out).mono ?_); rintro e w61 ⟨rfl, hb⟩; refine ⟨_, rfl, ?_⟩; have n0_ := Aside0.mk (Kd.V_below (by (with_reducible repeat (first | apply Kd.V_alloc | apply Kd.V_drewN | apply Kd.V_drew)); exact HO_13.out) hb); have n1_ := Aside0.mk (Kd.N_below (by (with_reducible repeat (first | apply Kd.N_alloc | apply Kd.N_drewN | apply Kd.N_drew)); exact HO_14.out) hb); have n2_ := Aside0.mk (Kd.N_below (by (with_reducible repeat (first | apply Kd.N_alloc | apply Kd.N_drewN | apply Kd.N_drew)); exact HO_16.out) hb); have n3_ := Aside0.mk (Kd.V_below (by (with_reducible repeat (first | apply Kd.V_alloc | apply Kd.V_drewN | apply Kd.V_drew)); exact HO185.out) hb); have n4_ := Aside0.mk (Kd.R_below (by (with_reducible repeat (first | apply Kd.R_alloc | apply Kd.R_drewN | apply Kd.R_drew)); exact HO190.out) hb); have n5_ := Aside0.mk (below_step (by repeat (first | (with_reducible first | exact HB.out | apply below_alloc | apply pw_below_drewN | apply below_drew1) | exact HB.out)) hb); clear HO_13; clear HO_14; clear HO_16; clear HO185; clear HO190; clear HB; have HO_13 := n0_; have HO_14 := n1_; have HO_16 := n2_; have HO185 := n3_; have HO190 := n4_; have HB := n5_; clear n0_ n1_ n2_ n3_ n4_ n5_; (try clear hb); (try clear hb2); (try clear hk); (try clear hi); obtain ⟨Ao62, co62, eo62⟩ := Kd.V_slice HO185.out; subst eo62) | (go_at_call 14; (with_reducible refine (flittingref01_Same.calls kj30 _ _ t183 _ _ y167 true _ ?side1 ?side2 ?side3 ?side4 A51.out).mono ?_); (case side1 => repeat (first | exact (Kd.V_reads' HO185.out).2.2 | (with_reducible refine Kd.C_alloc ?_ _) | (with_reducible refine Kd.C_drewN ?_ _) | (with_reducible refine Kd.C_drew ?_))); (case side2 => exact (Kd.V_reads' HO185.out).2.1); (case side3 => repeat (first | exact (Kd.V_reads' HO_13.out).2.2 | (with_reducible refine Kd.C_alloc ?_ _) | (with_reducible refine Kd.C_drewN ?_ _) | (with_reducible refine Kd.C_drew ?_))); (case side4 => exact (Kd.V_reads' HO_13.out).2.1); rintro e w' ⟨rfl, ⟨nd, rfl⟩⟩; have p193 : 0 ≤ ((ji54) : Int) := of_decide_eq_true (by first | (with_reducible assumption) | assumption); have q193 : (ji54) < (t172.length : Int) := of_decide_eq_true (by first | (with_reducible assumption) | assumption); obtain ⟨ad193, A193_0, c193_0, e193, hx193_0, hl193_0, hi193_0⟩ := at_L1 (Kd.N_reads' HO_14.out).2.2 (ji54) p193 q193; cases e193; obtain ⟨ce193, hce193, hMe193, hcc193⟩ := Kd.N_get HO_14.out [] (ji54) p193 (by first | exact q193 | exact of_decide_eq_true (by first | (with_reducible assumption) | assumption) | (have e_ := (Kd.N_reads' HO_14.out).1; omega)); obtain ⟨ua193_0, uc193_0, rfl, ul193_0, ge193_0⟩ := Kd.FK_slice_open hMe193; have hv193_0 := hcc193 0 _ rfl; rw [Nat.add_zero, show ((Kd.slice 5 (Kd.int .u8))).sz = 1 from rfl, Nat.mul_one] at hv193_0; replace hv193_0 := Option.some.inj (hv193_0.symm.trans hx193_0); injection hv193_0 with hva_ hvn_ hvc_; rw [hva_] at ge193_0; rw [hvc_] at ul193_0; have HL193_0 := Aside0.mk (show Kd.V (Kd.int .u8) 5 _ w.heap.size _ _ (rd_L1 t172 (ji54)) from Kd.V_mk ul193_0 ge193_0); clear hva_ hvn_ hvc_ ge193_0 ul193_0; clear hcc193 hce193; have HR193_0 := Aside0.mk hi193_0; have HC193_0 := Aside0.mk hl193_0; clear hi193_0 hl193_0; replace p193 := eq_true p193; replace q193 := eq_true q193; obtain ⟨Ao63, co63, eo63⟩ := Kd.R_slice HO190.out; subst eo63) | (go_at_call 14; (with_reducible refine (flittingref01_Same.calls kj30 _ _ t187 _ _ (rd_L1 t172 (ji54)) t194 _ ?side1 ?side2 ?side3 ?side4 A57.out).mono ?_); (case side1 => repeat (first | exact (Kd.R_reads' HO190.out).2.2 | (with_reducible refine Kd.C_alloc ?_ _) | (with_reducible refine Kd.C_drewN ?_ _) | (with_reducible refine Kd.C_drew ?_))); (case side2 => exact (Kd.R_reads' HO190.out).2.1); (case side3 => repeat (first | exact (by repeat (first | (with_reducible exact HR193_0.out) | (with_reducible refine Kd.C_alloc ?_ _) | (with_reducible refine Kd.C_drewN ?_ _) | (with_reducible refine Kd.C_drew ?_) | exact HR193_0.out)) | (with_reducible refine Kd.C_alloc ?_ _) | (with_reducible refine Kd.C_drewN ?_ _) | (with_reducible refine Kd.C_drew ?_))); (case side4 => exact HC193_0.out); rintro e w' ⟨rfl, ⟨nd, rfl⟩⟩))
                                            go_ret
                                            exact ⟨by first | rfl | (simp [errW_none, errW_some] <;> rfl) | (simp only [← hji11, ← hji54]; first | rfl | (simp [errW_none, errW_some] <;> rfl)) | (simp [*, errW_none, errW_some] <;> rfl), by repeat (first | (with_reducible first | exact HB.out | apply below_alloc | apply pw_below_drewN | apply below_drew1) | exact HB.out)⟩
                                          · rw [if_neg c56] at H
                                            exact absurd H (by simp)
                                        · rw [if_neg c55] at H
                                          exact absurd H (by simp)
                                      · rw [if_neg c53] at H
                                        have c53b0 : (t188 == 0) = false := beq_eq_false_iff_ne.mpr c53
                                        have c53b1 : (t188 != 0) = true := bne_iff_ne.mpr c53
                                        obtain rfl := Option.some.inj H
                                        obtain ⟨Ao64, co64, eo64⟩ := Kd.N_slice HO_16.out
                                        subst eo64
                                        go_wp2_with (first | ((with_reducible refine gate_callee (f := 13) rfl ?_); refine goesL_ (some 88) rfl rfl Try.func13 (by kernel_rfl) rfl #[.int .i64 (wrap64 ((wrap64 (Int.tmod a0 4)) + 1)), .int .i64 (wrap64 (Int.tmod a1 4)), .slice Ao64 x16_2.length co64] rfl (by (try simp only [List.map_toArray, List.map_cons, List.map_nil]); first | done | rfl | (simp only [List.length_drop, List.length_take]; rfl)) ?_; (with_reducible refine (rs_Decode.calls (wrap64 ((wrap64 (Int.tmod a0 4)) + 1)) (wrap64 (Int.tmod a1 4)) _ _ x16_2 t183 t186 _ ?side1 ?side2 A45.out).mono ?_); (case side1 => repeat (first | exact (Kd.N_reads' HO_16.out).2.2 | (with_reducible refine Kd.C_alloc ?_ _) | (with_reducible refine Kd.C_drewN ?_ _) | (with_reducible refine Kd.C_drew ?_))); (case side2 => exact (Kd.N_reads' HO_16.out).2.1); rintro e w65 ⟨v184, rfl, ho0, hb⟩; refine ⟨_, rfl, ?_⟩; have n0_ := Aside0.mk (Kd.V_below (by (with_reducible repeat (first | apply Kd.V_alloc | apply Kd.V_drewN | apply Kd.V_drew)); exact HO_13.out) hb); have n1_ := Aside0.mk (Kd.N_below (by (with_reducible repeat (first | apply Kd.N_alloc | apply Kd.N_drewN | apply Kd.N_drew)); exact HO_14.out) hb); have n2_ := Aside0.mk (Kd.N_below (by (with_reducible repeat (first | apply Kd.N_alloc | apply Kd.N_drewN | apply Kd.N_drew)); exact HO_16.out) hb); have n3_ := Aside0.mk (Kd.V_lower (Kd.V_mono (ok' := fun k_ => some k_ ≠ (.slice Ao30 t172.length co30 : Value).ownBlock ∧ some k_ ≠ (.slice Ao64 x16_2.length co64 : Value).ownBlock) ho0 (fun k_ hk_ => ⟨(Kd.fresh' (Kd.N_lt (by (with_reducible repeat (first | apply Kd.N_alloc | apply Kd.N_drewN | apply Kd.N_drew)); exact HO_14.out)) k_ hk_), (Kd.fresh' (Kd.N_lt (by (with_reducible repeat (first | apply Kd.N_alloc | apply Kd.N_drewN | apply Kd.N_drew)); exact HO_16.out)) k_ hk_)⟩)) (below_size (by repeat (first | (with_reducible first | exact HB.out | apply below_alloc | apply pw_below_drewN | apply below_drew1) | exact HB.out)))); have n4_ := Aside0.mk (below_step (by repeat (first | (with_reducible first | exact HB.out | apply below_alloc | apply pw_below_drewN | apply below_drew1) | exact HB.out)) hb); clear HO_13; clear HO_14; clear HO_16; clear HB; have HO_13 := n0_; have HO_14 := n1_; have HO_16 := n2_; have HO185 := n3_; have HB := n4_; clear n0_ n1_ n2_ n3_ n4_; (try clear hb); (try clear hb2); (try clear hk); (try clear hi); (try clear ho0)) | ((with_reducible refine gate_callee (f := 15) rfl ?_); refine goesL_ (some 102) rfl rfl Try.func15 (by kernel_rfl) rfl #[.int .i64 (wrap64 ((wrap64 (Int.tmod a0 4)) + 1)), .int .i64 (wrap64 (Int.tmod a1 4)), .slice Ao64 x16_2.length co64, .int .i64 (Int.tmod (wrap64 (a4)) (wrap64 ((wrap64 ((wrap64 (Int.tmod a0 4)) + 1)) + (wrap64 (Int.tmod a1 4)))))] rfl (by (try simp only [List.map_toArray, List.map_cons, List.map_nil]); first | done | rfl | (simp only [List.length_drop, List.length_take]; rfl)) ?_; (with_reducible refine (rs_Rebuild.calls kj30 (wrap64 ((wrap64 (Int.tmod a0 4)) + 1)) (wrap64 (Int.tmod a1 4)) _ _ x16_2 (Int.tmod (wrap64 (a4)) (wrap64 ((wrap64 ((wrap64 (Int.tmod a0 4)) + 1)) + (wrap64 (Int.tmod a1 4))))) t187 t188 _ ?side1 ?side2 A47.out).mono ?_); (case side1 => repeat (first | exact (Kd.N_reads' HO_16.out).2.2 | (with_reducible refine Kd.C_alloc ?_ _) | (with_reducible refine Kd.C_drewN ?_ _) | (with_reducible refine Kd.C_drew ?_))); (case side2 => exact (Kd.N_reads' HO_16.out).2.1); rintro e w66 ⟨v189, rfl, ho0, hb⟩; refine ⟨_, rfl, ?_⟩; have n0_ := Aside0.mk (Kd.V_elder' (by (with_reducible repeat (first | apply Kd.V_alloc | apply Kd.V_drewN | apply Kd.V_drew)); exact HO_13.out) (Kd.R_base ho0) hb); have n1_ := Aside0.mk (Kd.N_elder' (by (with_reducible repeat (first | apply Kd.N_alloc | apply Kd.N_drewN | apply Kd.N_drew)); exact HO_14.out) (Kd.R_base ho0) hb); have n2_ := Aside0.mk (Kd.N_elder' (by (with_reducible repeat (first | apply Kd.N_alloc | apply Kd.N_drewN | apply Kd.N_drew)); exact HO_16.out) (Kd.R_base ho0) hb); have n3_ := Aside0.mk (Kd.V_elder' (by (with_reducible repeat (first | apply Kd.V_alloc | apply Kd.V_drewN | apply Kd.V_drew)); exact HO185.out) (Kd.R_base ho0) hb); have n4_ := Aside0.mk (Kd.R_lower ho0 (below_size (by repeat (first | (with_reducible first | exact HB.out | apply below_alloc | apply pw_below_drewN | apply below_drew1) | exact HB.out)))); have n5_ := Aside0.mk (below_step (by repeat (first | (with_reducible first | exact HB.out | apply below_alloc | apply pw_below_drewN | apply below_drew1) | exact HB.out)) hb); clear HO_13; clear HO_14; clear HO_16; clear HO185; clear HB; have HO_13 := n0_; have HO_14 := n1_; have HO_16 := n2_; have HO185 := n3_; have HO190 := n4_; have HB := n5_; clear n0_ n1_ n2_ n3_ n4_ n5_; (try clear hb); (try clear hb2); (try clear hk); (try clear hi); (try clear ho0)) | ((with_reducible refine gate_callee (f := 9) rfl ?_); refine goesL_ (some 105) rfl rfl Try.func9 (by kernel_rfl) rfl #[] rfl (by (try simp only [List.map_toArray, List.map_cons, List.map_nil]); first | done | rfl | (simp only [List.length_drop, List.length_take]; rfl)) ?_; (with_reducible refine (flittinglaw03_answers.calls  true _ A48.out).mono ?_); rintro e w67 ⟨rfl, hb⟩; refine ⟨_, rfl, ?_⟩; have n0_ := Aside0.mk (Kd.V_below (by (with_reducible repeat (first | apply Kd.V_alloc | apply Kd.V_drewN | apply Kd.V_drew)); exact HO_13.out) hb); have n1_ := Aside0.mk (Kd.N_below (by (with_reducible repeat (first | apply Kd.N_alloc | apply Kd.N_drewN | apply Kd.N_drew)); exact HO_14.out) hb); have n2_ := Aside0.mk (Kd.N_below (by (with_reducible repeat (first | apply Kd.N_alloc | apply Kd.N_drewN | apply Kd.N_drew)); exact HO_16.out) hb); have n3_ := Aside0.mk (Kd.V_below (by (with_reducible repeat (first | apply Kd.V_alloc | apply Kd.V_drewN | apply Kd.V_drew)); exact HO185.out) hb); have n4_ := Aside0.mk (Kd.R_below (by (with_reducible repeat (first | apply Kd.R_alloc | apply Kd.R_drewN | apply Kd.R_drew)); exact HO190.out) hb); have n5_ := Aside0.mk (below_step (by repeat (first | (with_reducible first | exact HB.out | apply below_alloc | apply pw_below_drewN | apply below_drew1) | exact HB.out)) hb); clear HO_13; clear HO_14; clear HO_16; clear HO185; clear HO190; clear HB; have HO_13 := n0_; have HO_14 := n1_; have HO_16 := n2_; have HO185 := n3_; have HO190 := n4_; have HB := n5_; clear n0_ n1_ n2_ n3_ n4_ n5_; (try clear hb); (try clear hb2); (try clear hk); (try clear hi); obtain ⟨Ao68, co68, eo68⟩ := Kd.V_slice HO185.out; subst eo68) | (go_at_call 14; (with_reducible refine (flittingref01_Same.calls kj30 _ _ t183 _ _ y167 true _ ?side1 ?side2 ?side3 ?side4 A51.out).mono ?_); (case side1 => repeat (first | exact (Kd.V_reads' HO185.out).2.2 | (with_reducible refine Kd.C_alloc ?_ _) | (with_reducible refine Kd.C_drewN ?_ _) | (with_reducible refine Kd.C_drew ?_))); (case side2 => exact (Kd.V_reads' HO185.out).2.1); (case side3 => repeat (first | exact (Kd.V_reads' HO_13.out).2.2 | (with_reducible refine Kd.C_alloc ?_ _) | (with_reducible refine Kd.C_drewN ?_ _) | (with_reducible refine Kd.C_drew ?_))); (case side4 => exact (Kd.V_reads' HO_13.out).2.1); rintro e w' ⟨rfl, ⟨nd, rfl⟩⟩))
                                        go_ret
                                        exact ⟨by first | rfl | (simp [errW_none, errW_some] <;> rfl) | (simp only [← hji11]; first | rfl | (simp [errW_none, errW_some] <;> rfl)) | (simp [*, errW_none, errW_some] <;> rfl), by repeat (first | (with_reducible first | exact HB.out | apply below_alloc | apply pw_below_drewN | apply below_drew1) | exact HB.out)⟩
                                    · replace c52 := Bool.eq_false_iff.mpr c52
                                      subst c52
                                      have H1 : (some false) = some r := by rw [if_neg (show ¬ (false = true) by decide)] at H; exact H
                                      clear H
                                      have H := H1
                                      clear H1
                                      obtain rfl := Option.some.inj H
                                      obtain ⟨Ao69, co69, eo69⟩ := Kd.N_slice HO_16.out
                                      subst eo69
                                      go_wp2_with (first | ((with_reducible refine gate_callee (f := 13) rfl ?_); refine goesL_ (some 88) rfl rfl Try.func13 (by kernel_rfl) rfl #[.int .i64 (wrap64 ((wrap64 (Int.tmod a0 4)) + 1)), .int .i64 (wrap64 (Int.tmod a1 4)), .slice Ao69 x16_2.length co69] rfl (by (try simp only [List.map_toArray, List.map_cons, List.map_nil]); first | done | rfl | (simp only [List.length_drop, List.length_take]; rfl)) ?_; (with_reducible refine (rs_Decode.calls (wrap64 ((wrap64 (Int.tmod a0 4)) + 1)) (wrap64 (Int.tmod a1 4)) _ _ x16_2 t183 t186 _ ?side1 ?side2 A45.out).mono ?_); (case side1 => repeat (first | exact (Kd.N_reads' HO_16.out).2.2 | (with_reducible refine Kd.C_alloc ?_ _) | (with_reducible refine Kd.C_drewN ?_ _) | (with_reducible refine Kd.C_drew ?_))); (case side2 => exact (Kd.N_reads' HO_16.out).2.1); rintro e w70 ⟨v184, rfl, ho0, hb⟩; refine ⟨_, rfl, ?_⟩; have n0_ := Aside0.mk (Kd.V_below (by (with_reducible repeat (first | apply Kd.V_alloc | apply Kd.V_drewN | apply Kd.V_drew)); exact HO_13.out) hb); have n1_ := Aside0.mk (Kd.N_below (by (with_reducible repeat (first | apply Kd.N_alloc | apply Kd.N_drewN | apply Kd.N_drew)); exact HO_14.out) hb); have n2_ := Aside0.mk (Kd.N_below (by (with_reducible repeat (first | apply Kd.N_alloc | apply Kd.N_drewN | apply Kd.N_drew)); exact HO_16.out) hb); have n3_ := Aside0.mk (Kd.V_lower (Kd.V_mono (ok' := fun k_ => some k_ ≠ (.slice Ao30 t172.length co30 : Value).ownBlock ∧ some k_ ≠ (.slice Ao69 x16_2.length co69 : Value).ownBlock) ho0 (fun k_ hk_ => ⟨(Kd.fresh' (Kd.N_lt (by (with_reducible repeat (first | apply Kd.N_alloc | apply Kd.N_drewN | apply Kd.N_drew)); exact HO_14.out)) k_ hk_), (Kd.fresh' (Kd.N_lt (by (with_reducible repeat (first | apply Kd.N_alloc | apply Kd.N_drewN | apply Kd.N_drew)); exact HO_16.out)) k_ hk_)⟩)) (below_size (by repeat (first | (with_reducible first | exact HB.out | apply below_alloc | apply pw_below_drewN | apply below_drew1) | exact HB.out)))); have n4_ := Aside0.mk (below_step (by repeat (first | (with_reducible first | exact HB.out | apply below_alloc | apply pw_below_drewN | apply below_drew1) | exact HB.out)) hb); clear HO_13; clear HO_14; clear HO_16; clear HB; have HO_13 := n0_; have HO_14 := n1_; have HO_16 := n2_; have HO185 := n3_; have HB := n4_; clear n0_ n1_ n2_ n3_ n4_; (try clear hb); (try clear hb2); (try clear hk); (try clear hi); (try clear ho0)) | ((with_reducible refine gate_callee (f := 15) rfl ?_); refine goesL_ (some 102) rfl rfl Try.func15 (by kernel_rfl) rfl #[.int .i64 (wrap64 ((wrap64 (Int.tmod a0 4)) + 1)), .int .i64 (wrap64 (Int.tmod a1 4)), .slice Ao69 x16_2.length co69, .int .i64 (Int.tmod (wrap64 (a4)) (wrap64 ((wrap64 ((wrap64 (Int.tmod a0 4)) + 1)) + (wrap64 (Int.tmod a1 4)))))] rfl (by (try simp only [List.map_toArray, List.map_cons, List.map_nil]); first | done | rfl | (simp only [List.length_drop, List.length_take]; rfl)) ?_; (with_reducible refine (rs_Rebuild.calls kj30 (wrap64 ((wrap64 (Int.tmod a0 4)) + 1)) (wrap64 (Int.tmod a1 4)) _ _ x16_2 (Int.tmod (wrap64 (a4)) (wrap64 ((wrap64 ((wrap64 (Int.tmod a0 4)) + 1)) + (wrap64 (Int.tmod a1 4))))) t187 t188 _ ?side1 ?side2 A47.out).mono ?_); (case side1 => repeat (first | exact (Kd.N_reads' HO_16.out).2.2 | (with_reducible refine Kd.C_alloc ?_ _) | (with_reducible refine Kd.C_drewN ?_ _) | (with_reducible refine Kd.C_drew ?_))); (case side2 => exact (Kd.N_reads' HO_16.out).2.1); rintro e w71 ⟨v189, rfl, ho0, hb⟩; refine ⟨_, rfl, ?_⟩; have n0_ := Aside0.mk (Kd.V_elder' (by (with_reducible repeat (first | apply Kd.V_alloc | apply Kd.V_drewN | apply Kd.V_drew)); exact HO_13.out) (Kd.R_base ho0) hb); have n1_ := Aside0.mk (Kd.N_elder' (by (with_reducible repeat (first | apply Kd.N_alloc | apply Kd.N_drewN | apply Kd.N_drew)); exact HO_14.out) (Kd.R_base ho0) hb); have n2_ := Aside0.mk (Kd.N_elder' (by (with_reducible repeat (first | apply Kd.N_alloc | apply Kd.N_drewN | apply Kd.N_drew)); exact HO_16.out) (Kd.R_base ho0) hb); have n3_ := Aside0.mk (Kd.V_elder' (by (with_reducible repeat (first | apply Kd.V_alloc | apply Kd.V_drewN | apply Kd.V_drew)); exact HO185.out) (Kd.R_base ho0) hb); have n4_ := Aside0.mk (Kd.R_lower ho0 (below_size (by repeat (first | (with_reducible first | exact HB.out | apply below_alloc | apply pw_below_drewN | apply below_drew1) | exact HB.out)))); have n5_ := Aside0.mk (below_step (by repeat (first | (with_reducible first | exact HB.out | apply below_alloc | apply pw_below_drewN | apply below_drew1) | exact HB.out)) hb); clear HO_13; clear HO_14; clear HO_16; clear HO185; clear HB; have HO_13 := n0_; have HO_14 := n1_; have HO_16 := n2_; have HO185 := n3_; have HO190 := n4_; have HB := n5_; clear n0_ n1_ n2_ n3_ n4_ n5_; (try clear hb); (try clear hb2); (try clear hk); (try clear hi); (try clear ho0)) | ((with_reducible refine gate_callee (f := 9) rfl ?_); refine goesL_ (some 105) rfl rfl Try.func9 (by kernel_rfl) rfl #[] rfl (by (try simp only [List.map_toArray, List.map_cons, List.map_nil]); first | done | rfl | (simp only [List.length_drop, List.length_take]; rfl)) ?_; (with_reducible refine (flittinglaw03_answers.calls  true _ A48.out).mono ?_); rintro e w72 ⟨rfl, hb⟩; refine ⟨_, rfl, ?_⟩; have n0_ := Aside0.mk (Kd.V_below (by (with_reducible repeat (first | apply Kd.V_alloc | apply Kd.V_drewN | apply Kd.V_drew)); exact HO_13.out) hb); have n1_ := Aside0.mk (Kd.N_below (by (with_reducible repeat (first | apply Kd.N_alloc | apply Kd.N_drewN | apply Kd.N_drew)); exact HO_14.out) hb); have n2_ := Aside0.mk (Kd.N_below (by (with_reducible repeat (first | apply Kd.N_alloc | apply Kd.N_drewN | apply Kd.N_drew)); exact HO_16.out) hb); have n3_ := Aside0.mk (Kd.V_below (by (with_reducible repeat (first | apply Kd.V_alloc | apply Kd.V_drewN | apply Kd.V_drew)); exact HO185.out) hb); have n4_ := Aside0.mk (Kd.R_below (by (with_reducible repeat (first | apply Kd.R_alloc | apply Kd.R_drewN | apply Kd.R_drew)); exact HO190.out) hb); have n5_ := Aside0.mk (below_step (by repeat (first | (with_reducible first | exact HB.out | apply below_alloc | apply pw_below_drewN | apply below_drew1) | exact HB.out)) hb); clear HO_13; clear HO_14; clear HO_16; clear HO185; clear HO190; clear HB; have HO_13 := n0_; have HO_14 := n1_; have HO_16 := n2_; have HO185 := n3_; have HO190 := n4_; have HB := n5_; clear n0_ n1_ n2_ n3_ n4_ n5_; (try clear hb); (try clear hb2); (try clear hk); (try clear hi); obtain ⟨Ao73, co73, eo73⟩ := Kd.V_slice HO185.out; subst eo73) | (go_at_call 14; (with_reducible refine (flittingref01_Same.calls kj30 _ _ t183 _ _ y167 false _ ?side1 ?side2 ?side3 ?side4 A51.out).mono ?_); (case side1 => repeat (first | exact (Kd.V_reads' HO185.out).2.2 | (with_reducible refine Kd.C_alloc ?_ _) | (with_reducible refine Kd.C_drewN ?_ _) | (with_reducible refine Kd.C_drew ?_))); (case side2 => exact (Kd.V_reads' HO185.out).2.1); (case side3 => repeat (first | exact (Kd.V_reads' HO_13.out).2.2 | (with_reducible refine Kd.C_alloc ?_ _) | (with_reducible refine Kd.C_drewN ?_ _) | (with_reducible refine Kd.C_drew ?_))); (case side4 => exact (Kd.V_reads' HO_13.out).2.1); rintro e w' ⟨rfl, ⟨nd, rfl⟩⟩))
                                      go_ret
                                      exact ⟨by first | rfl | (simp [errW_none, errW_some] <;> rfl) | (simp only [← hji11]; first | rfl | (simp [errW_none, errW_some] <;> rfl)) | (simp [*, errW_none, errW_some] <;> rfl), by repeat (first | (with_reducible first | exact HB.out | apply below_alloc | apply pw_below_drewN | apply below_drew1) | exact HB.out)⟩
                                  · rw [if_neg c50] at H
                                    have c50b0 : (t186 == 0) = false := beq_eq_false_iff_ne.mpr c50
                                    have c50b1 : (t186 != 0) = true := bne_iff_ne.mpr c50
                                    obtain rfl := Option.some.inj H
                                    obtain ⟨Ao74, co74, eo74⟩ := Kd.N_slice HO_16.out
                                    subst eo74
                                    go_wp2_with (first | ((with_reducible refine gate_callee (f := 13) rfl ?_); refine goesL_ (some 88) rfl rfl Try.func13 (by kernel_rfl) rfl #[.int .i64 (wrap64 ((wrap64 (Int.tmod a0 4)) + 1)), .int .i64 (wrap64 (Int.tmod a1 4)), .slice Ao74 x16_2.length co74] rfl (by (try simp only [List.map_toArray, List.map_cons, List.map_nil]); first | done | rfl | (simp only [List.length_drop, List.length_take]; rfl)) ?_; (with_reducible refine (rs_Decode.calls (wrap64 ((wrap64 (Int.tmod a0 4)) + 1)) (wrap64 (Int.tmod a1 4)) _ _ x16_2 t183 t186 _ ?side1 ?side2 A45.out).mono ?_); (case side1 => repeat (first | exact (Kd.N_reads' HO_16.out).2.2 | (with_reducible refine Kd.C_alloc ?_ _) | (with_reducible refine Kd.C_drewN ?_ _) | (with_reducible refine Kd.C_drew ?_))); (case side2 => exact (Kd.N_reads' HO_16.out).2.1); rintro e w75 ⟨v184, rfl, ho0, hb⟩; refine ⟨_, rfl, ?_⟩; have n0_ := Aside0.mk (Kd.V_below (by (with_reducible repeat (first | apply Kd.V_alloc | apply Kd.V_drewN | apply Kd.V_drew)); exact HO_13.out) hb); have n1_ := Aside0.mk (Kd.N_below (by (with_reducible repeat (first | apply Kd.N_alloc | apply Kd.N_drewN | apply Kd.N_drew)); exact HO_14.out) hb); have n2_ := Aside0.mk (Kd.N_below (by (with_reducible repeat (first | apply Kd.N_alloc | apply Kd.N_drewN | apply Kd.N_drew)); exact HO_16.out) hb); have n3_ := Aside0.mk (Kd.V_lower (Kd.V_mono (ok' := fun k_ => some k_ ≠ (.slice Ao30 t172.length co30 : Value).ownBlock ∧ some k_ ≠ (.slice Ao74 x16_2.length co74 : Value).ownBlock) ho0 (fun k_ hk_ => ⟨(Kd.fresh' (Kd.N_lt (by (with_reducible repeat (first | apply Kd.N_alloc | apply Kd.N_drewN | apply Kd.N_drew)); exact HO_14.out)) k_ hk_), (Kd.fresh' (Kd.N_lt (by (with_reducible repeat (first | apply Kd.N_alloc | apply Kd.N_drewN | apply Kd.N_drew)); exact HO_16.out)) k_ hk_)⟩)) (below_size (by repeat (first | (with_reducible first | exact HB.out | apply below_alloc | apply pw_below_drewN | apply below_drew1) | exact HB.out)))); have n4_ := Aside0.mk (below_step (by repeat (first | (with_reducible first | exact HB.out | apply below_alloc | apply pw_below_drewN | apply below_drew1) | exact HB.out)) hb); clear HO_13; clear HO_14; clear HO_16; clear HB; have HO_13 := n0_; have HO_14 := n1_; have HO_16 := n2_; have HO185 := n3_; have HB := n4_; clear n0_ n1_ n2_ n3_ n4_; (try clear hb); (try clear hb2); (try clear hk); (try clear hi); (try clear ho0)) | ((with_reducible refine gate_callee (f := 15) rfl ?_); refine goesL_ (some 102) rfl rfl Try.func15 (by kernel_rfl) rfl #[.int .i64 (wrap64 ((wrap64 (Int.tmod a0 4)) + 1)), .int .i64 (wrap64 (Int.tmod a1 4)), .slice Ao74 x16_2.length co74, .int .i64 (Int.tmod (wrap64 (a4)) (wrap64 ((wrap64 ((wrap64 (Int.tmod a0 4)) + 1)) + (wrap64 (Int.tmod a1 4)))))] rfl (by (try simp only [List.map_toArray, List.map_cons, List.map_nil]); first | done | rfl | (simp only [List.length_drop, List.length_take]; rfl)) ?_; (with_reducible refine (rs_Rebuild.calls kj30 (wrap64 ((wrap64 (Int.tmod a0 4)) + 1)) (wrap64 (Int.tmod a1 4)) _ _ x16_2 (Int.tmod (wrap64 (a4)) (wrap64 ((wrap64 ((wrap64 (Int.tmod a0 4)) + 1)) + (wrap64 (Int.tmod a1 4))))) t187 t188 _ ?side1 ?side2 A47.out).mono ?_); (case side1 => repeat (first | exact (Kd.N_reads' HO_16.out).2.2 | (with_reducible refine Kd.C_alloc ?_ _) | (with_reducible refine Kd.C_drewN ?_ _) | (with_reducible refine Kd.C_drew ?_))); (case side2 => exact (Kd.N_reads' HO_16.out).2.1); rintro e w76 ⟨v189, rfl, ho0, hb⟩; refine ⟨_, rfl, ?_⟩; have n0_ := Aside0.mk (Kd.V_elder' (by (with_reducible repeat (first | apply Kd.V_alloc | apply Kd.V_drewN | apply Kd.V_drew)); exact HO_13.out) (Kd.R_base ho0) hb); have n1_ := Aside0.mk (Kd.N_elder' (by (with_reducible repeat (first | apply Kd.N_alloc | apply Kd.N_drewN | apply Kd.N_drew)); exact HO_14.out) (Kd.R_base ho0) hb); have n2_ := Aside0.mk (Kd.N_elder' (by (with_reducible repeat (first | apply Kd.N_alloc | apply Kd.N_drewN | apply Kd.N_drew)); exact HO_16.out) (Kd.R_base ho0) hb); have n3_ := Aside0.mk (Kd.V_elder' (by (with_reducible repeat (first | apply Kd.V_alloc | apply Kd.V_drewN | apply Kd.V_drew)); exact HO185.out) (Kd.R_base ho0) hb); have n4_ := Aside0.mk (Kd.R_lower ho0 (below_size (by repeat (first | (with_reducible first | exact HB.out | apply below_alloc | apply pw_below_drewN | apply below_drew1) | exact HB.out)))); have n5_ := Aside0.mk (below_step (by repeat (first | (with_reducible first | exact HB.out | apply below_alloc | apply pw_below_drewN | apply below_drew1) | exact HB.out)) hb); clear HO_13; clear HO_14; clear HO_16; clear HO185; clear HB; have HO_13 := n0_; have HO_14 := n1_; have HO_16 := n2_; have HO185 := n3_; have HO190 := n4_; have HB := n5_; clear n0_ n1_ n2_ n3_ n4_ n5_; (try clear hb); (try clear hb2); (try clear hk); (try clear hi); (try clear ho0)) | ((with_reducible refine gate_callee (f := 9) rfl ?_); refine goesL_ (some 105) rfl rfl Try.func9 (by kernel_rfl) rfl #[] rfl (by (try simp only [List.map_toArray, List.map_cons, List.map_nil]); first | done | rfl | (simp only [List.length_drop, List.length_take]; rfl)) ?_; (with_reducible refine (flittinglaw03_answers.calls  true _ A48.out).mono ?_); rintro e w77 ⟨rfl, hb⟩; refine ⟨_, rfl, ?_⟩; have n0_ := Aside0.mk (Kd.V_below (by (with_reducible repeat (first | apply Kd.V_alloc | apply Kd.V_drewN | apply Kd.V_drew)); exact HO_13.out) hb); have n1_ := Aside0.mk (Kd.N_below (by (with_reducible repeat (first | apply Kd.N_alloc | apply Kd.N_drewN | apply Kd.N_drew)); exact HO_14.out) hb); have n2_ := Aside0.mk (Kd.N_below (by (with_reducible repeat (first | apply Kd.N_alloc | apply Kd.N_drewN | apply Kd.N_drew)); exact HO_16.out) hb); have n3_ := Aside0.mk (Kd.V_below (by (with_reducible repeat (first | apply Kd.V_alloc | apply Kd.V_drewN | apply Kd.V_drew)); exact HO185.out) hb); have n4_ := Aside0.mk (Kd.R_below (by (with_reducible repeat (first | apply Kd.R_alloc | apply Kd.R_drewN | apply Kd.R_drew)); exact HO190.out) hb); have n5_ := Aside0.mk (below_step (by repeat (first | (with_reducible first | exact HB.out | apply below_alloc | apply pw_below_drewN | apply below_drew1) | exact HB.out)) hb); clear HO_13; clear HO_14; clear HO_16; clear HO185; clear HO190; clear HB; have HO_13 := n0_; have HO_14 := n1_; have HO_16 := n2_; have HO185 := n3_; have HO190 := n4_; have HB := n5_; clear n0_ n1_ n2_ n3_ n4_ n5_; (try clear hb); (try clear hb2); (try clear hk); (try clear hi)))
                                    go_ret
                                    exact ⟨by first | rfl | (simp [errW_none, errW_some] <;> rfl) | (simp only [← hji11]; first | rfl | (simp [errW_none, errW_some] <;> rfl)) | (simp [*, errW_none, errW_some] <;> rfl), by repeat (first | (with_reducible first | exact HB.out | apply below_alloc | apply pw_below_drewN | apply below_drew1) | exact HB.out)⟩
                                · replace c49 := Bool.eq_false_iff.mpr c49
                                  subst c49
                                  have H1 : (some false) = some r := by rw [if_neg (show ¬ (false = true) by decide)] at H; exact H
                                  clear H
                                  have H := H1
                                  clear H1
                                  obtain rfl := Option.some.inj H
                                  obtain ⟨Ao78, co78, eo78⟩ := Kd.N_slice HO_16.out
                                  subst eo78
                                  go_wp2_with (first | ((with_reducible refine gate_callee (f := 13) rfl ?_); refine goesL_ (some 88) rfl rfl Try.func13 (by kernel_rfl) rfl #[.int .i64 (wrap64 ((wrap64 (Int.tmod a0 4)) + 1)), .int .i64 (wrap64 (Int.tmod a1 4)), .slice Ao78 x16_2.length co78] rfl (by (try simp only [List.map_toArray, List.map_cons, List.map_nil]); first | done | rfl | (simp only [List.length_drop, List.length_take]; rfl)) ?_; (with_reducible refine (rs_Decode.calls (wrap64 ((wrap64 (Int.tmod a0 4)) + 1)) (wrap64 (Int.tmod a1 4)) _ _ x16_2 t183 t186 _ ?side1 ?side2 A45.out).mono ?_); (case side1 => repeat (first | exact (Kd.N_reads' HO_16.out).2.2 | (with_reducible refine Kd.C_alloc ?_ _) | (with_reducible refine Kd.C_drewN ?_ _) | (with_reducible refine Kd.C_drew ?_))); (case side2 => exact (Kd.N_reads' HO_16.out).2.1); rintro e w79 ⟨v184, rfl, ho0, hb⟩; refine ⟨_, rfl, ?_⟩; have n0_ := Aside0.mk (Kd.V_below (by (with_reducible repeat (first | apply Kd.V_alloc | apply Kd.V_drewN | apply Kd.V_drew)); exact HO_13.out) hb); have n1_ := Aside0.mk (Kd.N_below (by (with_reducible repeat (first | apply Kd.N_alloc | apply Kd.N_drewN | apply Kd.N_drew)); exact HO_14.out) hb); have n2_ := Aside0.mk (Kd.N_below (by (with_reducible repeat (first | apply Kd.N_alloc | apply Kd.N_drewN | apply Kd.N_drew)); exact HO_16.out) hb); have n3_ := Aside0.mk (Kd.V_lower (Kd.V_mono (ok' := fun k_ => some k_ ≠ (.slice Ao30 t172.length co30 : Value).ownBlock ∧ some k_ ≠ (.slice Ao78 x16_2.length co78 : Value).ownBlock) ho0 (fun k_ hk_ => ⟨(Kd.fresh' (Kd.N_lt (by (with_reducible repeat (first | apply Kd.N_alloc | apply Kd.N_drewN | apply Kd.N_drew)); exact HO_14.out)) k_ hk_), (Kd.fresh' (Kd.N_lt (by (with_reducible repeat (first | apply Kd.N_alloc | apply Kd.N_drewN | apply Kd.N_drew)); exact HO_16.out)) k_ hk_)⟩)) (below_size (by repeat (first | (with_reducible first | exact HB.out | apply below_alloc | apply pw_below_drewN | apply below_drew1) | exact HB.out)))); have n4_ := Aside0.mk (below_step (by repeat (first | (with_reducible first | exact HB.out | apply below_alloc | apply pw_below_drewN | apply below_drew1) | exact HB.out)) hb); clear HO_13; clear HO_14; clear HO_16; clear HB; have HO_13 := n0_; have HO_14 := n1_; have HO_16 := n2_; have HO185 := n3_; have HB := n4_; clear n0_ n1_ n2_ n3_ n4_; (try clear hb); (try clear hb2); (try clear hk); (try clear hi); (try clear ho0)) | ((with_reducible refine gate_callee (f := 15) rfl ?_); refine goesL_ (some 102) rfl rfl Try.func15 (by kernel_rfl) rfl #[.int .i64 (wrap64 ((wrap64 (Int.tmod a0 4)) + 1)), .int .i64 (wrap64 (Int.tmod a1 4)), .slice Ao78 x16_2.length co78, .int .i64 (Int.tmod (wrap64 (a4)) (wrap64 ((wrap64 ((wrap64 (Int.tmod a0 4)) + 1)) + (wrap64 (Int.tmod a1 4)))))] rfl (by (try simp only [List.map_toArray, List.map_cons, List.map_nil]); first | done | rfl | (simp only [List.length_drop, List.length_take]; rfl)) ?_; (with_reducible refine (rs_Rebuild.calls kj30 (wrap64 ((wrap64 (Int.tmod a0 4)) + 1)) (wrap64 (Int.tmod a1 4)) _ _ x16_2 (Int.tmod (wrap64 (a4)) (wrap64 ((wrap64 ((wrap64 (Int.tmod a0 4)) + 1)) + (wrap64 (Int.tmod a1 4))))) t187 t188 _ ?side1 ?side2 A47.out).mono ?_); (case side1 => repeat (first | exact (Kd.N_reads' HO_16.out).2.2 | (with_reducible refine Kd.C_alloc ?_ _) | (with_reducible refine Kd.C_drewN ?_ _) | (with_reducible refine Kd.C_drew ?_))); (case side2 => exact (Kd.N_reads' HO_16.out).2.1); rintro e w80 ⟨v189, rfl, ho0, hb⟩; refine ⟨_, rfl, ?_⟩; have n0_ := Aside0.mk (Kd.V_elder' (by (with_reducible repeat (first | apply Kd.V_alloc | apply Kd.V_drewN | apply Kd.V_drew)); exact HO_13.out) (Kd.R_base ho0) hb); have n1_ := Aside0.mk (Kd.N_elder' (by (with_reducible repeat (first | apply Kd.N_alloc | apply Kd.N_drewN | apply Kd.N_drew)); exact HO_14.out) (Kd.R_base ho0) hb); have n2_ := Aside0.mk (Kd.N_elder' (by (with_reducible repeat (first | apply Kd.N_alloc | apply Kd.N_drewN | apply Kd.N_drew)); exact HO_16.out) (Kd.R_base ho0) hb); have n3_ := Aside0.mk (Kd.V_elder' (by (with_reducible repeat (first | apply Kd.V_alloc | apply Kd.V_drewN | apply Kd.V_drew)); exact HO185.out) (Kd.R_base ho0) hb); have n4_ := Aside0.mk (Kd.R_lower ho0 (below_size (by repeat (first | (with_reducible first | exact HB.out | apply below_alloc | apply pw_below_drewN | apply below_drew1) | exact HB.out)))); have n5_ := Aside0.mk (below_step (by repeat (first | (with_reducible first | exact HB.out | apply below_alloc | apply pw_below_drewN | apply below_drew1) | exact HB.out)) hb); clear HO_13; clear HO_14; clear HO_16; clear HO185; clear HB; have HO_13 := n0_; have HO_14 := n1_; have HO_16 := n2_; have HO185 := n3_; have HO190 := n4_; have HB := n5_; clear n0_ n1_ n2_ n3_ n4_ n5_; (try clear hb); (try clear hb2); (try clear hk); (try clear hi); (try clear ho0)) | ((with_reducible refine gate_callee (f := 9) rfl ?_); refine goesL_ (some 105) rfl rfl Try.func9 (by kernel_rfl) rfl #[] rfl (by (try simp only [List.map_toArray, List.map_cons, List.map_nil]); first | done | rfl | (simp only [List.length_drop, List.length_take]; rfl)) ?_; (with_reducible refine (flittinglaw03_answers.calls  false _ A48.out).mono ?_); rintro e w81 ⟨rfl, hb⟩; refine ⟨_, rfl, ?_⟩; have n0_ := Aside0.mk (Kd.V_below (by (with_reducible repeat (first | apply Kd.V_alloc | apply Kd.V_drewN | apply Kd.V_drew)); exact HO_13.out) hb); have n1_ := Aside0.mk (Kd.N_below (by (with_reducible repeat (first | apply Kd.N_alloc | apply Kd.N_drewN | apply Kd.N_drew)); exact HO_14.out) hb); have n2_ := Aside0.mk (Kd.N_below (by (with_reducible repeat (first | apply Kd.N_alloc | apply Kd.N_drewN | apply Kd.N_drew)); exact HO_16.out) hb); have n3_ := Aside0.mk (Kd.V_below (by (with_reducible repeat (first | apply Kd.V_alloc | apply Kd.V_drewN | apply Kd.V_drew)); exact HO185.out) hb); have n4_ := Aside0.mk (Kd.R_below (by (with_reducible repeat (first | apply Kd.R_alloc | apply Kd.R_drewN | apply Kd.R_drew)); exact HO190.out) hb); have n5_ := Aside0.mk (below_step (by repeat (first | (with_reducible first | exact HB.out | apply below_alloc | apply pw_below_drewN | apply below_drew1) | exact HB.out)) hb); clear HO_13; clear HO_14; clear HO_16; clear HO185; clear HO190; clear HB; have HO_13 := n0_; have HO_14 := n1_; have HO_16 := n2_; have HO185 := n3_; have HO190 := n4_; have HB := n5_; clear n0_ n1_ n2_ n3_ n4_ n5_; (try clear hb); (try clear hb2); (try clear hk); (try clear hi)))
                                  go_ret
                                  exact ⟨by first | rfl | (simp [errW_none, errW_some] <;> rfl) | (simp only [← hji11]; first | rfl | (simp [errW_none, errW_some] <;> rfl)) | (simp [*, errW_none, errW_some] <;> rfl), by repeat (first | (with_reducible first | exact HB.out | apply below_alloc | apply pw_below_drewN | apply below_drew1) | exact HB.out)⟩
                  · rw [if_neg c26] at H
                    exact absurd H (by simp)
          · rw [if_neg c13] at H
            exact absurd H (by simp)
        · rw [if_neg c12] at H
          exact absurd H (by simp)
      · rw [if_neg c10] at H
        exact absurd H (by simp)
    · rw [if_neg c9] at H
      exact absurd H (by simp)

/-- THE ONE PURE STATEMENT of flittinglaw03_RsAny: yours. -/
def flittinglaw03_RsAny.Pure : Prop := ∀ (a0 : Int) (a1 : Int) (l2 : List Int) (a3 : Int) (a4 : Int), (Lit.int .u8 a0).wf = true → (Lit.int .u8 a1).wf = true → l2.length ≤ maxLen → l2.length * 1 ≤ 140737488351232 → (∀ x ∈ l2, (Lit.int .u8 x).wf = true) → (Lit.int .u8 a3).wf = true → (Lit.int .u8 a4).wf = true → ∃ k, flittinglaw03_RsAny.f k a0 a1 l2 a3 a4 = some true
theorem flittinglaw03_RsAny.walk (P : flittinglaw03_RsAny.Pure) (a0 : Int) (a1 : Int) (a2 : Option Addr) (len2 cap2 : Nat) (z2 : List Int) (a3 : Int) (a4 : Int) (w : World) (w0 : (Lit.int .u8 a0).wf = true) (w1 : (Lit.int .u8 a1).wf = true) (w2 : (a2 = none ∧ len2 = 0 ∧ cap2 = 0 ∧ z2 = []) ∨ ∃ x, a2 = some x ∧ len2 ≤ cap2 ∧ cap2 ≤ maxLen ∧ z2.length = cap2 ∧ (∀ i, i < z2.length → w.cell? (x.add i) = some (.int .u8 (z2.getD i 0))) ∧ ∀ n ∈ z2, (Lit.int .u8 n).wf = true) (y2 : len2 * 1 ≤ 140737488351232) (w3 : (Lit.int .u8 a3).wf = true) (w4 : (Lit.int .u8 a4).wf = true) :
    Calls Try.prog 7 #[.int .u8 a0, .int .u8 a1, .slice a2 len2 cap2, .int .u8 a3, .int .u8 a4] w fun e w' => e = .returned (.bool true) ∧ Below w.heap.size w w' := by
  obtain ⟨l2, rfl, hr2, hm2, hw2, hc2⟩ := ReadsInt.ofRowC w2
  obtain ⟨k, h⟩ := P a0 a1 l2 a3 a4 w0 w1 hm2 y2 hw2 w3 w4
  refine (flittinglaw03_RsAny.calls k a0 a1 _ _ l2 a3 a4 true w (Kd.C_of_reads (d := (0 : Int)) (h1 := fun _ => rfl) hr2) hc2 h).mono ?_
  rintro e w' ⟨rfl, hd⟩
  exact ⟨rfl, hd⟩

end Go.Proofs.Ytpgehfchdhjjeaa.PRsAny
