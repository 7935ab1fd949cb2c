-- Written by myprint.py (this session's own driver of the kit's print, with contracts of its own handed in).
import Derived.Test.YtfjjfoijjlpcjaaPTapeSidesx0
import Derived.Test.YtfjjfoijjlpcjaaPTapeSidesx1
namespace Go.Proofs.Ytfjjfoijjlpcjaa.PTapeSides
open Go.RowKit Go.Proofs.YtfjjfoijjlpcjaaW.PrintWords Go.Proofs.YtfjjfoijjlpcjaaW.PrintLast Go.Proofs.YtfjjfoijjlpcjaaW.PrintMore
attribute [local go_sem] max2_int min2_int max_two min_two max_three min_three max_four min_four   -- for this text's walks alone
set_option linter.unusedVariables false
set_option linter.unusedSimpArgs false

/-! ### flittinglaw10_TapeSides: function 4, by hand -/
open Go.Proofs.Ytfjjfoijjlpcjaa.Tp
theorem same_run (d : Nat) : ∀ (k i : Nat) (a : List Int), d + i = a.length → d < k → a.length < 1000000 → flittingref01_Same.l0 k a a (i : Int) = some true := by
  induction d with
  | zero =>
    intro k i a hd hk _
    obtain ⟨k, rfl⟩ : ∃ m, k = m + 1 := ⟨k - 1, by omega⟩
    simp only [flittingref01_Same.l0]
    rw [if_neg (by omega)]
  | succ d ih =>
    intro k i a hd hk hm
    obtain ⟨k, rfl⟩ : ∃ m, k = m + 1 := ⟨k - 1, by omega⟩
    simp only [flittingref01_Same.l0]
    rw [if_pos (by omega), if_pos (by omega), if_pos (by omega), show wrap64 ((i : Int) + 1) = ((i + 1 : Nat) : Int) from by unfold wrap64; omega]
    exact ih k (i + 1) a (by omega) (by omega) hm
theorem same_f (k : Nat) (a : List Int) (hk : a.length < k) (hm : a.length < 1000000) : flittingref01_Same.f k a a = some true := by
  unfold flittingref01_Same.f
  rw [if_pos rfl]
  exact same_run a.length k 0 a (by omega) hk hm
theorem crB_len (s : Sd) (k : Int) : (s.crB k).length ≤ s.b.length + s.l.length := by
  unfold Sd.crB
  split
  · split
    · split <;> omega
    · rw [List.length_append, List.length_take]; omega
  · omega
set_option maxHeartbeats 16000000 in
set_option maxRecDepth 100000 in
theorem flittinglaw10_TapeSides.c0f (a0 : Option Addr) (cap0 : Nat) (a1 : Option Addr) (cap1 : Nat) (la lb : List Int) (a2 k : Int) (w : World) (HRa : Aside0 (U8.C w a0 la.length la)) (HRb : Aside0 (U8.C w a1 lb.length lb)) (HCa : Aside0 (la.length ≤ cap0)) (HCb : Aside0 (lb.length ≤ cap1)) (HLa : Aside0 (la.length ≤ 300)) (HLb : Aside0 (lb.length ≤ 300)) (hf : a2.tmod 4 = 0) :
    Calls Try.prog 4 #[.slice a0 la.length cap0, .slice a1 lb.length cap1, .int .u8 a2, .int .i64 k, .bool false] w fun e w' => e = .returned (.bool true) ∧ Below w.heap.size w w' := by
  have HFa0 : Aside0 (Kd.F U8 w (fun k => k < w.heap.size) a0 la.length la) := ⟨Kd.C_F (Kd.heap_int _) HRa.out⟩
  have HFb0 : Aside0 (Kd.F U8 w (fun k => k < w.heap.size) a1 lb.length lb) := ⟨Kd.C_F (Kd.heap_int _) HRb.out⟩
  have d1 : decide ((300 : Int) < (la.length : Int)) = false := decide_eq_false (by have := HLa.out; omega)
  have d2 : decide (300 < la.length) = false := decide_eq_false (by have := HLa.out; omega)
  have d3 : decide ((300 : Int) < (lb.length : Int)) = false := decide_eq_false (by have := HLb.out; omega)
  have d4 : decide (300 < lb.length) = false := decide_eq_false (by have := HLb.out; omega)
  go_enter Try.func4, Try.ntmps4
  go_wp2_with fail
  refine (new_calls (fun k => k ≠ w.heap.size) w).mono ?_
  rintro e w1 ⟨rfl, hT1, hb1⟩
  have HB1 : Aside0 (Below w.heap.size w w1) := ⟨hb1⟩
  have HA : Aside0 _ := ⟨append_calls w.heap.size _ la a0 la.length cap0 _ _ hT1 (Kd.F_mono (Kd.F_below HFa0.out HB1.out) (fun k hk => by omega)) (fun _ h => h) (fun k hk => by have := hb1.size; have := tp_lt hT1; omega) ⟨by simp, by simp, by have := HLa.out; have := HLb.out; simp; omega, by have := HLa.out; have := HLb.out; simp; omega⟩⟩
  clear hT1 hb1
  go_wp2_with fail
  refine HA.out.mono ?_
  rintro e w2 ⟨rfl, hT2, hk2⟩
  have hT2' : Tp w2 (fun k => k ≠ w.heap.size) w.heap.size ⟨⟨la, [], false, false, false⟩, ⟨la, [], false, false, false⟩, -1, false⟩ := hT2
  have HB2 : Aside0 (Below w.heap.size w w2) := ⟨hk2.under HB1.out (Nat.le_refl _)⟩
  have HT2 := Aside0.mk hT2'
  clear hT2 hT2' hk2 HA
  go_wp2_with fail
  refine (fuse_calls w.heap.size _ 0 _ w2 HT2.out (fun _ h => h)).mono ?_
  rintro e w3 ⟨rfl, hT3, hk3⟩
  have HT3 : Aside0 (Tp w3 (fun k => k ≠ w.heap.size) w.heap.size ⟨⟨la, [], false, false, false⟩, ⟨la, [], false, false, false⟩, 0, false⟩) := ⟨hT3⟩
  have HB3 : Aside0 (Below w.heap.size w w3) := ⟨hk3.under HB2.out (Nat.le_refl _)⟩
  clear hT3 hk3
  have HM : Aside0 (U8.R 5 (w3.alloc (.cells #[] 5)) w3.heap.size (fun _ => True) (.slice (some ⟨w3.heap.size, 0, none⟩) 0 0) []) :=
    ⟨⟨fun _ _ => trivial, [], World.ownsRow_made w3 #[] 0 (Nat.le_refl _) (Nat.zero_le _) rfl, Reps.none _ _⟩⟩
  have HB4 : Aside0 (Below w3.heap.size w3 (w3.alloc (.cells #[] 5))) := ⟨(Below.refl _ _).alloc (Nat.le_refl _) _⟩
  go_wp2_with (first | (at_builtin; refine Kd.R_append_rows U8 (w0 := w3) (Rr := U8.K w) w3.heap.size rfl (.tmp 36) (.tmp 37) 22 5 (.int .u8 0) 1 rfl Try.underlying22 info5 rfl (by decide) (by decide) (.slice (some ⟨w3.heap.size, 0, none⟩) 0 0) [] la a0 la.length cap0 (fun _ => True) (fun _ => False) rfl rfl HM.out (Kd.C_below (Kd.C_below HRa.out HB3.out) HB4.out) (fun _ _ h => h) (fun _ hk => hk.elim) (fun _ _ => trivial) HB4.out HB4.out.size ?aL ?_; (case aL => have := HLa.out; simp only [List.length_nil]; omega); intro v1 w4 ho hb hg hat; have HO1 : Aside0 (U8.R 5 w4 w3.heap.size (fun _ => True) v1 la) := ⟨ho⟩; have HB5 := Aside0.mk hb; clear ho hb hg hat HM HB4) | (at_builtin; refine Kd.R_append_rows U8 (w0 := w3) (Rr := U8.K w) w3.heap.size rfl (.tmp 38) (.tmp 39) 22 5 (.int .u8 0) 1 rfl Try.underlying22 info5 rfl (by decide) (by decide) v1 la lb a1 lb.length cap1 (fun _ => True) (fun _ => False) rfl rfl HO1.out (Kd.C_below (Kd.C_below HRb.out HB3.out) HB5.out) (fun _ _ h => h) (fun _ hk => hk.elim) (fun _ _ => trivial) HB5.out HB5.out.size ?aL ?_; (case aL => have := HLa.out; have := HLb.out; omega); intro v2 w5 ho hb hg hat; obtain ⟨X, hX⟩ : ∃ X, X = la ++ lb := ⟨_, rfl⟩; rw [← hX] at ho; have HX0 := Aside0.mk hX; clear hX; have HV5 := Aside0.mk (vb_new (ok := fun k => k ≠ w.heap.size) ho (fun k hk => by have := tp_lt HT3.out; omega)); obtain ⟨Aw, cw, ew⟩ := Kd.R_slice ho; subst ew; have HB6 := Aside0.mk hb; have HT5 := Aside0.mk (tp_below HT3.out hb); have HB5w : Aside0 (Below w.heap.size w w5) := ⟨HB3.out.trans (hb.mono HB3.out.size)⟩; clear ho hb hg hat))
  have HA : Aside0 _ := ⟨append_calls w.heap.size _ lb a1 lb.length cap1 _ _ HT5.out (Kd.F_mono (Kd.F_below HFb0.out HB5w.out) (fun k hk => by omega)) (fun _ h => h) (fun k hk => by have := tp_lt HT5.out; omega) ⟨by simp, by simp, by have := HLa.out; have := HLb.out; simp; omega, by have := HLa.out; have := HLb.out; simp; omega⟩⟩
  refine HA.out.mono ?_
  rintro e w6 ⟨rfl, hT6, hk6⟩
  have HT6 : Aside0 (Tp w6 (fun k => k ≠ w.heap.size) w.heap.size ⟨⟨la, lb, false, true, false⟩, ⟨la, [], false, false, false⟩, 0, true⟩) := ⟨hT6⟩
  have e9 : (Ta.write ⟨⟨la, [], false, false, false⟩, ⟨la, [], false, false, false⟩, 0, false⟩ lb false).2 = 9 := rfl
  rw [e9]
  have HB6w : Aside0 (Below w.heap.size w w6) := ⟨hk6.under HB5w.out (Nat.le_refl _)⟩
  have HV6 := Aside0.mk (vb_kp HV5.out hk6 (fun _ h => h))
  clear hT6 hk6 HA e9
  have HA : Aside0 _ := ⟨crash_calls w.heap.size _ k _ _ HT6.out (fun _ h => h) (fun k hk => by have := tp_lt HT6.out; omega) (by have := HLa.out; have := HLb.out; simp; omega) (by have := HLa.out; have := HLb.out; simp; omega)⟩
  go_wp2_with fail
  refine HA.out.mono ?_
  rintro e w11 ⟨rfl, hT11, hk11⟩
  have hl0 : (Sd.crB ⟨la, lb, false, true, false⟩ k).length ≤ 600 := Nat.le_trans (crB_len _ _) (by have := HLa.out; have := HLb.out; simp; omega)
  have hl1 : (Sd.crB ⟨la, [], false, false, false⟩ k).length ≤ 600 := Nat.le_trans (crB_len _ _) (by have := HLa.out; have := HLb.out; simp; omega)
  have HT11 := Aside0.mk hT11
  have HB11 : Aside0 (Below w.heap.size w w11) := ⟨hk11.under HB6w.out (Nat.le_refl _)⟩
  have HV11 := Aside0.mk (vb_kp HV6.out hk11 (fun _ h => h))
  have HC0 : Aside0 _ := ⟨read0_calls w.heap.size _ _ w11 HT11.out rfl (show (Sd.crB ⟨la, lb, false, true, false⟩ k).length + 0 < _ by omega)⟩
  clear hT11 hk11 HA hl0
  go_wp2_with fail
  refine HC0.out.mono ?_
  rintro e w12 ⟨v12, rfl, ho12, hb12⟩
  have ho12' : U8.R 5 w12 w11.heap.size (fun _ => True) v12 (Sd.crB ⟨la, lb, false, true, false⟩ k) := ho12
  obtain ⟨A12, c12, e12, hl12, hF12⟩ := Kd.R_V (base' := 0) ho12'
  subst e12
  have HF12 := Aside0.mk hF12
  have HL12 := Aside0.mk hl12
  have HT12 := Aside0.mk (tp_below HT11.out hb12)
  have HB12 : Aside0 (Below w.heap.size w w12) := ⟨HB11.out.trans (hb12.mono HB11.out.size)⟩
  have HV12 := Aside0.mk (Kd.V_below HV11.out hb12)
  have HC1 : Aside0 _ := ⟨read1_calls w.heap.size _ _ w12 HT12.out rfl (show (Sd.crB ⟨la, [], false, false, false⟩ k).length + 0 < _ by omega)⟩
  clear ho12 ho12' hb12 hl12 hF12 hl1 HC0
  go_wp2_with fail
  refine HC1.out.mono ?_
  rintro e w13 ⟨v13, rfl, ho13, hb13⟩
  have ho13' : U8.R 5 w13 w12.heap.size (fun _ => True) v13 la := ho13
  obtain ⟨A13, c13, e13, hl13, hF13⟩ := Kd.R_V (base' := 0) ho13'
  subst e13
  have HF13 := Aside0.mk hF13
  have HL13 := Aside0.mk hl13
  have HB13 : Aside0 (Below w.heap.size w w13) := ⟨HB12.out.trans (hb13.mono HB12.out.size)⟩
  have HF12b := Aside0.mk (Kd.F_below HF12.out hb13)
  have HV13 := Aside0.mk (Kd.V_below HV12.out hb13)
  clear ho13 ho13' hb13 hl13 hF13 HC1
  go_wp2_with fail
  refine (answers_calls w13).mono ?_
  rintro e w14 ⟨rfl, hb14⟩
  have HB14 : Aside0 (Below w.heap.size w w14) := ⟨HB13.out.trans (hb14.mono HB13.out.size)⟩
  have HX := Aside0.mk (Kd.F_now (Kd.F_below HF12b.out hb14))
  have HY := Aside0.mk (Kd.F_now (Kd.F_below HF13.out hb14))
  obtain ⟨hnw, hlw, hFw⟩ := Kd.V_at (Kd.V_below HV13.out hb14)
  have HW := Aside0.mk (Kd.F_now hFw)
  have hlw' : X.length ≤ cw := hlw
  have HLW := Aside0.mk hlw'
  clear hnw hlw hlw' hFw
  have HRa14 := Aside0.mk (Kd.C_below HRa.out HB14.out)
  clear hb14
  go_wp2_with fail
  refine (flittingref01_Same.calls 2000 A13 c13 la a0 cap0 la true _ HY.out HL13.out HRa14.out HCa.out (same_f _ _ (by have := HLa.out; have := HLb.out; (try rw [HX0.out]); (try simp only [List.length_append]); omega) (by have := HLa.out; have := HLb.out; (try rw [HX0.out]); (try simp only [List.length_append]); omega))).mono ?_
  rintro e w15 ⟨rfl, ⟨nd15, rfl⟩⟩
  go_wp2
  go_ret
  exact ⟨rfl, pw_below_drewN HB14.out _⟩
set_option maxHeartbeats 16000000 in
set_option maxRecDepth 100000 in
theorem flittinglaw10_TapeSides.c0t (a0 : Option Addr) (cap0 : Nat) (a1 : Option Addr) (cap1 : Nat) (la lb : List Int) (a2 k : Int) (w : World) (HRa : Aside0 (U8.C w a0 la.length la)) (HRb : Aside0 (U8.C w a1 lb.length lb)) (HCa : Aside0 (la.length ≤ cap0)) (HCb : Aside0 (lb.length ≤ cap1)) (HLa : Aside0 (la.length ≤ 300)) (HLb : Aside0 (lb.length ≤ 300)) (hf : a2.tmod 4 = 0) :
    Calls Try.prog 4 #[.slice a0 la.length cap0, .slice a1 lb.length cap1, .int .u8 a2, .int .i64 k, .bool true] w fun e w' => e = .returned (.bool true) ∧ Below w.heap.size w w' := by
  have HFa0 : Aside0 (Kd.F U8 w (fun k => k < w.heap.size) a0 la.length la) := ⟨Kd.C_F (Kd.heap_int _) HRa.out⟩
  have HFb0 : Aside0 (Kd.F U8 w (fun k => k < w.heap.size) a1 lb.length lb) := ⟨Kd.C_F (Kd.heap_int _) HRb.out⟩
  have d1 : decide ((300 : Int) < (la.length : Int)) = false := decide_eq_false (by have := HLa.out; omega)
  have d2 : decide (300 < la.length) = false := decide_eq_false (by have := HLa.out; omega)
  have d3 : decide ((300 : Int) < (lb.length : Int)) = false := decide_eq_false (by have := HLb.out; omega)
  have d4 : decide (300 < lb.length) = false := decide_eq_false (by have := HLb.out; omega)
  go_enter Try.func4, Try.ntmps4
  go_wp2_with fail
  refine (new_calls (fun k => k ≠ w.heap.size) w).mono ?_
  rintro e w1 ⟨rfl, hT1, hb1⟩
  have HB1 : Aside0 (Below w.heap.size w w1) := ⟨hb1⟩
  have HA : Aside0 _ := ⟨append_calls w.heap.size _ la a0 la.length cap0 _ _ hT1 (Kd.F_mono (Kd.F_below HFa0.out HB1.out) (fun k hk => by omega)) (fun _ h => h) (fun k hk => by have := hb1.size; have := tp_lt hT1; omega) ⟨by simp, by simp, by have := HLa.out; have := HLb.out; simp; omega, by have := HLa.out; have := HLb.out; simp; omega⟩⟩
  clear hT1 hb1
  go_wp2_with fail
  refine HA.out.mono ?_
  rintro e w2 ⟨rfl, hT2, hk2⟩
  have hT2' : Tp w2 (fun k => k ≠ w.heap.size) w.heap.size ⟨⟨la, [], false, false, false⟩, ⟨la, [], false, false, false⟩, -1, false⟩ := hT2
  have HB2 : Aside0 (Below w.heap.size w w2) := ⟨hk2.under HB1.out (Nat.le_refl _)⟩
  have HT2 := Aside0.mk hT2'
  clear hT2 hT2' hk2 HA
  go_wp2_with fail
  refine (fuse_calls w.heap.size _ 0 _ w2 HT2.out (fun _ h => h)).mono ?_
  rintro e w3 ⟨rfl, hT3, hk3⟩
  have HT3 : Aside0 (Tp w3 (fun k => k ≠ w.heap.size) w.heap.size ⟨⟨la, [], false, false, false⟩, ⟨la, [], false, false, false⟩, 0, false⟩) := ⟨hT3⟩
  have HB3 : Aside0 (Below w.heap.size w w3) := ⟨hk3.under HB2.out (Nat.le_refl _)⟩
  clear hT3 hk3
  have HM : Aside0 (U8.R 5 (w3.alloc (.cells #[] 5)) w3.heap.size (fun _ => True) (.slice (some ⟨w3.heap.size, 0, none⟩) 0 0) []) :=
    ⟨⟨fun _ _ => trivial, [], World.ownsRow_made w3 #[] 0 (Nat.le_refl _) (Nat.zero_le _) rfl, Reps.none _ _⟩⟩
  have HB4 : Aside0 (Below w3.heap.size w3 (w3.alloc (.cells #[] 5))) := ⟨(Below.refl _ _).alloc (Nat.le_refl _) _⟩
  go_wp2_with (first | (at_builtin; refine Kd.R_append_rows U8 (w0 := w3) (Rr := U8.K w) w3.heap.size rfl (.tmp 36) (.tmp 37) 22 5 (.int .u8 0) 1 rfl Try.underlying22 info5 rfl (by decide) (by decide) (.slice (some ⟨w3.heap.size, 0, none⟩) 0 0) [] la a0 la.length cap0 (fun _ => True) (fun _ => False) rfl rfl HM.out (Kd.C_below (Kd.C_below HRa.out HB3.out) HB4.out) (fun _ _ h => h) (fun _ hk => hk.elim) (fun _ _ => trivial) HB4.out HB4.out.size ?aL ?_; (case aL => have := HLa.out; simp only [List.length_nil]; omega); intro v1 w4 ho hb hg hat; have HO1 : Aside0 (U8.R 5 w4 w3.heap.size (fun _ => True) v1 la) := ⟨ho⟩; have HB5 := Aside0.mk hb; clear ho hb hg hat HM HB4) | (at_builtin; refine Kd.R_append_rows U8 (w0 := w3) (Rr := U8.K w) w3.heap.size rfl (.tmp 38) (.tmp 39) 22 5 (.int .u8 0) 1 rfl Try.underlying22 info5 rfl (by decide) (by decide) v1 la lb a1 lb.length cap1 (fun _ => True) (fun _ => False) rfl rfl HO1.out (Kd.C_below (Kd.C_below HRb.out HB3.out) HB5.out) (fun _ _ h => h) (fun _ hk => hk.elim) (fun _ _ => trivial) HB5.out HB5.out.size ?aL ?_; (case aL => have := HLa.out; have := HLb.out; omega); intro v2 w5 ho hb hg hat; obtain ⟨X, hX⟩ : ∃ X, X = la ++ lb := ⟨_, rfl⟩; rw [← hX] at ho; have HX0 := Aside0.mk hX; clear hX; have HV5 := Aside0.mk (vb_new (ok := fun k => k ≠ w.heap.size) ho (fun k hk => by have := tp_lt HT3.out; omega)); obtain ⟨Aw, cw, ew⟩ := Kd.R_slice ho; subst ew; have HB6 := Aside0.mk hb; have HT5 := Aside0.mk (tp_below HT3.out hb); have HB5w : Aside0 (Below w.heap.size w w5) := ⟨HB3.out.trans (hb.mono HB3.out.size)⟩; clear ho hb hg hat))
  have HA : Aside0 _ := ⟨append_calls w.heap.size _ lb a1 lb.length cap1 _ _ HT5.out (Kd.F_mono (Kd.F_below HFb0.out HB5w.out) (fun k hk => by omega)) (fun _ h => h) (fun k hk => by have := tp_lt HT5.out; omega) ⟨by simp, by simp, by have := HLa.out; have := HLb.out; simp; omega, by have := HLa.out; have := HLb.out; simp; omega⟩⟩
  refine HA.out.mono ?_
  rintro e w6 ⟨rfl, hT6, hk6⟩
  have HT6 : Aside0 (Tp w6 (fun k => k ≠ w.heap.size) w.heap.size ⟨⟨la, lb, false, true, false⟩, ⟨la, [], false, false, false⟩, 0, true⟩) := ⟨hT6⟩
  have e9 : (Ta.write ⟨⟨la, [], false, false, false⟩, ⟨la, [], false, false, false⟩, 0, false⟩ lb false).2 = 9 := rfl
  rw [e9]
  have HB6w : Aside0 (Below w.heap.size w w6) := ⟨hk6.under HB5w.out (Nat.le_refl _)⟩
  have HV6 := Aside0.mk (vb_kp HV5.out hk6 (fun _ h => h))
  clear hT6 hk6 HA e9
  have HG2 : Aside0 (w.heap.size ≤ w6.heap.size) := ⟨HB6w.out.size⟩
  go_wp2_with fail
  refine (new_calls (fun k => k ≠ w6.heap.size) w6).mono ?_
  rintro e w7 ⟨rfl, hT1, hb1⟩
  have HB7 : Aside0 (Below w.heap.size w w7) := ⟨HB6w.out.trans (hb1.mono HB6w.out.size)⟩
  have HA : Aside0 _ := ⟨append_calls w6.heap.size _ la a0 la.length cap0 _ _ hT1 (Kd.F_mono (Kd.F_below HFa0.out HB7.out) (fun k hk => by have := HG2.out; omega)) (fun _ h => h) (fun k hk => by have := hb1.size; have := tp_lt hT1; omega) ⟨by simp, by simp, by have := HLa.out; have := HLb.out; simp; omega, by have := HLa.out; have := HLb.out; simp; omega⟩⟩
  clear hT1 hb1
  go_wp2_with fail
  refine HA.out.mono ?_
  rintro e w8 ⟨rfl, hT2, hk2⟩
  have hT2' : Tp w8 (fun k => k ≠ w6.heap.size) w6.heap.size ⟨⟨la, [], false, false, false⟩, ⟨la, [], false, false, false⟩, -1, false⟩ := hT2
  have HB8 : Aside0 (Below w.heap.size w w8) := ⟨hk2.under HB7.out HG2.out⟩
  have HT2 := Aside0.mk hT2'
  clear hT2 hT2' hk2 HA
  go_wp2_with fail
  refine (fuse_calls w6.heap.size _ 0 _ w8 HT2.out (fun _ h => h)).mono ?_
  rintro e w9 ⟨rfl, hT3, hk3⟩
  have HT9 : Aside0 (Tp w9 (fun k => k ≠ w6.heap.size) w6.heap.size ⟨⟨la, [], false, false, false⟩, ⟨la, [], false, false, false⟩, 0, false⟩) := ⟨hT3⟩
  have HB9 : Aside0 (Below w.heap.size w w9) := ⟨hk3.under HB8.out HG2.out⟩
  clear hT3 hk3
  have HA : Aside0 _ := ⟨replace_calls w6.heap.size _ lb a1 lb.length cap1 _ _ HT9.out (Kd.F_mono (Kd.F_below HFb0.out HB9.out) (fun k hk => by have := HG2.out; omega)) (fun _ h => h) (fun k hk => by have := tp_lt HT9.out; omega) ⟨by simp, by simp, by have := HLa.out; have := HLb.out; simp; omega, by have := HLa.out; have := HLb.out; simp; omega⟩⟩
  go_wp2_with fail
  refine HA.out.mono ?_
  rintro e w10 ⟨rfl, hT10, hk10⟩
  have HT10 : Aside0 (Tp w10 (fun k => k ≠ w6.heap.size) w6.heap.size ⟨⟨la, lb, true, true, false⟩, ⟨la, [], false, false, false⟩, 0, true⟩) := ⟨hT10⟩
  have e9 : (Ta.write ⟨⟨la, [], false, false, false⟩, ⟨la, [], false, false, false⟩, 0, false⟩ lb true).2 = 9 := rfl
  rw [e9]
  have HB10 : Aside0 (Below w.heap.size w w10) := ⟨hk10.under HB9.out HG2.out⟩
  clear hT10 hk10 HA e9
  have HA : Aside0 _ := ⟨crash_calls w6.heap.size _ k _ _ HT10.out (fun _ h => h) (fun k hk => by have := tp_lt HT10.out; omega) (by have := HLa.out; have := HLb.out; simp; omega) (by have := HLa.out; have := HLb.out; simp; omega)⟩
  go_wp2_with fail
  refine HA.out.mono ?_
  rintro e w11 ⟨rfl, hT11, hk11⟩
  have hl0 : (Sd.crB ⟨la, lb, true, true, false⟩ k).length ≤ 600 := Nat.le_trans (crB_len _ _) (by have := HLa.out; have := HLb.out; simp; omega)
  have hl1 : (Sd.crB ⟨la, [], false, false, false⟩ k).length ≤ 600 := Nat.le_trans (crB_len _ _) (by have := HLa.out; have := HLb.out; simp; omega)
  have HT11 := Aside0.mk hT11
  have HB11 : Aside0 (Below w.heap.size w w11) := ⟨hk11.under HB10.out HG2.out⟩
  skip
  have HC0 : Aside0 _ := ⟨read0_calls w6.heap.size _ _ w11 HT11.out rfl (show (Sd.crB ⟨la, lb, true, true, false⟩ k).length + 0 < _ by omega)⟩
  clear hT11 hk11 HA hl0
  go_wp2_with fail
  refine HC0.out.mono ?_
  rintro e w12 ⟨v12, rfl, ho12, hb12⟩
  have ho12' : U8.R 5 w12 w11.heap.size (fun _ => True) v12 (Sd.crB ⟨la, lb, true, true, false⟩ k) := ho12
  obtain ⟨A12, c12, e12, hl12, hF12⟩ := Kd.R_V (base' := 0) ho12'
  subst e12
  have HF12 := Aside0.mk hF12
  have HL12 := Aside0.mk hl12
  have HT12 := Aside0.mk (tp_below HT11.out hb12)
  have HB12 : Aside0 (Below w.heap.size w w12) := ⟨HB11.out.trans (hb12.mono HB11.out.size)⟩
  skip
  have HC1 : Aside0 _ := ⟨read1_calls w6.heap.size _ _ w12 HT12.out rfl (show (Sd.crB ⟨la, [], false, false, false⟩ k).length + 0 < _ by omega)⟩
  clear ho12 ho12' hb12 hl12 hF12 hl1 HC0
  go_wp2_with fail
  refine HC1.out.mono ?_
  rintro e w13 ⟨v13, rfl, ho13, hb13⟩
  have ho13' : U8.R 5 w13 w12.heap.size (fun _ => True) v13 la := ho13
  obtain ⟨A13, c13, e13, hl13, hF13⟩ := Kd.R_V (base' := 0) ho13'
  subst e13
  have HF13 := Aside0.mk hF13
  have HL13 := Aside0.mk hl13
  have HB13 : Aside0 (Below w.heap.size w w13) := ⟨HB12.out.trans (hb13.mono HB12.out.size)⟩
  have HF12b := Aside0.mk (Kd.F_below HF12.out hb13)
  skip
  clear ho13 ho13' hb13 hl13 hF13 HC1
  go_wp2_with fail
  refine (answers_calls w13).mono ?_
  rintro e w14 ⟨rfl, hb14⟩
  have HB14 : Aside0 (Below w.heap.size w w14) := ⟨HB13.out.trans (hb14.mono HB13.out.size)⟩
  have HX := Aside0.mk (Kd.F_now (Kd.F_below HF12b.out hb14))
  have HY := Aside0.mk (Kd.F_now (Kd.F_below HF13.out hb14))
  have HW := Aside0.mk (Kd.C_below HRb.out HB14.out)
  have HLW := HCb
  have HRa14 := Aside0.mk (Kd.C_below HRa.out HB14.out)
  clear hb14
  go_wp2_with fail
  refine (flittingref01_Same.calls 2000 A13 c13 la a0 cap0 la true _ HY.out HL13.out HRa14.out HCa.out (same_f _ _ (by have := HLa.out; have := HLb.out; (try rw [HX0.out]); (try simp only [List.length_append]); omega) (by have := HLa.out; have := HLb.out; (try rw [HX0.out]); (try simp only [List.length_append]); omega))).mono ?_
  rintro e w15 ⟨rfl, ⟨nd15, rfl⟩⟩
  go_wp2
  go_ret
  exact ⟨rfl, pw_below_drewN HB14.out _⟩
set_option maxHeartbeats 16000000 in
set_option maxRecDepth 100000 in
theorem flittinglaw10_TapeSides.c1f (a0 : Option Addr) (cap0 : Nat) (a1 : Option Addr) (cap1 : Nat) (la lb : List Int) (a2 k : Int) (w : World) (HRa : Aside0 (U8.C w a0 la.length la)) (HRb : Aside0 (U8.C w a1 lb.length lb)) (HCa : Aside0 (la.length ≤ cap0)) (HCb : Aside0 (lb.length ≤ cap1)) (HLa : Aside0 (la.length ≤ 300)) (HLb : Aside0 (lb.length ≤ 300)) (hf : a2.tmod 4 = 1) :
    Calls Try.prog 4 #[.slice a0 la.length cap0, .slice a1 lb.length cap1, .int .u8 a2, .int .i64 k, .bool false] w fun e w' => e = .returned (.bool true) ∧ Below w.heap.size w w' := by
  have HFa0 : Aside0 (Kd.F U8 w (fun k => k < w.heap.size) a0 la.length la) := ⟨Kd.C_F (Kd.heap_int _) HRa.out⟩
  have HFb0 : Aside0 (Kd.F U8 w (fun k => k < w.heap.size) a1 lb.length lb) := ⟨Kd.C_F (Kd.heap_int _) HRb.out⟩
  have d1 : decide ((300 : Int) < (la.length : Int)) = false := decide_eq_false (by have := HLa.out; omega)
  have d2 : decide (300 < la.length) = false := decide_eq_false (by have := HLa.out; omega)
  have d3 : decide ((300 : Int) < (lb.length : Int)) = false := decide_eq_false (by have := HLb.out; omega)
  have d4 : decide (300 < lb.length) = false := decide_eq_false (by have := HLb.out; omega)
  go_enter Try.func4, Try.ntmps4
  go_wp2_with fail
  refine (new_calls (fun k => k ≠ w.heap.size) w).mono ?_
  rintro e w1 ⟨rfl, hT1, hb1⟩
  have HB1 : Aside0 (Below w.heap.size w w1) := ⟨hb1⟩
  have HA : Aside0 _ := ⟨append_calls w.heap.size _ la a0 la.length cap0 _ _ hT1 (Kd.F_mono (Kd.F_below HFa0.out HB1.out) (fun k hk => by omega)) (fun _ h => h) (fun k hk => by have := hb1.size; have := tp_lt hT1; omega) ⟨by simp, by simp, by have := HLa.out; have := HLb.out; simp; omega, by have := HLa.out; have := HLb.out; simp; omega⟩⟩
  clear hT1 hb1
  go_wp2_with fail
  refine HA.out.mono ?_
  rintro e w2 ⟨rfl, hT2, hk2⟩
  have hT2' : Tp w2 (fun k => k ≠ w.heap.size) w.heap.size ⟨⟨la, [], false, false, false⟩, ⟨la, [], false, false, false⟩, -1, false⟩ := hT2
  have HB2 : Aside0 (Below w.heap.size w w2) := ⟨hk2.under HB1.out (Nat.le_refl _)⟩
  have HT2 := Aside0.mk hT2'
  clear hT2 hT2' hk2 HA
  go_wp2_with fail
  refine (fuse_calls w.heap.size _ 1 _ w2 HT2.out (fun _ h => h)).mono ?_
  rintro e w3 ⟨rfl, hT3, hk3⟩
  have HT3 : Aside0 (Tp w3 (fun k => k ≠ w.heap.size) w.heap.size ⟨⟨la, [], false, false, false⟩, ⟨la, [], false, false, false⟩, 1, false⟩) := ⟨hT3⟩
  have HB3 : Aside0 (Below w.heap.size w w3) := ⟨hk3.under HB2.out (Nat.le_refl _)⟩
  clear hT3 hk3
  have HM : Aside0 (U8.R 5 (w3.alloc (.cells #[] 5)) w3.heap.size (fun _ => True) (.slice (some ⟨w3.heap.size, 0, none⟩) 0 0) []) :=
    ⟨⟨fun _ _ => trivial, [], World.ownsRow_made w3 #[] 0 (Nat.le_refl _) (Nat.zero_le _) rfl, Reps.none _ _⟩⟩
  have HB4 : Aside0 (Below w3.heap.size w3 (w3.alloc (.cells #[] 5))) := ⟨(Below.refl _ _).alloc (Nat.le_refl _) _⟩
  go_wp2_with (first | (at_builtin; refine Kd.R_append_rows U8 (w0 := w3) (Rr := U8.K w) w3.heap.size rfl (.tmp 36) (.tmp 37) 22 5 (.int .u8 0) 1 rfl Try.underlying22 info5 rfl (by decide) (by decide) (.slice (some ⟨w3.heap.size, 0, none⟩) 0 0) [] la a0 la.length cap0 (fun _ => True) (fun _ => False) rfl rfl HM.out (Kd.C_below (Kd.C_below HRa.out HB3.out) HB4.out) (fun _ _ h => h) (fun _ hk => hk.elim) (fun _ _ => trivial) HB4.out HB4.out.size ?aL ?_; (case aL => have := HLa.out; simp only [List.length_nil]; omega); intro v1 w4 ho hb hg hat; have HO1 : Aside0 (U8.R 5 w4 w3.heap.size (fun _ => True) v1 la) := ⟨ho⟩; have HB5 := Aside0.mk hb; clear ho hb hg hat HM HB4) | (at_builtin; refine Kd.R_append_rows U8 (w0 := w3) (Rr := U8.K w) w3.heap.size rfl (.tmp 38) (.tmp 39) 22 5 (.int .u8 0) 1 rfl Try.underlying22 info5 rfl (by decide) (by decide) v1 la lb a1 lb.length cap1 (fun _ => True) (fun _ => False) rfl rfl HO1.out (Kd.C_below (Kd.C_below HRb.out HB3.out) HB5.out) (fun _ _ h => h) (fun _ hk => hk.elim) (fun _ _ => trivial) HB5.out HB5.out.size ?aL ?_; (case aL => have := HLa.out; have := HLb.out; omega); intro v2 w5 ho hb hg hat; obtain ⟨X, hX⟩ : ∃ X, X = la ++ lb := ⟨_, rfl⟩; rw [← hX] at ho; have HX0 := Aside0.mk hX; clear hX; have HV5 := Aside0.mk (vb_new (ok := fun k => k ≠ w.heap.size) ho (fun k hk => by have := tp_lt HT3.out; omega)); obtain ⟨Aw, cw, ew⟩ := Kd.R_slice ho; subst ew; have HB6 := Aside0.mk hb; have HT5 := Aside0.mk (tp_below HT3.out hb); have HB5w : Aside0 (Below w.heap.size w w5) := ⟨HB3.out.trans (hb.mono HB3.out.size)⟩; clear ho hb hg hat))
  have HA : Aside0 _ := ⟨append_calls w.heap.size _ lb a1 lb.length cap1 _ _ HT5.out (Kd.F_mono (Kd.F_below HFb0.out HB5w.out) (fun k hk => by omega)) (fun _ h => h) (fun k hk => by have := tp_lt HT5.out; omega) ⟨by simp, by simp, by have := HLa.out; have := HLb.out; simp; omega, by have := HLa.out; have := HLb.out; simp; omega⟩⟩
  refine HA.out.mono ?_
  rintro e w6 ⟨rfl, hT6, hk6⟩
  have HT6 : Aside0 (Tp w6 (fun k => k ≠ w.heap.size) w.heap.size ⟨⟨la ++ lb, [], false, false, false⟩, ⟨la, lb, false, true, false⟩, 0, true⟩) := ⟨hT6⟩
  have e9 : (Ta.write ⟨⟨la, [], false, false, false⟩, ⟨la, [], false, false, false⟩, 1, false⟩ lb false).2 = 9 := rfl
  rw [e9]
  have HB6w : Aside0 (Below w.heap.size w w6) := ⟨hk6.under HB5w.out (Nat.le_refl _)⟩
  have HV6 := Aside0.mk (vb_kp HV5.out hk6 (fun _ h => h))
  clear hT6 hk6 HA e9
  have HA : Aside0 _ := ⟨crash_calls w.heap.size _ k _ _ HT6.out (fun _ h => h) (fun k hk => by have := tp_lt HT6.out; omega) (by have := HLa.out; have := HLb.out; simp; omega) (by have := HLa.out; have := HLb.out; simp; omega)⟩
  go_wp2_with fail
  refine HA.out.mono ?_
  rintro e w11 ⟨rfl, hT11, hk11⟩
  have hl0 : (Sd.crB ⟨la ++ lb, [], false, false, false⟩ k).length ≤ 600 := Nat.le_trans (crB_len _ _) (by have := HLa.out; have := HLb.out; simp; omega)
  have hl1 : (Sd.crB ⟨la, lb, false, true, false⟩ k).length ≤ 600 := Nat.le_trans (crB_len _ _) (by have := HLa.out; have := HLb.out; simp; omega)
  have HT11 := Aside0.mk hT11
  have HB11 : Aside0 (Below w.heap.size w w11) := ⟨hk11.under HB6w.out (Nat.le_refl _)⟩
  have HV11 := Aside0.mk (vb_kp HV6.out hk11 (fun _ h => h))
  have HC0 : Aside0 _ := ⟨read0_calls w.heap.size _ _ w11 HT11.out rfl (show (Sd.crB ⟨la ++ lb, [], false, false, false⟩ k).length + 0 < _ by omega)⟩
  clear hT11 hk11 HA hl0
  go_wp2_with fail
  refine HC0.out.mono ?_
  rintro e w12 ⟨v12, rfl, ho12, hb12⟩
  have ho12' : U8.R 5 w12 w11.heap.size (fun _ => True) v12 X := by rw [HX0.out]; exact ho12
  obtain ⟨A12, c12, e12, hl12, hF12⟩ := Kd.R_V (base' := 0) ho12'
  subst e12
  have HF12 := Aside0.mk hF12
  have HL12 := Aside0.mk hl12
  have HT12 := Aside0.mk (tp_below HT11.out hb12)
  have HB12 : Aside0 (Below w.heap.size w w12) := ⟨HB11.out.trans (hb12.mono HB11.out.size)⟩
  have HV12 := Aside0.mk (Kd.V_below HV11.out hb12)
  have HC1 : Aside0 _ := ⟨read1_calls w.heap.size _ _ w12 HT12.out rfl (show (Sd.crB ⟨la, lb, false, true, false⟩ k).length + 0 < _ by omega)⟩
  clear ho12 ho12' hb12 hl12 hF12 hl1 HC0
  go_wp2_with fail
  refine HC1.out.mono ?_
  rintro e w13 ⟨v13, rfl, ho13, hb13⟩
  have ho13' : U8.R 5 w13 w12.heap.size (fun _ => True) v13 (Sd.crB ⟨la, lb, false, true, false⟩ k) := ho13
  obtain ⟨A13, c13, e13, hl13, hF13⟩ := Kd.R_V (base' := 0) ho13'
  subst e13
  have HF13 := Aside0.mk hF13
  have HL13 := Aside0.mk hl13
  have HB13 : Aside0 (Below w.heap.size w w13) := ⟨HB12.out.trans (hb13.mono HB12.out.size)⟩
  have HF12b := Aside0.mk (Kd.F_below HF12.out hb13)
  have HV13 := Aside0.mk (Kd.V_below HV12.out hb13)
  clear ho13 ho13' hb13 hl13 hF13 HC1
  go_wp2_with fail
  refine (answers_calls w13).mono ?_
  rintro e w14 ⟨rfl, hb14⟩
  have HB14 : Aside0 (Below w.heap.size w w14) := ⟨HB13.out.trans (hb14.mono HB13.out.size)⟩
  have HX := Aside0.mk (Kd.F_now (Kd.F_below HF12b.out hb14))
  have HY := Aside0.mk (Kd.F_now (Kd.F_below HF13.out hb14))
  obtain ⟨hnw, hlw, hFw⟩ := Kd.V_at (Kd.V_below HV13.out hb14)
  have HW := Aside0.mk (Kd.F_now hFw)
  have hlw' : X.length ≤ cw := hlw
  have HLW := Aside0.mk hlw'
  clear hnw hlw hlw' hFw
  have HRa14 := Aside0.mk (Kd.C_below HRa.out HB14.out)
  clear hb14
  go_wp2_with fail
  refine (flittingref01_Same.calls 2000 A12 c12 X Aw cw X true _ HX.out HL12.out HW.out HLW.out (same_f _ _ (by have := HLa.out; have := HLb.out; (try rw [HX0.out]); (try simp only [List.length_append]); omega) (by have := HLa.out; have := HLb.out; (try rw [HX0.out]); (try simp only [List.length_append]); omega))).mono ?_
  rintro e w15 ⟨rfl, ⟨nd15, rfl⟩⟩
  go_wp2
  go_ret
  exact ⟨rfl, pw_below_drewN HB14.out _⟩
set_option maxHeartbeats 16000000 in
set_option maxRecDepth 100000 in
theorem flittinglaw10_TapeSides.c1t (a0 : Option Addr) (cap0 : Nat) (a1 : Option Addr) (cap1 : Nat) (la lb : List Int) (a2 k : Int) (w : World) (HRa : Aside0 (U8.C w a0 la.length la)) (HRb : Aside0 (U8.C w a1 lb.length lb)) (HCa : Aside0 (la.length ≤ cap0)) (HCb : Aside0 (lb.length ≤ cap1)) (HLa : Aside0 (la.length ≤ 300)) (HLb : Aside0 (lb.length ≤ 300)) (hf : a2.tmod 4 = 1) :
    Calls Try.prog 4 #[.slice a0 la.length cap0, .slice a1 lb.length cap1, .int .u8 a2, .int .i64 k, .bool true] w fun e w' => e = .returned (.bool true) ∧ Below w.heap.size w w' := by
  have HFa0 : Aside0 (Kd.F U8 w (fun k => k < w.heap.size) a0 la.length la) := ⟨Kd.C_F (Kd.heap_int _) HRa.out⟩
  have HFb0 : Aside0 (Kd.F U8 w (fun k => k < w.heap.size) a1 lb.length lb) := ⟨Kd.C_F (Kd.heap_int _) HRb.out⟩
  have d1 : decide ((300 : Int) < (la.length : Int)) = false := decide_eq_false (by have := HLa.out; omega)
  have d2 : decide (300 < la.length) = false := decide_eq_false (by have := HLa.out; omega)
  have d3 : decide ((300 : Int) < (lb.length : Int)) = false := decide_eq_false (by have := HLb.out; omega)
  have d4 : decide (300 < lb.length) = false := decide_eq_false (by have := HLb.out; omega)
  go_enter Try.func4, Try.ntmps4
  go_wp2_with fail
  refine (new_calls (fun k => k ≠ w.heap.size) w).mono ?_
  rintro e w1 ⟨rfl, hT1, hb1⟩
  have HB1 : Aside0 (Below w.heap.size w w1) := ⟨hb1⟩
  have HA : Aside0 _ := ⟨append_calls w.heap.size _ la a0 la.length cap0 _ _ hT1 (Kd.F_mono (Kd.F_below HFa0.out HB1.out) (fun k hk => by omega)) (fun _ h => h) (fun k hk => by have := hb1.size; have := tp_lt hT1; omega) ⟨by simp, by simp, by have := HLa.out; have := HLb.out; simp; omega, by have := HLa.out; have := HLb.out; simp; omega⟩⟩
  clear hT1 hb1
  go_wp2_with fail
  refine HA.out.mono ?_
  rintro e w2 ⟨rfl, hT2, hk2⟩
  have hT2' : Tp w2 (fun k => k ≠ w.heap.size) w.heap.size ⟨⟨la, [], false, false, false⟩, ⟨la, [], false, false, false⟩, -1, false⟩ := hT2
  have HB2 : Aside0 (Below w.heap.size w w2) := ⟨hk2.under HB1.out (Nat.le_refl _)⟩
  have HT2 := Aside0.mk hT2'
  clear hT2 hT2' hk2 HA
  go_wp2_with fail
  refine (fuse_calls w.heap.size _ 1 _ w2 HT2.out (fun _ h => h)).mono ?_
  rintro e w3 ⟨rfl, hT3, hk3⟩
  have HT3 : Aside0 (Tp w3 (fun k => k ≠ w.heap.size) w.heap.size ⟨⟨la, [], false, false, false⟩, ⟨la, [], false, false, false⟩, 1, false⟩) := ⟨hT3⟩
  have HB3 : Aside0 (Below w.heap.size w w3) := ⟨hk3.under HB2.out (Nat.le_refl _)⟩
  clear hT3 hk3
  have HM : Aside0 (U8.R 5 (w3.alloc (.cells #[] 5)) w3.heap.size (fun _ => True) (.slice (some ⟨w3.heap.size, 0, none⟩) 0 0) []) :=
    ⟨⟨fun _ _ => trivial, [], World.ownsRow_made w3 #[] 0 (Nat.le_refl _) (Nat.zero_le _) rfl, Reps.none _ _⟩⟩
  have HB4 : Aside0 (Below w3.heap.size w3 (w3.alloc (.cells #[] 5))) := ⟨(Below.refl _ _).alloc (Nat.le_refl _) _⟩
  go_wp2_with (first | (at_builtin; refine Kd.R_append_rows U8 (w0 := w3) (Rr := U8.K w) w3.heap.size rfl (.tmp 36) (.tmp 37) 22 5 (.int .u8 0) 1 rfl Try.underlying22 info5 rfl (by decide) (by decide) (.slice (some ⟨w3.heap.size, 0, none⟩) 0 0) [] la a0 la.length cap0 (fun _ => True) (fun _ => False) rfl rfl HM.out (Kd.C_below (Kd.C_below HRa.out HB3.out) HB4.out) (fun _ _ h => h) (fun _ hk => hk.elim) (fun _ _ => trivial) HB4.out HB4.out.size ?aL ?_; (case aL => have := HLa.out; simp only [List.length_nil]; omega); intro v1 w4 ho hb hg hat; have HO1 : Aside0 (U8.R 5 w4 w3.heap.size (fun _ => True) v1 la) := ⟨ho⟩; have HB5 := Aside0.mk hb; clear ho hb hg hat HM HB4) | (at_builtin; refine Kd.R_append_rows U8 (w0 := w3) (Rr := U8.K w) w3.heap.size rfl (.tmp 38) (.tmp 39) 22 5 (.int .u8 0) 1 rfl Try.underlying22 info5 rfl (by decide) (by decide) v1 la lb a1 lb.length cap1 (fun _ => True) (fun _ => False) rfl rfl HO1.out (Kd.C_below (Kd.C_below HRb.out HB3.out) HB5.out) (fun _ _ h => h) (fun _ hk => hk.elim) (fun _ _ => trivial) HB5.out HB5.out.size ?aL ?_; (case aL => have := HLa.out; have := HLb.out; omega); intro v2 w5 ho hb hg hat; obtain ⟨X, hX⟩ : ∃ X, X = la ++ lb := ⟨_, rfl⟩; rw [← hX] at ho; have HX0 := Aside0.mk hX; clear hX; have HV5 := Aside0.mk (vb_new (ok := fun k => k ≠ w.heap.size) ho (fun k hk => by have := tp_lt HT3.out; omega)); obtain ⟨Aw, cw, ew⟩ := Kd.R_slice ho; subst ew; have HB6 := Aside0.mk hb; have HT5 := Aside0.mk (tp_below HT3.out hb); have HB5w : Aside0 (Below w.heap.size w w5) := ⟨HB3.out.trans (hb.mono HB3.out.size)⟩; clear ho hb hg hat))
  have HA : Aside0 _ := ⟨append_calls w.heap.size _ lb a1 lb.length cap1 _ _ HT5.out (Kd.F_mono (Kd.F_below HFb0.out HB5w.out) (fun k hk => by omega)) (fun _ h => h) (fun k hk => by have := tp_lt HT5.out; omega) ⟨by simp, by simp, by have := HLa.out; have := HLb.out; simp; omega, by have := HLa.out; have := HLb.out; simp; omega⟩⟩
  refine HA.out.mono ?_
  rintro e w6 ⟨rfl, hT6, hk6⟩
  have HT6 : Aside0 (Tp w6 (fun k => k ≠ w.heap.size) w.heap.size ⟨⟨la ++ lb, [], false, false, false⟩, ⟨la, lb, false, true, false⟩, 0, true⟩) := ⟨hT6⟩
  have e9 : (Ta.write ⟨⟨la, [], false, false, false⟩, ⟨la, [], false, false, false⟩, 1, false⟩ lb false).2 = 9 := rfl
  rw [e9]
  have HB6w : Aside0 (Below w.heap.size w w6) := ⟨hk6.under HB5w.out (Nat.le_refl _)⟩
  have HV6 := Aside0.mk (vb_kp HV5.out hk6 (fun _ h => h))
  clear hT6 hk6 HA e9
  have HG2 : Aside0 (w.heap.size ≤ w6.heap.size) := ⟨HB6w.out.size⟩
  go_wp2_with fail
  refine (new_calls (fun k => k ≠ w6.heap.size) w6).mono ?_
  rintro e w7 ⟨rfl, hT1, hb1⟩
  have HB7 : Aside0 (Below w.heap.size w w7) := ⟨HB6w.out.trans (hb1.mono HB6w.out.size)⟩
  have HA : Aside0 _ := ⟨append_calls w6.heap.size _ la a0 la.length cap0 _ _ hT1 (Kd.F_mono (Kd.F_below HFa0.out HB7.out) (fun k hk => by have := HG2.out; omega)) (fun _ h => h) (fun k hk => by have := hb1.size; have := tp_lt hT1; omega) ⟨by simp, by simp, by have := HLa.out; have := HLb.out; simp; omega, by have := HLa.out; have := HLb.out; simp; omega⟩⟩
  clear hT1 hb1
  go_wp2_with fail
  refine HA.out.mono ?_
  rintro e w8 ⟨rfl, hT2, hk2⟩
  have hT2' : Tp w8 (fun k => k ≠ w6.heap.size) w6.heap.size ⟨⟨la, [], false, false, false⟩, ⟨la, [], false, false, false⟩, -1, false⟩ := hT2
  have HB8 : Aside0 (Below w.heap.size w w8) := ⟨hk2.under HB7.out HG2.out⟩
  have HT2 := Aside0.mk hT2'
  clear hT2 hT2' hk2 HA
  go_wp2_with fail
  refine (fuse_calls w6.heap.size _ 1 _ w8 HT2.out (fun _ h => h)).mono ?_
  rintro e w9 ⟨rfl, hT3, hk3⟩
  have HT9 : Aside0 (Tp w9 (fun k => k ≠ w6.heap.size) w6.heap.size ⟨⟨la, [], false, false, false⟩, ⟨la, [], false, false, false⟩, 1, false⟩) := ⟨hT3⟩
  have HB9 : Aside0 (Below w.heap.size w w9) := ⟨hk3.under HB8.out HG2.out⟩
  clear hT3 hk3
  have HA : Aside0 _ := ⟨replace_calls w6.heap.size _ lb a1 lb.length cap1 _ _ HT9.out (Kd.F_mono (Kd.F_below HFb0.out HB9.out) (fun k hk => by have := HG2.out; omega)) (fun _ h => h) (fun k hk => by have := tp_lt HT9.out; omega) ⟨by simp, by simp, by have := HLa.out; have := HLb.out; simp; omega, by have := HLa.out; have := HLb.out; simp; omega⟩⟩
  go_wp2_with fail
  refine HA.out.mono ?_
  rintro e w10 ⟨rfl, hT10, hk10⟩
  have HT10 : Aside0 (Tp w10 (fun k => k ≠ w6.heap.size) w6.heap.size ⟨⟨lb, [], false, false, false⟩, ⟨la, lb, true, true, false⟩, 0, true⟩) := ⟨hT10⟩
  have e9 : (Ta.write ⟨⟨la, [], false, false, false⟩, ⟨la, [], false, false, false⟩, 1, false⟩ lb true).2 = 9 := rfl
  rw [e9]
  have HB10 : Aside0 (Below w.heap.size w w10) := ⟨hk10.under HB9.out HG2.out⟩
  clear hT10 hk10 HA e9
  have HA : Aside0 _ := ⟨crash_calls w6.heap.size _ k _ _ HT10.out (fun _ h => h) (fun k hk => by have := tp_lt HT10.out; omega) (by have := HLa.out; have := HLb.out; simp; omega) (by have := HLa.out; have := HLb.out; simp; omega)⟩
  go_wp2_with fail
  refine HA.out.mono ?_
  rintro e w11 ⟨rfl, hT11, hk11⟩
  have hl0 : (Sd.crB ⟨lb, [], false, false, false⟩ k).length ≤ 600 := Nat.le_trans (crB_len _ _) (by have := HLa.out; have := HLb.out; simp; omega)
  have hl1 : (Sd.crB ⟨la, lb, true, true, false⟩ k).length ≤ 600 := Nat.le_trans (crB_len _ _) (by have := HLa.out; have := HLb.out; simp; omega)
  have HT11 := Aside0.mk hT11
  have HB11 : Aside0 (Below w.heap.size w w11) := ⟨hk11.under HB10.out HG2.out⟩
  skip
  have HC0 : Aside0 _ := ⟨read0_calls w6.heap.size _ _ w11 HT11.out rfl (show (Sd.crB ⟨lb, [], false, false, false⟩ k).length + 0 < _ by omega)⟩
  clear hT11 hk11 HA hl0
  go_wp2_with fail
  refine HC0.out.mono ?_
  rintro e w12 ⟨v12, rfl, ho12, hb12⟩
  have ho12' : U8.R 5 w12 w11.heap.size (fun _ => True) v12 lb := ho12
  obtain ⟨A12, c12, e12, hl12, hF12⟩ := Kd.R_V (base' := 0) ho12'
  subst e12
  have HF12 := Aside0.mk hF12
  have HL12 := Aside0.mk hl12
  have HT12 := Aside0.mk (tp_below HT11.out hb12)
  have HB12 : Aside0 (Below w.heap.size w w12) := ⟨HB11.out.trans (hb12.mono HB11.out.size)⟩
  skip
  have HC1 : Aside0 _ := ⟨read1_calls w6.heap.size _ _ w12 HT12.out rfl (show (Sd.crB ⟨la, lb, true, true, false⟩ k).length + 0 < _ by omega)⟩
  clear ho12 ho12' hb12 hl12 hF12 hl1 HC0
  go_wp2_with fail
  refine HC1.out.mono ?_
  rintro e w13 ⟨v13, rfl, ho13, hb13⟩
  have ho13' : U8.R 5 w13 w12.heap.size (fun _ => True) v13 (Sd.crB ⟨la, lb, true, true, false⟩ k) := ho13
  obtain ⟨A13, c13, e13, hl13, hF13⟩ := Kd.R_V (base' := 0) ho13'
  subst e13
  have HF13 := Aside0.mk hF13
  have HL13 := Aside0.mk hl13
  have HB13 : Aside0 (Below w.heap.size w w13) := ⟨HB12.out.trans (hb13.mono HB12.out.size)⟩
  have HF12b := Aside0.mk (Kd.F_below HF12.out hb13)
  skip
  clear ho13 ho13' hb13 hl13 hF13 HC1
  go_wp2_with fail
  refine (answers_calls w13).mono ?_
  rintro e w14 ⟨rfl, hb14⟩
  have HB14 : Aside0 (Below w.heap.size w w14) := ⟨HB13.out.trans (hb14.mono HB13.out.size)⟩
  have HX := Aside0.mk (Kd.F_now (Kd.F_below HF12b.out hb14))
  have HY := Aside0.mk (Kd.F_now (Kd.F_below HF13.out hb14))
  have HW := Aside0.mk (Kd.C_below HRb.out HB14.out)
  have HLW := HCb
  have HRa14 := Aside0.mk (Kd.C_below HRa.out HB14.out)
  clear hb14
  go_wp2_with fail
  refine (flittingref01_Same.calls 2000 A12 c12 lb a1 cap1 lb true _ HX.out HL12.out HW.out HLW.out (same_f _ _ (by have := HLa.out; have := HLb.out; (try rw [HX0.out]); (try simp only [List.length_append]); omega) (by have := HLa.out; have := HLb.out; (try rw [HX0.out]); (try simp only [List.length_append]); omega))).mono ?_
  rintro e w15 ⟨rfl, ⟨nd15, rfl⟩⟩
  go_wp2
  go_ret
  exact ⟨rfl, pw_below_drewN HB14.out _⟩
set_option maxHeartbeats 16000000 in
set_option maxRecDepth 100000 in
theorem flittinglaw10_TapeSides.c2f (a0 : Option Addr) (cap0 : Nat) (a1 : Option Addr) (cap1 : Nat) (la lb : List Int) (a2 k : Int) (w : World) (HRa : Aside0 (U8.C w a0 la.length la)) (HRb : Aside0 (U8.C w a1 lb.length lb)) (HCa : Aside0 (la.length ≤ cap0)) (HCb : Aside0 (lb.length ≤ cap1)) (HLa : Aside0 (la.length ≤ 300)) (HLb : Aside0 (lb.length ≤ 300)) (hf : a2.tmod 4 = 2) :
    Calls Try.prog 4 #[.slice a0 la.length cap0, .slice a1 lb.length cap1, .int .u8 a2, .int .i64 k, .bool false] w fun e w' => e = .returned (.bool true) ∧ Below w.heap.size w w' := by
  have HFa0 : Aside0 (Kd.F U8 w (fun k => k < w.heap.size) a0 la.length la) := ⟨Kd.C_F (Kd.heap_int _) HRa.out⟩
  have HFb0 : Aside0 (Kd.F U8 w (fun k => k < w.heap.size) a1 lb.length lb) := ⟨Kd.C_F (Kd.heap_int _) HRb.out⟩
  have d1 : decide ((300 : Int) < (la.length : Int)) = false := decide_eq_false (by have := HLa.out; omega)
  have d2 : decide (300 < la.length) = false := decide_eq_false (by have := HLa.out; omega)
  have d3 : decide ((300 : Int) < (lb.length : Int)) = false := decide_eq_false (by have := HLb.out; omega)
  have d4 : decide (300 < lb.length) = false := decide_eq_false (by have := HLb.out; omega)
  go_enter Try.func4, Try.ntmps4
  go_wp2_with fail
  refine (new_calls (fun k => k ≠ w.heap.size) w).mono ?_
  rintro e w1 ⟨rfl, hT1, hb1⟩
  have HB1 : Aside0 (Below w.heap.size w w1) := ⟨hb1⟩
  have HA : Aside0 _ := ⟨append_calls w.heap.size _ la a0 la.length cap0 _ _ hT1 (Kd.F_mono (Kd.F_below HFa0.out HB1.out) (fun k hk => by omega)) (fun _ h => h) (fun k hk => by have := hb1.size; have := tp_lt hT1; omega) ⟨by simp, by simp, by have := HLa.out; have := HLb.out; simp; omega, by have := HLa.out; have := HLb.out; simp; omega⟩⟩
  clear hT1 hb1
  go_wp2_with fail
  refine HA.out.mono ?_
  rintro e w2 ⟨rfl, hT2, hk2⟩
  have hT2' : Tp w2 (fun k => k ≠ w.heap.size) w.heap.size ⟨⟨la, [], false, false, false⟩, ⟨la, [], false, false, false⟩, -1, false⟩ := hT2
  have HB2 : Aside0 (Below w.heap.size w w2) := ⟨hk2.under HB1.out (Nat.le_refl _)⟩
  have HT2 := Aside0.mk hT2'
  clear hT2 hT2' hk2 HA
  go_wp2_with fail
  refine (fuse_calls w.heap.size _ 2 _ w2 HT2.out (fun _ h => h)).mono ?_
  rintro e w3 ⟨rfl, hT3, hk3⟩
  have HT3 : Aside0 (Tp w3 (fun k => k ≠ w.heap.size) w.heap.size ⟨⟨la, [], false, false, false⟩, ⟨la, [], false, false, false⟩, 2, false⟩) := ⟨hT3⟩
  have HB3 : Aside0 (Below w.heap.size w w3) := ⟨hk3.under HB2.out (Nat.le_refl _)⟩
  clear hT3 hk3
  have HM : Aside0 (U8.R 5 (w3.alloc (.cells #[] 5)) w3.heap.size (fun _ => True) (.slice (some ⟨w3.heap.size, 0, none⟩) 0 0) []) :=
    ⟨⟨fun _ _ => trivial, [], World.ownsRow_made w3 #[] 0 (Nat.le_refl _) (Nat.zero_le _) rfl, Reps.none _ _⟩⟩
  have HB4 : Aside0 (Below w3.heap.size w3 (w3.alloc (.cells #[] 5))) := ⟨(Below.refl _ _).alloc (Nat.le_refl _) _⟩
  go_wp2_with (first | (at_builtin; refine Kd.R_append_rows U8 (w0 := w3) (Rr := U8.K w) w3.heap.size rfl (.tmp 36) (.tmp 37) 22 5 (.int .u8 0) 1 rfl Try.underlying22 info5 rfl (by decide) (by decide) (.slice (some ⟨w3.heap.size, 0, none⟩) 0 0) [] la a0 la.length cap0 (fun _ => True) (fun _ => False) rfl rfl HM.out (Kd.C_below (Kd.C_below HRa.out HB3.out) HB4.out) (fun _ _ h => h) (fun _ hk => hk.elim) (fun _ _ => trivial) HB4.out HB4.out.size ?aL ?_; (case aL => have := HLa.out; simp only [List.length_nil]; omega); intro v1 w4 ho hb hg hat; have HO1 : Aside0 (U8.R 5 w4 w3.heap.size (fun _ => True) v1 la) := ⟨ho⟩; have HB5 := Aside0.mk hb; clear ho hb hg hat HM HB4) | (at_builtin; refine Kd.R_append_rows U8 (w0 := w3) (Rr := U8.K w) w3.heap.size rfl (.tmp 38) (.tmp 39) 22 5 (.int .u8 0) 1 rfl Try.underlying22 info5 rfl (by decide) (by decide) v1 la lb a1 lb.length cap1 (fun _ => True) (fun _ => False) rfl rfl HO1.out (Kd.C_below (Kd.C_below HRb.out HB3.out) HB5.out) (fun _ _ h => h) (fun _ hk => hk.elim) (fun _ _ => trivial) HB5.out HB5.out.size ?aL ?_; (case aL => have := HLa.out; have := HLb.out; omega); intro v2 w5 ho hb hg hat; obtain ⟨X, hX⟩ : ∃ X, X = la ++ lb := ⟨_, rfl⟩; rw [← hX] at ho; have HX0 := Aside0.mk hX; clear hX; have HV5 := Aside0.mk (vb_new (ok := fun k => k ≠ w.heap.size) ho (fun k hk => by have := tp_lt HT3.out; omega)); obtain ⟨Aw, cw, ew⟩ := Kd.R_slice ho; subst ew; have HB6 := Aside0.mk hb; have HT5 := Aside0.mk (tp_below HT3.out hb); have HB5w : Aside0 (Below w.heap.size w w5) := ⟨HB3.out.trans (hb.mono HB3.out.size)⟩; clear ho hb hg hat))
  have HA : Aside0 _ := ⟨append_calls w.heap.size _ lb a1 lb.length cap1 _ _ HT5.out (Kd.F_mono (Kd.F_below HFb0.out HB5w.out) (fun k hk => by omega)) (fun _ h => h) (fun k hk => by have := tp_lt HT5.out; omega) ⟨by simp, by simp, by have := HLa.out; have := HLb.out; simp; omega, by have := HLa.out; have := HLb.out; simp; omega⟩⟩
  refine HA.out.mono ?_
  rintro e w6 ⟨rfl, hT6, hk6⟩
  have HT6 : Aside0 (Tp w6 (fun k => k ≠ w.heap.size) w.heap.size ⟨⟨la ++ lb, [], false, false, false⟩, ⟨la ++ lb, [], false, false, false⟩, 0, false⟩) := ⟨hT6⟩
  have e9 : (Ta.write ⟨⟨la, [], false, false, false⟩, ⟨la, [], false, false, false⟩, 2, false⟩ lb false).2 = 0 := rfl
  rw [e9]
  have HB6w : Aside0 (Below w.heap.size w w6) := ⟨hk6.under HB5w.out (Nat.le_refl _)⟩
  have HV6 := Aside0.mk (vb_kp HV5.out hk6 (fun _ h => h))
  clear hT6 hk6 HA e9
  have HA : Aside0 _ := ⟨crash_calls w.heap.size _ k _ _ HT6.out (fun _ h => h) (fun k hk => by have := tp_lt HT6.out; omega) (by have := HLa.out; have := HLb.out; simp; omega) (by have := HLa.out; have := HLb.out; simp; omega)⟩
  go_wp2_with fail
  refine HA.out.mono ?_
  rintro e w11 ⟨rfl, hT11, hk11⟩
  have hl0 : (Sd.crB ⟨la ++ lb, [], false, false, false⟩ k).length ≤ 600 := Nat.le_trans (crB_len _ _) (by have := HLa.out; have := HLb.out; simp; omega)
  have hl1 : (Sd.crB ⟨la ++ lb, [], false, false, false⟩ k).length ≤ 600 := Nat.le_trans (crB_len _ _) (by have := HLa.out; have := HLb.out; simp; omega)
  have HT11 := Aside0.mk hT11
  have HB11 : Aside0 (Below w.heap.size w w11) := ⟨hk11.under HB6w.out (Nat.le_refl _)⟩
  have HV11 := Aside0.mk (vb_kp HV6.out hk11 (fun _ h => h))
  have HC0 : Aside0 _ := ⟨read0_calls w.heap.size _ _ w11 HT11.out rfl (show (Sd.crB ⟨la ++ lb, [], false, false, false⟩ k).length + 0 < _ by omega)⟩
  clear hT11 hk11 HA hl0
  go_wp2_with fail
  refine HC0.out.mono ?_
  rintro e w12 ⟨v12, rfl, ho12, hb12⟩
  have ho12' : U8.R 5 w12 w11.heap.size (fun _ => True) v12 X := by rw [HX0.out]; exact ho12
  obtain ⟨A12, c12, e12, hl12, hF12⟩ := Kd.R_V (base' := 0) ho12'
  subst e12
  have HF12 := Aside0.mk hF12
  have HL12 := Aside0.mk hl12
  have HT12 := Aside0.mk (tp_below HT11.out hb12)
  have HB12 : Aside0 (Below w.heap.size w w12) := ⟨HB11.out.trans (hb12.mono HB11.out.size)⟩
  have HV12 := Aside0.mk (Kd.V_below HV11.out hb12)
  have HC1 : Aside0 _ := ⟨read1_calls w.heap.size _ _ w12 HT12.out rfl (show (Sd.crB ⟨la ++ lb, [], false, false, false⟩ k).length + 0 < _ by omega)⟩
  clear ho12 ho12' hb12 hl12 hF12 hl1 HC0
  go_wp2_with fail
  refine HC1.out.mono ?_
  rintro e w13 ⟨v13, rfl, ho13, hb13⟩
  have ho13' : U8.R 5 w13 w12.heap.size (fun _ => True) v13 X := by rw [HX0.out]; exact ho13
  obtain ⟨A13, c13, e13, hl13, hF13⟩ := Kd.R_V (base' := 0) ho13'
  subst e13
  have HF13 := Aside0.mk hF13
  have HL13 := Aside0.mk hl13
  have HB13 : Aside0 (Below w.heap.size w w13) := ⟨HB12.out.trans (hb13.mono HB12.out.size)⟩
  have HF12b := Aside0.mk (Kd.F_below HF12.out hb13)
  have HV13 := Aside0.mk (Kd.V_below HV12.out hb13)
  clear ho13 ho13' hb13 hl13 hF13 HC1
  go_wp2_with fail
  refine (answers_calls w13).mono ?_
  rintro e w14 ⟨rfl, hb14⟩
  have HB14 : Aside0 (Below w.heap.size w w14) := ⟨HB13.out.trans (hb14.mono HB13.out.size)⟩
  have HX := Aside0.mk (Kd.F_now (Kd.F_below HF12b.out hb14))
  have HY := Aside0.mk (Kd.F_now (Kd.F_below HF13.out hb14))
  obtain ⟨hnw, hlw, hFw⟩ := Kd.V_at (Kd.V_below HV13.out hb14)
  have HW := Aside0.mk (Kd.F_now hFw)
  have hlw' : X.length ≤ cw := hlw
  have HLW := Aside0.mk hlw'
  clear hnw hlw hlw' hFw
  have HRa14 := Aside0.mk (Kd.C_below HRa.out HB14.out)
  clear hb14
  go_wp2_with fail
  refine (flittingref01_Same.calls 2000 A12 c12 X Aw cw X true _ HX.out HL12.out HW.out HLW.out (same_f _ _ (by have := HLa.out; have := HLb.out; (try rw [HX0.out]); (try simp only [List.length_append]); omega) (by have := HLa.out; have := HLb.out; (try rw [HX0.out]); (try simp only [List.length_append]); omega))).mono ?_
  rintro e w15 ⟨rfl, ⟨nd15, rfl⟩⟩
  go_wp2_with fail
  refine (flittingref01_Same.calls 2000 A13 c13 X Aw cw X true _ (Kd.C_drewN HY.out _) HL13.out (Kd.C_drewN HW.out _) HLW.out (same_f _ _ (by have := HLa.out; have := HLb.out; (try rw [HX0.out]); (try simp only [List.length_append]); omega) (by have := HLa.out; have := HLb.out; (try rw [HX0.out]); (try simp only [List.length_append]); omega))).mono ?_
  rintro e w16 ⟨rfl, ⟨nd16, rfl⟩⟩
  go_wp2
  go_ret
  exact ⟨rfl, by first | exact pw_below_drewN HB14.out _ | exact pw_below_drewN (pw_below_drewN HB14.out _) _⟩
set_option maxHeartbeats 16000000 in
set_option maxRecDepth 100000 in
theorem flittinglaw10_TapeSides.c2t (a0 : Option Addr) (cap0 : Nat) (a1 : Option Addr) (cap1 : Nat) (la lb : List Int) (a2 k : Int) (w : World) (HRa : Aside0 (U8.C w a0 la.length la)) (HRb : Aside0 (U8.C w a1 lb.length lb)) (HCa : Aside0 (la.length ≤ cap0)) (HCb : Aside0 (lb.length ≤ cap1)) (HLa : Aside0 (la.length ≤ 300)) (HLb : Aside0 (lb.length ≤ 300)) (hf : a2.tmod 4 = 2) :
    Calls Try.prog 4 #[.slice a0 la.length cap0, .slice a1 lb.length cap1, .int .u8 a2, .int .i64 k, .bool true] w fun e w' => e = .returned (.bool true) ∧ Below w.heap.size w w' := by
  have HFa0 : Aside0 (Kd.F U8 w (fun k => k < w.heap.size) a0 la.length la) := ⟨Kd.C_F (Kd.heap_int _) HRa.out⟩
  have HFb0 : Aside0 (Kd.F U8 w (fun k => k < w.heap.size) a1 lb.length lb) := ⟨Kd.C_F (Kd.heap_int _) HRb.out⟩
  have d1 : decide ((300 : Int) < (la.length : Int)) = false := decide_eq_false (by have := HLa.out; omega)
  have d2 : decide (300 < la.length) = false := decide_eq_false (by have := HLa.out; omega)
  have d3 : decide ((300 : Int) < (lb.length : Int)) = false := decide_eq_false (by have := HLb.out; omega)
  have d4 : decide (300 < lb.length) = false := decide_eq_false (by have := HLb.out; omega)
  go_enter Try.func4, Try.ntmps4
  go_wp2_with fail
  refine (new_calls (fun k => k ≠ w.heap.size) w).mono ?_
  rintro e w1 ⟨rfl, hT1, hb1⟩
  have HB1 : Aside0 (Below w.heap.size w w1) := ⟨hb1⟩
  have HA : Aside0 _ := ⟨append_calls w.heap.size _ la a0 la.length cap0 _ _ hT1 (Kd.F_mono (Kd.F_below HFa0.out HB1.out) (fun k hk => by omega)) (fun _ h => h) (fun k hk => by have := hb1.size; have := tp_lt hT1; omega) ⟨by simp, by simp, by have := HLa.out; have := HLb.out; simp; omega, by have := HLa.out; have := HLb.out; simp; omega⟩⟩
  clear hT1 hb1
  go_wp2_with fail
  refine HA.out.mono ?_
  rintro e w2 ⟨rfl, hT2, hk2⟩
  have hT2' : Tp w2 (fun k => k ≠ w.heap.size) w.heap.size ⟨⟨la, [], false, false, false⟩, ⟨la, [], false, false, false⟩, -1, false⟩ := hT2
  have HB2 : Aside0 (Below w.heap.size w w2) := ⟨hk2.under HB1.out (Nat.le_refl _)⟩
  have HT2 := Aside0.mk hT2'
  clear hT2 hT2' hk2 HA
  go_wp2_with fail
  refine (fuse_calls w.heap.size _ 2 _ w2 HT2.out (fun _ h => h)).mono ?_
  rintro e w3 ⟨rfl, hT3, hk3⟩
  have HT3 : Aside0 (Tp w3 (fun k => k ≠ w.heap.size) w.heap.size ⟨⟨la, [], false, false, false⟩, ⟨la, [], false, false, false⟩, 2, false⟩) := ⟨hT3⟩
  have HB3 : Aside0 (Below w.heap.size w w3) := ⟨hk3.under HB2.out (Nat.le_refl _)⟩
  clear hT3 hk3
  have HM : Aside0 (U8.R 5 (w3.alloc (.cells #[] 5)) w3.heap.size (fun _ => True) (.slice (some ⟨w3.heap.size, 0, none⟩) 0 0) []) :=
    ⟨⟨fun _ _ => trivial, [], World.ownsRow_made w3 #[] 0 (Nat.le_refl _) (Nat.zero_le _) rfl, Reps.none _ _⟩⟩
  have HB4 : Aside0 (Below w3.heap.size w3 (w3.alloc (.cells #[] 5))) := ⟨(Below.refl _ _).alloc (Nat.le_refl _) _⟩
  go_wp2_with (first | (at_builtin; refine Kd.R_append_rows U8 (w0 := w3) (Rr := U8.K w) w3.heap.size rfl (.tmp 36) (.tmp 37) 22 5 (.int .u8 0) 1 rfl Try.underlying22 info5 rfl (by decide) (by decide) (.slice (some ⟨w3.heap.size, 0, none⟩) 0 0) [] la a0 la.length cap0 (fun _ => True) (fun _ => False) rfl rfl HM.out (Kd.C_below (Kd.C_below HRa.out HB3.out) HB4.out) (fun _ _ h => h) (fun _ hk => hk.elim) (fun _ _ => trivial) HB4.out HB4.out.size ?aL ?_; (case aL => have := HLa.out; simp only [List.length_nil]; omega); intro v1 w4 ho hb hg hat; have HO1 : Aside0 (U8.R 5 w4 w3.heap.size (fun _ => True) v1 la) := ⟨ho⟩; have HB5 := Aside0.mk hb; clear ho hb hg hat HM HB4) | (at_builtin; refine Kd.R_append_rows U8 (w0 := w3) (Rr := U8.K w) w3.heap.size rfl (.tmp 38) (.tmp 39) 22 5 (.int .u8 0) 1 rfl Try.underlying22 info5 rfl (by decide) (by decide) v1 la lb a1 lb.length cap1 (fun _ => True) (fun _ => False) rfl rfl HO1.out (Kd.C_below (Kd.C_below HRb.out HB3.out) HB5.out) (fun _ _ h => h) (fun _ hk => hk.elim) (fun _ _ => trivial) HB5.out HB5.out.size ?aL ?_; (case aL => have := HLa.out; have := HLb.out; omega); intro v2 w5 ho hb hg hat; obtain ⟨X, hX⟩ : ∃ X, X = la ++ lb := ⟨_, rfl⟩; rw [← hX] at ho; have HX0 := Aside0.mk hX; clear hX; have HV5 := Aside0.mk (vb_new (ok := fun k => k ≠ w.heap.size) ho (fun k hk => by have := tp_lt HT3.out; omega)); obtain ⟨Aw, cw, ew⟩ := Kd.R_slice ho; subst ew; have HB6 := Aside0.mk hb; have HT5 := Aside0.mk (tp_below HT3.out hb); have HB5w : Aside0 (Below w.heap.size w w5) := ⟨HB3.out.trans (hb.mono HB3.out.size)⟩; clear ho hb hg hat))
  have HA : Aside0 _ := ⟨append_calls w.heap.size _ lb a1 lb.length cap1 _ _ HT5.out (Kd.F_mono (Kd.F_below HFb0.out HB5w.out) (fun k hk => by omega)) (fun _ h => h) (fun k hk => by have := tp_lt HT5.out; omega) ⟨by simp, by simp, by have := HLa.out; have := HLb.out; simp; omega, by have := HLa.out; have := HLb.out; simp; omega⟩⟩
  refine HA.out.mono ?_
  rintro e w6 ⟨rfl, hT6, hk6⟩
  have HT6 : Aside0 (Tp w6 (fun k => k ≠ w.heap.size) w.heap.size ⟨⟨la ++ lb, [], false, false, false⟩, ⟨la ++ lb, [], false, false, false⟩, 0, false⟩) := ⟨hT6⟩
  have e9 : (Ta.write ⟨⟨la, [], false, false, false⟩, ⟨la, [], false, false, false⟩, 2, false⟩ lb false).2 = 0 := rfl
  rw [e9]
  have HB6w : Aside0 (Below w.heap.size w w6) := ⟨hk6.under HB5w.out (Nat.le_refl _)⟩
  have HV6 := Aside0.mk (vb_kp HV5.out hk6 (fun _ h => h))
  clear hT6 hk6 HA e9
  have HG2 : Aside0 (w.heap.size ≤ w6.heap.size) := ⟨HB6w.out.size⟩
  go_wp2_with fail
  refine (new_calls (fun k => k ≠ w6.heap.size) w6).mono ?_
  rintro e w7 ⟨rfl, hT1, hb1⟩
  have HB7 : Aside0 (Below w.heap.size w w7) := ⟨HB6w.out.trans (hb1.mono HB6w.out.size)⟩
  have HA : Aside0 _ := ⟨append_calls w6.heap.size _ la a0 la.length cap0 _ _ hT1 (Kd.F_mono (Kd.F_below HFa0.out HB7.out) (fun k hk => by have := HG2.out; omega)) (fun _ h => h) (fun k hk => by have := hb1.size; have := tp_lt hT1; omega) ⟨by simp, by simp, by have := HLa.out; have := HLb.out; simp; omega, by have := HLa.out; have := HLb.out; simp; omega⟩⟩
  clear hT1 hb1
  go_wp2_with fail
  refine HA.out.mono ?_
  rintro e w8 ⟨rfl, hT2, hk2⟩
  have hT2' : Tp w8 (fun k => k ≠ w6.heap.size) w6.heap.size ⟨⟨la, [], false, false, false⟩, ⟨la, [], false, false, false⟩, -1, false⟩ := hT2
  have HB8 : Aside0 (Below w.heap.size w w8) := ⟨hk2.under HB7.out HG2.out⟩
  have HT2 := Aside0.mk hT2'
  clear hT2 hT2' hk2 HA
  go_wp2_with fail
  refine (fuse_calls w6.heap.size _ 2 _ w8 HT2.out (fun _ h => h)).mono ?_
  rintro e w9 ⟨rfl, hT3, hk3⟩
  have HT9 : Aside0 (Tp w9 (fun k => k ≠ w6.heap.size) w6.heap.size ⟨⟨la, [], false, false, false⟩, ⟨la, [], false, false, false⟩, 2, false⟩) := ⟨hT3⟩
  have HB9 : Aside0 (Below w.heap.size w w9) := ⟨hk3.under HB8.out HG2.out⟩
  clear hT3 hk3
  have HA : Aside0 _ := ⟨replace_calls w6.heap.size _ lb a1 lb.length cap1 _ _ HT9.out (Kd.F_mono (Kd.F_below HFb0.out HB9.out) (fun k hk => by have := HG2.out; omega)) (fun _ h => h) (fun k hk => by have := tp_lt HT9.out; omega) ⟨by simp, by simp, by have := HLa.out; have := HLb.out; simp; omega, by have := HLa.out; have := HLb.out; simp; omega⟩⟩
  go_wp2_with fail
  refine HA.out.mono ?_
  rintro e w10 ⟨rfl, hT10, hk10⟩
  have HT10 : Aside0 (Tp w10 (fun k => k ≠ w6.heap.size) w6.heap.size ⟨⟨lb, [], false, false, false⟩, ⟨lb, [], false, false, false⟩, 0, false⟩) := ⟨hT10⟩
  have e9 : (Ta.write ⟨⟨la, [], false, false, false⟩, ⟨la, [], false, false, false⟩, 2, false⟩ lb true).2 = 0 := rfl
  rw [e9]
  have HB10 : Aside0 (Below w.heap.size w w10) := ⟨hk10.under HB9.out HG2.out⟩
  clear hT10 hk10 HA e9
  have HA : Aside0 _ := ⟨crash_calls w6.heap.size _ k _ _ HT10.out (fun _ h => h) (fun k hk => by have := tp_lt HT10.out; omega) (by have := HLa.out; have := HLb.out; simp; omega) (by have := HLa.out; have := HLb.out; simp; omega)⟩
  go_wp2_with fail
  refine HA.out.mono ?_
  rintro e w11 ⟨rfl, hT11, hk11⟩
  have hl0 : (Sd.crB ⟨lb, [], false, false, false⟩ k).length ≤ 600 := Nat.le_trans (crB_len _ _) (by have := HLa.out; have := HLb.out; simp; omega)
  have hl1 : (Sd.crB ⟨lb, [], false, false, false⟩ k).length ≤ 600 := Nat.le_trans (crB_len _ _) (by have := HLa.out; have := HLb.out; simp; omega)
  have HT11 := Aside0.mk hT11
  have HB11 : Aside0 (Below w.heap.size w w11) := ⟨hk11.under HB10.out HG2.out⟩
  skip
  have HC0 : Aside0 _ := ⟨read0_calls w6.heap.size _ _ w11 HT11.out rfl (show (Sd.crB ⟨lb, [], false, false, false⟩ k).length + 0 < _ by omega)⟩
  clear hT11 hk11 HA hl0
  go_wp2_with fail
  refine HC0.out.mono ?_
  rintro e w12 ⟨v12, rfl, ho12, hb12⟩
  have ho12' : U8.R 5 w12 w11.heap.size (fun _ => True) v12 lb := ho12
  obtain ⟨A12, c12, e12, hl12, hF12⟩ := Kd.R_V (base' := 0) ho12'
  subst e12
  have HF12 := Aside0.mk hF12
  have HL12 := Aside0.mk hl12
  have HT12 := Aside0.mk (tp_below HT11.out hb12)
  have HB12 : Aside0 (Below w.heap.size w w12) := ⟨HB11.out.trans (hb12.mono HB11.out.size)⟩
  skip
  have HC1 : Aside0 _ := ⟨read1_calls w6.heap.size _ _ w12 HT12.out rfl (show (Sd.crB ⟨lb, [], false, false, false⟩ k).length + 0 < _ by omega)⟩
  clear ho12 ho12' hb12 hl12 hF12 hl1 HC0
  go_wp2_with fail
  refine HC1.out.mono ?_
  rintro e w13 ⟨v13, rfl, ho13, hb13⟩
  have ho13' : U8.R 5 w13 w12.heap.size (fun _ => True) v13 lb := ho13
  obtain ⟨A13, c13, e13, hl13, hF13⟩ := Kd.R_V (base' := 0) ho13'
  subst e13
  have HF13 := Aside0.mk hF13
  have HL13 := Aside0.mk hl13
  have HB13 : Aside0 (Below w.heap.size w w13) := ⟨HB12.out.trans (hb13.mono HB12.out.size)⟩
  have HF12b := Aside0.mk (Kd.F_below HF12.out hb13)
  skip
  clear ho13 ho13' hb13 hl13 hF13 HC1
  go_wp2_with fail
  refine (answers_calls w13).mono ?_
  rintro e w14 ⟨rfl, hb14⟩
  have HB14 : Aside0 (Below w.heap.size w w14) := ⟨HB13.out.trans (hb14.mono HB13.out.size)⟩
  have HX := Aside0.mk (Kd.F_now (Kd.F_below HF12b.out hb14))
  have HY := Aside0.mk (Kd.F_now (Kd.F_below HF13.out hb14))
  have HW := Aside0.mk (Kd.C_below HRb.out HB14.out)
  have HLW := HCb
  have HRa14 := Aside0.mk (Kd.C_below HRa.out HB14.out)
  clear hb14
  go_wp2_with fail
  refine (flittingref01_Same.calls 2000 A12 c12 lb a1 cap1 lb true _ HX.out HL12.out HW.out HLW.out (same_f _ _ (by have := HLa.out; have := HLb.out; (try rw [HX0.out]); (try simp only [List.length_append]); omega) (by have := HLa.out; have := HLb.out; (try rw [HX0.out]); (try simp only [List.length_append]); omega))).mono ?_
  rintro e w15 ⟨rfl, ⟨nd15, rfl⟩⟩
  go_wp2_with fail
  refine (flittingref01_Same.calls 2000 A13 c13 lb a1 cap1 lb true _ (Kd.C_drewN HY.out _) HL13.out (Kd.C_drewN HW.out _) HLW.out (same_f _ _ (by have := HLa.out; have := HLb.out; (try rw [HX0.out]); (try simp only [List.length_append]); omega) (by have := HLa.out; have := HLb.out; (try rw [HX0.out]); (try simp only [List.length_append]); omega))).mono ?_
  rintro e w16 ⟨rfl, ⟨nd16, rfl⟩⟩
  go_wp2
  go_ret
  exact ⟨rfl, by first | exact pw_below_drewN HB14.out _ | exact pw_below_drewN (pw_below_drewN HB14.out _) _⟩
set_option maxHeartbeats 16000000 in
set_option maxRecDepth 100000 in
theorem flittinglaw10_TapeSides.c3f (a0 : Option Addr) (cap0 : Nat) (a1 : Option Addr) (cap1 : Nat) (la lb : List Int) (a2 k : Int) (w : World) (HRa : Aside0 (U8.C w a0 la.length la)) (HRb : Aside0 (U8.C w a1 lb.length lb)) (HCa : Aside0 (la.length ≤ cap0)) (HCb : Aside0 (lb.length ≤ cap1)) (HLa : Aside0 (la.length ≤ 300)) (HLb : Aside0 (lb.length ≤ 300)) (hf : a2.tmod 4 = 3) :
    Calls Try.prog 4 #[.slice a0 la.length cap0, .slice a1 lb.length cap1, .int .u8 a2, .int .i64 k, .bool false] w fun e w' => e = .returned (.bool true) ∧ Below w.heap.size w w' := by
  have HFa0 : Aside0 (Kd.F U8 w (fun k => k < w.heap.size) a0 la.length la) := ⟨Kd.C_F (Kd.heap_int _) HRa.out⟩
  have HFb0 : Aside0 (Kd.F U8 w (fun k => k < w.heap.size) a1 lb.length lb) := ⟨Kd.C_F (Kd.heap_int _) HRb.out⟩
  have d1 : decide ((300 : Int) < (la.length : Int)) = false := decide_eq_false (by have := HLa.out; omega)
  have d2 : decide (300 < la.length) = false := decide_eq_false (by have := HLa.out; omega)
  have d3 : decide ((300 : Int) < (lb.length : Int)) = false := decide_eq_false (by have := HLb.out; omega)
  have d4 : decide (300 < lb.length) = false := decide_eq_false (by have := HLb.out; omega)
  go_enter Try.func4, Try.ntmps4
  go_wp2_with fail
  refine (new_calls (fun k => k ≠ w.heap.size) w).mono ?_
  rintro e w1 ⟨rfl, hT1, hb1⟩
  have HB1 : Aside0 (Below w.heap.size w w1) := ⟨hb1⟩
  have HA : Aside0 _ := ⟨append_calls w.heap.size _ la a0 la.length cap0 _ _ hT1 (Kd.F_mono (Kd.F_below HFa0.out HB1.out) (fun k hk => by omega)) (fun _ h => h) (fun k hk => by have := hb1.size; have := tp_lt hT1; omega) ⟨by simp, by simp, by have := HLa.out; have := HLb.out; simp; omega, by have := HLa.out; have := HLb.out; simp; omega⟩⟩
  clear hT1 hb1
  go_wp2_with fail
  refine HA.out.mono ?_
  rintro e w2 ⟨rfl, hT2, hk2⟩
  have hT2' : Tp w2 (fun k => k ≠ w.heap.size) w.heap.size ⟨⟨la, [], false, false, false⟩, ⟨la, [], false, false, false⟩, -1, false⟩ := hT2
  have HB2 : Aside0 (Below w.heap.size w w2) := ⟨hk2.under HB1.out (Nat.le_refl _)⟩
  have HT2 := Aside0.mk hT2'
  clear hT2 hT2' hk2 HA
  go_wp2_with fail
  refine (fuse_calls w.heap.size _ 3 _ w2 HT2.out (fun _ h => h)).mono ?_
  rintro e w3 ⟨rfl, hT3, hk3⟩
  have HT3 : Aside0 (Tp w3 (fun k => k ≠ w.heap.size) w.heap.size ⟨⟨la, [], false, false, false⟩, ⟨la, [], false, false, false⟩, 3, false⟩) := ⟨hT3⟩
  have HB3 : Aside0 (Below w.heap.size w w3) := ⟨hk3.under HB2.out (Nat.le_refl _)⟩
  clear hT3 hk3
  have HM : Aside0 (U8.R 5 (w3.alloc (.cells #[] 5)) w3.heap.size (fun _ => True) (.slice (some ⟨w3.heap.size, 0, none⟩) 0 0) []) :=
    ⟨⟨fun _ _ => trivial, [], World.ownsRow_made w3 #[] 0 (Nat.le_refl _) (Nat.zero_le _) rfl, Reps.none _ _⟩⟩
  have HB4 : Aside0 (Below w3.heap.size w3 (w3.alloc (.cells #[] 5))) := ⟨(Below.refl _ _).alloc (Nat.le_refl _) _⟩
  go_wp2_with (first | (at_builtin; refine Kd.R_append_rows U8 (w0 := w3) (Rr := U8.K w) w3.heap.size rfl (.tmp 36) (.tmp 37) 22 5 (.int .u8 0) 1 rfl Try.underlying22 info5 rfl (by decide) (by decide) (.slice (some ⟨w3.heap.size, 0, none⟩) 0 0) [] la a0 la.length cap0 (fun _ => True) (fun _ => False) rfl rfl HM.out (Kd.C_below (Kd.C_below HRa.out HB3.out) HB4.out) (fun _ _ h => h) (fun _ hk => hk.elim) (fun _ _ => trivial) HB4.out HB4.out.size ?aL ?_; (case aL => have := HLa.out; simp only [List.length_nil]; omega); intro v1 w4 ho hb hg hat; have HO1 : Aside0 (U8.R 5 w4 w3.heap.size (fun _ => True) v1 la) := ⟨ho⟩; have HB5 := Aside0.mk hb; clear ho hb hg hat HM HB4) | (at_builtin; refine Kd.R_append_rows U8 (w0 := w3) (Rr := U8.K w) w3.heap.size rfl (.tmp 38) (.tmp 39) 22 5 (.int .u8 0) 1 rfl Try.underlying22 info5 rfl (by decide) (by decide) v1 la lb a1 lb.length cap1 (fun _ => True) (fun _ => False) rfl rfl HO1.out (Kd.C_below (Kd.C_below HRb.out HB3.out) HB5.out) (fun _ _ h => h) (fun _ hk => hk.elim) (fun _ _ => trivial) HB5.out HB5.out.size ?aL ?_; (case aL => have := HLa.out; have := HLb.out; omega); intro v2 w5 ho hb hg hat; obtain ⟨X, hX⟩ : ∃ X, X = la ++ lb := ⟨_, rfl⟩; rw [← hX] at ho; have HX0 := Aside0.mk hX; clear hX; have HV5 := Aside0.mk (vb_new (ok := fun k => k ≠ w.heap.size) ho (fun k hk => by have := tp_lt HT3.out; omega)); obtain ⟨Aw, cw, ew⟩ := Kd.R_slice ho; subst ew; have HB6 := Aside0.mk hb; have HT5 := Aside0.mk (tp_below HT3.out hb); have HB5w : Aside0 (Below w.heap.size w w5) := ⟨HB3.out.trans (hb.mono HB3.out.size)⟩; clear ho hb hg hat))
  have HA : Aside0 _ := ⟨append_calls w.heap.size _ lb a1 lb.length cap1 _ _ HT5.out (Kd.F_mono (Kd.F_below HFb0.out HB5w.out) (fun k hk => by omega)) (fun _ h => h) (fun k hk => by have := tp_lt HT5.out; omega) ⟨by simp, by simp, by have := HLa.out; have := HLb.out; simp; omega, by have := HLa.out; have := HLb.out; simp; omega⟩⟩
  refine HA.out.mono ?_
  rintro e w6 ⟨rfl, hT6, hk6⟩
  have HT6 : Aside0 (Tp w6 (fun k => k ≠ w.heap.size) w.heap.size ⟨⟨la ++ lb, [], false, false, false⟩, ⟨la ++ lb, [], false, false, false⟩, 1, false⟩) := ⟨hT6⟩
  have e9 : (Ta.write ⟨⟨la, [], false, false, false⟩, ⟨la, [], false, false, false⟩, 3, false⟩ lb false).2 = 0 := rfl
  rw [e9]
  have HB6w : Aside0 (Below w.heap.size w w6) := ⟨hk6.under HB5w.out (Nat.le_refl _)⟩
  have HV6 := Aside0.mk (vb_kp HV5.out hk6 (fun _ h => h))
  clear hT6 hk6 HA e9
  have HA : Aside0 _ := ⟨crash_calls w.heap.size _ k _ _ HT6.out (fun _ h => h) (fun k hk => by have := tp_lt HT6.out; omega) (by have := HLa.out; have := HLb.out; simp; omega) (by have := HLa.out; have := HLb.out; simp; omega)⟩
  go_wp2_with fail
  refine HA.out.mono ?_
  rintro e w11 ⟨rfl, hT11, hk11⟩
  have hl0 : (Sd.crB ⟨la ++ lb, [], false, false, false⟩ k).length ≤ 600 := Nat.le_trans (crB_len _ _) (by have := HLa.out; have := HLb.out; simp; omega)
  have hl1 : (Sd.crB ⟨la ++ lb, [], false, false, false⟩ k).length ≤ 600 := Nat.le_trans (crB_len _ _) (by have := HLa.out; have := HLb.out; simp; omega)
  have HT11 := Aside0.mk hT11
  have HB11 : Aside0 (Below w.heap.size w w11) := ⟨hk11.under HB6w.out (Nat.le_refl _)⟩
  have HV11 := Aside0.mk (vb_kp HV6.out hk11 (fun _ h => h))
  have HC0 : Aside0 _ := ⟨read0_calls w.heap.size _ _ w11 HT11.out rfl (show (Sd.crB ⟨la ++ lb, [], false, false, false⟩ k).length + 0 < _ by omega)⟩
  clear hT11 hk11 HA hl0
  go_wp2_with fail
  refine HC0.out.mono ?_
  rintro e w12 ⟨v12, rfl, ho12, hb12⟩
  have ho12' : U8.R 5 w12 w11.heap.size (fun _ => True) v12 X := by rw [HX0.out]; exact ho12
  obtain ⟨A12, c12, e12, hl12, hF12⟩ := Kd.R_V (base' := 0) ho12'
  subst e12
  have HF12 := Aside0.mk hF12
  have HL12 := Aside0.mk hl12
  have HT12 := Aside0.mk (tp_below HT11.out hb12)
  have HB12 : Aside0 (Below w.heap.size w w12) := ⟨HB11.out.trans (hb12.mono HB11.out.size)⟩
  have HV12 := Aside0.mk (Kd.V_below HV11.out hb12)
  have HC1 : Aside0 _ := ⟨read1_calls w.heap.size _ _ w12 HT12.out rfl (show (Sd.crB ⟨la ++ lb, [], false, false, false⟩ k).length + 0 < _ by omega)⟩
  clear ho12 ho12' hb12 hl12 hF12 hl1 HC0
  go_wp2_with fail
  refine HC1.out.mono ?_
  rintro e w13 ⟨v13, rfl, ho13, hb13⟩
  have ho13' : U8.R 5 w13 w12.heap.size (fun _ => True) v13 X := by rw [HX0.out]; exact ho13
  obtain ⟨A13, c13, e13, hl13, hF13⟩ := Kd.R_V (base' := 0) ho13'
  subst e13
  have HF13 := Aside0.mk hF13
  have HL13 := Aside0.mk hl13
  have HB13 : Aside0 (Below w.heap.size w w13) := ⟨HB12.out.trans (hb13.mono HB12.out.size)⟩
  have HF12b := Aside0.mk (Kd.F_below HF12.out hb13)
  have HV13 := Aside0.mk (Kd.V_below HV12.out hb13)
  clear ho13 ho13' hb13 hl13 hF13 HC1
  go_wp2_with fail
  refine (answers_calls w13).mono ?_
  rintro e w14 ⟨rfl, hb14⟩
  have HB14 : Aside0 (Below w.heap.size w w14) := ⟨HB13.out.trans (hb14.mono HB13.out.size)⟩
  have HX := Aside0.mk (Kd.F_now (Kd.F_below HF12b.out hb14))
  have HY := Aside0.mk (Kd.F_now (Kd.F_below HF13.out hb14))
  obtain ⟨hnw, hlw, hFw⟩ := Kd.V_at (Kd.V_below HV13.out hb14)
  have HW := Aside0.mk (Kd.F_now hFw)
  have hlw' : X.length ≤ cw := hlw
  have HLW := Aside0.mk hlw'
  clear hnw hlw hlw' hFw
  have HRa14 := Aside0.mk (Kd.C_below HRa.out HB14.out)
  clear hb14
  go_wp2_with fail
  refine (flittingref01_Same.calls 2000 A12 c12 X Aw cw X true _ HX.out HL12.out HW.out HLW.out (same_f _ _ (by have := HLa.out; have := HLb.out; (try rw [HX0.out]); (try simp only [List.length_append]); omega) (by have := HLa.out; have := HLb.out; (try rw [HX0.out]); (try simp only [List.length_append]); omega))).mono ?_
  rintro e w15 ⟨rfl, ⟨nd15, rfl⟩⟩
  go_wp2_with fail
  refine (flittingref01_Same.calls 2000 A13 c13 X Aw cw X true _ (Kd.C_drewN HY.out _) HL13.out (Kd.C_drewN HW.out _) HLW.out (same_f _ _ (by have := HLa.out; have := HLb.out; (try rw [HX0.out]); (try simp only [List.length_append]); omega) (by have := HLa.out; have := HLb.out; (try rw [HX0.out]); (try simp only [List.length_append]); omega))).mono ?_
  rintro e w16 ⟨rfl, ⟨nd16, rfl⟩⟩
  go_wp2
  go_ret
  exact ⟨rfl, by first | exact pw_below_drewN HB14.out _ | exact pw_below_drewN (pw_below_drewN HB14.out _) _⟩
set_option maxHeartbeats 16000000 in
set_option maxRecDepth 100000 in
theorem flittinglaw10_TapeSides.c3t (a0 : Option Addr) (cap0 : Nat) (a1 : Option Addr) (cap1 : Nat) (la lb : List Int) (a2 k : Int) (w : World) (HRa : Aside0 (U8.C w a0 la.length la)) (HRb : Aside0 (U8.C w a1 lb.length lb)) (HCa : Aside0 (la.length ≤ cap0)) (HCb : Aside0 (lb.length ≤ cap1)) (HLa : Aside0 (la.length ≤ 300)) (HLb : Aside0 (lb.length ≤ 300)) (hf : a2.tmod 4 = 3) :
    Calls Try.prog 4 #[.slice a0 la.length cap0, .slice a1 lb.length cap1, .int .u8 a2, .int .i64 k, .bool true] w fun e w' => e = .returned (.bool true) ∧ Below w.heap.size w w' := by
  have HFa0 : Aside0 (Kd.F U8 w (fun k => k < w.heap.size) a0 la.length la) := ⟨Kd.C_F (Kd.heap_int _) HRa.out⟩
  have HFb0 : Aside0 (Kd.F U8 w (fun k => k < w.heap.size) a1 lb.length lb) := ⟨Kd.C_F (Kd.heap_int _) HRb.out⟩
  have d1 : decide ((300 : Int) < (la.length : Int)) = false := decide_eq_false (by have := HLa.out; omega)
  have d2 : decide (300 < la.length) = false := decide_eq_false (by have := HLa.out; omega)
  have d3 : decide ((300 : Int) < (lb.length : Int)) = false := decide_eq_false (by have := HLb.out; omega)
  have d4 : decide (300 < lb.length) = false := decide_eq_false (by have := HLb.out; omega)
  go_enter Try.func4, Try.ntmps4
  go_wp2_with fail
  refine (new_calls (fun k => k ≠ w.heap.size) w).mono ?_
  rintro e w1 ⟨rfl, hT1, hb1⟩
  have HB1 : Aside0 (Below w.heap.size w w1) := ⟨hb1⟩
  have HA : Aside0 _ := ⟨append_calls w.heap.size _ la a0 la.length cap0 _ _ hT1 (Kd.F_mono (Kd.F_below HFa0.out HB1.out) (fun k hk => by omega)) (fun _ h => h) (fun k hk => by have := hb1.size; have := tp_lt hT1; omega) ⟨by simp, by simp, by have := HLa.out; have := HLb.out; simp; omega, by have := HLa.out; have := HLb.out; simp; omega⟩⟩
  clear hT1 hb1
  go_wp2_with fail
  refine HA.out.mono ?_
  rintro e w2 ⟨rfl, hT2, hk2⟩
  have hT2' : Tp w2 (fun k => k ≠ w.heap.size) w.heap.size ⟨⟨la, [], false, false, false⟩, ⟨la, [], false, false, false⟩, -1, false⟩ := hT2
  have HB2 : Aside0 (Below w.heap.size w w2) := ⟨hk2.under HB1.out (Nat.le_refl _)⟩
  have HT2 := Aside0.mk hT2'
  clear hT2 hT2' hk2 HA
  go_wp2_with fail
  refine (fuse_calls w.heap.size _ 3 _ w2 HT2.out (fun _ h => h)).mono ?_
  rintro e w3 ⟨rfl, hT3, hk3⟩
  have HT3 : Aside0 (Tp w3 (fun k => k ≠ w.heap.size) w.heap.size ⟨⟨la, [], false, false, false⟩, ⟨la, [], false, false, false⟩, 3, false⟩) := ⟨hT3⟩
  have HB3 : Aside0 (Below w.heap.size w w3) := ⟨hk3.under HB2.out (Nat.le_refl _)⟩
  clear hT3 hk3
  have HM : Aside0 (U8.R 5 (w3.alloc (.cells #[] 5)) w3.heap.size (fun _ => True) (.slice (some ⟨w3.heap.size, 0, none⟩) 0 0) []) :=
    ⟨⟨fun _ _ => trivial, [], World.ownsRow_made w3 #[] 0 (Nat.le_refl _) (Nat.zero_le _) rfl, Reps.none _ _⟩⟩
  have HB4 : Aside0 (Below w3.heap.size w3 (w3.alloc (.cells #[] 5))) := ⟨(Below.refl _ _).alloc (Nat.le_refl _) _⟩
  go_wp2_with (first | (at_builtin; refine Kd.R_append_rows U8 (w0 := w3) (Rr := U8.K w) w3.heap.size rfl (.tmp 36) (.tmp 37) 22 5 (.int .u8 0) 1 rfl Try.underlying22 info5 rfl (by decide) (by decide) (.slice (some ⟨w3.heap.size, 0, none⟩) 0 0) [] la a0 la.length cap0 (fun _ => True) (fun _ => False) rfl rfl HM.out (Kd.C_below (Kd.C_below HRa.out HB3.out) HB4.out) (fun _ _ h => h) (fun _ hk => hk.elim) (fun _ _ => trivial) HB4.out HB4.out.size ?aL ?_; (case aL => have := HLa.out; simp only [List.length_nil]; omega); intro v1 w4 ho hb hg hat; have HO1 : Aside0 (U8.R 5 w4 w3.heap.size (fun _ => True) v1 la) := ⟨ho⟩; have HB5 := Aside0.mk hb; clear ho hb hg hat HM HB4) | (at_builtin; refine Kd.R_append_rows U8 (w0 := w3) (Rr := U8.K w) w3.heap.size rfl (.tmp 38) (.tmp 39) 22 5 (.int .u8 0) 1 rfl Try.underlying22 info5 rfl (by decide) (by decide) v1 la lb a1 lb.length cap1 (fun _ => True) (fun _ => False) rfl rfl HO1.out (Kd.C_below (Kd.C_below HRb.out HB3.out) HB5.out) (fun _ _ h => h) (fun _ hk => hk.elim) (fun _ _ => trivial) HB5.out HB5.out.size ?aL ?_; (case aL => have := HLa.out; have := HLb.out; omega); intro v2 w5 ho hb hg hat; obtain ⟨X, hX⟩ : ∃ X, X = la ++ lb := ⟨_, rfl⟩; rw [← hX] at ho; have HX0 := Aside0.mk hX; clear hX; have HV5 := Aside0.mk (vb_new (ok := fun k => k ≠ w.heap.size) ho (fun k hk => by have := tp_lt HT3.out; omega)); obtain ⟨Aw, cw, ew⟩ := Kd.R_slice ho; subst ew; have HB6 := Aside0.mk hb; have HT5 := Aside0.mk (tp_below HT3.out hb); have HB5w : Aside0 (Below w.heap.size w w5) := ⟨HB3.out.trans (hb.mono HB3.out.size)⟩; clear ho hb hg hat))
  have HA : Aside0 _ := ⟨append_calls w.heap.size _ lb a1 lb.length cap1 _ _ HT5.out (Kd.F_mono (Kd.F_below HFb0.out HB5w.out) (fun k hk => by omega)) (fun _ h => h) (fun k hk => by have := tp_lt HT5.out; omega) ⟨by simp, by simp, by have := HLa.out; have := HLb.out; simp; omega, by have := HLa.out; have := HLb.out; simp; omega⟩⟩
  refine HA.out.mono ?_
  rintro e w6 ⟨rfl, hT6, hk6⟩
  have HT6 : Aside0 (Tp w6 (fun k => k ≠ w.heap.size) w.heap.size ⟨⟨la ++ lb, [], false, false, false⟩, ⟨la ++ lb, [], false, false, false⟩, 1, false⟩) := ⟨hT6⟩
  have e9 : (Ta.write ⟨⟨la, [], false, false, false⟩, ⟨la, [], false, false, false⟩, 3, false⟩ lb false).2 = 0 := rfl
  rw [e9]
  have HB6w : Aside0 (Below w.heap.size w w6) := ⟨hk6.under HB5w.out (Nat.le_refl _)⟩
  have HV6 := Aside0.mk (vb_kp HV5.out hk6 (fun _ h => h))
  clear hT6 hk6 HA e9
  have HG2 : Aside0 (w.heap.size ≤ w6.heap.size) := ⟨HB6w.out.size⟩
  go_wp2_with fail
  refine (new_calls (fun k => k ≠ w6.heap.size) w6).mono ?_
  rintro e w7 ⟨rfl, hT1, hb1⟩
  have HB7 : Aside0 (Below w.heap.size w w7) := ⟨HB6w.out.trans (hb1.mono HB6w.out.size)⟩
  have HA : Aside0 _ := ⟨append_calls w6.heap.size _ la a0 la.length cap0 _ _ hT1 (Kd.F_mono (Kd.F_below HFa0.out HB7.out) (fun k hk => by have := HG2.out; omega)) (fun _ h => h) (fun k hk => by have := hb1.size; have := tp_lt hT1; omega) ⟨by simp, by simp, by have := HLa.out; have := HLb.out; simp; omega, by have := HLa.out; have := HLb.out; simp; omega⟩⟩
  clear hT1 hb1
  go_wp2_with fail
  refine HA.out.mono ?_
  rintro e w8 ⟨rfl, hT2, hk2⟩
  have hT2' : Tp w8 (fun k => k ≠ w6.heap.size) w6.heap.size ⟨⟨la, [], false, false, false⟩, ⟨la, [], false, false, false⟩, -1, false⟩ := hT2
  have HB8 : Aside0 (Below w.heap.size w w8) := ⟨hk2.under HB7.out HG2.out⟩
  have HT2 := Aside0.mk hT2'
  clear hT2 hT2' hk2 HA
  go_wp2_with fail
  refine (fuse_calls w6.heap.size _ 3 _ w8 HT2.out (fun _ h => h)).mono ?_
  rintro e w9 ⟨rfl, hT3, hk3⟩
  have HT9 : Aside0 (Tp w9 (fun k => k ≠ w6.heap.size) w6.heap.size ⟨⟨la, [], false, false, false⟩, ⟨la, [], false, false, false⟩, 3, false⟩) := ⟨hT3⟩
  have HB9 : Aside0 (Below w.heap.size w w9) := ⟨hk3.under HB8.out HG2.out⟩
  clear hT3 hk3
  have HA : Aside0 _ := ⟨replace_calls w6.heap.size _ lb a1 lb.length cap1 _ _ HT9.out (Kd.F_mono (Kd.F_below HFb0.out HB9.out) (fun k hk => by have := HG2.out; omega)) (fun _ h => h) (fun k hk => by have := tp_lt HT9.out; omega) ⟨by simp, by simp, by have := HLa.out; have := HLb.out; simp; omega, by have := HLa.out; have := HLb.out; simp; omega⟩⟩
  go_wp2_with fail
  refine HA.out.mono ?_
  rintro e w10 ⟨rfl, hT10, hk10⟩
  have HT10 : Aside0 (Tp w10 (fun k => k ≠ w6.heap.size) w6.heap.size ⟨⟨lb, [], false, false, false⟩, ⟨lb, [], false, false, false⟩, 1, false⟩) := ⟨hT10⟩
  have e9 : (Ta.write ⟨⟨la, [], false, false, false⟩, ⟨la, [], false, false, false⟩, 3, false⟩ lb true).2 = 0 := rfl
  rw [e9]
  have HB10 : Aside0 (Below w.heap.size w w10) := ⟨hk10.under HB9.out HG2.out⟩
  clear hT10 hk10 HA e9
  have HA : Aside0 _ := ⟨crash_calls w6.heap.size _ k _ _ HT10.out (fun _ h => h) (fun k hk => by have := tp_lt HT10.out; omega) (by have := HLa.out; have := HLb.out; simp; omega) (by have := HLa.out; have := HLb.out; simp; omega)⟩
  go_wp2_with fail
  refine HA.out.mono ?_
  rintro e w11 ⟨rfl, hT11, hk11⟩
  have hl0 : (Sd.crB ⟨lb, [], false, false, false⟩ k).length ≤ 600 := Nat.le_trans (crB_len _ _) (by have := HLa.out; have := HLb.out; simp; omega)
  have hl1 : (Sd.crB ⟨lb, [], false, false, false⟩ k).length ≤ 600 := Nat.le_trans (crB_len _ _) (by have := HLa.out; have := HLb.out; simp; omega)
  have HT11 := Aside0.mk hT11
  have HB11 : Aside0 (Below w.heap.size w w11) := ⟨hk11.under HB10.out HG2.out⟩
  skip
  have HC0 : Aside0 _ := ⟨read0_calls w6.heap.size _ _ w11 HT11.out rfl (show (Sd.crB ⟨lb, [], false, false, false⟩ k).length + 0 < _ by omega)⟩
  clear hT11 hk11 HA hl0
  go_wp2_with fail
  refine HC0.out.mono ?_
  rintro e w12 ⟨v12, rfl, ho12, hb12⟩
  have ho12' : U8.R 5 w12 w11.heap.size (fun _ => True) v12 lb := ho12
  obtain ⟨A12, c12, e12, hl12, hF12⟩ := Kd.R_V (base' := 0) ho12'
  subst e12
  have HF12 := Aside0.mk hF12
  have HL12 := Aside0.mk hl12
  have HT12 := Aside0.mk (tp_below HT11.out hb12)
  have HB12 : Aside0 (Below w.heap.size w w12) := ⟨HB11.out.trans (hb12.mono HB11.out.size)⟩
  skip
  have HC1 : Aside0 _ := ⟨read1_calls w6.heap.size _ _ w12 HT12.out rfl (show (Sd.crB ⟨lb, [], false, false, false⟩ k).length + 0 < _ by omega)⟩
  clear ho12 ho12' hb12 hl12 hF12 hl1 HC0
  go_wp2_with fail
  refine HC1.out.mono ?_
  rintro e w13 ⟨v13, rfl, ho13, hb13⟩
  have ho13' : U8.R 5 w13 w12.heap.size (fun _ => True) v13 lb := ho13
  obtain ⟨A13, c13, e13, hl13, hF13⟩ := Kd.R_V (base' := 0) ho13'
  subst e13
  have HF13 := Aside0.mk hF13
  have HL13 := Aside0.mk hl13
  have HB13 : Aside0 (Below w.heap.size w w13) := ⟨HB12.out.trans (hb13.mono HB12.out.size)⟩
  have HF12b := Aside0.mk (Kd.F_below HF12.out hb13)
  skip
  clear ho13 ho13' hb13 hl13 hF13 HC1
  go_wp2_with fail
  refine (answers_calls w13).mono ?_
  rintro e w14 ⟨rfl, hb14⟩
  have HB14 : Aside0 (Below w.heap.size w w14) := ⟨HB13.out.trans (hb14.mono HB13.out.size)⟩
  have HX := Aside0.mk (Kd.F_now (Kd.F_below HF12b.out hb14))
  have HY := Aside0.mk (Kd.F_now (Kd.F_below HF13.out hb14))
  have HW := Aside0.mk (Kd.C_below HRb.out HB14.out)
  have HLW := HCb
  have HRa14 := Aside0.mk (Kd.C_below HRa.out HB14.out)
  clear hb14
  go_wp2_with fail
  refine (flittingref01_Same.calls 2000 A12 c12 lb a1 cap1 lb true _ HX.out HL12.out HW.out HLW.out (same_f _ _ (by have := HLa.out; have := HLb.out; (try rw [HX0.out]); (try simp only [List.length_append]); omega) (by have := HLa.out; have := HLb.out; (try rw [HX0.out]); (try simp only [List.length_append]); omega))).mono ?_
  rintro e w15 ⟨rfl, ⟨nd15, rfl⟩⟩
  go_wp2_with fail
  refine (flittingref01_Same.calls 2000 A13 c13 lb a1 cap1 lb true _ (Kd.C_drewN HY.out _) HL13.out (Kd.C_drewN HW.out _) HLW.out (same_f _ _ (by have := HLa.out; have := HLb.out; (try rw [HX0.out]); (try simp only [List.length_append]); omega) (by have := HLa.out; have := HLb.out; (try rw [HX0.out]); (try simp only [List.length_append]); omega))).mono ?_
  rintro e w16 ⟨rfl, ⟨nd16, rfl⟩⟩
  go_wp2
  go_ret
  exact ⟨rfl, by first | exact pw_below_drewN HB14.out _ | exact pw_below_drewN (pw_below_drewN HB14.out _) _⟩
def flittinglaw10_TapeSides.Pure : Prop := True
set_option maxHeartbeats 16000000 in
set_option maxRecDepth 100000 in
theorem flittinglaw10_TapeSides.walk (_P : flittinglaw10_TapeSides.Pure) (a0 : Option Addr) (len0 cap0 : Nat) (z0 : List Int) (a1 : Option Addr) (len1 cap1 : Nat) (z1 : List Int) (a2 : Int) (k : Int) (sw : Bool) (w : World) (w0 : (a0 = none ∧ len0 = 0 ∧ cap0 = 0 ∧ z0 = []) ∨ ∃ x, a0 = some x ∧ len0 ≤ cap0 ∧ cap0 ≤ maxLen ∧ z0.length = cap0 ∧ (∀ i, i < z0.length → w.cell? (x.add i) = some (.int .u8 (z0.getD i 0))) ∧ ∀ n ∈ z0, (Lit.int .u8 n).wf = true) (y0 : len0 * 1 ≤ 140737488351232) (w1 : (a1 = none ∧ len1 = 0 ∧ cap1 = 0 ∧ z1 = []) ∨ ∃ x, a1 = some x ∧ len1 ≤ cap1 ∧ cap1 ≤ maxLen ∧ z1.length = cap1 ∧ (∀ i, i < z1.length → w.cell? (x.add i) = some (.int .u8 (z1.getD i 0))) ∧ ∀ n ∈ z1, (Lit.int .u8 n).wf = true) (y1 : len1 * 1 ≤ 140737488351232) (w2 : (Lit.int .u8 a2).wf = true) (w3 : (Lit.int .i64 k).wf = true) :
    Calls Try.prog 4 #[.slice a0 len0 cap0, .slice a1 len1 cap1, .int .u8 a2, .int .i64 k, .bool sw] w fun e w' => e = .returned (.bool true) ∧ Below w.heap.size w w' := by
  obtain ⟨la, rfl, hra, hma, hwa, hca⟩ := ReadsInt.ofRowC w0
  obtain ⟨lb, rfl, hrb, hmb, hwb, hcb⟩ := ReadsInt.ofRowC w1
  have HRa : Aside0 (U8.C w a0 la.length la) := ⟨Kd.C_of_reads (d := (0 : Int)) (h1 := fun _ => rfl) hra⟩
  have HRb : Aside0 (U8.C w a1 lb.length lb) := ⟨Kd.C_of_reads (d := (0 : Int)) (h1 := fun _ => rfl) hrb⟩
  have HCa := Aside0.mk hca
  have HCb := Aside0.mk hcb
  have ha2 : 0 ≤ a2 ∧ a2 < 256 := by
    have h2 := w2
    simp [Lit.wf] at h2
    have e1 : IntKind.u8.min = 0 := rfl
    have e2 : IntKind.u8.max = 255 := rfl
    rw [e1, e2] at h2
    omega
  clear w0 w1 w2 w3 y0 y1 hra hrb hma hmb hwa hwb hcb hca _P
  by_cases g1 : 300 < la.length
  · have d1 : decide ((300 : Int) < (la.length : Int)) = true := decide_eq_true (by omega)
    have d2 : decide (300 < la.length) = true := decide_eq_true g1
    clear g1
    go_enter Try.func4, Try.ntmps4
    go_wp2_with fail
    refine (answers_calls _).mono ?_
    rintro e w' ⟨rfl, hb⟩
    have HB := Aside0.mk hb
    clear hb
    go_wp2
    go_ret
    exact ⟨rfl, HB.out⟩
  by_cases g2 : 300 < lb.length
  · have d1 : decide ((300 : Int) < (la.length : Int)) = false := decide_eq_false (by omega)
    have d2 : decide (300 < la.length) = false := decide_eq_false g1
    have d3 : decide ((300 : Int) < (lb.length : Int)) = true := decide_eq_true (by omega)
    have d4 : decide (300 < lb.length) = true := decide_eq_true g2
    clear g1 g2
    go_enter Try.func4, Try.ntmps4
    go_wp2_with fail
    refine (answers_calls _).mono ?_
    rintro e w' ⟨rfl, hb⟩
    have HB := Aside0.mk hb
    clear hb
    go_wp2
    go_ret
    exact ⟨rfl, HB.out⟩
  have HLa : Aside0 (la.length ≤ 300) := ⟨by omega⟩
  have HLb : Aside0 (lb.length ≤ 300) := ⟨by omega⟩
  have h4 : a2.tmod 4 = 0 ∨ a2.tmod 4 = 1 ∨ a2.tmod 4 = 2 ∨ a2.tmod 4 = 3 := by
    rw [Int.tmod_eq_emod_of_nonneg ha2.1]; omega
  rcases h4 with h4 | h4 | h4 | h4 <;> cases sw
  · exact flittinglaw10_TapeSides.c0f a0 cap0 a1 cap1 la lb a2 k w HRa HRb HCa HCb HLa HLb h4
  · exact flittinglaw10_TapeSides.c0t a0 cap0 a1 cap1 la lb a2 k w HRa HRb HCa HCb HLa HLb h4
  · exact flittinglaw10_TapeSides.c1f a0 cap0 a1 cap1 la lb a2 k w HRa HRb HCa HCb HLa HLb h4
  · exact flittinglaw10_TapeSides.c1t a0 cap0 a1 cap1 la lb a2 k w HRa HRb HCa HCb HLa HLb h4
  · exact flittinglaw10_TapeSides.c2f a0 cap0 a1 cap1 la lb a2 k w HRa HRb HCa HCb HLa HLb h4
  · exact flittinglaw10_TapeSides.c2t a0 cap0 a1 cap1 la lb a2 k w HRa HRb HCa HCb HLa HLb h4
  · exact flittinglaw10_TapeSides.c3f a0 cap0 a1 cap1 la lb a2 k w HRa HRb HCa HCb HLa HLb h4
  · exact flittinglaw10_TapeSides.c3t a0 cap0 a1 cap1 la lb a2 k w HRa HRb HCa HCb HLa HLb h4

end Go.Proofs.Ytfjjfoijjlpcjaa.PTapeSides
