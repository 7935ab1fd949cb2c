-- Written by myprint.py (this session's own driver of the kit's print, with contracts of its own handed in).
import Derived.Test.YtjmpdiichaokhaaPGfPowersx0
namespace Go.Proofs.Ytjmpdiichaokhaa.PGfPowers
open Go.RowKit Go.Proofs.YtjmpdiichaokhaaW.PrintWords Go.Proofs.YtjmpdiichaokhaaW.PrintLast Go.Proofs.YtjmpdiichaokhaaW.PrintMore
attribute [local go_sem] max2_int min2_int max_two min_two max_three min_three max_four min_four   -- for this text's walks alone
set_option linter.unusedVariables false
set_option linter.unusedSimpArgs false

/-! ### gf_Mul: function 9 -/
def gf_Mul.l0 : Nat → Int → Int → Int → Int → Option (Int)
  | 0, _, _, _, _ => none
  | k + 1, x0, x1, x5, x6 => if x6 < 8 then (gf_Mul.l0 k (Go.bits .xor .u8 ((x0 * 2) % 256) ((29 * ((Int.tdiv x0 128) % 256)) % 256)) (x1 / 2) (Go.bits .xor .u8 x5 ((x0 * (Go.bits .and .u8 x1 1)) % 256)) (wrap64 (x6 + 1))) else (some x5)
def gf_Mul.f (k : Nat) (a0 : Int) (a1 : Int) : Option (Int) := gf_Mul.l0 k a0 a1 0 0
theorem gf_Mul.mono_l : ∀ k, (∀ y0 y1 y2 y3, LeO (gf_Mul.l0 k y0 y1 y2 y3) (gf_Mul.l0 (k + 1) y0 y1 y2 y3))
  | 0 => fun _ _ _ _ r h => by simp [gf_Mul.l0] at h
  | k + 1 => by
    have ih0 := gf_Mul.mono_l k
    · intro y0 y1 y2 y3
      unfold gf_Mul.l0
      repeat' first
      | (with_reducible exact ih0 _ _ _ _)
      | (with_reducible exact LeO.refl _)
      | (with_reducible exact LeO.none _)
      | (with_reducible refine LeO.ite ?_ ?_)
      | (with_reducible refine LeO.bind ?_ (fun _ => ?_))
      | exact ih0 _ _ _ _
      | exact LeO.none _
      | refine LeO.ite ?_ ?_
      | refine LeO.bind ?_ (fun _ => ?_)
theorem gf_Mul.mono : ∀ a0 a1 k, LeO (gf_Mul.f k a0 a1) (gf_Mul.f (k + 1) a0 a1) := by
  intro a0 a1 k
  have ih0 := gf_Mul.mono_l k
  unfold gf_Mul.f
  repeat' first
      | (with_reducible exact ih0 _ _ _ _)
      | (with_reducible exact LeO.refl _)
      | (with_reducible exact LeO.none _)
      | (with_reducible refine LeO.ite ?_ ?_)
      | (with_reducible refine LeO.bind ?_ (fun _ => ?_))
      | exact ih0 _ _ _ _
      | exact LeO.none _
      | refine LeO.ite ?_ ?_
      | refine LeO.bind ?_ (fun _ => ?_)
set_option maxHeartbeats 8000000 in
set_option maxRecDepth 100000 in
theorem gf_Mul.calls (k : Nat) (a0 : Int) (a1 : Int) (r : Int) (w : World) (h : gf_Mul.f k a0 a1 = some r) :
    Calls Try.prog 9 #[.int .u8 a0, .int .u8 a1] w fun e w' => e = .returned (.int .u8 r) ∧ Drawn0 w w' := by
  have H : (gf_Mul.l0 k a0 a1 0 0) = some r := h
  clear h
  have H' := Aside0.mk H
  clear H
  go_enter Try.func9, Try.ntmps9
  go_wp2
  go_loopg [0, 1, 5, 6] k (fun kq v0 v1 v5 v6 w' => ∃ (x0_1 : Int) (x1_1 : Int) (x5_1 : Int) (x6_1 : Int), v0 = .int .u8 x0_1 ∧ v1 = .int .u8 x1_1 ∧ v5 = .int .u8 x5_1 ∧ v6 = .int .i64 x6_1 ∧ Aside0 (gf_Mul.l0 kq x0_1 x1_1 x5_1 x6_1 = some r) ∧ Aside0 (kq ≤ k) ∧ Drawn0 w w')
  case atStart => exact ⟨(a0), (a1), (0), (0), (by first | rfl | (simp; done) | (simp [*]; done)), (by first | rfl | (simp; done) | (simp [*]; done)), (by first | rfl | (simp; done) | (simp [*]; done)), (by first | rfl | (simp; done) | (simp [*]; done)), H', ⟨Nat.le_refl _⟩, by repeat (first | exact Drawn0.refl _ | apply Drawn0.step)⟩
  case round =>
    clear H'
    try clear p2
    obtain ⟨x0_1, x1_1, x5_1, x6_1, rfl, rfl, rfl, rfl, HA, HK1, ⟨m1, rfl⟩⟩ := hrel
    cases gk with
    | zero => exact absurd HA.out (by simp [gf_Mul.l0])
    | succ k1 =>
      have H := HA.out
      clear HA
      simp only [gf_Mul.l0] at H
      by_cases c3 : x6_1 < 8
      · rw [if_pos c3] at H
        have c3b0 : decide (x6_1 < 8) = true := decide_eq_true c3
        clear c3
        have H' := Aside0.mk H
        clear H
        go_wp2
        go_roundg k1
        case measure => have := HK1.out; omega
        case rel => exact ⟨(Go.bits .xor .u8 ((x0_1 * 2) % 256) ((29 * ((Int.tdiv x0_1 128) % 256)) % 256)), (x1_1 / 2), (Go.bits .xor .u8 x5_1 ((x0_1 * (Go.bits .and .u8 x1_1 1)) % 256)), (wrap64 (x6_1 + 1)), (by first | rfl | (simp; done) | (simp [*]; done)), (by first | rfl | (simp; done) | (simp [*]; done)), (by first | rfl | (simp; done) | (simp [*]; done)), (by first | rfl | (simp; done) | (simp [*]; done)), H', ⟨by have := HK1.out; omega⟩, by repeat (first | exact Drawn0.refl _ | apply Drawn0.step)⟩
      · rw [if_neg c3] at H
        have c3b0 : decide (x6_1 < 8) = false := decide_eq_false c3
        clear c3
        obtain rfl := Option.some.inj H
        go_wp2
        go_ret
        exact ⟨by first | rfl | (simp; done) | (simp [*]; done), by repeat (first | exact Drawn0.refl _ | apply Drawn0.step)⟩

/-! ### gf_Pow: function 13 -/
def gf_Pow.l0 : Nat → Int → Int → Int → Option (Int)
  | 0, _, _, _ => none
  | k + 1, x0, x1, x5 => if x1 > 0 then (if (Go.bits .and .i64 x1 1) = 1 then ((gf_Mul.f k x5 x0).bind fun t101 => ((gf_Mul.f k x0 x0).bind fun t102 => (gf_Pow.l0 k t102 (x1 / 2) t101))) else ((gf_Mul.f k x0 x0).bind fun t103 => (gf_Pow.l0 k t103 (x1 / 2) x5))) else (some x5)
def gf_Pow.f (k : Nat) (a0 : Int) (a1 : Int) : Option (Int) := gf_Pow.l0 k a0 a1 1
theorem gf_Pow.mono_l : ∀ k, (∀ y0 y1 y2, LeO (gf_Pow.l0 k y0 y1 y2) (gf_Pow.l0 (k + 1) y0 y1 y2))
  | 0 => fun _ _ _ r h => by simp [gf_Pow.l0] at h
  | k + 1 => by
    have ih0 := gf_Pow.mono_l k
    · intro y0 y1 y2
      unfold gf_Pow.l0
      repeat' first
      | (with_reducible exact ih0 _ _ _)
      | (with_reducible exact gf_Mul.mono _ _ _)
      | (with_reducible exact LeO.refl _)
      | (with_reducible exact LeO.none _)
      | (with_reducible refine LeO.ite ?_ ?_)
      | (with_reducible refine LeO.bind ?_ (fun _ => ?_))
      | exact ih0 _ _ _
      | exact gf_Mul.mono _ _ _
      | exact LeO.none _
      | refine LeO.ite ?_ ?_
      | refine LeO.bind ?_ (fun _ => ?_)
theorem gf_Pow.mono : ∀ a0 a1 k, LeO (gf_Pow.f k a0 a1) (gf_Pow.f (k + 1) a0 a1) := by
  intro a0 a1 k
  have ih0 := gf_Pow.mono_l k
  unfold gf_Pow.f
  repeat' first
      | (with_reducible exact ih0 _ _ _)
      | (with_reducible exact gf_Mul.mono _ _ _)
      | (with_reducible exact LeO.refl _)
      | (with_reducible exact LeO.none _)
      | (with_reducible refine LeO.ite ?_ ?_)
      | (with_reducible refine LeO.bind ?_ (fun _ => ?_))
      | exact ih0 _ _ _
      | exact gf_Mul.mono _ _ _
      | exact LeO.none _
      | refine LeO.ite ?_ ?_
      | refine LeO.bind ?_ (fun _ => ?_)
set_option maxHeartbeats 8000000 in
set_option maxRecDepth 100000 in
theorem gf_Pow.calls (k : Nat) (a0 : Int) (a1 : Int) (r : Int) (w : World) (h : gf_Pow.f k a0 a1 = some r) :
    Calls Try.prog 13 #[.int .u8 a0, .int .i64 a1] w fun e w' => e = .returned (.int .u8 r) ∧ Drawn0 w w' := by
  have H : (gf_Pow.l0 k a0 a1 1) = some r := h
  clear h
  have H' := Aside0.mk H
  clear H
  go_enter Try.func13, Try.ntmps13
  go_wp2
  go_loopg [0, 1, 5] k (fun kq v0 v1 v5 w' => ∃ (x0_1 : Int) (x1_1 : Int) (x5_1 : Int), v0 = .int .u8 x0_1 ∧ v1 = .int .i64 x1_1 ∧ v5 = .int .u8 x5_1 ∧ Aside0 (gf_Pow.l0 kq x0_1 x1_1 x5_1 = some r) ∧ Aside0 (kq ≤ k) ∧ Drawn0 w w')
  case atStart => exact ⟨(a0), (a1), (1), (by first | rfl | (simp; done) | (simp [*]; done)), (by first | rfl | (simp; done) | (simp [*]; done)), (by first | rfl | (simp; done) | (simp [*]; done)), H', ⟨Nat.le_refl _⟩, by repeat (first | exact Drawn0.refl _ | apply Drawn0.step)⟩
  case round =>
    clear H'
    try clear c1
    try clear p2
    obtain ⟨x0_1, x1_1, x5_1, rfl, rfl, rfl, HA, HK1, ⟨m1, rfl⟩⟩ := hrel
    cases gk with
    | zero => exact absurd HA.out (by simp [gf_Pow.l0])
    | succ k1 =>
      have H := HA.out
      clear HA
      simp only [gf_Pow.l0] at H
      by_cases c3 : x1_1 > 0
      · rw [if_pos c3] at H
        have c3b0 : decide (0 < x1_1) = true := decide_eq_true c3
        clear c3
        by_cases c4 : (Go.bits .and .i64 x1_1 1) = 1
        · rw [if_pos c4] at H
          have c4b0 : ((Go.bits .and .i64 x1_1 1) == 1) = true := beq_iff_eq.mpr c4
          have c4b1 : ((Go.bits .and .i64 x1_1 1) != 1) = false := bne_eq_false_iff_eq.mpr c4
          clear c4
          replace H := Option.bind_eq_some_iff.mp H
          obtain ⟨t101, A50, H⟩ := H
          replace H : ((gf_Mul.f k1 x0_1 x0_1).bind fun t102 => (gf_Pow.l0 k1 t102 (x1_1 / 2) t101)) = some r := H
          have A5 := Aside0.mk A50
          clear A50
          replace H := Option.bind_eq_some_iff.mp H
          obtain ⟨t102, A60, H⟩ := H
          replace H : (gf_Pow.l0 k1 t102 (x1_1 / 2) t101) = some r := H
          have A6 := Aside0.mk A60
          clear A60
          have H' := Aside0.mk H
          clear H
          go_wp2_with (first | ((with_reducible refine gate_callee (f := 9) rfl ?_); refine goesL_ (some 15) rfl rfl Try.func9 (by kernel_rfl) rfl #[.int .u8 x5_1, .int .u8 x0_1] rfl (by (try simp only [List.map_toArray, List.map_cons, List.map_nil]); first | done | rfl | (simp only [List.length_drop, List.length_take]; rfl)) ?_; (with_reducible refine (gf_Mul.calls k1 x5_1 x0_1 t101 _ A5.out).mono ?_); rintro e w' ⟨rfl, ⟨nd, rfl⟩⟩; refine ⟨_, rfl, ?_⟩) | ((with_reducible refine gate_callee (f := 9) rfl ?_); refine goesL_ (some 18) rfl rfl Try.func9 (by kernel_rfl) rfl #[.int .u8 x0_1, .int .u8 x0_1] rfl (by (try simp only [List.map_toArray, List.map_cons, List.map_nil]); first | done | rfl | (simp only [List.length_drop, List.length_take]; rfl)) ?_; (with_reducible refine (gf_Mul.calls k1 x0_1 x0_1 t102 _ A6.out).mono ?_); rintro e w' ⟨rfl, ⟨nd, rfl⟩⟩; refine ⟨_, rfl, ?_⟩))
          go_roundg k1
          case measure => have := HK1.out; omega
          case rel => exact ⟨(t102), (x1_1 / 2), (t101), (by first | rfl | (simp; done) | (simp [*]; done)), (by first | rfl | (simp; done) | (simp [*]; done)), (by first | rfl | (simp; done) | (simp [*]; done)), H', ⟨by have := HK1.out; omega⟩, by repeat (first | exact Drawn0.refl _ | apply Drawn0.step)⟩
        · rw [if_neg c4] at H
          have c4b0 : ((Go.bits .and .i64 x1_1 1) == 1) = false := beq_eq_false_iff_ne.mpr c4
          have c4b1 : ((Go.bits .and .i64 x1_1 1) != 1) = true := bne_iff_ne.mpr c4
          replace H := Option.bind_eq_some_iff.mp H
          obtain ⟨t103, A70, H⟩ := H
          replace H : (gf_Pow.l0 k1 t103 (x1_1 / 2) x5_1) = some r := H
          have A7 := Aside0.mk A70
          clear A70
          have H' := Aside0.mk H
          clear H
          go_wp2_with (first | ((with_reducible refine gate_callee (f := 9) rfl ?_); refine goesL_ (some 18) rfl rfl Try.func9 (by kernel_rfl) rfl #[.int .u8 x0_1, .int .u8 x0_1] rfl (by (try simp only [List.map_toArray, List.map_cons, List.map_nil]); first | done | rfl | (simp only [List.length_drop, List.length_take]; rfl)) ?_; (with_reducible refine (gf_Mul.calls k1 x0_1 x0_1 t103 _ A7.out).mono ?_); rintro e w' ⟨rfl, ⟨nd, rfl⟩⟩; refine ⟨_, rfl, ?_⟩))
          go_roundg k1
          case measure => have := HK1.out; omega
          case rel => exact ⟨(t103), (x1_1 / 2), (x5_1), (by first | rfl | (simp; done) | (simp [*]; done)), (by first | rfl | (simp; done) | (simp [*]; done)), (by first | rfl | (simp; done) | (simp [*]; done)), H', ⟨by have := HK1.out; omega⟩, by repeat (first | exact Drawn0.refl _ | apply Drawn0.step)⟩
      · rw [if_neg c3] at H
        have c3b0 : decide (0 < x1_1) = false := decide_eq_false c3
        clear c3
        obtain rfl := Option.some.inj H
        go_wp2
        go_ret
        exact ⟨by first | rfl | (simp; done) | (simp [*]; done), by repeat (first | exact Drawn0.refl _ | apply Drawn0.step)⟩

/-! ### gf_Inv: function 11 -/
def gf_Inv.f (k : Nat) (a0 : Int) : Option (Int) := (gf_Pow.f k a0 254).bind fun t104 => (some t104)
theorem gf_Inv.mono : ∀ a0 k, LeO (gf_Inv.f k a0) (gf_Inv.f (k + 1) a0) := by
  intro a0 k
  unfold gf_Inv.f
  repeat' first
      | (with_reducible exact gf_Pow.mono _ _ _)
      | (with_reducible exact LeO.refl _)
      | (with_reducible exact LeO.none _)
      | (with_reducible refine LeO.ite ?_ ?_)
      | (with_reducible refine LeO.bind ?_ (fun _ => ?_))
      | exact gf_Pow.mono _ _ _
      | exact LeO.none _
      | refine LeO.ite ?_ ?_
      | refine LeO.bind ?_ (fun _ => ?_)
set_option maxHeartbeats 8000000 in
set_option maxRecDepth 100000 in
theorem gf_Inv.calls (k : Nat) (a0 : Int) (r : Int) (w : World) (h : gf_Inv.f k a0 = some r) :
    Calls Try.prog 11 #[.int .u8 a0] w fun e w' => e = .returned (.int .u8 r) ∧ Drawn0 w w' := by
  have H : ((gf_Pow.f k a0 254).bind fun t104 => (some t104)) = some r := h
  clear h
  replace H := Option.bind_eq_some_iff.mp H
  obtain ⟨t104, A20, H⟩ := H
  replace H : (some t104) = some r := H
  have A2 := Aside0.mk A20
  clear A20
  obtain rfl := Option.some.inj H
  go_enter Try.func11, Try.ntmps11
  go_wp2_with (first | ((with_reducible refine gate_callee (f := 13) rfl ?_); refine goesL_ (some 4) rfl rfl Try.func13 (by kernel_rfl) rfl #[.int .u8 a0, .int .i64 254] rfl (by (try simp only [List.map_toArray, List.map_cons, List.map_nil]); first | done | rfl | (simp only [List.length_drop, List.length_take]; rfl)) ?_; (with_reducible refine (gf_Pow.calls k a0 254 t104 _ A2.out).mono ?_); rintro e w' ⟨rfl, ⟨nd, rfl⟩⟩; refine ⟨_, rfl, ?_⟩))
  go_ret
  exact ⟨by first | rfl | (simp; done) | (simp [*]; done), by repeat (first | exact Drawn0.refl _ | apply Drawn0.step)⟩

/-! ### flittinglaw01_answers: function 8 -/
def flittinglaw01_answers.f (k : Nat)  : Option (Bool) := (gf_Mul.f k 2 128).bind fun t105 => (if t105 = 29 then ((gf_Inv.f k 1).bind fun t106 => (if t106 = 1 then ((gf_Pow.f k 2 8).bind fun t107 => (some (t107 == 29))) else (some false))) else (some false))
theorem flittinglaw01_answers.mono : ∀ k, LeO (flittinglaw01_answers.f k ) (flittinglaw01_answers.f (k + 1) ) := by
  intro  k
  unfold flittinglaw01_answers.f
  repeat' first
      | (with_reducible exact gf_Inv.mono _ _)
      | (with_reducible exact gf_Mul.mono _ _ _)
      | (with_reducible exact gf_Pow.mono _ _ _)
      | (with_reducible exact LeO.refl _)
      | (with_reducible exact LeO.none _)
      | (with_reducible refine LeO.ite ?_ ?_)
      | (with_reducible refine LeO.bind ?_ (fun _ => ?_))
      | exact gf_Inv.mono _ _
      | exact gf_Mul.mono _ _ _
      | exact gf_Pow.mono _ _ _
      | exact LeO.none _
      | refine LeO.ite ?_ ?_
      | refine LeO.bind ?_ (fun _ => ?_)
set_option maxHeartbeats 8000000 in
set_option maxRecDepth 100000 in
theorem flittinglaw01_answers.calls (k : Nat)  (r : Bool) (w : World) (h : flittinglaw01_answers.f k  = some r) :
    Calls Try.prog 8 #[] w fun e w' => e = .returned (.bool r) ∧ Drawn0 w w' := by
  have H : ((gf_Mul.f k 2 128).bind fun t105 => (if t105 = 29 then ((gf_Inv.f k 1).bind fun t106 => (if t106 = 1 then ((gf_Pow.f k 2 8).bind fun t107 => (some (t107 == 29))) else (some false))) else (some false))) = some r := h
  clear h
  replace H := Option.bind_eq_some_iff.mp H
  obtain ⟨t105, A10, H⟩ := H
  replace H : (if t105 = 29 then ((gf_Inv.f k 1).bind fun t106 => (if t106 = 1 then ((gf_Pow.f k 2 8).bind fun t107 => (some (t107 == 29))) else (some false))) else (some false)) = some r := H
  have A1 := Aside0.mk A10
  clear A10
  by_cases c2 : t105 = 29
  · rw [if_pos c2] at H
    have c2b0 : (t105 == 29) = true := beq_iff_eq.mpr c2
    have c2b1 : (t105 != 29) = false := bne_eq_false_iff_eq.mpr c2
    clear c2
    replace H := Option.bind_eq_some_iff.mp H
    obtain ⟨t106, A30, H⟩ := H
    replace H : (if t106 = 1 then ((gf_Pow.f k 2 8).bind fun t107 => (some (t107 == 29))) else (some false)) = some r := H
    have A3 := Aside0.mk A30
    clear A30
    by_cases c4 : t106 = 1
    · rw [if_pos c4] at H
      have c4b0 : (t106 == 1) = true := beq_iff_eq.mpr c4
      have c4b1 : (t106 != 1) = false := bne_eq_false_iff_eq.mpr c4
      clear c4
      replace H := Option.bind_eq_some_iff.mp H
      obtain ⟨t107, A50, H⟩ := H
      replace H : (some (t107 == 29)) = some r := H
      have A5 := Aside0.mk A50
      clear A50
      obtain rfl := Option.some.inj H
      go_enter Try.func8, Try.ntmps8
      go_wp2_with (first | ((with_reducible refine gate_callee (f := 9) rfl ?_); refine goesL_ (some 1) rfl rfl Try.func9 (by kernel_rfl) rfl #[.int .u8 2, .int .u8 128] rfl (by (try simp only [List.map_toArray, List.map_cons, List.map_nil]); first | done | rfl | (simp only [List.length_drop, List.length_take]; rfl)) ?_; (with_reducible refine (gf_Mul.calls k 2 128 t105 _ A1.out).mono ?_); rintro e w' ⟨rfl, ⟨nd, rfl⟩⟩; refine ⟨_, rfl, ?_⟩) | (go_at_call 11; (with_reducible refine (gf_Inv.calls k 1 t106 _ A3.out).mono ?_); rintro e w' ⟨rfl, ⟨nd, rfl⟩⟩) | (go_at_call 13; (with_reducible refine (gf_Pow.calls k 2 8 t107 _ A5.out).mono ?_); rintro e w' ⟨rfl, ⟨nd, rfl⟩⟩))
      go_ret
      exact ⟨by first | rfl | (simp; done) | (simp [*]; done), by repeat (first | exact Drawn0.refl _ | apply Drawn0.step)⟩
    · rw [if_neg c4] at H
      have c4b0 : (t106 == 1) = false := beq_eq_false_iff_ne.mpr c4
      have c4b1 : (t106 != 1) = true := bne_iff_ne.mpr c4
      obtain rfl := Option.some.inj H
      go_enter Try.func8, Try.ntmps8
      go_wp2_with (first | ((with_reducible refine gate_callee (f := 9) rfl ?_); refine goesL_ (some 1) rfl rfl Try.func9 (by kernel_rfl) rfl #[.int .u8 2, .int .u8 128] rfl (by (try simp only [List.map_toArray, List.map_cons, List.map_nil]); first | done | rfl | (simp only [List.length_drop, List.length_take]; rfl)) ?_; (with_reducible refine (gf_Mul.calls k 2 128 t105 _ A1.out).mono ?_); rintro e w' ⟨rfl, ⟨nd, rfl⟩⟩; refine ⟨_, rfl, ?_⟩) | (go_at_call 11; (with_reducible refine (gf_Inv.calls k 1 t106 _ A3.out).mono ?_); rintro e w' ⟨rfl, ⟨nd, rfl⟩⟩))
      go_ret
      exact ⟨by first | rfl | (simp; done) | (simp [*]; done), by repeat (first | exact Drawn0.refl _ | apply Drawn0.step)⟩
  · rw [if_neg c2] at H
    have c2b0 : (t105 == 29) = false := beq_eq_false_iff_ne.mpr c2
    have c2b1 : (t105 != 29) = true := bne_iff_ne.mpr c2
    obtain rfl := Option.some.inj H
    go_enter Try.func8, Try.ntmps8
    go_wp2_with (first | ((with_reducible refine gate_callee (f := 9) rfl ?_); refine goesL_ (some 1) rfl rfl Try.func9 (by kernel_rfl) rfl #[.int .u8 2, .int .u8 128] rfl (by (try simp only [List.map_toArray, List.map_cons, List.map_nil]); first | done | rfl | (simp only [List.length_drop, List.length_take]; rfl)) ?_; (with_reducible refine (gf_Mul.calls k 2 128 t105 _ A1.out).mono ?_); rintro e w' ⟨rfl, ⟨nd, rfl⟩⟩; refine ⟨_, rfl, ?_⟩))
    go_ret
    exact ⟨by first | rfl | (simp; done) | (simp [*]; done), by repeat (first | exact Drawn0.refl _ | apply Drawn0.step)⟩

/-! ### flittinglaw01_GfPowers: function 7, by hand -/
open Go.Proofs.Ytjmpdiichaokhaa
theorem wrap_small {i : Int} (h0 : 0 ≤ i) (h : i < 9223372036854775808) : wrap64 i = i := by unfold wrap64; omega
theorem mul_round (k a b o i : Nat) (ha : a < 256) (hb : b < 256) (ho : o < 256) (hi : i < 8) :
    gf_Mul.l0 (k + 1) (a : Int) (b : Int) (o : Int) (i : Int) = gf_Mul.l0 k ((Gf.xt a : Nat) : Int) ((b / 2 : Nat) : Int) ((o ^^^ (a * (b % 2)) : Nat) : Int) ((i + 1 : Nat) : Int) := by
  simp only [gf_Mul.l0]
  rw [if_pos (by omega)]
  have e1 : Go.bits .xor .u8 (((a : Int) * 2) % 256) ((29 * ((Int.tdiv (a : Int) 128) % 256)) % 256) = ((Gf.xt a : Nat) : Int) := by
    rw [Int.tdiv_eq_ediv_of_nonneg (by omega)]
    rw [show ((a : Int) * 2) % 256 = ((a * 2 % 256 : Nat) : Int) from by omega, show (29 * (((a : Int) / 128) % 256)) % 256 = ((29 * (a / 128 % 256) % 256 : Nat) : Int) from by omega]
    rw [Go.u8_xor_nat (a * 2 % 256) (29 * (a / 128 % 256) % 256) (by omega) (by omega)]
    rfl
  have e2 : ((a : Int) * (Go.bits .and .u8 (b : Int) 1)) % 256 = ((a * (b % 2) : Nat) : Int) := by
    rw [show (1 : Int) = ((1 : Nat) : Int) from rfl, Go.u8_and_nat b 1 hb (by decide), Go.nat_mask1]
    rcases Nat.mod_two_eq_zero_or_one b with h | h <;> rw [h] <;> omega
  have hlt : a * (b % 2) < 256 := by rcases Nat.mod_two_eq_zero_or_one b with h | h <;> rw [h] <;> omega
  rw [e1, e2, Go.u8_xor_nat _ _ ho hlt, wrap_small (by omega) (by omega)]
  rw [show ((b : Int) / 2) = ((b / 2 : Nat) : Int) from by omega, show ((i : Int) + 1) = ((i + 1 : Nat) : Int) from by omega]
theorem mul_run (n : Nat) : ∀ (k a b o i : Nat), a < 256 → b < 256 → o < 256 → n + i = 8 → n < k → gf_Mul.l0 k (a : Int) (b : Int) (o : Int) (i : Int) = some ((Gf.mulG n a b o : Nat) : Int) := by
  induction n with
  | zero =>
    intro k a b o i ha hb ho hi hk
    obtain ⟨k, rfl⟩ : ∃ m, k = m + 1 := ⟨k - 1, by omega⟩
    simp only [gf_Mul.l0]
    rw [if_neg (by omega)]
    rfl
  | succ n ih =>
    intro k a b o i ha hb ho hi hk
    obtain ⟨k, rfl⟩ : ∃ m, k = m + 1 := ⟨k - 1, by omega⟩
    have hlt : a * (b % 2) < 256 := by rcases Nat.mod_two_eq_zero_or_one b with h | h <;> rw [h] <;> omega
    rw [mul_round k a b o i ha hb ho (by omega), ih k _ _ _ _ (Gf.xt_lt a) (by omega) (Gf.xor_lt ho hlt) (by omega) (by omega)]
    rfl
theorem mul_f (k a b : Nat) (ha : a < 256) (hb : b < 256) (hk : 9 ≤ k) : gf_Mul.f k (a : Int) (b : Int) = some ((Gf.gm a b : Nat) : Int) :=
  mul_run 8 k a b 0 0 ha hb (by decide) (by decide) (by omega)

theorem and1_i64 (x : Nat) (hx : x < 9223372036854775808) : Go.bits .and .i64 (x : Int) 1 = ((x % 2 : Nat) : Int) := by
  have h := Go.bits_mask .i64 63 (by decide) (fun n h0 h1 => by rw [Go.IntKind.wrap_i64]; omega) 1 (by decide) (x : Int) (by omega) (by omega)
  rw [show ((2 : Int) ^ 1 - 1) = 1 from rfl] at h
  rw [h]
  omega
theorem pow_run (j : Nat) : ∀ (k a x o : Nat), a < 256 → o < 256 → x < 2 ^ j → x < 9223372036854775808 → j + 10 ≤ k → gf_Pow.l0 k (a : Int) (x : Int) (o : Int) = some ((Gf.gm o (Gf.gp a x) : Nat) : Int) := by
  induction j with
  | zero =>
    intro k a x o ha ho hx h63 hk
    obtain ⟨k, rfl⟩ : ∃ m, k = m + 1 := ⟨k - 1, by omega⟩
    have hx0 : x = 0 := by rw [Nat.pow_zero] at hx; omega
    subst hx0
    simp only [gf_Pow.l0]
    rw [if_neg (by omega)]
    rw [Gf.gp, Gf.gm_one o ho]
  | succ j ih =>
    intro k a x o ha ho hx h63 hk
    obtain ⟨k, rfl⟩ : ∃ m, k = m + 1 := ⟨k - 1, by omega⟩
    by_cases h0 : x = 0
    · subst h0
      simp only [gf_Pow.l0]
      rw [if_neg (by omega), Gf.gp, Gf.gm_one o ho]
    · simp only [gf_Pow.l0]
      have hd : x / 2 < 2 ^ j := by rw [Nat.pow_succ] at hx; omega
      rw [if_pos (by omega), and1_i64 x h63, mul_f k o a ho ha (by omega), mul_f k a a ha ha (by omega)]
      simp only [Option.bind_some]
      rw [show ((x : Int) / 2) = ((x / 2 : Nat) : Int) from by omega]
      have haa : Gf.gm a a < 256 := Gf.gm_lt a a ha
      by_cases h1 : x % 2 = 1
      · rw [if_pos (by omega), ih k _ _ _ haa (Gf.gm_lt o a ho) hd (by omega) (by omega), Gf.gp_double a ha]
        have e : x = 2 * (x / 2) + 1 := by omega
        conv => rhs; rw [e, Gf.gp, ← Gf.gm_comm a _ ha (Gf.gp_lt a _ ha), Gf.gm_assoc o a _ ho ha (Gf.gp_lt a _ ha)]
      · rw [if_neg (by omega), ih k _ _ _ haa ho hd (by omega) (by omega), Gf.gp_double a ha]
        have e : x = 2 * (x / 2) := by omega
        conv => rhs; rw [e]
theorem pow_f (k a x : Nat) (ha : a < 256) (hx : x < 9223372036854775808) (hk : 80 ≤ k) : gf_Pow.f k (a : Int) (x : Int) = some ((Gf.gp a x : Nat) : Int) := by
  have h := pow_run 63 k a x 1 ha (by decide) (by omega) hx (by omega)
  rw [Gf.one_gm _ (Gf.gp_lt a x ha)] at h
  exact h
theorem inv_f (k a : Nat) (ha : a < 256) (hk : 80 ≤ k) : gf_Inv.f k (a : Int) = some ((Gf.gi a : Nat) : Int) := by
  unfold gf_Inv.f
  rw [show (254 : Int) = ((254 : Nat) : Int) from rfl, pow_f k a 254 ha (by decide) hk]
  rfl
theorem answers_f (k : Nat) (hk : 80 ≤ k) : flittinglaw01_answers.f k = some true := by
  unfold flittinglaw01_answers.f
  have h1 := mul_f k 2 128 (by decide) (by decide) (by omega)
  have h2 := inv_f k 1 (by decide) hk
  have h3 := pow_f k 2 8 (by decide) (by decide) hk
  rw [show (((Gf.gm 2 128 : Nat) : Int)) = 29 from by decide +kernel] at h1
  rw [show (((Gf.gi 1 : Nat) : Int)) = 1 from by decide +kernel] at h2
  rw [show (((Gf.gp 2 8 : Nat) : Int)) = 29 from by decide +kernel] at h3
  rw [show gf_Mul.f k 2 128 = some 29 from h1, show gf_Inv.f k 1 = some 1 from h2, show gf_Pow.f k 2 8 = some 29 from h3]
  rfl
theorem byte_of {a : Int} (h : (Lit.int .u8 a).wf = true) : ∃ n : Nat, n < 256 ∧ a = (n : Int) := by
  simp [Lit.wf, IntKind.min, IntKind.max, IntKind.signed, IntKind.bits] at h
  exact ⟨a.toNat, by omega, by omega⟩

theorem two_order : ∀ d < 255, 0 < d → Gf.gp 2 d ≠ 1 := by decide +kernel
theorem two_ne (k : Nat) : Gf.gp 2 k ≠ 0 := by
  induction k with
  | zero => exact (by decide : (1 : Nat) ≠ 0)
  | succ k ih =>
    intro h
    rw [Gf.gp] at h
    rcases Gf.gm_eq_zero _ _ (Gf.gp_lt 2 k (by decide)) (by decide) h with h | h
    · exact ih h
    · exact absurd h (by decide)
theorem two_inj {j k : Nat} (hjk : j < k) (hk : k < 255) : Gf.gp 2 j ≠ Gf.gp 2 k := by
  intro h
  have e := Gf.gp_add 2 j (by decide) (k - j)
  rw [Nat.add_sub_cancel' (Nat.le_of_lt hjk), ← h] at e
  have h1 := Gf.gm_cancel (Gf.gp 2 j) 1 (Gf.gp 2 (k - j)) (Gf.gp_lt 2 j (by decide)) (by decide) (Gf.gp_lt 2 _ (by decide)) (two_ne j) (by rw [Gf.gm_one _ (Gf.gp_lt 2 j (by decide)), ← e])
  exact two_order (k - j) (by omega) (by omega) h1.symm
/-- Which bytes have come. -/
def seenB (k x : Nat) : Bool := (List.range k).any fun j => Gf.gp 2 j == x
def seenA (k : Nat) : Array Value := ((List.range 256).map fun x => Value.bool (seenB k x)).toArray
theorem seenA_size (k : Nat) : (seenA k).size = 256 := by simp [seenA]
theorem seenA_get (k x : Nat) (hx : x < 256) : (seenA k)[x]? = some (.bool (seenB k x)) := by simp [seenA, hx]
theorem seenB_new (k : Nat) (hk : k < 255) : seenB k (Gf.gp 2 k) = false := by
  unfold seenB
  rw [List.any_eq_false]
  intro j hj
  have := two_inj (List.mem_range.1 hj) hk
  simpa using this
theorem seenB_succ (k x : Nat) : seenB (k + 1) x = (seenB k x || Gf.gp 2 k == x) := by
  unfold seenB
  rw [List.range_succ, List.any_append]
  simp
theorem seenA_set (k : Nat) : (seenA k).setIfInBounds (Gf.gp 2 k) (.bool true) = seenA (k + 1) := by
  have hlt := Gf.gp_lt 2 k (by decide)
  apply Array.ext_getElem?
  intro i
  rw [Array.getElem?_setIfInBounds]
  by_cases hi : i < 256
  · rw [seenA_get (k + 1) i hi, seenB_succ]
    by_cases e : Gf.gp 2 k = i
    · rw [if_pos e, if_pos (by rw [seenA_size]; omega)]; simp [e]
    · rw [if_neg e, seenA_get k i hi]; simp [e]
  · rw [if_neg (by omega), Array.getElem?_eq_none (by rw [seenA_size]; omega), Array.getElem?_eq_none (by rw [seenA_size]; omega)]
def flittinglaw01_GfPowers.Pure : Prop := True
set_option maxHeartbeats 8000000 in
set_option maxRecDepth 100000 in
theorem flittinglaw01_GfPowers.walk (_P : flittinglaw01_GfPowers.Pure) (a0 : Int) (w : World) (w0 : (Lit.int .u8 a0).wf = true) :
    Calls Try.prog 7 #[.int .u8 a0] w fun e w' => e = .returned (.bool true) ∧ Below w.heap.size w w' := by
  obtain ⟨n, hn, rfl⟩ := byte_of w0
  clear w0
  have hz : ∀ w, Sem.run Try.prog (zeroValue 30) w = .ok (.agg (seenA 0)) w := fun w => by kernel_rfl
  obtain ⟨K, hK⟩ : ∃ K : Nat, K = 1000 := ⟨_, rfl⟩
  have HA := Aside0.mk (answers_f K (by omega))
  have hgn := Gf.gp_lt 2 n (by decide)
  have HP1 := Aside0.mk (pow_f K 2 (255 + n) (by decide) (by omega) (by omega))
  have HP2 := Aside0.mk (pow_f K 2 n (by decide) (by omega) (by omega))
  have HI := Aside0.mk (inv_f K (Gf.gp 2 n) hgn (by omega))
  have HM := Aside0.mk (mul_f K (Gf.gp 2 n) (Gf.gi (Gf.gp 2 n)) hgn (Gf.gi_lt _ hgn) (by omega))
  rw [Gf.gm_gi _ hgn (two_ne n)] at HM
  rw [show Gf.gp 2 (255 + n) = Gf.gp 2 n from by rw [Gf.gp_mod 2 (by decide) (by decide) (255 + n), Gf.gp_mod 2 (by decide) (by decide) n, Nat.add_mod_left]] at HP1
  have HMK : Aside0 (∀ k, gf_Mul.f K ((Gf.gp 2 k : Nat) : Int) 2 = some ((Gf.gp 2 (k + 1) : Nat) : Int)) := ⟨fun k => mul_f K (Gf.gp 2 k) 2 (Gf.gp_lt 2 k (by decide)) (by decide) (by omega)⟩
  have H255 : Aside0 (Gf.gp 2 255 = 1) := ⟨Gf.gp_255 2 (by decide) (by decide)⟩
  generalize hg : Gf.gp 2 n = g at *
  generalize hi : Gf.gi g = gi at *
  clear hg hi hK
  go_enter Try.func7, Try.ntmps7
  go_wp2
  clear hz
  go_loopw [4, 5] (fun v i wr => ∃ k : Nat, k ≤ 255 ∧ i = .int .i64 k ∧ v = .int .u8 ((Gf.gp 2 k : Nat) : Int) ∧ Aside0 (wr.heap[w.heap.size]? = some (.cells (seenA k) 30 (0, 0))) ∧ Aside0 (Below w.heap.size w wr)) (fun _ i _ => 255 - (intOf i).toNat)
  case atStart => exact ⟨0, by omega, rfl, rfl, ⟨blk_new w _⟩, ⟨(Below.refl _ _).alloc (Nat.le_refl _) _⟩⟩
  case round =>
    obtain ⟨k, hk, rfl, rfl, hblk, hB⟩ := hrel
    by_cases hlt : k < 255
    · have hv : Gf.gp 2 k < 256 := Gf.gp_lt 2 k (by decide)
      have hc : wr.cell? ⟨w.heap.size, Gf.gp 2 k, none⟩ = some (.bool false) := by rw [blk_cell hblk.out, seenA_get k _ hv, seenB_new k hlt]
      have hf : wr.frozen? ⟨w.heap.size, Gf.gp 2 k, none⟩ = false := blk_frozen hblk.out _
      have hne : (((Gf.gp 2 k : Nat) : Int) == 0) = false := by have := two_ne k; simpa using this
      have HS : Aside0 ((seenA k).setIfInBounds (Gf.gp 2 k) (.bool true) = seenA (k + 1)) := ⟨seenA_set k⟩
      have HMk := Aside0.mk (HMK.out k)
      generalize hgk : Gf.gp 2 k = v at *
      generalize hgk1 : Gf.gp 2 (k + 1) = v1 at *
      have Hgk1 := Aside0.mk hgk1
      clear hgk hgk1
      go_wp2_with fail
      refine (gf_Mul.calls K _ _ (v1 : Int) _ HMk.out).mono ?_
      rintro e w' ⟨rfl, ⟨nd, rfl⟩⟩
      go_wp2
      go_roundw
      case rel => exact ⟨k + 1, by omega, by go_num, by rw [Hgk1.out], ⟨by rw [← HS.out]; exact blk_set hblk.out _ _⟩, ⟨pw_below_drewN (hB.out.setCell (p := ⟨w.heap.size, v, none⟩) (Nat.le_refl _) _) _⟩⟩
      case measure => simp [intOf]; omega
    · obtain rfl : k = 255 := by omega
      have e255 := H255.out
      have c1 : (((Gf.gp 2 255 : Nat) : Int) == 1) = true := by rw [e255]; rfl
      generalize hv1 : Gf.gp 2 255 = v at *
      clear hv1 e255 H255 HMK
      have c2 : ((g : Int) == (g : Int)) = true := by simp
      go_wp2_with fail
      refine (flittinglaw01_answers.calls K true _ HA.out).mono ?_
      rintro e w' ⟨rfl, ⟨nd, rfl⟩⟩
      go_wp2_with fail
      refine (gf_Pow.calls K 2 _ (g : Int) _ HP1.out).mono ?_
      rintro e w' ⟨rfl, ⟨nd1, rfl⟩⟩
      go_wp2_with fail
      refine (gf_Pow.calls K 2 _ (g : Int) _ HP2.out).mono ?_
      rintro e w' ⟨rfl, ⟨nd2, rfl⟩⟩
      go_wp2_with fail
      refine (gf_Pow.calls K 2 _ (g : Int) _ HP2.out).mono ?_
      rintro e w' ⟨rfl, ⟨nd3, rfl⟩⟩
      go_wp2_with fail
      refine (gf_Pow.calls K 2 _ (g : Int) _ HP2.out).mono ?_
      rintro e w' ⟨rfl, ⟨nd4, rfl⟩⟩
      go_wp2_with fail
      refine (gf_Inv.calls K _ (gi : Int) _ HI.out).mono ?_
      rintro e w' ⟨rfl, ⟨nd5, rfl⟩⟩
      go_wp2_with fail
      refine (gf_Mul.calls K _ _ 1 _ HM.out).mono ?_
      rintro e w' ⟨rfl, ⟨nd6, rfl⟩⟩
      go_wp2
      go_ret
      exact ⟨rfl, by repeat (first | exact hB.out | apply pw_below_drewN | apply below_drew1)⟩

end Go.Proofs.Ytjmpdiichaokhaa.PGfPowers
