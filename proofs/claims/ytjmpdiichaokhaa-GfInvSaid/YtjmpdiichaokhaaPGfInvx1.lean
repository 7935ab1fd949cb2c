-- Written by myprint.py (this session's own driver of the kit's print, with contracts of its own handed in).
import Derived.Test.YtjmpdiichaokhaaPGfInvx0
namespace Go.Proofs.Ytjmpdiichaokhaa.PGfInv
open Go.RowKit Go.Proofs.YtjmpdiichaokhaaW.PrintWords Go.Proofs.YtjmpdiichaokhaaW.PrintLast Go.Proofs.YtjmpdiichaokhaaW.PrintMore
attribute [local go_sem] max2_int min2_int max_two min_two max_three min_three max_four min_four   -- for this text's walks alone
set_option linter.unusedVariables false
set_option linter.unusedSimpArgs false

/-! ### gf_Mul: function 9 -/
def gf_Mul.l0 : Nat → Int → Int → Int → Int → Option (Int)
  | 0, _, _, _, _ => none
  | k + 1, x0, x1, x5, x6 => if x6 < 8 then (gf_Mul.l0 k (Go.bits .xor .u8 ((x0 * 2) % 256) ((29 * ((Int.tdiv x0 128) % 256)) % 256)) (x1 / 2) (Go.bits .xor .u8 x5 ((x0 * (Go.bits .and .u8 x1 1)) % 256)) (wrap64 (x6 + 1))) else (some x5)
def gf_Mul.f (k : Nat) (a0 : Int) (a1 : Int) : Option (Int) := gf_Mul.l0 k a0 a1 0 0
theorem gf_Mul.mono_l : ∀ k, (∀ y0 y1 y2 y3, LeO (gf_Mul.l0 k y0 y1 y2 y3) (gf_Mul.l0 (k + 1) y0 y1 y2 y3))
  | 0 => fun _ _ _ _ r h => by simp [gf_Mul.l0] at h
  | k + 1 => by
    have ih0 := gf_Mul.mono_l k
    · intro y0 y1 y2 y3
      unfold gf_Mul.l0
      repeat' first
      | (with_reducible exact ih0 _ _ _ _)
      | (with_reducible exact LeO.refl _)
      | (with_reducible exact LeO.none _)
      | (with_reducible refine LeO.ite ?_ ?_)
      | (with_reducible refine LeO.bind ?_ (fun _ => ?_))
      | exact ih0 _ _ _ _
      | exact LeO.none _
      | refine LeO.ite ?_ ?_
      | refine LeO.bind ?_ (fun _ => ?_)
theorem gf_Mul.mono : ∀ a0 a1 k, LeO (gf_Mul.f k a0 a1) (gf_Mul.f (k + 1) a0 a1) := by
  intro a0 a1 k
  have ih0 := gf_Mul.mono_l k
  unfold gf_Mul.f
  repeat' first
      | (with_reducible exact ih0 _ _ _ _)
      | (with_reducible exact LeO.refl _)
      | (with_reducible exact LeO.none _)
      | (with_reducible refine LeO.ite ?_ ?_)
      | (with_reducible refine LeO.bind ?_ (fun _ => ?_))
      | exact ih0 _ _ _ _
      | exact LeO.none _
      | refine LeO.ite ?_ ?_
      | refine LeO.bind ?_ (fun _ => ?_)
set_option maxHeartbeats 8000000 in
set_option maxRecDepth 100000 in
theorem gf_Mul.calls (k : Nat) (a0 : Int) (a1 : Int) (r : Int) (w : World) (h : gf_Mul.f k a0 a1 = some r) :
    Calls Try.prog 9 #[.int .u8 a0, .int .u8 a1] w fun e w' => e = .returned (.int .u8 r) ∧ Drawn0 w w' := by
  have H : (gf_Mul.l0 k a0 a1 0 0) = some r := h
  clear h
  have H' := Aside0.mk H
  clear H
  go_enter Try.func9, Try.ntmps9
  go_wp2
  go_loopg [0, 1, 5, 6] k (fun kq v0 v1 v5 v6 w' => ∃ (x0_1 : Int) (x1_1 : Int) (x5_1 : Int) (x6_1 : Int), v0 = .int .u8 x0_1 ∧ v1 = .int .u8 x1_1 ∧ v5 = .int .u8 x5_1 ∧ v6 = .int .i64 x6_1 ∧ Aside0 (gf_Mul.l0 kq x0_1 x1_1 x5_1 x6_1 = some r) ∧ Aside0 (kq ≤ k) ∧ Drawn0 w w')
  case atStart => exact ⟨(a0), (a1), (0), (0), (by first | rfl | (simp; done) | (simp [*]; done)), (by first | rfl | (simp; done) | (simp [*]; done)), (by first | rfl | (simp; done) | (simp [*]; done)), (by first | rfl | (simp; done) | (simp [*]; done)), H', ⟨Nat.le_refl _⟩, by repeat (first | exact Drawn0.refl _ | apply Drawn0.step)⟩
  case round =>
    clear H'
    try clear p2
    obtain ⟨x0_1, x1_1, x5_1, x6_1, rfl, rfl, rfl, rfl, HA, HK1, ⟨m1, rfl⟩⟩ := hrel
    cases gk with
    | zero => exact absurd HA.out (by simp [gf_Mul.l0])
    | succ k1 =>
      have H := HA.out
      clear HA
      simp only [gf_Mul.l0] at H
      by_cases c3 : x6_1 < 8
      · rw [if_pos c3] at H
        have c3b0 : decide (x6_1 < 8) = true := decide_eq_true c3
        clear c3
        have H' := Aside0.mk H
        clear H
        go_wp2
        go_roundg k1
        case measure => have := HK1.out; omega
        case rel => exact ⟨(Go.bits .xor .u8 ((x0_1 * 2) % 256) ((29 * ((Int.tdiv x0_1 128) % 256)) % 256)), (x1_1 / 2), (Go.bits .xor .u8 x5_1 ((x0_1 * (Go.bits .and .u8 x1_1 1)) % 256)), (wrap64 (x6_1 + 1)), (by first | rfl | (simp; done) | (simp [*]; done)), (by first | rfl | (simp; done) | (simp [*]; done)), (by first | rfl | (simp; done) | (simp [*]; done)), (by first | rfl | (simp; done) | (simp [*]; done)), H', ⟨by have := HK1.out; omega⟩, by repeat (first | exact Drawn0.refl _ | apply Drawn0.step)⟩
      · rw [if_neg c3] at H
        have c3b0 : decide (x6_1 < 8) = false := decide_eq_false c3
        clear c3
        obtain rfl := Option.some.inj H
        go_wp2
        go_ret
        exact ⟨by first | rfl | (simp; done) | (simp [*]; done), by repeat (first | exact Drawn0.refl _ | apply Drawn0.step)⟩

/-! ### gf_Pow: function 13 -/
def gf_Pow.l0 : Nat → Int → Int → Int → Option (Int)
  | 0, _, _, _ => none
  | k + 1, x0, x1, x5 => if x1 > 0 then (if (Go.bits .and .i64 x1 1) = 1 then ((gf_Mul.f k x5 x0).bind fun t101 => ((gf_Mul.f k x0 x0).bind fun t102 => (gf_Pow.l0 k t102 (x1 / 2) t101))) else ((gf_Mul.f k x0 x0).bind fun t103 => (gf_Pow.l0 k t103 (x1 / 2) x5))) else (some x5)
def gf_Pow.f (k : Nat) (a0 : Int) (a1 : Int) : Option (Int) := gf_Pow.l0 k a0 a1 1
theorem gf_Pow.mono_l : ∀ k, (∀ y0 y1 y2, LeO (gf_Pow.l0 k y0 y1 y2) (gf_Pow.l0 (k + 1) y0 y1 y2))
  | 0 => fun _ _ _ r h => by simp [gf_Pow.l0] at h
  | k + 1 => by
    have ih0 := gf_Pow.mono_l k
    · intro y0 y1 y2
      unfold gf_Pow.l0
      repeat' first
      | (with_reducible exact ih0 _ _ _)
      | (with_reducible exact gf_Mul.mono _ _ _)
      | (with_reducible exact LeO.refl _)
      | (with_reducible exact LeO.none _)
      | (with_reducible refine LeO.ite ?_ ?_)
      | (with_reducible refine LeO.bind ?_ (fun _ => ?_))
      | exact ih0 _ _ _
      | exact gf_Mul.mono _ _ _
      | exact LeO.none _
      | refine LeO.ite ?_ ?_
      | refine LeO.bind ?_ (fun _ => ?_)
theorem gf_Pow.mono : ∀ a0 a1 k, LeO (gf_Pow.f k a0 a1) (gf_Pow.f (k + 1) a0 a1) := by
  intro a0 a1 k
  have ih0 := gf_Pow.mono_l k
  unfold gf_Pow.f
  repeat' first
      | (with_reducible exact ih0 _ _ _)
      | (with_reducible exact gf_Mul.mono _ _ _)
      | (with_reducible exact LeO.refl _)
      | (with_reducible exact LeO.none _)
      | (with_reducible refine LeO.ite ?_ ?_)
      | (with_reducible refine LeO.bind ?_ (fun _ => ?_))
      | exact ih0 _ _ _
      | exact gf_Mul.mono _ _ _
      | exact LeO.none _
      | refine LeO.ite ?_ ?_
      | refine LeO.bind ?_ (fun _ => ?_)
set_option maxHeartbeats 8000000 in
set_option maxRecDepth 100000 in
theorem gf_Pow.calls (k : Nat) (a0 : Int) (a1 : Int) (r : Int) (w : World) (h : gf_Pow.f k a0 a1 = some r) :
    Calls Try.prog 13 #[.int .u8 a0, .int .i64 a1] w fun e w' => e = .returned (.int .u8 r) ∧ Drawn0 w w' := by
  have H : (gf_Pow.l0 k a0 a1 1) = some r := h
  clear h
  have H' := Aside0.mk H
  clear H
  go_enter Try.func13, Try.ntmps13
  go_wp2
  go_loopg [0, 1, 5] k (fun kq v0 v1 v5 w' => ∃ (x0_1 : Int) (x1_1 : Int) (x5_1 : Int), v0 = .int .u8 x0_1 ∧ v1 = .int .i64 x1_1 ∧ v5 = .int .u8 x5_1 ∧ Aside0 (gf_Pow.l0 kq x0_1 x1_1 x5_1 = some r) ∧ Aside0 (kq ≤ k) ∧ Drawn0 w w')
  case atStart => exact ⟨(a0), (a1), (1), (by first | rfl | (simp; done) | (simp [*]; done)), (by first | rfl | (simp; done) | (simp [*]; done)), (by first | rfl | (simp; done) | (simp [*]; done)), H', ⟨Nat.le_refl _⟩, by repeat (first | exact Drawn0.refl _ | apply Drawn0.step)⟩
  case round =>
    clear H'
    try clear c1
    try clear p2
    obtain ⟨x0_1, x1_1, x5_1, rfl, rfl, rfl, HA, HK1, ⟨m1, rfl⟩⟩ := hrel
    cases gk with
    | zero => exact absurd HA.out (by simp [gf_Pow.l0])
    | succ k1 =>
      have H := HA.out
      clear HA
      simp only [gf_Pow.l0] at H
      by_cases c3 : x1_1 > 0
      · rw [if_pos c3] at H
        have c3b0 : decide (0 < x1_1) = true := decide_eq_true c3
        clear c3
        by_cases c4 : (Go.bits .and .i64 x1_1 1) = 1
        · rw [if_pos c4] at H
          have c4b0 : ((Go.bits .and .i64 x1_1 1) == 1) = true := beq_iff_eq.mpr c4
          have c4b1 : ((Go.bits .and .i64 x1_1 1) != 1) = false := bne_eq_false_iff_eq.mpr c4
          clear c4
          replace H := Option.bind_eq_some_iff.mp H
          obtain ⟨t101, A50, H⟩ := H
          replace H : ((gf_Mul.f k1 x0_1 x0_1).bind fun t102 => (gf_Pow.l0 k1 t102 (x1_1 / 2) t101)) = some r := H
          have A5 := Aside0.mk A50
          clear A50
          replace H := Option.bind_eq_some_iff.mp H
          obtain ⟨t102, A60, H⟩ := H
          replace H : (gf_Pow.l0 k1 t102 (x1_1 / 2) t101) = some r := H
          have A6 := Aside0.mk A60
          clear A60
          have H' := Aside0.mk H
          clear H
          go_wp2_with (first | ((with_reducible refine gate_callee (f := 9) rfl ?_); refine goesL_ (some 15) rfl rfl Try.func9 (by kernel_rfl) rfl #[.int .u8 x5_1, .int .u8 x0_1] rfl (by (try simp only [List.map_toArray, List.map_cons, List.map_nil]); first | done | rfl | (simp only [List.length_drop, List.length_take]; rfl)) ?_; (with_reducible refine (gf_Mul.calls k1 x5_1 x0_1 t101 _ A5.out).mono ?_); rintro e w' ⟨rfl, ⟨nd, rfl⟩⟩; refine ⟨_, rfl, ?_⟩) | ((with_reducible refine gate_callee (f := 9) rfl ?_); refine goesL_ (some 18) rfl rfl Try.func9 (by kernel_rfl) rfl #[.int .u8 x0_1, .int .u8 x0_1] rfl (by (try simp only [List.map_toArray, List.map_cons, List.map_nil]); first | done | rfl | (simp only [List.length_drop, List.length_take]; rfl)) ?_; (with_reducible refine (gf_Mul.calls k1 x0_1 x0_1 t102 _ A6.out).mono ?_); rintro e w' ⟨rfl, ⟨nd, rfl⟩⟩; refine ⟨_, rfl, ?_⟩))
          go_roundg k1
          case measure => have := HK1.out; omega
          case rel => exact ⟨(t102), (x1_1 / 2), (t101), (by first | rfl | (simp; done) | (simp [*]; done)), (by first | rfl | (simp; done) | (simp [*]; done)), (by first | rfl | (simp; done) | (simp [*]; done)), H', ⟨by have := HK1.out; omega⟩, by repeat (first | exact Drawn0.refl _ | apply Drawn0.step)⟩
        · rw [if_neg c4] at H
          have c4b0 : ((Go.bits .and .i64 x1_1 1) == 1) = false := beq_eq_false_iff_ne.mpr c4
          have c4b1 : ((Go.bits .and .i64 x1_1 1) != 1) = true := bne_iff_ne.mpr c4
          replace H := Option.bind_eq_some_iff.mp H
          obtain ⟨t103, A70, H⟩ := H
          replace H : (gf_Pow.l0 k1 t103 (x1_1 / 2) x5_1) = some r := H
          have A7 := Aside0.mk A70
          clear A70
          have H' := Aside0.mk H
          clear H
          go_wp2_with (first | ((with_reducible refine gate_callee (f := 9) rfl ?_); refine goesL_ (some 18) rfl rfl Try.func9 (by kernel_rfl) rfl #[.int .u8 x0_1, .int .u8 x0_1] rfl (by (try simp only [List.map_toArray, List.map_cons, List.map_nil]); first | done | rfl | (simp only [List.length_drop, List.length_take]; rfl)) ?_; (with_reducible refine (gf_Mul.calls k1 x0_1 x0_1 t103 _ A7.out).mono ?_); rintro e w' ⟨rfl, ⟨nd, rfl⟩⟩; refine ⟨_, rfl, ?_⟩))
          go_roundg k1
          case measure => have := HK1.out; omega
          case rel => exact ⟨(t103), (x1_1 / 2), (x5_1), (by first | rfl | (simp; done) | (simp [*]; done)), (by first | rfl | (simp; done) | (simp [*]; done)), (by first | rfl | (simp; done) | (simp [*]; done)), H', ⟨by have := HK1.out; omega⟩, by repeat (first | exact Drawn0.refl _ | apply Drawn0.step)⟩
      · rw [if_neg c3] at H
        have c3b0 : decide (0 < x1_1) = false := decide_eq_false c3
        clear c3
        obtain rfl := Option.some.inj H
        go_wp2
        go_ret
        exact ⟨by first | rfl | (simp; done) | (simp [*]; done), by repeat (first | exact Drawn0.refl _ | apply Drawn0.step)⟩

/-! ### gf_Inv: function 11 -/
def gf_Inv.f (k : Nat) (a0 : Int) : Option (Int) := (gf_Pow.f k a0 254).bind fun t104 => (some t104)
theorem gf_Inv.mono : ∀ a0 k, LeO (gf_Inv.f k a0) (gf_Inv.f (k + 1) a0) := by
  intro a0 k
  unfold gf_Inv.f
  repeat' first
      | (with_reducible exact gf_Pow.mono _ _ _)
      | (with_reducible exact LeO.refl _)
      | (with_reducible exact LeO.none _)
      | (with_reducible refine LeO.ite ?_ ?_)
      | (with_reducible refine LeO.bind ?_ (fun _ => ?_))
      | exact gf_Pow.mono _ _ _
      | exact LeO.none _
      | refine LeO.ite ?_ ?_
      | refine LeO.bind ?_ (fun _ => ?_)
set_option maxHeartbeats 8000000 in
set_option maxRecDepth 100000 in
theorem gf_Inv.calls (k : Nat) (a0 : Int) (r : Int) (w : World) (h : gf_Inv.f k a0 = some r) :
    Calls Try.prog 11 #[.int .u8 a0] w fun e w' => e = .returned (.int .u8 r) ∧ Drawn0 w w' := by
  have H : ((gf_Pow.f k a0 254).bind fun t104 => (some t104)) = some r := h
  clear h
  replace H := Option.bind_eq_some_iff.mp H
  obtain ⟨t104, A20, H⟩ := H
  replace H : (some t104) = some r := H
  have A2 := Aside0.mk A20
  clear A20
  obtain rfl := Option.some.inj H
  go_enter Try.func11, Try.ntmps11
  go_wp2_with (first | ((with_reducible refine gate_callee (f := 13) rfl ?_); refine goesL_ (some 4) rfl rfl Try.func13 (by kernel_rfl) rfl #[.int .u8 a0, .int .i64 254] rfl (by (try simp only [List.map_toArray, List.map_cons, List.map_nil]); first | done | rfl | (simp only [List.length_drop, List.length_take]; rfl)) ?_; (with_reducible refine (gf_Pow.calls k a0 254 t104 _ A2.out).mono ?_); rintro e w' ⟨rfl, ⟨nd, rfl⟩⟩; refine ⟨_, rfl, ?_⟩))
  go_ret
  exact ⟨by first | rfl | (simp; done) | (simp [*]; done), by repeat (first | exact Drawn0.refl _ | apply Drawn0.step)⟩

/-! ### flittinglaw01_answers: function 8 -/
def flittinglaw01_answers.f (k : Nat)  : Option (Bool) := (gf_Mul.f k 2 128).bind fun t105 => (if t105 = 29 then ((gf_Inv.f k 1).bind fun t106 => (if t106 = 1 then ((gf_Pow.f k 2 8).bind fun t107 => (some (t107 == 29))) else (some false))) else (some false))
theorem flittinglaw01_answers.mono : ∀ k, LeO (flittinglaw01_answers.f k ) (flittinglaw01_answers.f (k + 1) ) := by
  intro  k
  unfold flittinglaw01_answers.f
  repeat' first
      | (with_reducible exact gf_Inv.mono _ _)
      | (with_reducible exact gf_Mul.mono _ _ _)
      | (with_reducible exact gf_Pow.mono _ _ _)
      | (with_reducible exact LeO.refl _)
      | (with_reducible exact LeO.none _)
      | (with_reducible refine LeO.ite ?_ ?_)
      | (with_reducible refine LeO.bind ?_ (fun _ => ?_))
      | exact gf_Inv.mono _ _
      | exact gf_Mul.mono _ _ _
      | exact gf_Pow.mono _ _ _
      | exact LeO.none _
      | refine LeO.ite ?_ ?_
      | refine LeO.bind ?_ (fun _ => ?_)
set_option maxHeartbeats 8000000 in
set_option maxRecDepth 100000 in
theorem flittinglaw01_answers.calls (k : Nat)  (r : Bool) (w : World) (h : flittinglaw01_answers.f k  = some r) :
    Calls Try.prog 8 #[] w fun e w' => e = .returned (.bool r) ∧ Drawn0 w w' := by
  have H : ((gf_Mul.f k 2 128).bind fun t105 => (if t105 = 29 then ((gf_Inv.f k 1).bind fun t106 => (if t106 = 1 then ((gf_Pow.f k 2 8).bind fun t107 => (some (t107 == 29))) else (some false))) else (some false))) = some r := h
  clear h
  replace H := Option.bind_eq_some_iff.mp H
  obtain ⟨t105, A10, H⟩ := H
  replace H : (if t105 = 29 then ((gf_Inv.f k 1).bind fun t106 => (if t106 = 1 then ((gf_Pow.f k 2 8).bind fun t107 => (some (t107 == 29))) else (some false))) else (some false)) = some r := H
  have A1 := Aside0.mk A10
  clear A10
  by_cases c2 : t105 = 29
  · rw [if_pos c2] at H
    have c2b0 : (t105 == 29) = true := beq_iff_eq.mpr c2
    have c2b1 : (t105 != 29) = false := bne_eq_false_iff_eq.mpr c2
    clear c2
    replace H := Option.bind_eq_some_iff.mp H
    obtain ⟨t106, A30, H⟩ := H
    replace H : (if t106 = 1 then ((gf_Pow.f k 2 8).bind fun t107 => (some (t107 == 29))) else (some false)) = some r := H
    have A3 := Aside0.mk A30
    clear A30
    by_cases c4 : t106 = 1
    · rw [if_pos c4] at H
      have c4b0 : (t106 == 1) = true := beq_iff_eq.mpr c4
      have c4b1 : (t106 != 1) = false := bne_eq_false_iff_eq.mpr c4
      clear c4
      replace H := Option.bind_eq_some_iff.mp H
      obtain ⟨t107, A50, H⟩ := H
      replace H : (some (t107 == 29)) = some r := H
      have A5 := Aside0.mk A50
      clear A50
      obtain rfl := Option.some.inj H
      go_enter Try.func8, Try.ntmps8
      go_wp2_with (first | ((with_reducible refine gate_callee (f := 9) rfl ?_); refine goesL_ (some 1) rfl rfl Try.func9 (by kernel_rfl) rfl #[.int .u8 2, .int .u8 128] rfl (by (try simp only [List.map_toArray, List.map_cons, List.map_nil]); first | done | rfl | (simp only [List.length_drop, List.length_take]; rfl)) ?_; (with_reducible refine (gf_Mul.calls k 2 128 t105 _ A1.out).mono ?_); rintro e w' ⟨rfl, ⟨nd, rfl⟩⟩; refine ⟨_, rfl, ?_⟩) | (go_at_call 11; (with_reducible refine (gf_Inv.calls k 1 t106 _ A3.out).mono ?_); rintro e w' ⟨rfl, ⟨nd, rfl⟩⟩) | (go_at_call 13; (with_reducible refine (gf_Pow.calls k 2 8 t107 _ A5.out).mono ?_); rintro e w' ⟨rfl, ⟨nd, rfl⟩⟩))
      go_ret
      exact ⟨by first | rfl | (simp; done) | (simp [*]; done), by repeat (first | exact Drawn0.refl _ | apply Drawn0.step)⟩
    · rw [if_neg c4] at H
      have c4b0 : (t106 == 1) = false := beq_eq_false_iff_ne.mpr c4
      have c4b1 : (t106 != 1) = true := bne_iff_ne.mpr c4
      obtain rfl := Option.some.inj H
      go_enter Try.func8, Try.ntmps8
      go_wp2_with (first | ((with_reducible refine gate_callee (f := 9) rfl ?_); refine goesL_ (some 1) rfl rfl Try.func9 (by kernel_rfl) rfl #[.int .u8 2, .int .u8 128] rfl (by (try simp only [List.map_toArray, List.map_cons, List.map_nil]); first | done | rfl | (simp only [List.length_drop, List.length_take]; rfl)) ?_; (with_reducible refine (gf_Mul.calls k 2 128 t105 _ A1.out).mono ?_); rintro e w' ⟨rfl, ⟨nd, rfl⟩⟩; refine ⟨_, rfl, ?_⟩) | (go_at_call 11; (with_reducible refine (gf_Inv.calls k 1 t106 _ A3.out).mono ?_); rintro e w' ⟨rfl, ⟨nd, rfl⟩⟩))
      go_ret
      exact ⟨by first | rfl | (simp; done) | (simp [*]; done), by repeat (first | exact Drawn0.refl _ | apply Drawn0.step)⟩
  · rw [if_neg c2] at H
    have c2b0 : (t105 == 29) = false := beq_eq_false_iff_ne.mpr c2
    have c2b1 : (t105 != 29) = true := bne_iff_ne.mpr c2
    obtain rfl := Option.some.inj H
    go_enter Try.func8, Try.ntmps8
    go_wp2_with (first | ((with_reducible refine gate_callee (f := 9) rfl ?_); refine goesL_ (some 1) rfl rfl Try.func9 (by kernel_rfl) rfl #[.int .u8 2, .int .u8 128] rfl (by (try simp only [List.map_toArray, List.map_cons, List.map_nil]); first | done | rfl | (simp only [List.length_drop, List.length_take]; rfl)) ?_; (with_reducible refine (gf_Mul.calls k 2 128 t105 _ A1.out).mono ?_); rintro e w' ⟨rfl, ⟨nd, rfl⟩⟩; refine ⟨_, rfl, ?_⟩))
    go_ret
    exact ⟨by first | rfl | (simp; done) | (simp [*]; done), by repeat (first | exact Drawn0.refl _ | apply Drawn0.step)⟩

/-! ### flittingref01_Mul: function 10 -/
mutual
def flittingref01_Mul.l0 : Nat → Int → Int → Int → Int → Option (Int)
  | 0, _, _, _, _ => none
  | k + 1, x0, x1, x5, x6 => if x6 < 8 then (if 0 ≤ (IntKind.u64.wrap (x6)) then (if (Int.tmod (shr .u8 x1 (IntKind.u64.wrap (x6))) 2) = 1 then (flittingref01_Mul.l0 k x0 x1 (Go.bits .xor .i64 x5 (shl .i64 (wrap64 (x0)) (IntKind.u64.wrap (x6)))) (wrap64 (x6 + 1))) else (flittingref01_Mul.l0 k x0 x1 x5 (wrap64 (x6 + 1)))) else (none)) else (flittingref01_Mul.l1 k x5 14)
def flittingref01_Mul.l1 : Nat → Int → Int → Option (Int)
  | 0, _, _ => none
  | k + 1, x5, x7 => if x7 ≥ 8 then (if 0 ≤ (IntKind.u64.wrap (x7)) then (if (Int.tmod (shr .i64 x5 (IntKind.u64.wrap (x7))) 2) = 1 then (if 0 ≤ (IntKind.u64.wrap (wrap64 (x7 - 8))) then (flittingref01_Mul.l1 k (Go.bits .xor .i64 x5 (shl .i64 285 (IntKind.u64.wrap (wrap64 (x7 - 8))))) (wrap64 (x7 - 1))) else (none)) else (flittingref01_Mul.l1 k x5 (wrap64 (x7 - 1)))) else (none)) else (some ((x5) % 256))
end
def flittingref01_Mul.f (k : Nat) (a0 : Int) (a1 : Int) : Option (Int) := flittingref01_Mul.l0 k a0 a1 0 0
theorem flittingref01_Mul.mono_l : ∀ k, (∀ y0 y1 y2 y3, LeO (flittingref01_Mul.l0 k y0 y1 y2 y3) (flittingref01_Mul.l0 (k + 1) y0 y1 y2 y3)) ∧ (∀ y0 y1, LeO (flittingref01_Mul.l1 k y0 y1) (flittingref01_Mul.l1 (k + 1) y0 y1))
  | 0 => ⟨fun _ _ _ _ r h => by simp [flittingref01_Mul.l0] at h, fun _ _ r h => by simp [flittingref01_Mul.l1] at h⟩
  | k + 1 => by
    obtain ⟨ih0, ih1⟩ := flittingref01_Mul.mono_l k
    refine ⟨?_, ?_⟩
    · intro y0 y1 y2 y3
      unfold flittingref01_Mul.l0
      repeat' first
      | (with_reducible exact ih0 _ _ _ _)
      | (with_reducible exact ih1 _ _)
      | (with_reducible exact LeO.refl _)
      | (with_reducible exact LeO.none _)
      | (with_reducible refine LeO.ite ?_ ?_)
      | (with_reducible refine LeO.bind ?_ (fun _ => ?_))
      | exact ih0 _ _ _ _
      | exact ih1 _ _
      | exact LeO.none _
      | refine LeO.ite ?_ ?_
      | refine LeO.bind ?_ (fun _ => ?_)
    · intro y0 y1
      unfold flittingref01_Mul.l1
      repeat' first
      | (with_reducible exact ih0 _ _ _ _)
      | (with_reducible exact ih1 _ _)
      | (with_reducible exact LeO.refl _)
      | (with_reducible exact LeO.none _)
      | (with_reducible refine LeO.ite ?_ ?_)
      | (with_reducible refine LeO.bind ?_ (fun _ => ?_))
      | exact ih0 _ _ _ _
      | exact ih1 _ _
      | exact LeO.none _
      | refine LeO.ite ?_ ?_
      | refine LeO.bind ?_ (fun _ => ?_)
theorem flittingref01_Mul.mono : ∀ a0 a1 k, LeO (flittingref01_Mul.f k a0 a1) (flittingref01_Mul.f (k + 1) a0 a1) := by
  intro a0 a1 k
  obtain ⟨ih0, ih1⟩ := flittingref01_Mul.mono_l k
  unfold flittingref01_Mul.f
  repeat' first
      | (with_reducible exact ih0 _ _ _ _)
      | (with_reducible exact ih1 _ _)
      | (with_reducible exact LeO.refl _)
      | (with_reducible exact LeO.none _)
      | (with_reducible refine LeO.ite ?_ ?_)
      | (with_reducible refine LeO.bind ?_ (fun _ => ?_))
      | exact ih0 _ _ _ _
      | exact ih1 _ _
      | exact LeO.none _
      | refine LeO.ite ?_ ?_
      | refine LeO.bind ?_ (fun _ => ?_)
set_option maxHeartbeats 8000000 in
set_option maxRecDepth 100000 in
theorem flittingref01_Mul.calls (k : Nat) (a0 : Int) (a1 : Int) (r : Int) (w : World) (h : flittingref01_Mul.f k a0 a1 = some r) :
    Calls Try.prog 10 #[.int .u8 a0, .int .u8 a1] w fun e w' => e = .returned (.int .u8 r) ∧ Drawn0 w w' := by
  have H : (flittingref01_Mul.l0 k a0 a1 0 0) = some r := h
  clear h
  have H' := Aside0.mk H
  clear H
  go_enter Try.func10, Try.ntmps10
  go_wp2
  go_loopg [5, 6] k (fun kq v5 v6 w' => ∃ (x5_1 : Int) (x6_1 : Int), v5 = .int .i64 x5_1 ∧ v6 = .int .i64 x6_1 ∧ Aside0 (flittingref01_Mul.l0 kq a0 a1 x5_1 x6_1 = some r) ∧ Aside0 (kq ≤ k) ∧ Drawn0 w w')
  case atStart => exact ⟨(0), (0), (by first | rfl | (simp; done) | (simp [*]; done)), (by first | rfl | (simp; done) | (simp [*]; done)), H', ⟨Nat.le_refl _⟩, by repeat (first | exact Drawn0.refl _ | apply Drawn0.step)⟩
  case round =>
    clear H'
    try clear c1
    try clear p2
    obtain ⟨x5_1, x6_1, rfl, rfl, HA, HK1, ⟨m1, rfl⟩⟩ := hrel
    cases gk with
    | zero => exact absurd HA.out (by simp [flittingref01_Mul.l0])
    | succ k1 =>
      have H := HA.out
      clear HA
      simp only [flittingref01_Mul.l0] at H
      by_cases c3 : x6_1 < 8
      · rw [if_pos c3] at H
        have c3b0 : decide (x6_1 < 8) = true := decide_eq_true c3
        clear c3
        obtain ⟨ji4, hji4⟩ : ∃ j_ : Int, (IntKind.u64.wrap (x6_1)) = j_ := ⟨_, rfl⟩
        replace H : (if 0 ≤ (ji4) then (if (Int.tmod (shr .u8 a1 (ji4)) 2) = 1 then (flittingref01_Mul.l0 k1 a0 a1 (Go.bits .xor .i64 x5_1 (shl .i64 (wrap64 (a0)) (ji4))) (wrap64 (x6_1 + 1))) else (flittingref01_Mul.l0 k1 a0 a1 x5_1 (wrap64 (x6_1 + 1)))) else (none)) = some r := by first | (rw [hji4] at H; exact H) | (simp only [hji4] at H ⊢; exact H)
        by_cases c5 : 0 ≤ (ji4)
        · rw [if_pos c5] at H
          have c5b0 := eq_true c5
          have c5b1 : decide (0 ≤ (ji4)) = true := decide_eq_true c5
          clear c5
          obtain ⟨ji6, hji6⟩ : ∃ j_ : Int, (shr .u8 a1 (ji4)) = j_ := ⟨_, rfl⟩
          replace H : (if (Int.tmod (ji6) 2) = 1 then (flittingref01_Mul.l0 k1 a0 a1 (Go.bits .xor .i64 x5_1 (shl .i64 (wrap64 (a0)) (ji4))) (wrap64 (x6_1 + 1))) else (flittingref01_Mul.l0 k1 a0 a1 x5_1 (wrap64 (x6_1 + 1)))) = some r := by first | (rw [hji6] at H; exact H) | (simp only [hji6] at H ⊢; exact H)
          have hji6_ : (a1 / 2 ^ min (ji4).toNat 8) = ji6 := hji6
          have hji6z : (ji4) ≤ 8 → (a1 / 2 ^ (ji4).toNat) = ji6 := shr_small hji6
          by_cases c7 : (Int.tmod (ji6) 2) = 1
          · rw [if_pos c7] at H
            have c7b0 : ((Int.tmod (ji6) 2) == 1) = true := beq_iff_eq.mpr c7
            have c7b1 : ((Int.tmod (ji6) 2) != 1) = false := bne_eq_false_iff_eq.mpr c7
            clear c7
            have c8b0 := eq_true (of_decide_eq_true (by first | (with_reducible assumption) | assumption) : 0 ≤ (ji4))
            obtain ⟨ji9, hji9⟩ : ∃ j_ : Int, (shl .i64 (wrap64 (a0)) (ji4)) = j_ := ⟨_, rfl⟩
            replace H : (flittingref01_Mul.l0 k1 a0 a1 (Go.bits .xor .i64 x5_1 (ji9)) (wrap64 (x6_1 + 1))) = some r := by first | (rw [hji9] at H; exact H) | (simp only [hji9] at H ⊢; exact H)
            have hji9_ : (IntKind.i64.wrap ((wrap64 (a0)) * 2 ^ min (ji4).toNat 64)) = ji9 := hji9
            have hji9z : (ji4) ≤ 64 → (IntKind.i64.wrap ((wrap64 (a0)) * 2 ^ (ji4).toNat)) = ji9 := shl_small hji9
            have hji9y : (wrap64 ((wrap64 (a0)) * 2 ^ min (ji4).toNat 64)) = ji9 := (i64_w _).symm.trans hji9_
            have hji9x : (ji4) ≤ 64 → (wrap64 ((wrap64 (a0)) * 2 ^ (ji4).toNat)) = ji9 := fun h_ => (i64_w _).symm.trans (hji9z h_)
            have H' := Aside0.mk H
            clear H
            go_wp2
            go_roundg k1
            case measure => have := HK1.out; omega
            case rel => exact ⟨(Go.bits .xor .i64 x5_1 (ji9)), (wrap64 (x6_1 + 1)), (by first | rfl | (simp; done) | (simp only [← hji9] <;> (first | rfl | simp)) | (simp [*]; done)), (by first | rfl | (simp; done) | (simp [*]; done)), H', ⟨by have := HK1.out; omega⟩, by repeat (first | exact Drawn0.refl _ | apply Drawn0.step)⟩
          · rw [if_neg c7] at H
            have c7b0 : ((Int.tmod (ji6) 2) == 1) = false := beq_eq_false_iff_ne.mpr c7
            have c7b1 : ((Int.tmod (ji6) 2) != 1) = true := bne_iff_ne.mpr c7
            have H' := Aside0.mk H
            clear H
            go_wp2
            go_roundg k1
            case measure => have := HK1.out; omega
            case rel => exact ⟨(x5_1), (wrap64 (x6_1 + 1)), (by first | rfl | (simp; done) | (simp [*]; done)), (by first | rfl | (simp; done) | (simp [*]; done)), H', ⟨by have := HK1.out; omega⟩, by repeat (first | exact Drawn0.refl _ | apply Drawn0.step)⟩
        · rw [if_neg c5] at H
          exact absurd H (by simp)
      · rw [if_neg c3] at H
        have c3b0 : decide (x6_1 < 8) = false := decide_eq_false c3
        clear c3
        have H' := Aside0.mk H
        clear H
        go_wp2
        go_loopg [5, 7] k1 (fun kq v5 v7 w' => ∃ (x5_2 : Int) (x7_2 : Int), v5 = .int .i64 x5_2 ∧ v7 = .int .i64 x7_2 ∧ Aside0 (flittingref01_Mul.l1 kq x5_2 x7_2 = some r) ∧ Aside0 (kq ≤ k1) ∧ Drawn0 w w')
        case atStart => exact ⟨(x5_1), (14), (by first | rfl | (simp; done) | (simp [*]; done)), (by first | rfl | (simp; done) | (simp [*]; done)), H', ⟨Nat.le_refl _⟩, by repeat (first | exact Drawn0.refl _ | apply Drawn0.step)⟩
        case round =>
          clear H'
          try clear c1
          try clear p2
          try clear c3
          try clear c3b0
          try clear c5
          try clear c5b0
          try clear c5b1
          try clear p6
          try clear c7
          try clear c7b0
          try clear c7b1
          try clear c8
          try clear c8b0
          try clear p2
          obtain ⟨x5_2, x7_2, rfl, rfl, HA, HK2, ⟨m2, rfl⟩⟩ := hrel
          cases gk with
          | zero => exact absurd HA.out (by simp [flittingref01_Mul.l1])
          | succ k2 =>
            have H := HA.out
            clear HA
            simp only [flittingref01_Mul.l1] at H
            by_cases c10 : x7_2 ≥ 8
            · rw [if_pos c10] at H
              have c10b0 : decide (8 ≤ x7_2) = true := decide_eq_true c10
              clear c10
              obtain ⟨ji11, hji11⟩ : ∃ j_ : Int, (IntKind.u64.wrap (x7_2)) = j_ := ⟨_, rfl⟩
              replace H : (if 0 ≤ (ji11) then (if (Int.tmod (shr .i64 x5_2 (ji11)) 2) = 1 then (if 0 ≤ (IntKind.u64.wrap (wrap64 (x7_2 - 8))) then (flittingref01_Mul.l1 k2 (Go.bits .xor .i64 x5_2 (shl .i64 285 (IntKind.u64.wrap (wrap64 (x7_2 - 8))))) (wrap64 (x7_2 - 1))) else (none)) else (flittingref01_Mul.l1 k2 x5_2 (wrap64 (x7_2 - 1)))) else (none)) = some r := by first | (rw [hji11] at H; exact H) | (simp only [hji11] at H ⊢; exact H)
              by_cases c12 : 0 ≤ (ji11)
              · rw [if_pos c12] at H
                have c12b0 := eq_true c12
                have c12b1 : decide (0 ≤ (ji11)) = true := decide_eq_true c12
                clear c12
                obtain ⟨ji13, hji13⟩ : ∃ j_ : Int, (shr .i64 x5_2 (ji11)) = j_ := ⟨_, rfl⟩
                replace H : (if (Int.tmod (ji13) 2) = 1 then (if 0 ≤ (IntKind.u64.wrap (wrap64 (x7_2 - 8))) then (flittingref01_Mul.l1 k2 (Go.bits .xor .i64 x5_2 (shl .i64 285 (IntKind.u64.wrap (wrap64 (x7_2 - 8))))) (wrap64 (x7_2 - 1))) else (none)) else (flittingref01_Mul.l1 k2 x5_2 (wrap64 (x7_2 - 1)))) = some r := by first | (rw [hji13] at H; exact H) | (simp only [hji13] at H ⊢; exact H)
                have hji13_ : (x5_2 / 2 ^ min (ji11).toNat 64) = ji13 := hji13
                have hji13z : (ji11) ≤ 64 → (x5_2 / 2 ^ (ji11).toNat) = ji13 := shr_small hji13
                by_cases c14 : (Int.tmod (ji13) 2) = 1
                · rw [if_pos c14] at H
                  have c14b0 : ((Int.tmod (ji13) 2) == 1) = true := beq_iff_eq.mpr c14
                  have c14b1 : ((Int.tmod (ji13) 2) != 1) = false := bne_eq_false_iff_eq.mpr c14
                  clear c14
                  obtain ⟨ji15, hji15⟩ : ∃ j_ : Int, (IntKind.u64.wrap (wrap64 (x7_2 - 8))) = j_ := ⟨_, rfl⟩
                  replace H : (if 0 ≤ (ji15) then (flittingref01_Mul.l1 k2 (Go.bits .xor .i64 x5_2 (shl .i64 285 (ji15))) (wrap64 (x7_2 - 1))) else (none)) = some r := by first | (rw [hji15] at H; exact H) | (simp only [hji15] at H ⊢; exact H)
                  by_cases c16 : 0 ≤ (ji15)
                  · rw [if_pos c16] at H
                    have c16b0 := eq_true c16
                    have c16b1 : decide (0 ≤ (ji15)) = true := decide_eq_true c16
                    clear c16
                    obtain ⟨ji17, hji17⟩ : ∃ j_ : Int, (shl .i64 285 (ji15)) = j_ := ⟨_, rfl⟩
                    replace H : (flittingref01_Mul.l1 k2 (Go.bits .xor .i64 x5_2 (ji17)) (wrap64 (x7_2 - 1))) = some r := by first | (rw [hji17] at H; exact H) | (simp only [hji17] at H ⊢; exact H)
                    have hji17_ : (IntKind.i64.wrap (285 * 2 ^ min (ji15).toNat 64)) = ji17 := hji17
                    have hji17z : (ji15) ≤ 64 → (IntKind.i64.wrap (285 * 2 ^ (ji15).toNat)) = ji17 := shl_small hji17
                    have hji17y : (wrap64 (285 * 2 ^ min (ji15).toNat 64)) = ji17 := (i64_w _).symm.trans hji17_
                    have hji17x : (ji15) ≤ 64 → (wrap64 (285 * 2 ^ (ji15).toNat)) = ji17 := fun h_ => (i64_w _).symm.trans (hji17z h_)
                    have H' := Aside0.mk H
                    clear H
                    go_wp2
                    go_roundg k2
                    case measure => have := HK1.out; have := HK2.out; omega
                    case rel => exact ⟨(Go.bits .xor .i64 x5_2 (ji17)), (wrap64 (x7_2 - 1)), (by first | rfl | (simp; done) | (simp only [← hji17] <;> (first | rfl | simp)) | (simp [*]; done)), (by first | rfl | (simp; done) | (simp [*]; done)), H', ⟨by have := HK1.out; have := HK2.out; omega⟩, by repeat (first | exact Drawn0.refl _ | apply Drawn0.step)⟩
                  · rw [if_neg c16] at H
                    exact absurd H (by simp)
                · rw [if_neg c14] at H
                  have c14b0 : ((Int.tmod (ji13) 2) == 1) = false := beq_eq_false_iff_ne.mpr c14
                  have c14b1 : ((Int.tmod (ji13) 2) != 1) = true := bne_iff_ne.mpr c14
                  have H' := Aside0.mk H
                  clear H
                  go_wp2
                  go_roundg k2
                  case measure => have := HK1.out; have := HK2.out; omega
                  case rel => exact ⟨(x5_2), (wrap64 (x7_2 - 1)), (by first | rfl | (simp; done) | (simp [*]; done)), (by first | rfl | (simp; done) | (simp [*]; done)), H', ⟨by have := HK1.out; have := HK2.out; omega⟩, by repeat (first | exact Drawn0.refl _ | apply Drawn0.step)⟩
              · rw [if_neg c12] at H
                exact absurd H (by simp)
            · rw [if_neg c10] at H
              have c10b0 : decide (8 ≤ x7_2) = false := decide_eq_false c10
              clear c10
              obtain rfl := Option.some.inj H
              go_wp2
              go_ret
              exact ⟨by first | rfl | (simp; done) | (simp [*]; done), by repeat (first | exact Drawn0.refl _ | apply Drawn0.step)⟩

/-! ### flittingref01_Inv: function 12 -/
def flittingref01_Inv.l0 : Nat → Int → Int → Option (Int)
  | 0, _, _ => none
  | k + 1, x0, x3 => if x3 < 256 then ((flittingref01_Mul.f k x0 ((x3) % 256)).bind fun t108 => (if t108 = 1 then (some ((x3) % 256)) else (flittingref01_Inv.l0 k x0 (wrap64 (x3 + 1))))) else (some 0)
def flittingref01_Inv.f (k : Nat) (a0 : Int) : Option (Int) := flittingref01_Inv.l0 k a0 0
theorem flittingref01_Inv.mono_l : ∀ k, (∀ y0 y1, LeO (flittingref01_Inv.l0 k y0 y1) (flittingref01_Inv.l0 (k + 1) y0 y1))
  | 0 => fun _ _ r h => by simp [flittingref01_Inv.l0] at h
  | k + 1 => by
    have ih0 := flittingref01_Inv.mono_l k
    · intro y0 y1
      unfold flittingref01_Inv.l0
      repeat' first
      | (with_reducible exact ih0 _ _)
      | (with_reducible exact flittingref01_Mul.mono _ _ _)
      | (with_reducible exact LeO.refl _)
      | (with_reducible exact LeO.none _)
      | (with_reducible refine LeO.ite ?_ ?_)
      | (with_reducible refine LeO.bind ?_ (fun _ => ?_))
      | exact ih0 _ _
      | exact flittingref01_Mul.mono _ _ _
      | exact LeO.none _
      | refine LeO.ite ?_ ?_
      | refine LeO.bind ?_ (fun _ => ?_)
theorem flittingref01_Inv.mono : ∀ a0 k, LeO (flittingref01_Inv.f k a0) (flittingref01_Inv.f (k + 1) a0) := by
  intro a0 k
  have ih0 := flittingref01_Inv.mono_l k
  unfold flittingref01_Inv.f
  repeat' first
      | (with_reducible exact ih0 _ _)
      | (with_reducible exact flittingref01_Mul.mono _ _ _)
      | (with_reducible exact LeO.refl _)
      | (with_reducible exact LeO.none _)
      | (with_reducible refine LeO.ite ?_ ?_)
      | (with_reducible refine LeO.bind ?_ (fun _ => ?_))
      | exact ih0 _ _
      | exact flittingref01_Mul.mono _ _ _
      | exact LeO.none _
      | refine LeO.ite ?_ ?_
      | refine LeO.bind ?_ (fun _ => ?_)
set_option maxHeartbeats 8000000 in
set_option maxRecDepth 100000 in
theorem flittingref01_Inv.calls (k : Nat) (a0 : Int) (r : Int) (w : World) (h : flittingref01_Inv.f k a0 = some r) :
    Calls Try.prog 12 #[.int .u8 a0] w fun e w' => e = .returned (.int .u8 r) ∧ Drawn0 w w' := by
  have H : (flittingref01_Inv.l0 k a0 0) = some r := h
  clear h
  have H' := Aside0.mk H
  clear H
  go_enter Try.func12, Try.ntmps12
  go_wp2
  go_loopg [3] k (fun kq v3 w' => ∃ (x3_1 : Int), v3 = .int .i64 x3_1 ∧ Aside0 (flittingref01_Inv.l0 kq a0 x3_1 = some r) ∧ Aside0 (kq ≤ k) ∧ Drawn0 w w')
  case atStart => exact ⟨(0), (by first | rfl | (simp; done) | (simp [*]; done)), H', ⟨Nat.le_refl _⟩, by repeat (first | exact Drawn0.refl _ | apply Drawn0.step)⟩
  case round =>
    clear H'
    try clear c1
    obtain ⟨x3_1, rfl, HA, HK1, ⟨m1, rfl⟩⟩ := hrel
    cases gk with
    | zero => exact absurd HA.out (by simp [flittingref01_Inv.l0])
    | succ k1 =>
      have H := HA.out
      clear HA
      simp only [flittingref01_Inv.l0] at H
      by_cases c2 : x3_1 < 256
      · rw [if_pos c2] at H
        have c2b0 : decide (x3_1 < 256) = true := decide_eq_true c2
        clear c2
        replace H := Option.bind_eq_some_iff.mp H
        obtain ⟨t108, A30, H⟩ := H
        replace H : (if t108 = 1 then (some ((x3_1) % 256)) else (flittingref01_Inv.l0 k1 a0 (wrap64 (x3_1 + 1)))) = some r := H
        have A3 := Aside0.mk A30
        clear A30
        by_cases c4 : t108 = 1
        · rw [if_pos c4] at H
          have c4b0 : (t108 == 1) = true := beq_iff_eq.mpr c4
          have c4b1 : (t108 != 1) = false := bne_eq_false_iff_eq.mpr c4
          clear c4
          obtain rfl := Option.some.inj H
          go_wp2_with (first | ((with_reducible refine gate_callee (f := 10) rfl ?_); refine goesL_ (some 11) rfl rfl Try.func10 (by kernel_rfl) rfl #[.int .u8 a0, .int .u8 ((x3_1) % 256)] rfl (by (try simp only [List.map_toArray, List.map_cons, List.map_nil]); first | done | rfl | (simp only [List.length_drop, List.length_take]; rfl)) ?_; (with_reducible refine (flittingref01_Mul.calls k1 a0 ((x3_1) % 256) t108 _ A3.out).mono ?_); rintro e w' ⟨rfl, ⟨nd, rfl⟩⟩; refine ⟨_, rfl, ?_⟩))
          go_ret
          exact ⟨by first | rfl | (simp; done) | (simp [*]; done), by repeat (first | exact Drawn0.refl _ | apply Drawn0.step)⟩
        · rw [if_neg c4] at H
          have c4b0 : (t108 == 1) = false := beq_eq_false_iff_ne.mpr c4
          have c4b1 : (t108 != 1) = true := bne_iff_ne.mpr c4
          have H' := Aside0.mk H
          clear H
          go_wp2_with (first | ((with_reducible refine gate_callee (f := 10) rfl ?_); refine goesL_ (some 11) rfl rfl Try.func10 (by kernel_rfl) rfl #[.int .u8 a0, .int .u8 ((x3_1) % 256)] rfl (by (try simp only [List.map_toArray, List.map_cons, List.map_nil]); first | done | rfl | (simp only [List.length_drop, List.length_take]; rfl)) ?_; (with_reducible refine (flittingref01_Mul.calls k1 a0 ((x3_1) % 256) t108 _ A3.out).mono ?_); rintro e w' ⟨rfl, ⟨nd, rfl⟩⟩; refine ⟨_, rfl, ?_⟩))
          go_roundg k1
          case measure => have := HK1.out; omega
          case rel => exact ⟨(wrap64 (x3_1 + 1)), (by first | rfl | (simp; done) | (simp [*]; done)), H', ⟨by have := HK1.out; omega⟩, by repeat (first | exact Drawn0.refl _ | apply Drawn0.step)⟩
      · rw [if_neg c2] at H
        have c2b0 : decide (x3_1 < 256) = false := decide_eq_false c2
        clear c2
        obtain rfl := Option.some.inj H
        go_wp2
        go_ret
        exact ⟨by first | rfl | (simp; done) | (simp [*]; done), by repeat (first | exact Drawn0.refl _ | apply Drawn0.step)⟩

/-! ### flittinglaw01_GfInv: function 5 -/
def flittinglaw01_GfInv.f (k : Nat) (a0 : Int) : Option (Bool) := (flittinglaw01_answers.f k).bind fun t109 => (if t109 = true then ((gf_Inv.f k a0).bind fun t110 => ((flittingref01_Inv.f k a0).bind fun t111 => (if t110 = t111 then (if a0 = 0 then (some true) else ((gf_Inv.f k a0).bind fun t112 => ((gf_Mul.f k a0 t112).bind fun t113 => (some (t113 == 1))))) else (some false)))) else (some false))
theorem flittinglaw01_GfInv.mono : ∀ a0 k, LeO (flittinglaw01_GfInv.f k a0) (flittinglaw01_GfInv.f (k + 1) a0) := by
  intro a0 k
  unfold flittinglaw01_GfInv.f
  repeat' first
      | (with_reducible exact flittinglaw01_answers.mono _)
      | (with_reducible exact flittingref01_Inv.mono _ _)
      | (with_reducible exact gf_Inv.mono _ _)
      | (with_reducible exact gf_Mul.mono _ _ _)
      | (with_reducible exact LeO.refl _)
      | (with_reducible exact LeO.none _)
      | (with_reducible refine LeO.ite ?_ ?_)
      | (with_reducible refine LeO.bind ?_ (fun _ => ?_))
      | exact flittinglaw01_answers.mono _
      | exact flittingref01_Inv.mono _ _
      | exact gf_Inv.mono _ _
      | exact gf_Mul.mono _ _ _
      | exact LeO.none _
      | refine LeO.ite ?_ ?_
      | refine LeO.bind ?_ (fun _ => ?_)
set_option maxHeartbeats 8000000 in
set_option maxRecDepth 100000 in
theorem flittinglaw01_GfInv.calls (k : Nat) (a0 : Int) (r : Bool) (w : World) (h : flittinglaw01_GfInv.f k a0 = some r) :
    Calls Try.prog 5 #[.int .u8 a0] w fun e w' => e = .returned (.bool r) ∧ Drawn0 w w' := by
  have H : ((flittinglaw01_answers.f k).bind fun t109 => (if t109 = true then ((gf_Inv.f k a0).bind fun t110 => ((flittingref01_Inv.f k a0).bind fun t111 => (if t110 = t111 then (if a0 = 0 then (some true) else ((gf_Inv.f k a0).bind fun t112 => ((gf_Mul.f k a0 t112).bind fun t113 => (some (t113 == 1))))) else (some false)))) else (some false))) = some r := h
  clear h
  replace H := Option.bind_eq_some_iff.mp H
  obtain ⟨t109, A20, H⟩ := H
  replace H : (if t109 = true then ((gf_Inv.f k a0).bind fun t110 => ((flittingref01_Inv.f k a0).bind fun t111 => (if t110 = t111 then (if a0 = 0 then (some true) else ((gf_Inv.f k a0).bind fun t112 => ((gf_Mul.f k a0 t112).bind fun t113 => (some (t113 == 1))))) else (some false)))) else (some false)) = some r := H
  have A2 := Aside0.mk A20
  clear A20
  by_cases c3 : t109 = true
  · subst c3
    have H1 : ((gf_Inv.f k a0).bind fun t110 => ((flittingref01_Inv.f k a0).bind fun t111 => (if t110 = t111 then (if a0 = 0 then (some true) else ((gf_Inv.f k a0).bind fun t112 => ((gf_Mul.f k a0 t112).bind fun t113 => (some (t113 == 1))))) else (some false)))) = some r := by rw [if_pos rfl] at H; exact H
    clear H
    have H := H1
    clear H1
    replace H := Option.bind_eq_some_iff.mp H
    obtain ⟨t110, A40, H⟩ := H
    replace H : ((flittingref01_Inv.f k a0).bind fun t111 => (if t110 = t111 then (if a0 = 0 then (some true) else ((gf_Inv.f k a0).bind fun t112 => ((gf_Mul.f k a0 t112).bind fun t113 => (some (t113 == 1))))) else (some false))) = some r := H
    have A4 := Aside0.mk A40
    clear A40
    replace H := Option.bind_eq_some_iff.mp H
    obtain ⟨t111, A50, H⟩ := H
    replace H : (if t110 = t111 then (if a0 = 0 then (some true) else ((gf_Inv.f k a0).bind fun t112 => ((gf_Mul.f k a0 t112).bind fun t113 => (some (t113 == 1))))) else (some false)) = some r := H
    have A5 := Aside0.mk A50
    clear A50
    by_cases c6 : t110 = t111
    · rw [if_pos c6] at H
      have c6b0 : (t110 == t111) = true := beq_iff_eq.mpr c6
      have c6b1 : (t110 != t111) = false := bne_eq_false_iff_eq.mpr c6
      clear c6
      by_cases c7 : a0 = 0
      · rw [if_pos c7] at H
        have c7b0 : (a0 == 0) = true := beq_iff_eq.mpr c7
        have c7b1 : (a0 != 0) = false := bne_eq_false_iff_eq.mpr c7
        clear c7
        obtain rfl := Option.some.inj H
        go_enter Try.func5, Try.ntmps5
        go_wp2_with (first | ((with_reducible refine gate_callee (f := 8) rfl ?_); refine goesL_ (some 3) rfl rfl Try.func8 (by kernel_rfl) rfl #[] rfl (by (try simp only [List.map_toArray, List.map_cons, List.map_nil]); first | done | rfl | (simp only [List.length_drop, List.length_take]; rfl)) ?_; (with_reducible refine (flittinglaw01_answers.calls k  true _ A2.out).mono ?_); rintro e w' ⟨rfl, ⟨nd, rfl⟩⟩; refine ⟨_, rfl, ?_⟩) | (go_at_call 11; (with_reducible refine (gf_Inv.calls k a0 t110 _ A4.out).mono ?_); rintro e w' ⟨rfl, ⟨nd, rfl⟩⟩) | (go_at_call 12; (with_reducible refine (flittingref01_Inv.calls k a0 t111 _ A5.out).mono ?_); rintro e w' ⟨rfl, ⟨nd, rfl⟩⟩))
        go_ret
        exact ⟨by first | rfl | (simp; done) | (simp [*]; done), by repeat (first | exact Drawn0.refl _ | apply Drawn0.step)⟩
      · rw [if_neg c7] at H
        have c7b0 : (a0 == 0) = false := beq_eq_false_iff_ne.mpr c7
        have c7b1 : (a0 != 0) = true := bne_iff_ne.mpr c7
        replace H := Option.bind_eq_some_iff.mp H
        obtain ⟨t112, A80, H⟩ := H
        obtain rfl : t110 = t112 := Option.some.inj (A4.out.symm.trans A80)
        replace H : ((gf_Mul.f k a0 t110).bind fun t113 => (some (t113 == 1))) = some r := H
        have A8 := Aside0.mk A80
        clear A80
        replace H := Option.bind_eq_some_iff.mp H
        obtain ⟨t113, A90, H⟩ := H
        replace H : (some (t113 == 1)) = some r := H
        have A9 := Aside0.mk A90
        clear A90
        obtain rfl := Option.some.inj H
        go_enter Try.func5, Try.ntmps5
        go_wp2_with (first | ((with_reducible refine gate_callee (f := 8) rfl ?_); refine goesL_ (some 3) rfl rfl Try.func8 (by kernel_rfl) rfl #[] rfl (by (try simp only [List.map_toArray, List.map_cons, List.map_nil]); first | done | rfl | (simp only [List.length_drop, List.length_take]; rfl)) ?_; (with_reducible refine (flittinglaw01_answers.calls k  true _ A2.out).mono ?_); rintro e w' ⟨rfl, ⟨nd, rfl⟩⟩; refine ⟨_, rfl, ?_⟩) | (go_at_call 11; (with_reducible refine (gf_Inv.calls k a0 t110 _ A4.out).mono ?_); rintro e w' ⟨rfl, ⟨nd, rfl⟩⟩) | (go_at_call 12; (with_reducible refine (flittingref01_Inv.calls k a0 t111 _ A5.out).mono ?_); rintro e w' ⟨rfl, ⟨nd, rfl⟩⟩) | (go_at_call 11; (with_reducible refine (gf_Inv.calls k a0 t110 _ A8.out).mono ?_); rintro e w' ⟨rfl, ⟨nd, rfl⟩⟩) | (go_at_call 9; (with_reducible refine (gf_Mul.calls k a0 t110 t113 _ A9.out).mono ?_); rintro e w' ⟨rfl, ⟨nd, rfl⟩⟩))
        go_ret
        exact ⟨by first | rfl | (simp; done) | (simp [*]; done), by repeat (first | exact Drawn0.refl _ | apply Drawn0.step)⟩
    · rw [if_neg c6] at H
      have c6b0 : (t110 == t111) = false := beq_eq_false_iff_ne.mpr c6
      have c6b1 : (t110 != t111) = true := bne_iff_ne.mpr c6
      obtain rfl := Option.some.inj H
      go_enter Try.func5, Try.ntmps5
      go_wp2_with (first | ((with_reducible refine gate_callee (f := 8) rfl ?_); refine goesL_ (some 3) rfl rfl Try.func8 (by kernel_rfl) rfl #[] rfl (by (try simp only [List.map_toArray, List.map_cons, List.map_nil]); first | done | rfl | (simp only [List.length_drop, List.length_take]; rfl)) ?_; (with_reducible refine (flittinglaw01_answers.calls k  true _ A2.out).mono ?_); rintro e w' ⟨rfl, ⟨nd, rfl⟩⟩; refine ⟨_, rfl, ?_⟩) | (go_at_call 11; (with_reducible refine (gf_Inv.calls k a0 t110 _ A4.out).mono ?_); rintro e w' ⟨rfl, ⟨nd, rfl⟩⟩) | (go_at_call 12; (with_reducible refine (flittingref01_Inv.calls k a0 t111 _ A5.out).mono ?_); rintro e w' ⟨rfl, ⟨nd, rfl⟩⟩))
      go_ret
      exact ⟨by first | rfl | (simp; done) | (simp [*]; done), by repeat (first | exact Drawn0.refl _ | apply Drawn0.step)⟩
  · replace c3 := Bool.eq_false_iff.mpr c3
    subst c3
    have H1 : (some false) = some r := by rw [if_neg (show ¬ (false = true) by decide)] at H; exact H
    clear H
    have H := H1
    clear H1
    obtain rfl := Option.some.inj H
    go_enter Try.func5, Try.ntmps5
    go_wp2_with (first | ((with_reducible refine gate_callee (f := 8) rfl ?_); refine goesL_ (some 3) rfl rfl Try.func8 (by kernel_rfl) rfl #[] rfl (by (try simp only [List.map_toArray, List.map_cons, List.map_nil]); first | done | rfl | (simp only [List.length_drop, List.length_take]; rfl)) ?_; (with_reducible refine (flittinglaw01_answers.calls k  false _ A2.out).mono ?_); rintro e w' ⟨rfl, ⟨nd, rfl⟩⟩; refine ⟨_, rfl, ?_⟩))
    go_ret
    exact ⟨by first | rfl | (simp; done) | (simp [*]; done), by repeat (first | exact Drawn0.refl _ | apply Drawn0.step)⟩

/-- THE ONE PURE STATEMENT of flittinglaw01_GfInv: yours. -/
def flittinglaw01_GfInv.Pure : Prop := ∀ (a0 : Int), (Lit.int .u8 a0).wf = true → ∃ k, flittinglaw01_GfInv.f k a0 = some true
theorem flittinglaw01_GfInv.walk (P : flittinglaw01_GfInv.Pure) (a0 : Int) (w : World) (w0 : (Lit.int .u8 a0).wf = true) :
    Calls Try.prog 5 #[.int .u8 a0] w fun e w' => e = .returned (.bool true) ∧ Below w.heap.size w w' := by
  obtain ⟨k, h⟩ := P a0 w0
  refine (flittinglaw01_GfInv.calls k a0 true w h).mono ?_
  rintro e w' ⟨rfl, hd⟩
  exact ⟨rfl, hd.below⟩

end Go.Proofs.Ytjmpdiichaokhaa.PGfInv
