-- Written by myprint.py (this session's own driver of the kit's print, with contracts of its own handed in).
import Derived.Test.YtfcfiojkkpnhlaaPHistOwnx0
namespace Go.Proofs.Ytfcfiojkkpnhlaa.PHistOwn
open Go.RowKit Go.Proofs.YtfcfiojkkpnhlaaW.PrintWords Go.Proofs.YtfcfiojkkpnhlaaW.PrintLast Go.Proofs.YtfcfiojkkpnhlaaW.PrintMore
attribute [local go_sem] max2_int min2_int max_two min_two max_three min_three max_four min_four   -- for this text's walks alone
set_option linter.unusedVariables false
set_option linter.unusedSimpArgs false

-- NOT PRINTED: function 8 (hist_New)

-- NOT PRINTED: function 13 (bytes_Clone)

-- NOT PRINTED: function 15 (slices_Clone_string_string)

-- NOT PRINTED: function 14 (hist_Hist_run)

-- NOT PRINTED: function 9 (hist_Hist_Add)

-- NOT PRINTED: function 11 (hist_Hist_Calls)

-- NOT PRINTED: function 7 (flittinglaw21_answers)

/-! ### flittingref01_Same: function 12 -/
def flittingref01_Same.l0 : Nat → List Int → List Int → Int → Option (Bool)
  | 0, _, _, _ => none
  | k + 1, x0, x1, x5 => if x5 < (x0.length : Int) then (if 0 ≤ x5 then (if x5 < (x1.length : Int) then (if (rd x0 x5) = (rd x1 x5) then (flittingref01_Same.l0 k x0 x1 (wrap64 (x5 + 1))) else (some false)) else (none)) else (none)) else (some true)
def flittingref01_Same.f (k : Nat) (l0 : List Int) (l1 : List Int) : Option (Bool) := if (l0.length : Int) = (l1.length : Int) then (flittingref01_Same.l0 k l0 l1 0) else (some false)
theorem flittingref01_Same.mono_l : ∀ k, (∀ y0 y1 y2, LeO (flittingref01_Same.l0 k y0 y1 y2) (flittingref01_Same.l0 (k + 1) y0 y1 y2))
  | 0 => fun _ _ _ r h => by simp [flittingref01_Same.l0] at h
  | k + 1 => by
    have ih0 := flittingref01_Same.mono_l k
    · intro y0 y1 y2
      unfold flittingref01_Same.l0
      repeat' first
      | (with_reducible exact ih0 _ _ _)
      | (with_reducible exact LeO.refl _)
      | (with_reducible exact LeO.none _)
      | (with_reducible refine LeO.ite ?_ ?_)
      | (with_reducible refine LeO.bind ?_ (fun _ => ?_))
      | exact ih0 _ _ _
      | exact LeO.none _
      | refine LeO.ite ?_ ?_
      | refine LeO.bind ?_ (fun _ => ?_)
theorem flittingref01_Same.mono : ∀ a0 a1 k, LeO (flittingref01_Same.f k a0 a1) (flittingref01_Same.f (k + 1) a0 a1) := by
  intro a0 a1 k
  have ih0 := flittingref01_Same.mono_l k
  unfold flittingref01_Same.f
  repeat' first
      | (with_reducible exact ih0 _ _ _)
      | (with_reducible exact LeO.refl _)
      | (with_reducible exact LeO.none _)
      | (with_reducible refine LeO.ite ?_ ?_)
      | (with_reducible refine LeO.bind ?_ (fun _ => ?_))
      | exact ih0 _ _ _
      | exact LeO.none _
      | refine LeO.ite ?_ ?_
      | refine LeO.bind ?_ (fun _ => ?_)
set_option maxHeartbeats 8000000 in
set_option maxRecDepth 100000 in
theorem flittingref01_Same.calls (k : Nat) (A0 : Option Addr) (c0 : Nat) (l0 : List Int) (A1 : Option Addr) (c1 : Nat) (l1 : List Int) (r : Bool) (w : World) (hr0 : Kd.C (Kd.int .u8) w A0 l0.length l0) (hc0 : l0.length ≤ c0) (hr1 : Kd.C (Kd.int .u8) w A1 l1.length l1) (hc1 : l1.length ≤ c1) (h : flittingref01_Same.f k l0 l1 = some r) :
    Calls Try.prog 12 #[.slice A0 l0.length c0, .slice A1 l1.length c1] w fun e w' => e = .returned (.bool r) ∧ Drawn0 w w' := by
  have HR0 := Aside0.mk hr0
  have HC0 := Aside0.mk hc0
  clear hr0 hc0
  have HR1 := Aside0.mk hr1
  have HC1 := Aside0.mk hc1
  clear hr1 hc1
  have H : (if (l0.length : Int) = (l1.length : Int) then (flittingref01_Same.l0 k l0 l1 0) else (some false)) = some r := h
  clear h
  by_cases c3 : (l0.length : Int) = (l1.length : Int)
  · rw [if_pos c3] at H
    have c3b0 : ((l0.length : Int) == (l1.length : Int)) = true := beq_iff_eq.mpr c3
    have c3b1 : ((l0.length : Int) != (l1.length : Int)) = false := bne_eq_false_iff_eq.mpr c3
    have c3b2 : (l0.length == l1.length) = true := by first | simpa using c3 | (simp at c3 ⊢; omega)
    clear c3
    have H' := Aside0.mk H
    clear H
    go_enter Try.func12, Try.ntmps12
    go_wp2
    repeat (go_quiet (fail); try go_wp2)
    go_loopg [5] k (fun kq v5 w' => ∃ (x5_1 : Int), v5 = .int .i64 x5_1 ∧ Aside0 (flittingref01_Same.l0 kq l0 l1 x5_1 = some r) ∧ Aside0 (kq ≤ k) ∧ Drawn0 w w')
    case atStart => exact ⟨(0), (by first | rfl | (simp; done) | (simp [*]; done)), H', ⟨Nat.le_refl _⟩, by repeat (first | exact Drawn0.refl _ | apply Drawn0.step)⟩
    case round =>
      clear H'
      try clear c1
      try clear p2
      try clear c3
      try clear c3b0
      try clear c3b1
      try clear c3b2
      obtain ⟨x5_1, rfl, HA, HK1, ⟨m1, rfl⟩⟩ := hrel
      cases gk with
      | zero => exact absurd HA.out (by simp [flittingref01_Same.l0])
      | succ k1 =>
        have H := HA.out
        clear HA
        simp only [flittingref01_Same.l0] at H
        by_cases c4 : x5_1 < (l0.length : Int)
        · rw [if_pos c4] at H
          have c4b0 : decide (x5_1 < (l0.length : Int)) = true := decide_eq_true c4
          clear c4
          by_cases c5 : 0 ≤ x5_1
          · rw [if_pos c5] at H
            have c5b0 : decide (0 ≤ x5_1) = true := decide_eq_true c5
            clear c5
            by_cases c6 : x5_1 < (l1.length : Int)
            · rw [if_pos c6] at H
              have c6b0 : decide (x5_1 < (l1.length : Int)) = true := decide_eq_true c6
              clear c6
              by_cases c7 : (rd l0 x5_1) = (rd l1 x5_1)
              · rw [if_pos c7] at H
                have c7b0 : ((rd l0 x5_1) == (rd l1 x5_1)) = true := beq_iff_eq.mpr c7
                have c7b1 : ((rd l0 x5_1) != (rd l1 x5_1)) = false := bne_eq_false_iff_eq.mpr c7
                clear c7
                have H' := Aside0.mk H
                clear H
                have p101 : 0 ≤ (x5_1 : Int) := of_decide_eq_true (by first | (with_reducible assumption) | assumption)
                have q101 : x5_1 < (l0.length : Int) := of_decide_eq_true (by first | (with_reducible assumption) | assumption)
                obtain ⟨ad101, e101, hx101_0⟩ := Kd.at_int HR0.out x5_1 p101 q101
                cases e101
                replace p101 := eq_true p101
                replace q101 := eq_true q101
                have p102 : 0 ≤ (x5_1 : Int) := of_decide_eq_true (by first | (with_reducible assumption) | assumption)
                have q102 : x5_1 < (l1.length : Int) := of_decide_eq_true (by first | (with_reducible assumption) | assumption)
                obtain ⟨ad102, e102, hx102_0⟩ := Kd.at_int HR1.out x5_1 p102 q102
                cases e102
                replace p102 := eq_true p102
                replace q102 := eq_true q102
                go_wp2
                repeat (go_quiet (fail); try go_wp2)
                go_roundg k1
                case measure => have := HK1.out; omega
                case rel => exact ⟨(wrap64 (x5_1 + 1)), (by first | rfl | (simp; done) | (simp [*]; done)), H', ⟨by have := HK1.out; omega⟩, by repeat (first | exact Drawn0.refl _ | apply Drawn0.step)⟩
              · rw [if_neg c7] at H
                have c7b0 : ((rd l0 x5_1) == (rd l1 x5_1)) = false := beq_eq_false_iff_ne.mpr c7
                have c7b1 : ((rd l0 x5_1) != (rd l1 x5_1)) = true := bne_iff_ne.mpr c7
                obtain rfl := Option.some.inj H
                have p101 : 0 ≤ (x5_1 : Int) := of_decide_eq_true (by first | (with_reducible assumption) | assumption)
                have q101 : x5_1 < (l0.length : Int) := of_decide_eq_true (by first | (with_reducible assumption) | assumption)
                obtain ⟨ad101, e101, hx101_0⟩ := Kd.at_int HR0.out x5_1 p101 q101
                cases e101
                replace p101 := eq_true p101
                replace q101 := eq_true q101
                have p102 : 0 ≤ (x5_1 : Int) := of_decide_eq_true (by first | (with_reducible assumption) | assumption)
                have q102 : x5_1 < (l1.length : Int) := of_decide_eq_true (by first | (with_reducible assumption) | assumption)
                obtain ⟨ad102, e102, hx102_0⟩ := Kd.at_int HR1.out x5_1 p102 q102
                cases e102
                replace p102 := eq_true p102
                replace q102 := eq_true q102
                go_wp2
                repeat (go_quiet (fail); try go_wp2)
                go_ret
                exact ⟨by first | rfl | (simp; done) | (simp [*]; done), by repeat (first | exact Drawn0.refl _ | apply Drawn0.step)⟩
            · rw [if_neg c6] at H
              exact absurd H (by simp)
          · rw [if_neg c5] at H
            exact absurd H (by simp)
        · rw [if_neg c4] at H
          have c4b0 : decide (x5_1 < (l0.length : Int)) = false := decide_eq_false c4
          clear c4
          obtain rfl := Option.some.inj H
          go_wp2
          repeat (go_quiet (fail); try go_wp2)
          go_ret
          exact ⟨by first | rfl | (simp; done) | (simp [*]; done), by repeat (first | exact Drawn0.refl _ | apply Drawn0.step)⟩
  · rw [if_neg c3] at H
    have c3b0 : ((l0.length : Int) == (l1.length : Int)) = false := beq_eq_false_iff_ne.mpr c3
    have c3b1 : ((l0.length : Int) != (l1.length : Int)) = true := bne_iff_ne.mpr c3
    have c3b2 : (l0.length == l1.length) = false := by first | simpa using c3 | (simp at c3 ⊢; omega)
    obtain rfl := Option.some.inj H
    go_enter Try.func12, Try.ntmps12
    go_wp2
    repeat (go_quiet (fail); try go_wp2)
    go_ret
    exact ⟨by first | rfl | (simp; done) | (simp [*]; done), by repeat (first | exact Drawn0.refl _ | apply Drawn0.step)⟩

/-! ### flittinglaw21_HistOwn: function 4, by hand -/
open Go.Proofs.Ytfcfiojkkpnhlaa.Hs Go.Proofs.Ytfcfiojkkpnhlaa.Op
theorem same_run (d : Nat) : ∀ (k i : Nat) (a : List Int), d + i = a.length → d < k → a.length < 1000000 → flittingref01_Same.l0 k a a (i : Int) = some true := by
  induction d with
  | zero =>
    intro k i a hd hk _
    obtain ⟨k, rfl⟩ : ∃ m, k = m + 1 := ⟨k - 1, by omega⟩
    simp only [flittingref01_Same.l0]
    rw [if_neg (by omega)]
  | succ d ih =>
    intro k i a hd hk hm
    obtain ⟨k, rfl⟩ : ∃ m, k = m + 1 := ⟨k - 1, by omega⟩
    simp only [flittingref01_Same.l0]
    rw [if_pos (by omega), if_pos (by omega), if_pos (by omega), show wrap64 ((i : Int) + 1) = ((i + 1 : Nat) : Int) from by unfold wrap64; omega]
    exact ih k (i + 1) a (by omega) (by omega) hm
theorem same_f (k : Nat) (a : List Int) (hk : a.length < k) (hm : a.length < 1000000) : flittingref01_Same.f k a a = some true := by
  unfold flittingref01_Same.f
  rw [if_pos rfl]
  exact same_run a.length k 0 a (by omega) hk hm
def flittinglaw21_HistOwn.Pure : Prop := True
set_option maxHeartbeats 4000000 in
set_option maxRecDepth 100000 in
theorem flittinglaw21_HistOwn.walk (_P : flittinglaw21_HistOwn.Pure) (A : Option Addr) (c : Nat) (l : List Int) (w : World) (hl : l.length ≤ c) (hC : U8.C w A l.length l) (hG : Row 1 (fun n => (Lit.int .u8 n).wf = true) l) :
    Calls Try.prog 4 #[.slice A l.length c] w fun e w' => e = .returned (.bool true) ∧ Below w.heap.size w w' := by
  clear _P hG
  by_cases g1 : l.length = 0 ∨ 100 < l.length
  · have HANS : Aside0 True := ⟨trivial⟩
    rcases Nat.eq_zero_or_pos l.length with g2 | g2
    · rw [g2]
      clear g1 g2 hl hC
      go_enter Try.func4, Try.ntmps4
      go_wp2_with fail
      refine (answers_calls _).mono ?_
      rintro e w' ⟨rfl, hb⟩
      have HB := Aside0.mk hb
      clear hb
      go_wp2
      go_ret
      exact ⟨rfl, HB.out⟩
    · have g3 : 100 < l.length := by omega
      have d0 : ((l.length : Int) == 0) = false := beq_eq_false_iff_ne.2 (by omega)
      have d1 : decide ((100 : Int) < (l.length : Int)) = true := decide_eq_true (by omega)
      have d2 : decide (100 < l.length) = true := decide_eq_true g3
      clear g1 g2 g3 hl hC
      go_enter Try.func4, Try.ntmps4
      go_wp2_with fail
      refine (answers_calls _).mono ?_
      rintro e w' ⟨rfl, hb⟩
      have HB := Aside0.mk hb
      clear hb
      go_wp2
      go_ret
      exact ⟨rfl, HB.out⟩
  · have hp : 0 < l.length := by omega
    have h100 : l.length ≤ 100 := by omega
    obtain ⟨ad, rfl⟩ : ∃ ad, A = some ad := by
      obtain ⟨ad, e, _⟩ := hC.2.2 hp
      exact ⟨ad, e⟩
    have d0 : ((l.length : Int) == 0) = false := beq_eq_false_iff_ne.2 (by omega)
    have d1 : decide ((100 : Int) < (l.length : Int)) = false := decide_eq_false (by omega)
    have d2 : decide (100 < l.length) = false := decide_eq_false (by omega)
    have HC := Aside0.mk hC
    have HL := Aside0.mk hl
    clear g1 hC hl
    go_enter Try.func4, Try.ntmps4
    go_wp2_with fail
    refine (own_new w).mono ?_
    rintro e w1 ⟨g, mb, rfl, hO1⟩
    have O1 := Aside0.mk hO1
    clear hO1
    have HM : Aside0 (U8.R 5 (w1.alloc (.cells #[] 5)) w1.heap.size (fun _ => True) (.slice (some ⟨w1.heap.size, 0, none⟩) 0 0) []) :=
      ⟨⟨fun _ _ => trivial, [], World.ownsRow_made w1 #[] 0 (Nat.le_refl _) (Nat.zero_le _) rfl, Reps.none _ _⟩⟩
    have HB := Aside0.mk ((Below.refl w1.heap.size w1).alloc (Nat.le_refl _) (.cells #[] 5))
    have HC1 : Aside0 (U8.C w1 (some ad) l.length l) := ⟨Kd.C_below HC.out O1.out.bl⟩
    go_upto_region 5 with (at_builtin; refine Kd.R_append_rows U8 (w0 := w1) (Rr := U8.K w1) w1.heap.size rfl (.tmp 16) (.tmp 17) 28 5 (.int .u8 0) 1 rfl Try.underlying28 info5 rfl (by decide) (by decide) (.slice (some ⟨w1.heap.size, 0, none⟩) 0 0) [] l (some ad) l.length c (fun _ => True) (fun _ => False) rfl rfl ?aO ?aR ?aM (fun _ hk => hk.elim) (fun _ _ => trivial) ?aB ?aS ?aL ?_; (case aO => exact HM.out); (case aR => exact ReadsRow.imp_ HC1.out ((Below.refl w1.heap.size w1).alloc (Nat.le_refl _) _) (fun _ _ h => h)); (case aM => exact fun _ _ h => h); (case aB => exact HB.out); (case aS => simp); (case aL => simp only [List.length_nil]; omega); intro v2 w2 ho hb hg hat; have HO2 := Aside0.mk ho; have HB2 := Aside0.mk hb; clear ho hb hg hat HM HB)
    have ho2 : U8.R 5 w2 w1.heap.size (fun _ => True) v2 l := HO2.out
    obtain ⟨gi, ci, rfl, hgi1, hgi2, _⟩ := Kd.R_form ho2 hp
    have O2 := Aside0.mk (O1.out.window HB2.out)
    have hgm := O1.out.hp.lt
    have hz := O1.out.bl.size
    have hA : AArg w2 (fun k => w1.heap.size ≤ k ∧ k < w2.heap.size) ⟨1, 1, ⟨#[]⟩, l, 0⟩ ⟨0, 0, false, 0, [], []⟩ (.slice (some ⟨gi, 0, none⟩) l.length ci) (.slice none 0 0) (.slice none 0 0) := ⟨Kd.V_mono (Kd.V_bound (vb_new ho2 (fun k hk => hk))) (fun k hk => hk), Kd.V_nil _ _ _ _ _, Kd.V_nil _ _ _ _ _, (by show l.length < 1000000; omega), (by decide), (by decide), rfl, rfl⟩
    have hx : ∀ k, (w1.heap.size ≤ k ∧ k < w2.heap.size) → k < w2.heap.size → ¬ (w.heap.size + 2 ≤ k ∧ (k < w1.heap.size ∨ w2.heap.size ≤ k)) ∧ k ≠ mb ∧ k ≠ g := fun k hk _ => ⟨fun e => by omega, by omega, by omega⟩
    have HX := Aside0.mk hx
    have HA := Aside0.mk hA
    have HO := Aside0.mk ho2
    have HG := Aside0.mk (And.intro hgm hz)
    have HGI := Aside0.mk (And.intro hgi1 hgi2)
    clear ho2 hgm hz hA hx hgi1 hgi2 HO2
    go_wp2_with fail
    refine (own_add O2.out (by omega) ⟨1, 1, ⟨#[]⟩, l, 0⟩ ⟨0, 0, false, 0, [], []⟩ _ _ _ HA.out HX.out).mono ?_
    rintro e w3 ⟨rfl, hO3, hK3⟩
    have O3 := Aside0.mk hO3
    have ho3 : U8.R 5 w3 w1.heap.size (fun k => w1.heap.size ≤ k ∧ k < w2.heap.size) (.slice (some ⟨gi, 0, none⟩) l.length ci) l := Kd.R_step (Kd.R_mono (Kd.R_bound HO.out) (fun k hk => ⟨hk.2.1, hk.2.2.1⟩)) (fun k hk hl => hK3.block k hl (fun e => e.elim (HX.out k hk hl).1 (HX.out k hk hl).2.1) (HX.out k hk hl).2.2)
    have q0 : w3.cell? ⟨gi, 0, none⟩ = some (.int .u8 (rdOf 0 l 0)) := (Kd.R_celln (d := (0 : Int)) ho3 0 (by decide) (by omega)).1
    have f0 : w3.frozen? ⟨gi, 0, none⟩ = false := (Kd.R_celln (d := (0 : Int)) ho3 0 (by decide) (by omega)).2
    clear hO3 hK3 ho3
    go_upto_region 7 with fail
    have hf : ¬ (w.heap.size + 2 ≤ gi ∧ (gi < w1.heap.size ∨ w2.heap.size ≤ gi)) ∧ gi ≠ mb ∧ gi ≠ g ∧ w.heap.size ≤ gi := ⟨(HX.out gi HGI.out HGI.out.2).1, (HX.out gi HGI.out HGI.out.2).2.1, (HX.out gi HGI.out HGI.out.2).2.2, by have := HG.out; have := HGI.out; omega⟩
    have O4 : Aside0 (∀ x, Own w (w3.setCell ⟨gi, 0, none⟩ x) g mb (fun k => w.heap.size + 2 ≤ k ∧ (k < w1.heap.size ∨ w2.heap.size ≤ k)) (h0.add ⟨1, 1, ⟨#[]⟩, l, 0⟩ ⟨0, 0, false, 0, [], []⟩) 1) := ⟨fun x => O3.out.far (p := ⟨gi, 0, none⟩) hf.1 hf.2.2.1 hf.2.1 hf.2.2.2 x⟩
    have HL4 : Aside0 ((h0.add ⟨1, 1, ⟨#[]⟩, l, 0⟩ ⟨0, 0, false, 0, [], []⟩).list = [⟨0, 1, ⟨#[]⟩, l, 1, 0, 0, 0, [], []⟩]) := ⟨rfl⟩
    clear hf
    go_wp2_with fail
    refine (own_calls (O4.out _) (by omega)).mono ?_
    rintro e w5 ⟨v0, rfl, hN, hB5, hO5⟩
    rw [HL4.out] at hN
    obtain ⟨gl, cap, rfl, _, _, _⟩ := Kd.N_form hN (by simp)
    obtain ⟨vd, vo, vk, hcc, _, hvd, _, _⟩ := hl_elem (Kd.N_lower hN (Nat.zero_le _)) 0 (by simp)
    have hvd' : Vo w5 _ vd l := hvd
    obtain ⟨D, dc, rfl, hdc, hdF⟩ := vo_vb hvd'
    obtain ⟨da, rfl⟩ : ∃ ad, D = some ad := by
      obtain ⟨ad, e, _⟩ := (Kd.F_now hdF).2.2 hp
      exact ⟨ad, e⟩
    obtain ⟨gd, dcells, rfl, hgd, hdb⟩ := vo_in hvd'
    have m3 : w5.cell? ⟨gl, 3, none⟩ = some (.slice (some ⟨gd, 0, none⟩) l.length dc) := hcc 3 _ rfl
    obtain ⟨ad', ce, e1, hce, hK, hcd⟩ := Kd.C_get (Kd.F_now hdF) (0 : Int) 0 (by decide) (by omega)
    injection e1 with e1
    have hce' : ce = [.int .u8 (l.getD (0 : Int).toNat 0)] := hK
    have d5 : w5.cell? ⟨gd, 0, none⟩ = some (.int .u8 (l.getD (0 : Int).toNat 0)) := by
      have h5 := hcd 0 (.int .u8 (l.getD (0 : Int).toNat 0)) (by rw [hce']; rfl)
      rw [← e1, add_plain] at h5
      exact h5
    have f5 : w5.frozen? ⟨gd, 0, none⟩ = false := blk_frozen hdb 0
    have hz3 := (O4.out (.bool true)).hp.lt
    have hz4 := (O4.out (.bool true)).bl.size
    have hgd1 := hgd.1.1
    have hgd2 := hgd.1.2
    simp only [World.setCell, Array.size_modify] at hz3 hz4 hgd1
    have O6 := Aside0.mk (fun x : Value => hO5.far (p := ⟨gd, 0, none⟩) (fun e => by
      have e2 := e.2
      simp only [World.setCell, Array.size_modify] at e2
      omega) (show gd ≠ g by omega) (show gd ≠ mb by omega) (show w.heap.size ≤ gd by omega) x)
    obtain ⟨y, hy⟩ : ∃ y, y = l.getD (0 : Int).toNat 0 := ⟨_, rfl⟩
    rw [← hy] at d5
    clear hN hB5 hO5 hcc hvd hvd' hdF hgd hdb hcd hK hce' e1 hce hz3 hz4 hgd1 hgd2 hy q0 f0
    go_wp2_with fail
    refine (answers_calls _).mono ?_
    rintro e w7 ⟨rfl, hb7⟩
    have O7 := Aside0.mk ((O6.out _).below hb7)
    clear hb7 m3 d5 f5
    go_wp2_with fail
    refine (own_calls O7.out (by omega)).mono ?_
    rintro e w8 ⟨v8, rfl, hN, _, hO8⟩
    rw [HL4.out] at hN
    obtain ⟨gk, cap8, rfl, _, _, _⟩ := Kd.N_form hN (by simp)
    obtain ⟨vd8, vo8, vk8, hcc, _, hvd, _, _⟩ := hl_elem (Kd.N_lower hN (Nat.zero_le _)) 0 (by simp)
    have hvd' : Vo w8 _ vd8 l := hvd
    obtain ⟨D8, dc8, rfl, hdc8, hdF⟩ := vo_vb hvd'
    have m8 : w8.cell? ⟨gk, 3, none⟩ = some (.slice D8 l.length dc8) := hcc 3 _ rfl
    have HD8 : Aside0 (U8.C w8 D8 l.length l) := ⟨Kd.F_now hdF⟩
    have HL8 := Aside0.mk hdc8
    have HC8 : Aside0 (U8.C w8 (some ad) l.length l) := ⟨Kd.C_below HC.out hO8.bl⟩
    have O8 := Aside0.mk hO8.bl
    clear hN hO8 hcc hvd hvd' hdF hdc8
    go_wp2_with fail
    refine (flittingref01_Same.calls 2000 D8 dc8 l (some ad) c l true _ HD8.out HL8.out HC8.out HL.out (same_f _ _ (by omega) (by omega))).mono ?_
    rintro e w9 ⟨rfl, ⟨nd9, rfl⟩⟩
    go_wp2
    go_ret
    exact ⟨rfl, pw_below_drewN O8.out _⟩

end Go.Proofs.Ytfcfiojkkpnhlaa.PHistOwn
