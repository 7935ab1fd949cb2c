/- Tapes: write, Append, Replace. -/
import Derived.Test.YtfjjfoijjlpcjaaProg
import Derived.Below
import Derived.Deep.Draws
import Derived.Deep.AppendLies
import Derived.Maps.AppendAt
import Derived.OwnWalk
import Derived.Laws.BytesArg
import Derived.Laws.MakeOwn
import Derived.Laws.OwnMore
import Derived.Deep.OwnRows
import Derived.Tactics
import Derived.Lib.ConvBytes
import Derived.Laws.Slices
import Derived.WalkKit
import Derived.KernelRfl
import Derived.RowKit3
import Derived.Deep.LoopGhost
import Derived.Deep.QuietTactic
import Derived.BigQuiet
import Derived.WideLaws
import Derived.Deep.DeepCutAuto
import Derived.Deep.CutBlock
import Derived.Deep.RegionHeld3
import Derived.Laws.Rows
import Derived.Lib.AppendStr
import Derived.ArgAppend
import Derived.Laws.IdiomCopy
import Derived.OrdersHeld
import Derived.Laws.BitsLemmas
import Derived.RowKit
import Derived.Test.YtfjjfoijjlpcjaaWWords
import Derived.Test.YtfjjfoijjlpcjaaWLast
import Derived.Test.YtfjjfoijjlpcjaaWTab
import Derived.Test.YtfjjfoijjlpcjaaWFour
import Derived.Test.YtfjjfoijjlpcjaaWQPut
import Derived.Test.YtfjjfoijjlpcjaaWApart
import Derived.Test.YtfjjfoijjlpcjaaWArr
import Derived.Test.YtfjjfoijjlpcjaaWZeros
import Derived.Test.YtfjjfoijjlpcjaaWFoot
import Derived.Test.YtfjjfoijjlpcjaaWKept
import Derived.Test.YtfjjfoijjlpcjaaWShare
import Derived.Test.YtfjjfoijjlpcjaaWN
import Derived.Test.YtfjjfoijjlpcjaaWFootNe
import Derived.Test.YtfjjfoijjlpcjaaWAt
import Derived.Test.YtfjjfoijjlpcjaaWEqStruct
import Derived.Test.YtfjjfoijjlpcjaaWRepsOne
import Derived.Test.YtfjjfoijjlpcjaaWInv
import Derived.Test.YtfjjfoijjlpcjaaWInvWords
import Derived.Test.YtfjjfoijjlpcjaaWGuard
import Derived.Test.YtfjjfoijjlpcjaaWNEv
import Derived.Test.YtfjjfoijjlpcjaaWMore
import Derived.Test.YtfjjfoijjlpcjaaTq1
namespace Go.Proofs.Ytfjjfoijjlpcjaa.Tp
open Go.RowKit Go.Proofs.YtfjjfoijjlpcjaaW.PrintWords Go.Proofs.YtfjjfoijjlpcjaaW.PrintLast Go.Proofs.YtfjjfoijjlpcjaaW.PrintMore
attribute [local go_sem] max2_int min2_int max_two min_two max_three min_three max_four min_four
set_option linter.unusedVariables false
set_option linter.unusedSimpArgs false
def Ta.step0 (t : Ta) (b : List Int) (sw : Bool) : Ta × Bool := if t.s0.lost then (t, true) else t.one0 b sw
def Ta.step1 (t : Ta) (b : List Int) (sw : Bool) : Ta × Bool := if t.s1.lost then (t, true) else t.one1 b sw
def Ta.write (t : Ta) (b : List Int) (sw : Bool) : Ta × Int :=
  if t.down then (t, 9) else if t.s0.lost && t.s1.lost then (t, 8) else
  if (t.step0 b sw).2 then (if ((t.step0 b sw).1.step1 b sw).2 then (((t.step0 b sw).1.step1 b sw).1, 0) else (((t.step0 b sw).1.step1 b sw).1, 9)) else ((t.step0 b sw).1, 9)
/-- The fuse is a number that may be; few bytes. -/
structure Ta.Fit (t : Ta) (n : Nat) : Prop where
  f0 : -1 ≤ t.fuse
  f1 : t.fuse < 9223372036854775808
  l0 : t.s0.b.length + n < 1099511627776
  l1 : t.s1.b.length + n < 1099511627776
theorem Ta.fit0 (t : Ta) (b : List Int) (sw : Bool) (n : Nat) (h : t.Fit n) (hn : n = b.length) (hd : (t.step0 b sw).2 = true) : -1 ≤ (t.step0 b sw).1.fuse ∧ (t.step0 b sw).1.fuse < 9223372036854775808 ∧ (t.step0 b sw).1.s1 = t.s1 ∧ (t.step0 b sw).1.s0.lost = t.s0.lost := by
  have := h.f0
  have := h.f1
  unfold Ta.step0 Ta.one0 at *
  split
  · exact ⟨h.f0, h.f1, rfl, rfl⟩
  · rename_i hl
    rw [if_neg hl] at hd
    split
    · rename_i hz
      rw [if_pos hz] at hd
      cases hd
    · refine ⟨?_, ?_, rfl, rfl⟩ <;> simp only [Ta.burn] <;> split <;> omega
set_option maxHeartbeats 8000000 in
set_option maxRecDepth 100000 in
theorem write_nil (A : Option Addr) (n c : Nat) (sw : Bool) (w : World) : Calls Try.prog 20 #[.pointer none, .slice A n c, .bool sw] w fun e w' => e = .returned (.int .i64 1) ∧ w' = w := by
  go_enter Try.func20, Try.ntmps20
  go_wp2
  go_ret
  exact ⟨rfl, rfl⟩
set_option maxHeartbeats 8000000 in
set_option maxRecDepth 100000 in
theorem write_fff (g : Nat) (b0 l0 b1 l1 : List Int) (sw0 we0 sw1 we1 : Bool) (fu : Int) (lb : List Int) (A : Option Addr) (n c : Nat) (sw : Bool) (ok okb : Nat → Prop) (w : World)
    (hT : Tp w ok g ⟨⟨b0, l0, sw0, we0, false⟩, ⟨b1, l1, sw1, we1, false⟩, fu, false⟩) (hF : Kd.F U8 w okb A n lb) (hg : ∀ k, ok k → k ≠ g) (hgb : ∀ k, okb k → k ≠ g) (hnew : ∀ k, w.heap.size ≤ k → ok k) (hfit : Ta.Fit ⟨⟨b0, l0, sw0, we0, false⟩, ⟨b1, l1, sw1, we1, false⟩, fu, false⟩ n) :
    Calls Try.prog 20 #[.pointer (some ⟨g, 0, none⟩), .slice A n c, .bool sw] w fun e w' => e = .returned (.int .i64 (Ta.write ⟨⟨b0, l0, sw0, we0, false⟩, ⟨b1, l1, sw1, we1, false⟩, fu, false⟩ lb sw).2) ∧ Tp w' ok g (Ta.write ⟨⟨b0, l0, sw0, we0, false⟩, ⟨b1, l1, sw1, we1, false⟩, fu, false⟩ lb sw).1 ∧ Kp w w' g := by
  have HT0 := Aside0.mk hT
  obtain ⟨v0, u0, v1, u1, hT⟩ := hT
  have HT := Aside0.mk hT
  have HF := Aside0.mk hF
  have HG := Aside0.mk hg
  have HGB := Aside0.mk hgb
  clear hgb
  have HN := Aside0.mk hnew
  have HFit := Aside0.mk hfit
  have HL1 := Aside0.mk hfit.l1
  have hn : n = lb.length := (Kd.F_len hF).symm
  obtain ⟨c0, c1, c2, c3, c4, c5, c6, c7, c8, c9, c10, c11, hfz⟩ := tc_cell hT.blk
  simp only at c0 c1 c2 c3 c4 c5 c6 c7 c8 c9 c10 c11
  obtain ⟨r0, hr0⟩ : ∃ r, r = Ta.step0 ⟨⟨b0, l0, sw0, we0, false⟩, ⟨b1, l1, sw1, we1, false⟩, fu, false⟩ lb sw := ⟨_, rfl⟩
  obtain ⟨r1, hr1⟩ : ∃ r, r = Ta.step1 r0.1 lb sw := ⟨_, rfl⟩
  have hfit0 := Ta.fit0 ⟨⟨b0, l0, sw0, we0, false⟩, ⟨b1, l1, sw1, we1, false⟩, fu, false⟩ lb sw n hfit hn
  rw [← hr0] at hfit0
  have HFit0 := Aside0.mk hfit0
  have HW0 : Aside0 (r0.2 = false → Ta.write ⟨⟨b0, l0, sw0, we0, false⟩, ⟨b1, l1, sw1, we1, false⟩, fu, false⟩ lb sw = (r0.1, 9)) := ⟨fun h => by unfold Ta.write; rw [← hr0]; simp [h]⟩
  have HW1 : Aside0 (r0.2 = true → r1.2 = false → Ta.write ⟨⟨b0, l0, sw0, we0, false⟩, ⟨b1, l1, sw1, we1, false⟩, fu, false⟩ lb sw = (r1.1, 9)) := ⟨fun h h1 => by unfold Ta.write; rw [← hr0, ← hr1]; simp [h, h1]⟩
  have HW2 : Aside0 (r0.2 = true → r1.2 = true → Ta.write ⟨⟨b0, l0, sw0, we0, false⟩, ⟨b1, l1, sw1, we1, false⟩, fu, false⟩ lb sw = (r1.1, 0)) := ⟨fun h h1 => by unfold Ta.write; rw [← hr0, ← hr1]; simp [h, h1]⟩
  generalize hW : Ta.write ⟨⟨b0, l0, sw0, we0, false⟩, ⟨b1, l1, sw1, we1, false⟩, fu, false⟩ lb sw = W at *
  have e0 : r0 = Ta.one0 ⟨⟨b0, l0, sw0, we0, false⟩, ⟨b1, l1, sw1, we1, false⟩, fu, false⟩ lb sw := by rw [hr0]; rfl
  have HC0 : Aside0 _ := ⟨one0_calls g _ lb A n c sw ok okb w HT0.out HF.out HG.out HGB.out HN.out hfit.l0 hfit.f0 hfit.f1⟩
  rw [← e0] at HC0
  have HS0 := Aside0.mk True.intro
  clear e0
  have HR1 := Aside0.mk hr1
  clear hT hF hg hnew hfit hn hr0 hr1 hfit0 hW
  go_enter Try.func20, Try.ntmps20
  go_wp2
  go_loopw [32] (fun i wr => (i = .int .i64 0 ∧ w = wr) ∨ (i = .int .i64 1 ∧ Tp wr ok g r0.1 ∧ Kp w wr g ∧ r0.2 = true) ∨ (i = .int .i64 2 ∧ Tp wr ok g r1.1 ∧ Kp w wr g ∧ r0.2 = true ∧ r1.2 = true)) (fun i _ => 2 - (intOf i).toNat)
  case atStart => exact .inl ⟨rfl, rfl⟩
  case round =>
    rcases hrel with ⟨rfl, rfl⟩ | ⟨rfl, hTr, hKr, hDr⟩ | ⟨rfl, hTr, hKr, hDr, hDr1⟩
    · skip
      go_wp2_with fail
      refine HC0.out.mono ?_
      rintro e w1 ⟨rfl, hT1, hk1⟩
      have HT1 := Aside0.mk hT1
      have HK1 := Aside0.mk hk1
      clear hT1 hk1
      have HS0' := HS0.out
      by_cases hd : r0.2 = true
      · simp only [hd]
        have HD := Aside0.mk hd
        go_wp2
        go_roundw
        case rel => exact .inr (.inl ⟨by go_num, HT1.out, HK1.out, HD.out⟩)
        case measure => simp [intOf]
      · simp only [Bool.not_eq_true] at hd
        simp only [hd]
        have HD := Aside0.mk hd
        go_wp2
        go_ret
        have hr := HW0.out HD.out
        exact ⟨by rw [hr]; rfl, by rw [hr]; exact HT1.out, HK1.out⟩
    · clear c0 c1 c2 c3 c4 c5 c6 c7 c8 c9 c10 c11 hfz
      have hfit1 := HFit0.out hDr
      have HTr := Aside0.mk hTr
      have HKr := Aside0.mk hKr
      have HDr := Aside0.mk hDr
      obtain ⟨v0', u0', v1', u1', hTv⟩ := hTr
      obtain ⟨c0, c1, c2, c3, c4, c5, c6, c7, c8, c9, c10, c11, hfz⟩ := tc_cell hTv.blk
      have el : r0.1.s1.lost = false := by rw [hfit1.2.2.1]
      rw [el] at c9
      have e1 := HR1.out
      have e2 : r1 = Ta.one1 r0.1 lb sw := by rw [e1]; unfold Ta.step1; rw [if_neg (by rw [el]; exact Bool.false_ne_true)]
      have HC1 : Aside0 _ := ⟨one1_calls g _ lb A n c sw ok okb wr HTr.out (f_kp HF.out hKr HGB.out) HG.out HGB.out (fun k hk => HN.out k (Nat.le_trans hKr.size hk)) (by rw [hfit1.2.2.1]; exact HL1.out) hfit1.1 hfit1.2.1⟩
      rw [← e2] at HC1
      clear e1 e2 el hfit1 hTv hKr hDr
      go_wp2_with fail
      refine HC1.out.mono ?_
      rintro e w1 ⟨rfl, hT1, hk1⟩
      have HT1 := Aside0.mk hT1
      have HK1 := Aside0.mk hk1
      clear hT1 hk1
      by_cases hd : r1.2 = true
      · simp only [hd]
        have HD := Aside0.mk hd
        go_wp2
        go_roundw
        case rel => exact .inr (.inr ⟨by go_num, HT1.out, HKr.out.trans HK1.out, HDr.out, HD.out⟩)
        case measure => simp [intOf]
      · simp only [Bool.not_eq_true] at hd
        simp only [hd]
        have HD := Aside0.mk hd
        go_wp2
        go_ret
        have hr := HW1.out HDr.out HD.out
        exact ⟨by rw [hr]; rfl, by rw [hr]; exact HT1.out, HKr.out.trans HK1.out⟩
    · have HTr := Aside0.mk hTr
      have HKr := Aside0.mk hKr
      have hr := Aside0.mk (HW2.out hDr hDr1)
      skip
      clear hDr hDr1 hTr hKr c0 c1 c2 c3 c4 c5 c6 c7 c8 c9 c10 c11 hfz
      go_wp2
      go_ret
      exact ⟨by rw [hr.out]; rfl, by rw [hr.out]; exact HTr.out, HKr.out⟩
set_option maxHeartbeats 8000000 in
set_option maxRecDepth 100000 in
theorem write_ftf (g : Nat) (b0 l0 b1 l1 : List Int) (sw0 we0 sw1 we1 : Bool) (fu : Int) (lb : List Int) (A : Option Addr) (n c : Nat) (sw : Bool) (ok okb : Nat → Prop) (w : World)
    (hT : Tp w ok g ⟨⟨b0, l0, sw0, we0, false⟩, ⟨b1, l1, sw1, we1, true⟩, fu, false⟩) (hF : Kd.F U8 w okb A n lb) (hg : ∀ k, ok k → k ≠ g) (hgb : ∀ k, okb k → k ≠ g) (hnew : ∀ k, w.heap.size ≤ k → ok k) (hfit : Ta.Fit ⟨⟨b0, l0, sw0, we0, false⟩, ⟨b1, l1, sw1, we1, true⟩, fu, false⟩ n) :
    Calls Try.prog 20 #[.pointer (some ⟨g, 0, none⟩), .slice A n c, .bool sw] w fun e w' => e = .returned (.int .i64 (Ta.write ⟨⟨b0, l0, sw0, we0, false⟩, ⟨b1, l1, sw1, we1, true⟩, fu, false⟩ lb sw).2) ∧ Tp w' ok g (Ta.write ⟨⟨b0, l0, sw0, we0, false⟩, ⟨b1, l1, sw1, we1, true⟩, fu, false⟩ lb sw).1 ∧ Kp w w' g := by
  have HT0 := Aside0.mk hT
  obtain ⟨v0, u0, v1, u1, hT⟩ := hT
  have HT := Aside0.mk hT
  have HF := Aside0.mk hF
  have HG := Aside0.mk hg
  have HGB := Aside0.mk hgb
  clear hgb
  have HN := Aside0.mk hnew
  have HFit := Aside0.mk hfit
  have hn : n = lb.length := (Kd.F_len hF).symm
  obtain ⟨c0, c1, c2, c3, c4, c5, c6, c7, c8, c9, c10, c11, hfz⟩ := tc_cell hT.blk
  simp only at c0 c1 c2 c3 c4 c5 c6 c7 c8 c9 c10 c11
  obtain ⟨r0, hr0⟩ : ∃ r, r = Ta.step0 ⟨⟨b0, l0, sw0, we0, false⟩, ⟨b1, l1, sw1, we1, true⟩, fu, false⟩ lb sw := ⟨_, rfl⟩
  obtain ⟨r1, hr1⟩ : ∃ r, r = Ta.step1 r0.1 lb sw := ⟨_, rfl⟩
  have hfit0 := Ta.fit0 ⟨⟨b0, l0, sw0, we0, false⟩, ⟨b1, l1, sw1, we1, true⟩, fu, false⟩ lb sw n hfit hn
  rw [← hr0] at hfit0
  have HFit0 := Aside0.mk hfit0
  have HW0 : Aside0 (r0.2 = false → Ta.write ⟨⟨b0, l0, sw0, we0, false⟩, ⟨b1, l1, sw1, we1, true⟩, fu, false⟩ lb sw = (r0.1, 9)) := ⟨fun h => by unfold Ta.write; rw [← hr0]; simp [h]⟩
  have HW1 : Aside0 (r0.2 = true → r1.2 = false → Ta.write ⟨⟨b0, l0, sw0, we0, false⟩, ⟨b1, l1, sw1, we1, true⟩, fu, false⟩ lb sw = (r1.1, 9)) := ⟨fun h h1 => by unfold Ta.write; rw [← hr0, ← hr1]; simp [h, h1]⟩
  have HW2 : Aside0 (r0.2 = true → r1.2 = true → Ta.write ⟨⟨b0, l0, sw0, we0, false⟩, ⟨b1, l1, sw1, we1, true⟩, fu, false⟩ lb sw = (r1.1, 0)) := ⟨fun h h1 => by unfold Ta.write; rw [← hr0, ← hr1]; simp [h, h1]⟩
  generalize hW : Ta.write ⟨⟨b0, l0, sw0, we0, false⟩, ⟨b1, l1, sw1, we1, true⟩, fu, false⟩ lb sw = W at *
  have e0 : r0 = Ta.one0 ⟨⟨b0, l0, sw0, we0, false⟩, ⟨b1, l1, sw1, we1, true⟩, fu, false⟩ lb sw := by rw [hr0]; rfl
  have HC0 : Aside0 _ := ⟨one0_calls g _ lb A n c sw ok okb w HT0.out HF.out HG.out HGB.out HN.out hfit.l0 hfit.f0 hfit.f1⟩
  rw [← e0] at HC0
  have HS0 := Aside0.mk True.intro
  clear e0
  have HR1 := Aside0.mk hr1
  clear hT hF hg hnew hfit hn hr0 hr1 hfit0 hW
  go_enter Try.func20, Try.ntmps20
  go_wp2
  go_loopw [32] (fun i wr => (i = .int .i64 0 ∧ w = wr) ∨ (i = .int .i64 1 ∧ Tp wr ok g r0.1 ∧ Kp w wr g ∧ r0.2 = true) ∨ (i = .int .i64 2 ∧ Tp wr ok g r1.1 ∧ Kp w wr g ∧ r0.2 = true ∧ r1.2 = true)) (fun i _ => 2 - (intOf i).toNat)
  case atStart => exact .inl ⟨rfl, rfl⟩
  case round =>
    rcases hrel with ⟨rfl, rfl⟩ | ⟨rfl, hTr, hKr, hDr⟩ | ⟨rfl, hTr, hKr, hDr, hDr1⟩
    · skip
      go_wp2_with fail
      refine HC0.out.mono ?_
      rintro e w1 ⟨rfl, hT1, hk1⟩
      have HT1 := Aside0.mk hT1
      have HK1 := Aside0.mk hk1
      clear hT1 hk1
      have HS0' := HS0.out
      by_cases hd : r0.2 = true
      · simp only [hd]
        have HD := Aside0.mk hd
        go_wp2
        go_roundw
        case rel => exact .inr (.inl ⟨by go_num, HT1.out, HK1.out, HD.out⟩)
        case measure => simp [intOf]
      · simp only [Bool.not_eq_true] at hd
        simp only [hd]
        have HD := Aside0.mk hd
        go_wp2
        go_ret
        have hr := HW0.out HD.out
        exact ⟨by rw [hr]; rfl, by rw [hr]; exact HT1.out, HK1.out⟩
    · clear c0 c1 c2 c3 c4 c5 c6 c7 c8 c9 c10 c11 hfz
      have hfit1 := HFit0.out hDr
      have HTr := Aside0.mk hTr
      have HKr := Aside0.mk hKr
      have HDr := Aside0.mk hDr
      obtain ⟨v0', u0', v1', u1', hTv⟩ := hTr
      obtain ⟨c0, c1, c2, c3, c4, c5, c6, c7, c8, c9, c10, c11, hfz⟩ := tc_cell hTv.blk
      have el : r0.1.s1.lost = true := by rw [hfit1.2.2.1]
      rw [el] at c9
      have e1 := HR1.out
      have HE1 : Aside0 (r1 = (r0.1, true)) := ⟨by rw [e1]; unfold Ta.step1; rw [if_pos el]⟩
      clear e1 el hfit1 hTv hKr hDr
      go_wp2
      go_roundw
      case rel => exact .inr (.inr ⟨by go_num, by rw [HE1.out]; exact HTr.out, HKr.out, HDr.out, by rw [HE1.out]⟩)
      case measure => simp [intOf]
    · have HTr := Aside0.mk hTr
      have HKr := Aside0.mk hKr
      have hr := Aside0.mk (HW2.out hDr hDr1)
      skip
      clear hDr hDr1 hTr hKr c0 c1 c2 c3 c4 c5 c6 c7 c8 c9 c10 c11 hfz
      go_wp2
      go_ret
      exact ⟨by rw [hr.out]; rfl, by rw [hr.out]; exact HTr.out, HKr.out⟩
set_option maxHeartbeats 8000000 in
set_option maxRecDepth 100000 in
theorem write_tff (g : Nat) (b0 l0 b1 l1 : List Int) (sw0 we0 sw1 we1 : Bool) (fu : Int) (lb : List Int) (A : Option Addr) (n c : Nat) (sw : Bool) (ok okb : Nat → Prop) (w : World)
    (hT : Tp w ok g ⟨⟨b0, l0, sw0, we0, true⟩, ⟨b1, l1, sw1, we1, false⟩, fu, false⟩) (hF : Kd.F U8 w okb A n lb) (hg : ∀ k, ok k → k ≠ g) (hgb : ∀ k, okb k → k ≠ g) (hnew : ∀ k, w.heap.size ≤ k → ok k) (hfit : Ta.Fit ⟨⟨b0, l0, sw0, we0, true⟩, ⟨b1, l1, sw1, we1, false⟩, fu, false⟩ n) :
    Calls Try.prog 20 #[.pointer (some ⟨g, 0, none⟩), .slice A n c, .bool sw] w fun e w' => e = .returned (.int .i64 (Ta.write ⟨⟨b0, l0, sw0, we0, true⟩, ⟨b1, l1, sw1, we1, false⟩, fu, false⟩ lb sw).2) ∧ Tp w' ok g (Ta.write ⟨⟨b0, l0, sw0, we0, true⟩, ⟨b1, l1, sw1, we1, false⟩, fu, false⟩ lb sw).1 ∧ Kp w w' g := by
  have HT0 := Aside0.mk hT
  obtain ⟨v0, u0, v1, u1, hT⟩ := hT
  have HT := Aside0.mk hT
  have HF := Aside0.mk hF
  have HG := Aside0.mk hg
  have HGB := Aside0.mk hgb
  clear hgb
  have HN := Aside0.mk hnew
  have HFit := Aside0.mk hfit
  have HL1 := Aside0.mk hfit.l1
  have hn : n = lb.length := (Kd.F_len hF).symm
  obtain ⟨c0, c1, c2, c3, c4, c5, c6, c7, c8, c9, c10, c11, hfz⟩ := tc_cell hT.blk
  simp only at c0 c1 c2 c3 c4 c5 c6 c7 c8 c9 c10 c11
  obtain ⟨r0, hr0⟩ : ∃ r, r = Ta.step0 ⟨⟨b0, l0, sw0, we0, true⟩, ⟨b1, l1, sw1, we1, false⟩, fu, false⟩ lb sw := ⟨_, rfl⟩
  obtain ⟨r1, hr1⟩ : ∃ r, r = Ta.step1 r0.1 lb sw := ⟨_, rfl⟩
  have hfit0 := Ta.fit0 ⟨⟨b0, l0, sw0, we0, true⟩, ⟨b1, l1, sw1, we1, false⟩, fu, false⟩ lb sw n hfit hn
  rw [← hr0] at hfit0
  have HFit0 := Aside0.mk hfit0
  have HW0 : Aside0 (r0.2 = false → Ta.write ⟨⟨b0, l0, sw0, we0, true⟩, ⟨b1, l1, sw1, we1, false⟩, fu, false⟩ lb sw = (r0.1, 9)) := ⟨fun h => by unfold Ta.write; rw [← hr0]; simp [h]⟩
  have HW1 : Aside0 (r0.2 = true → r1.2 = false → Ta.write ⟨⟨b0, l0, sw0, we0, true⟩, ⟨b1, l1, sw1, we1, false⟩, fu, false⟩ lb sw = (r1.1, 9)) := ⟨fun h h1 => by unfold Ta.write; rw [← hr0, ← hr1]; simp [h, h1]⟩
  have HW2 : Aside0 (r0.2 = true → r1.2 = true → Ta.write ⟨⟨b0, l0, sw0, we0, true⟩, ⟨b1, l1, sw1, we1, false⟩, fu, false⟩ lb sw = (r1.1, 0)) := ⟨fun h h1 => by unfold Ta.write; rw [← hr0, ← hr1]; simp [h, h1]⟩
  generalize hW : Ta.write ⟨⟨b0, l0, sw0, we0, true⟩, ⟨b1, l1, sw1, we1, false⟩, fu, false⟩ lb sw = W at *
  have e0 : r0 = (⟨⟨b0, l0, sw0, we0, true⟩, ⟨b1, l1, sw1, we1, false⟩, fu, false⟩, true) := by rw [hr0]; rfl
  have HE0 : Aside0 (r0.2 = true) := ⟨by rw [e0]⟩
  have HT0 : Aside0 (Tp w ok g r0.1) := ⟨by rw [e0]; exact HT0.out⟩
  have HE0r := Aside0.mk e0
  clear e0
  have HR1 := Aside0.mk hr1
  clear hT hF hg hnew hfit hn hr0 hr1 hfit0 hW
  go_enter Try.func20, Try.ntmps20
  go_wp2
  go_loopw [32] (fun i wr => (i = .int .i64 0 ∧ w = wr) ∨ (i = .int .i64 1 ∧ Tp wr ok g r0.1 ∧ Kp w wr g ∧ r0.2 = true) ∨ (i = .int .i64 2 ∧ Tp wr ok g r1.1 ∧ Kp w wr g ∧ r0.2 = true ∧ r1.2 = true)) (fun i _ => 2 - (intOf i).toNat)
  case atStart => exact .inl ⟨rfl, rfl⟩
  case round =>
    rcases hrel with ⟨rfl, rfl⟩ | ⟨rfl, hTr, hKr, hDr⟩ | ⟨rfl, hTr, hKr, hDr, hDr1⟩
    · skip
      go_wp2
      go_roundw
      case rel => exact .inr (.inl ⟨by go_num, HT0.out, Kp.refl w g, HE0.out⟩)
      case measure => simp [intOf]
    · clear c0 c1 c2 c3 c4 c5 c6 c7 c8 c9 c10 c11 hfz
      have hfit1 := HFit0.out hDr
      have HTr := Aside0.mk hTr
      have HKr := Aside0.mk hKr
      have HDr := Aside0.mk hDr
      obtain ⟨v0', u0', v1', u1', hTv⟩ := hTr
      obtain ⟨c0, c1, c2, c3, c4, c5, c6, c7, c8, c9, c10, c11, hfz⟩ := tc_cell hTv.blk
      have el : r0.1.s1.lost = false := by rw [hfit1.2.2.1]
      rw [el] at c9
      have e1 := HR1.out
      have e2 : r1 = Ta.one1 r0.1 lb sw := by rw [e1]; unfold Ta.step1; rw [if_neg (by rw [el]; exact Bool.false_ne_true)]
      have HC1 : Aside0 _ := ⟨one1_calls g _ lb A n c sw ok okb wr HTr.out (f_kp HF.out hKr HGB.out) HG.out HGB.out (fun k hk => HN.out k (Nat.le_trans hKr.size hk)) (by rw [hfit1.2.2.1]; exact HL1.out) hfit1.1 hfit1.2.1⟩
      rw [← e2] at HC1
      clear e1 e2 el hfit1 hTv hKr hDr
      go_wp2_with fail
      refine HC1.out.mono ?_
      rintro e w1 ⟨rfl, hT1, hk1⟩
      have HT1 := Aside0.mk hT1
      have HK1 := Aside0.mk hk1
      clear hT1 hk1
      by_cases hd : r1.2 = true
      · simp only [hd]
        have HD := Aside0.mk hd
        go_wp2
        go_roundw
        case rel => exact .inr (.inr ⟨by go_num, HT1.out, HKr.out.trans HK1.out, HDr.out, HD.out⟩)
        case measure => simp [intOf]
      · simp only [Bool.not_eq_true] at hd
        simp only [hd]
        have HD := Aside0.mk hd
        go_wp2
        go_ret
        have hr := HW1.out HDr.out HD.out
        exact ⟨by rw [hr]; rfl, by rw [hr]; exact HT1.out, HKr.out.trans HK1.out⟩
    · have HTr := Aside0.mk hTr
      have HKr := Aside0.mk hKr
      have hr := Aside0.mk (HW2.out hDr hDr1)
      skip
      clear hDr hDr1 hTr hKr c0 c1 c2 c3 c4 c5 c6 c7 c8 c9 c10 c11 hfz
      go_wp2
      go_ret
      exact ⟨by rw [hr.out]; rfl, by rw [hr.out]; exact HTr.out, HKr.out⟩
set_option maxHeartbeats 8000000 in
set_option maxRecDepth 100000 in
theorem write_ttf (g : Nat) (b0 l0 b1 l1 : List Int) (sw0 we0 sw1 we1 : Bool) (fu : Int) (lb : List Int) (A : Option Addr) (n c : Nat) (sw : Bool) (ok okb : Nat → Prop) (w : World)
    (hT : Tp w ok g ⟨⟨b0, l0, sw0, we0, true⟩, ⟨b1, l1, sw1, we1, true⟩, fu, false⟩) (hF : Kd.F U8 w okb A n lb) (hg : ∀ k, ok k → k ≠ g) (hgb : ∀ k, okb k → k ≠ g) (hnew : ∀ k, w.heap.size ≤ k → ok k) (hfit : Ta.Fit ⟨⟨b0, l0, sw0, we0, true⟩, ⟨b1, l1, sw1, we1, true⟩, fu, false⟩ n) :
    Calls Try.prog 20 #[.pointer (some ⟨g, 0, none⟩), .slice A n c, .bool sw] w fun e w' => e = .returned (.int .i64 (Ta.write ⟨⟨b0, l0, sw0, we0, true⟩, ⟨b1, l1, sw1, we1, true⟩, fu, false⟩ lb sw).2) ∧ Tp w' ok g (Ta.write ⟨⟨b0, l0, sw0, we0, true⟩, ⟨b1, l1, sw1, we1, true⟩, fu, false⟩ lb sw).1 ∧ Kp w w' g := by
  have HT0 := Aside0.mk hT
  obtain ⟨v0, u0, v1, u1, hT⟩ := hT
  have HT := Aside0.mk hT
  have HF := Aside0.mk hF
  have HG := Aside0.mk hg
  have HGB := Aside0.mk hgb
  clear hgb
  have HN := Aside0.mk hnew
  have HFit := Aside0.mk hfit
  have hn : n = lb.length := (Kd.F_len hF).symm
  obtain ⟨c0, c1, c2, c3, c4, c5, c6, c7, c8, c9, c10, c11, hfz⟩ := tc_cell hT.blk
  simp only at c0 c1 c2 c3 c4 c5 c6 c7 c8 c9 c10 c11
  have hs : Ta.write ⟨⟨b0, l0, sw0, we0, true⟩, ⟨b1, l1, sw1, we1, true⟩, fu, false⟩ lb sw = (⟨⟨b0, l0, sw0, we0, true⟩, ⟨b1, l1, sw1, we1, true⟩, fu, false⟩, 8) := rfl
  rw [hs]
  clear hT hF hg hnew hfit hn hs
  go_enter Try.func20, Try.ntmps20
  go_wp2
  go_ret
  exact ⟨rfl, HT0.out, Kp.refl w g⟩
set_option maxHeartbeats 8000000 in
set_option maxRecDepth 100000 in
theorem write_down (g : Nat) (b0 l0 b1 l1 : List Int) (sw0 we0 sw1 we1 lo0 lo1 : Bool) (fu : Int) (lb : List Int) (A : Option Addr) (n c : Nat) (sw : Bool) (ok okb : Nat → Prop) (w : World)
    (hT : Tp w ok g ⟨⟨b0, l0, sw0, we0, lo0⟩, ⟨b1, l1, sw1, we1, lo1⟩, fu, true⟩) (hF : Kd.F U8 w okb A n lb) (hg : ∀ k, ok k → k ≠ g) (hgb : ∀ k, okb k → k ≠ g) (hnew : ∀ k, w.heap.size ≤ k → ok k) (hfit : Ta.Fit ⟨⟨b0, l0, sw0, we0, lo0⟩, ⟨b1, l1, sw1, we1, lo1⟩, fu, true⟩ n) :
    Calls Try.prog 20 #[.pointer (some ⟨g, 0, none⟩), .slice A n c, .bool sw] w fun e w' => e = .returned (.int .i64 (Ta.write ⟨⟨b0, l0, sw0, we0, lo0⟩, ⟨b1, l1, sw1, we1, lo1⟩, fu, true⟩ lb sw).2) ∧ Tp w' ok g (Ta.write ⟨⟨b0, l0, sw0, we0, lo0⟩, ⟨b1, l1, sw1, we1, lo1⟩, fu, true⟩ lb sw).1 ∧ Kp w w' g := by
  have HT0 := Aside0.mk hT
  obtain ⟨v0, u0, v1, u1, hT⟩ := hT
  have HT := Aside0.mk hT
  have HF := Aside0.mk hF
  have HG := Aside0.mk hg
  have HGB := Aside0.mk hgb
  clear hgb
  have HN := Aside0.mk hnew
  have HFit := Aside0.mk hfit
  have hn : n = lb.length := (Kd.F_len hF).symm
  obtain ⟨c0, c1, c2, c3, c4, c5, c6, c7, c8, c9, c10, c11, hfz⟩ := tc_cell hT.blk
  simp only at c0 c1 c2 c3 c4 c5 c6 c7 c8 c9 c10 c11
  have hs : Ta.write ⟨⟨b0, l0, sw0, we0, lo0⟩, ⟨b1, l1, sw1, we1, lo1⟩, fu, true⟩ lb sw = (⟨⟨b0, l0, sw0, we0, lo0⟩, ⟨b1, l1, sw1, we1, lo1⟩, fu, true⟩, 9) := rfl
  rw [hs]
  clear hT hF hg hnew hfit hn hs
  go_enter Try.func20, Try.ntmps20
  go_wp2
  go_ret
  exact ⟨rfl, HT0.out, Kp.refl w g⟩
end Go.Proofs.Ytfjjfoijjlpcjaa.Tp
