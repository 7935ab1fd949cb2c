/- Tapes: the contract of the reference Crash. -/
import Derived.Test.YtfjjfoijjlpcjaaProg
import Derived.Below
import Derived.Deep.Draws
import Derived.Deep.AppendLies
import Derived.Maps.AppendAt
import Derived.OwnWalk
import Derived.Laws.BytesArg
import Derived.Laws.MakeOwn
import Derived.Laws.OwnMore
import Derived.Deep.OwnRows
import Derived.Tactics
import Derived.Lib.ConvBytes
import Derived.Laws.Slices
import Derived.WalkKit
import Derived.KernelRfl
import Derived.RowKit3
import Derived.Deep.LoopGhost
import Derived.Deep.QuietTactic
import Derived.BigQuiet
import Derived.WideLaws
import Derived.Deep.DeepCutAuto
import Derived.Deep.CutBlock
import Derived.Deep.RegionHeld3
import Derived.Laws.Rows
import Derived.Lib.AppendStr
import Derived.ArgAppend
import Derived.Laws.IdiomCopy
import Derived.OrdersHeld
import Derived.Laws.BitsLemmas
import Derived.RowKit
import Derived.Test.YtfjjfoijjlpcjaaWWords
import Derived.Test.YtfjjfoijjlpcjaaWLast
import Derived.Test.YtfjjfoijjlpcjaaWTab
import Derived.Test.YtfjjfoijjlpcjaaWFour
import Derived.Test.YtfjjfoijjlpcjaaWQPut
import Derived.Test.YtfjjfoijjlpcjaaWApart
import Derived.Test.YtfjjfoijjlpcjaaWArr
import Derived.Test.YtfjjfoijjlpcjaaWZeros
import Derived.Test.YtfjjfoijjlpcjaaWFoot
import Derived.Test.YtfjjfoijjlpcjaaWKept
import Derived.Test.YtfjjfoijjlpcjaaWShare
import Derived.Test.YtfjjfoijjlpcjaaWN
import Derived.Test.YtfjjfoijjlpcjaaWFootNe
import Derived.Test.YtfjjfoijjlpcjaaWAt
import Derived.Test.YtfjjfoijjlpcjaaWEqStruct
import Derived.Test.YtfjjfoijjlpcjaaWRepsOne
import Derived.Test.YtfjjfoijjlpcjaaWInv
import Derived.Test.YtfjjfoijjlpcjaaWInvWords
import Derived.Test.YtfjjfoijjlpcjaaWGuard
import Derived.Test.YtfjjfoijjlpcjaaWNEv
import Derived.Test.YtfjjfoijjlpcjaaWMore
import Derived.Test.YtfjjfoijjlpcjaaTq7
namespace Go.Proofs.Ytfjjfoijjlpcjaa.Tp
open Go.RowKit Go.Proofs.YtfjjfoijjlpcjaaW.PrintWords Go.Proofs.YtfjjfoijjlpcjaaW.PrintLast Go.Proofs.YtfjjfoijjlpcjaaW.PrintMore
attribute [local go_sem] max2_int min2_int max_two min_two max_three min_three max_four min_four
set_option linter.unusedVariables false
set_option linter.unusedSimpArgs false
theorem drew_heap (W : World) : W.drew.heap = W.heap := rfl
theorem rc_end0 {w : World} {g : Nat} {v0 u0 v1 u1 : Value} {s1 : Sd} {b l : List Int} {sw we lo : Bool} {fu : Int} {dn : Bool} (h : w.heap[g]? = some (.cells (Rc v0 u0 v1 u1 ⟨⟨b, l, sw, we, lo⟩, s1, fu, dn⟩) 40 (0, 0))) (v : Value) (X : List Int) :
    (((((w.setCell ⟨g, 0, none⟩ v).setCell ⟨g, 1, none⟩ (.slice none 0 0)).setCell ⟨g, 2, none⟩ (.bool false)).setCell ⟨g, 3, none⟩ (.bool false)).setCell ⟨g, 4, none⟩ (.bool lo)).drew.heap[g]? = some (.cells (Rc v (.slice none 0 0) v1 u1 ⟨⟨X, [], false, false, lo⟩, s1, fu, dn⟩) 40 (0, 0)) := by
  rw [drew_heap]
  exact (blk_set (blk_set (blk_set (blk_set (blk_set h 0 v) 1 (.slice none 0 0)) 2 (.bool false)) 3 (.bool false)) 4 (.bool lo))
theorem rc_end1 {w : World} {g : Nat} {v0 u0 v1 u1 : Value} {s0 : Sd} {b l : List Int} {sw we lo : Bool} {fu : Int} {dn : Bool} (h : w.drew.heap[g]? = some (.cells (Rc v0 u0 v1 u1 ⟨s0, ⟨b, l, sw, we, lo⟩, fu, dn⟩) 40 (0, 0))) (v : Value) (X : List Int) :
    (((((w.setCell ⟨g, 5, none⟩ v).setCell ⟨g, 6, none⟩ (.slice none 0 0)).setCell ⟨g, 7, none⟩ (.bool false)).setCell ⟨g, 8, none⟩ (.bool false)).setCell ⟨g, 9, none⟩ (.bool lo)).drew.heap[g]? = some (.cells (Rc v0 u0 v (.slice none 0 0) ⟨s0, ⟨X, [], false, false, lo⟩, fu, dn⟩) 40 (0, 0)) := by
  rw [drew_heap]
  exact (blk_set (blk_set (blk_set (blk_set (blk_set h 5 v) 6 (.slice none 0 0)) 7 (.bool false)) 8 (.bool false)) 9 (.bool lo))
def Sd.rcrash (s : Sd) (k : Int) : Sd := ⟨s.crB k, [], false, false, s.lost⟩
set_option maxHeartbeats 4000000 in
set_option maxRecDepth 100000 in
theorem rcrash_calls (g : Nat) (t : Ta) (k : Int) (ok : Nat → Prop) (w : World)
    (hT : Rp w ok g t) (hg : ∀ k, ok k → k ≠ g) (hnew : ∀ k, w.heap.size ≤ k → ok k) (hL0 : t.s0.b.length + t.s0.l.length < 1099511627776) (hL1 : t.s1.b.length + t.s1.l.length < 1099511627776) :
    Calls Try.prog 16 #[.pointer (some ⟨g, 0, none⟩), .int .i64 k] w fun e w' => e = .returned (.tuple #[]) ∧ Rp w' ok g ⟨t.s0.rcrash k, t.s1.rcrash k, -1, false⟩ ∧ Kp w w' g := by
  have HG := Aside0.mk hg
  have HN := Aside0.mk hnew
  have HL0 := Aside0.mk hL0
  have HL1 := Aside0.mk hL1
  have HT0 := Aside0.mk hT
  obtain ⟨⟨b0, l0, sw0, we0, lo0⟩, ⟨b1, l1, sw1, we1, lo1⟩, fu, dn⟩ := t
  simp only [Sd.rcrash] at HL0 HL1 ⊢
  obtain ⟨X0, hX0⟩ : ∃ X, X = Sd.crB ⟨b0, l0, sw0, we0, lo0⟩ k := ⟨_, rfl⟩
  obtain ⟨X1, hX1⟩ : ∃ X, X = Sd.crB ⟨b1, l1, sw1, we1, lo1⟩ k := ⟨_, rfl⟩
  rw [← hX0, ← hX1]
  have HX0 := Aside0.mk hX0
  have HX1 := Aside0.mk hX1
  clear hX0 hX1
  clear hT hg hnew hL0 hL1
  go_enter Try.func16, Try.ntmps16
  go_wp2
  go_loopw [4, 5, 6, 7, 8, 9, 10, 11, 12, 13, 14, 15, 16, 17, 18, 19, 20, 21, 22, 23, 24, 25, 26, 27, 28, 29, 30, 31] (fun x4 x5 x6 x7 x8 x9 x10 x11 x12 x13 x14 x15 x16 x17 x18 x19 x20 x21 x22 x23 x24 x25 x26 x27 x28 x29 x30 x31 wr => (x4 = .int .i64 0 ∧ Rp wr ok g ⟨⟨b0, l0, sw0, we0, lo0⟩, ⟨b1, l1, sw1, we1, lo1⟩, fu, dn⟩ ∧ Kp w wr g) ∨ (x4 = .int .i64 1 ∧ Rp wr ok g ⟨⟨X0, [], false, false, lo0⟩, ⟨b1, l1, sw1, we1, lo1⟩, fu, dn⟩ ∧ Kp w wr g) ∨ (x4 = .int .i64 2 ∧ Rp wr ok g ⟨⟨X0, [], false, false, lo0⟩, ⟨X1, [], false, false, lo1⟩, fu, dn⟩ ∧ Kp w wr g)) (fun x4 _ _ _ _ _ _ _ _ _ _ _ _ _ _ _ _ _ _ _ _ _ _ _ _ _ _ _ _ => 2 - (intOf x4).toNat)
  case atStart => exact .inl ⟨rfl, HT0.out, Kp.refl _ _⟩
  case round =>
    rcases hrel with ⟨rfl, hTr, hKr⟩ | ⟨rfl, hTr, hKr⟩ | ⟨rfl, hTr, hKr⟩
    · skip
      obtain ⟨v0, u0, v1, u1, hTr⟩ := hTr
      have HKr := Aside0.mk hKr
      obtain ⟨A0, d0, e0⟩ := Kd.V_slice hTr.a0
      obtain ⟨A1, d1, e1⟩ := Kd.V_slice hTr.a1
      subst e0 e1
      have hgl : g < wr.heap.size := blk_lt hTr.blk
      obtain ⟨c0, c1, c2, c3, c4, c5, c6, c7, c8, c9, c10, c11, hfz⟩ := rc_cell hTr.blk
      simp only at c0 c1 c2 c3 c4 c5 c6 c7 c8 c9 c10 c11
      have HT := Aside0.mk hTr
      have HC : Aside0 _ := ⟨all_calls ⟨b0, l0, sw0, we0, lo0⟩ (.slice A0 b0.length d0) (.slice A1 l0.length d1) k ok wr HT.out.a0 HT.out.a1 (fun k hk => HN.out k (Nat.le_trans HKr.out.size hk)) HL0.out⟩
      clear hTr hKr
      go_wp2_with fail
      refine HC.out.mono ?_
      rintro e w1 ⟨v7, rfl, hv7, hb1⟩
      obtain ⟨A7, d7, e7⟩ := Kd.V_slice hv7
      subst e7
      rw [← HX0.out] at hv7
      rw [← HX0.out]
      obtain ⟨n7, hn7⟩ : ∃ n7, n7 = X0.length := ⟨_, rfl⟩
      rw [← hn7] at hv7 ⊢
      have HV7 := Aside0.mk hv7
      have HB1 := Aside0.mk hb1
      have hbk1 := blk_below HT.out.blk hb1
      have HBk1 := Aside0.mk hbk1
      clear c0 c1 c2 c3 c4 c5 c6 c7 c8 c9 c10 c11 hfz hn7 hv7 HC
      obtain ⟨c0, c1, c2, c3, c4, c5, c6, c7, c8, c9, c10, c11, hfz⟩ := rc_cell hbk1
      simp only at c0 c1 c2 c3 c4 c5 c6 c7 c8 c9 c10 c11
      clear hbk1 hb1
      go_wp2_with fail
      go_still_tail 14, (by kernel_rfl)
      go_wp2
      go_roundw
      case rel =>
        have KD1 : Kp w1 w1 g := Kp.refl w1 g
        have KD2 : Kp wr w1 g := Kp.of_below HB1.out g
        have K1 : Kp w1 (((((w1.setCell ⟨g, 0, none⟩ (.slice A7 n7 d7)).setCell ⟨g, 1, none⟩ (.slice none 0 0)).setCell ⟨g, 2, none⟩ (.bool false)).setCell ⟨g, 3, none⟩ (.bool false)).setCell ⟨g, 4, none⟩ (.bool lo0)).drew g := ((((((KD1).set 0 (.slice A7 n7 d7)).set 1 (.slice none 0 0)).set 2 (.bool false)).set 3 (.bool false)).set 4 (.bool lo0)).drewN 1
        have K : Kp wr (((((w1.setCell ⟨g, 0, none⟩ (.slice A7 n7 d7)).setCell ⟨g, 1, none⟩ (.slice none 0 0)).setCell ⟨g, 2, none⟩ (.bool false)).setCell ⟨g, 3, none⟩ (.bool false)).setCell ⟨g, 4, none⟩ (.bool lo0)).drew g := ((((((KD2).set 0 (.slice A7 n7 d7)).set 1 (.slice none 0 0)).set 2 (.bool false)).set 3 (.bool false)).set 4 (.bool lo0)).drewN 1
        refine .inr (.inl ⟨by go_num, ?_, HKr.out.trans K⟩)
        have B0 := rc_end0 HBk1.out (.slice A7 n7 d7) X0
        exact ⟨(.slice A7 n7 d7), (.slice none 0 0), v1, u1, B0, vb_kp HV7.out K1 HG.out, Kd.V_nil _ _ _ _ _, vb_kp HT.out.a2 K HG.out, vb_kp HT.out.a3 K HG.out⟩
      case measure => simp [intOf]
    · skip
      obtain ⟨v0, u0, v1, u1, hTr⟩ := hTr
      have HKr := Aside0.mk hKr
      obtain ⟨A0, d0, e0⟩ := Kd.V_slice hTr.a2
      obtain ⟨A1, d1, e1⟩ := Kd.V_slice hTr.a3
      subst e0 e1
      have hgl : g < wr.heap.size := blk_lt hTr.blk
      obtain ⟨c0, c1, c2, c3, c4, c5, c6, c7, c8, c9, c10, c11, hfz⟩ := rc_cell hTr.blk
      simp only at c0 c1 c2 c3 c4 c5 c6 c7 c8 c9 c10 c11
      have HT := Aside0.mk hTr
      have HC : Aside0 _ := ⟨all_calls ⟨b1, l1, sw1, we1, lo1⟩ (.slice A0 b1.length d0) (.slice A1 l1.length d1) k ok wr HT.out.a2 HT.out.a3 (fun k hk => HN.out k (Nat.le_trans HKr.out.size hk)) HL1.out⟩
      clear hTr hKr
      go_wp2_with fail
      refine HC.out.mono ?_
      rintro e w1 ⟨v7, rfl, hv7, hb1⟩
      obtain ⟨A7, d7, e7⟩ := Kd.V_slice hv7
      subst e7
      rw [← HX1.out] at hv7
      rw [← HX1.out]
      obtain ⟨n7, hn7⟩ : ∃ n7, n7 = X1.length := ⟨_, rfl⟩
      rw [← hn7] at hv7 ⊢
      have HV7 := Aside0.mk hv7
      have HB1 := Aside0.mk hb1
      have hbk1 := blk_below HT.out.blk hb1
      have HBk1 := Aside0.mk hbk1
      clear c0 c1 c2 c3 c4 c5 c6 c7 c8 c9 c10 c11 hfz hn7 hv7 HC
      obtain ⟨c0, c1, c2, c3, c4, c5, c6, c7, c8, c9, c10, c11, hfz⟩ := rc_cell hbk1
      simp only at c0 c1 c2 c3 c4 c5 c6 c7 c8 c9 c10 c11
      clear hbk1 hb1
      go_wp2_with fail
      go_still_tail 14, (by kernel_rfl)
      go_wp2
      go_roundw
      case rel =>
        have KD1 : Kp w1 w1 g := Kp.refl w1 g
        have KD2 : Kp wr w1 g := Kp.of_below HB1.out g
        have K1 : Kp w1 (((((w1.setCell ⟨g, 5, none⟩ (.slice A7 n7 d7)).setCell ⟨g, 6, none⟩ (.slice none 0 0)).setCell ⟨g, 7, none⟩ (.bool false)).setCell ⟨g, 8, none⟩ (.bool false)).setCell ⟨g, 9, none⟩ (.bool lo1)).drew g := ((((((KD1).set 5 (.slice A7 n7 d7)).set 6 (.slice none 0 0)).set 7 (.bool false)).set 8 (.bool false)).set 9 (.bool lo1)).drewN 1
        have K : Kp wr (((((w1.setCell ⟨g, 5, none⟩ (.slice A7 n7 d7)).setCell ⟨g, 6, none⟩ (.slice none 0 0)).setCell ⟨g, 7, none⟩ (.bool false)).setCell ⟨g, 8, none⟩ (.bool false)).setCell ⟨g, 9, none⟩ (.bool lo1)).drew g := ((((((KD2).set 5 (.slice A7 n7 d7)).set 6 (.slice none 0 0)).set 7 (.bool false)).set 8 (.bool false)).set 9 (.bool lo1)).drewN 1
        refine .inr (.inr ⟨by go_num, ?_, HKr.out.trans K⟩)
        have B0 := rc_end1 HBk1.out (.slice A7 n7 d7) X1
        exact ⟨v0, u0, (.slice A7 n7 d7), (.slice none 0 0), B0, vb_kp HT.out.a0 K HG.out, vb_kp HT.out.a1 K HG.out, vb_kp HV7.out K1 HG.out, Kd.V_nil _ _ _ _ _⟩
      case measure => simp [intOf]
    · obtain ⟨v0, u0, v1, u1, hTr⟩ := hTr
      have HT := Aside0.mk hTr
      have HKr := Aside0.mk hKr
      obtain ⟨c0, c1, c2, c3, c4, c5, c6, c7, c8, c9, c10, c11, hfz⟩ := rc_cell hTr.blk
      simp only at c0 c1 c2 c3 c4 c5 c6 c7 c8 c9 c10 c11
      clear hTr hKr
      go_wp2
      trace_state
      go_end0
      have K : Kp wr ((wr.setCell ⟨g, 10, none⟩ (.int .i64 (-1))).setCell ⟨g, 11, none⟩ (.bool false)) g := ((Kp.refl wr g).set 10 _).set 11 _
      exact ⟨rfl, ⟨_, _, _, _, rv_kp HT.out K HG.out (blk_set (blk_set HT.out.blk 10 _) 11 _) rfl rfl rfl rfl⟩, HKr.out.trans K⟩
end Go.Proofs.Ytfjjfoijjlpcjaa.Tp
