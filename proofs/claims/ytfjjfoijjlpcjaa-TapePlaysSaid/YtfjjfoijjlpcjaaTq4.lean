/- Tapes: Crash, Lose, Spoil. -/
import Derived.Test.YtfjjfoijjlpcjaaProg
import Derived.Below
import Derived.Deep.Draws
import Derived.Deep.AppendLies
import Derived.Maps.AppendAt
import Derived.OwnWalk
import Derived.Laws.BytesArg
import Derived.Laws.MakeOwn
import Derived.Laws.OwnMore
import Derived.Deep.OwnRows
import Derived.Tactics
import Derived.Lib.ConvBytes
import Derived.Laws.Slices
import Derived.WalkKit
import Derived.KernelRfl
import Derived.RowKit3
import Derived.Deep.LoopGhost
import Derived.Deep.QuietTactic
import Derived.BigQuiet
import Derived.WideLaws
import Derived.Deep.DeepCutAuto
import Derived.Deep.CutBlock
import Derived.Deep.RegionHeld3
import Derived.Laws.Rows
import Derived.Lib.AppendStr
import Derived.ArgAppend
import Derived.Laws.IdiomCopy
import Derived.OrdersHeld
import Derived.Laws.BitsLemmas
import Derived.RowKit
import Derived.Test.YtfjjfoijjlpcjaaWWords
import Derived.Test.YtfjjfoijjlpcjaaWLast
import Derived.Test.YtfjjfoijjlpcjaaWTab
import Derived.Test.YtfjjfoijjlpcjaaWFour
import Derived.Test.YtfjjfoijjlpcjaaWQPut
import Derived.Test.YtfjjfoijjlpcjaaWApart
import Derived.Test.YtfjjfoijjlpcjaaWArr
import Derived.Test.YtfjjfoijjlpcjaaWZeros
import Derived.Test.YtfjjfoijjlpcjaaWFoot
import Derived.Test.YtfjjfoijjlpcjaaWKept
import Derived.Test.YtfjjfoijjlpcjaaWShare
import Derived.Test.YtfjjfoijjlpcjaaWN
import Derived.Test.YtfjjfoijjlpcjaaWFootNe
import Derived.Test.YtfjjfoijjlpcjaaWAt
import Derived.Test.YtfjjfoijjlpcjaaWEqStruct
import Derived.Test.YtfjjfoijjlpcjaaWRepsOne
import Derived.Test.YtfjjfoijjlpcjaaWInv
import Derived.Test.YtfjjfoijjlpcjaaWInvWords
import Derived.Test.YtfjjfoijjlpcjaaWGuard
import Derived.Test.YtfjjfoijjlpcjaaWNEv
import Derived.Test.YtfjjfoijjlpcjaaWMore
import Derived.Test.YtfjjfoijjlpcjaaTq3
import Derived.StillTailTactics
namespace Go.Proofs.Ytfjjfoijjlpcjaa.Tp
open Go.RowKit Go.Proofs.YtfjjfoijjlpcjaaW.PrintWords Go.Proofs.YtfjjfoijjlpcjaaW.PrintLast Go.Proofs.YtfjjfoijjlpcjaaW.PrintMore
attribute [local go_sem] max2_int min2_int max_two min_two max_three min_three max_four min_four
set_option linter.unusedVariables false
set_option linter.unusedSimpArgs false
/-- How many bytes of what is loose last. -/
def keeps (k : Int) (n : Nat) : Nat := if k < 0 then 0 else if k.toNat < n then k.toNat else n
def Sd.crB (s : Sd) (k : Int) : List Int := if s.wet then (if s.sw then (if k % 2 = 1 then s.l else s.b) else s.b ++ s.l.take (keeps k s.l.length)) else s.b
def Sd.crash (s : Sd) (k : Int) : Sd := { s with b := s.crB k, l := [], wet := false }
set_option maxHeartbeats 8000000 in
set_option maxRecDepth 100000 in
theorem crash_nil (i : Int) (w : World) : Calls Try.prog 11 #[.pointer none, .int .i64 i] w fun e w' => e = .returned (.tuple #[]) ∧ w' = w := by
  go_enter Try.func11, Try.ntmps11
  go_wp2
  refine bodyPost_ret (results_none rfl _ _ _) rfl ?_
  exact ⟨rfl, rfl⟩
theorem and1 (k : Int) : Go.bits .and .i64 k 1 = k % 2 := by
  show IntKind.i64.wrap ((BitVec.ofInt 64 k &&& BitVec.ofInt 64 1).toNat : Int) = _
  rw [BitVec.toNat_and, show (BitVec.ofInt 64 1).toNat = 1 from by decide, BitVec.toNat_ofInt, Nat.and_one_is_mod, IntKind.wrap_i64]
  omega
theorem ftake {W : World} {ok : Nat → Prop} {A : Option Addr} {l : List Int} {m : Nat} (h : Kd.F U8 W ok A l.length l) (hm : m ≤ l.length) : Kd.F U8 W ok A m (l.take m) := by have := Kd.F_take h hm; rwa [List.length_take_of_le hm] at this
set_option maxHeartbeats 8000000 in
set_option maxRecDepth 100000 in
theorem crash_calls (g : Nat) (t : Ta) (k : Int) (ok : Nat → Prop) (w : World)
    (hT : Tp w ok g t) (hg : ∀ k, ok k → k ≠ g) (hnew : ∀ k, w.heap.size ≤ k → ok k) (hL0 : t.s0.b.length + t.s0.l.length < 1099511627776) (hL1 : t.s1.b.length + t.s1.l.length < 1099511627776) :
    Calls Try.prog 11 #[.pointer (some ⟨g, 0, none⟩), .int .i64 k] w fun e w' => e = .returned (.tuple #[]) ∧ Tp w' ok g ⟨t.s0.crash k, t.s1.crash k, -1, false⟩ ∧ Kp w w' g := by
  have HG := Aside0.mk hg
  have HN := Aside0.mk hnew
  have HL0 := Aside0.mk hL0
  have HL1 := Aside0.mk hL1
  obtain ⟨⟨b0, l0, sw0, we0, lo0⟩, ⟨b1, l1, sw1, we1, lo1⟩, fu, dn⟩ := t
  obtain ⟨nb0, hn0⟩ : ∃ x, x = Sd.crB ⟨b0, l0, sw0, we0, lo0⟩ k := ⟨_, rfl⟩
  obtain ⟨nb1, hn1⟩ : ∃ x, x = Sd.crB ⟨b1, l1, sw1, we1, lo1⟩ k := ⟨_, rfl⟩
  have e0 : Sd.crash ⟨b0, l0, sw0, we0, lo0⟩ k = ⟨nb0, [], sw0, false, lo0⟩ := by rw [hn0]; rfl
  have e1 : Sd.crash ⟨b1, l1, sw1, we1, lo1⟩ k = ⟨nb1, [], sw1, false, lo1⟩ := by rw [hn1]; rfl
  simp only at HL0 HL1
  rw [e0, e1]
  have HNB0 := Aside0.mk hn0
  have HNB1 := Aside0.mk hn1
  clear e0 e1 hn0 hn1 hL0 hL1 hg hnew
  have HT0 := Aside0.mk hT
  clear hT
  go_enter Try.func11, Try.ntmps11
  go_wp2
  go_loopw [8] (fun i wr => (i = .int .i64 0 ∧ Tp wr ok g ⟨⟨b0, l0, sw0, we0, lo0⟩, ⟨b1, l1, sw1, we1, lo1⟩, fu, dn⟩ ∧ Kp w wr g) ∨ (i = .int .i64 1 ∧ Tp wr ok g ⟨⟨nb0, [], sw0, false, lo0⟩, ⟨b1, l1, sw1, we1, lo1⟩, fu, dn⟩ ∧ Kp w wr g) ∨ (i = .int .i64 2 ∧ Tp wr ok g ⟨⟨nb0, [], sw0, false, lo0⟩, ⟨nb1, [], sw1, false, lo1⟩, fu, dn⟩ ∧ Kp w wr g)) (fun i _ => 2 - (intOf i).toNat)
  case atStart => exact .inl ⟨rfl, HT0.out, Kp.refl w g⟩
  case round =>
    clear HT0
    rcases hrel with ⟨rfl, hTr, hKr⟩ | ⟨rfl, hTr, hKr⟩ | ⟨rfl, hTr, hKr⟩
    · skip
      obtain ⟨v0, u0, v1, u1, hTv⟩ := hTr
      have HT := Aside0.mk hTv
      obtain ⟨A2, d2, e2⟩ := Kd.V_slice HT.out.a0
      subst e2
      obtain ⟨A3, d3, e3⟩ := Kd.V_slice HT.out.a1
      subst e3
      have hld : Aside0 (l0.length ≤ d3) := ⟨(Kd.V_at HT.out.a1).2.1⟩
      obtain ⟨c0, c1, c2, c3, c4, c5, c6, c7, c8, c9, c10, c11, hfz⟩ := tc_cell HT.out.blk
      simp only at c0 c1 c2 c3 c4 c5 c6 c7 c8 c9 c10 c11
      have HKr := Aside0.mk hKr
      have hlt : g < wr.heap.size := blk_lt hTv.blk
      clear hTv hKr
      cases we0
      · skip
        have hnb : nb0 = b0 := by rw [HNB0.out]; rfl
        have HN0 := Aside0.mk hnb
        clear hnb
        go_wp2
        go_roundw
        case rel =>
          have K : Kp wr ((wr.setCell ⟨g, 1, none⟩ (.slice none 0 0)).setCell ⟨g, 3, none⟩ (.bool false)) g := ((Kp.refl wr g).set 1 _).set 3 _
          rw [HN0.out]
          exact .inr (.inl ⟨by go_num, ⟨.slice A2 b0.length d2, .slice none 0 0, v1, u1, blk_set (blk_set HT.out.blk 1 _) 3 _, vb_kp HT.out.a0 K HG.out, Kd.V_nil _ _ _ _ _, vb_kp HT.out.a2 K HG.out, vb_kp HT.out.a3 K HG.out⟩, HKr.out.trans K⟩)
        case measure => simp [intOf]
      · cases sw0
        · by_cases hk : k < 0
          · have hk1 : ¬ 0 ≤ k := by omega
            have hk0 : keeps k l0.length = 0 := if_pos hk
            have hq : (if (l0.length : Int) < 0 then (l0.length : Int) else 0) = 0 := if_neg (by omega)
            have hd3 : (0 : Int) ≤ (d3 : Int) := by omega
            have hnb : nb0 = b0 ++ l0.take 0 := by rw [HNB0.out]; show b0 ++ l0.take (keeps k l0.length) = _; rw [hk0]
            have HN0 := Aside0.mk hnb
            have HC : Aside0 _ := ⟨apply_calls g 0 _ 52 _ b0 (l0.take (0)) A3 0 d3 false ok ok wr.drew (show wr.drew.heap[g]? = _ from HT.out.blk) rfl HT.out.a0 (ftake (Kd.V_F (e := 5) (base := 0) HT.out.a1) (by omega)) HG.out HG.out (fun k hk => HN.out k (Nat.le_trans HKr.out.size hk)) (by have := HL0.out; omega)⟩
            clear hnb
            clear hk0 hk
            go_wp2
            go_still_tail 14, (by kernel_rfl)
            change wpList _ _ _ _ _ wr.drew
            go_wp2_with fail
            refine HC.out.mono ?_; rintro e w1 ⟨rfl, v2, hb2, hv2, hk2⟩; have HB2 := Aside0.mk hb2; have HV2 := Aside0.mk hv2; have HK2 := Aside0.mk hk2; have hc1 : w1.cell? ⟨g, 1, none⟩ = some (.slice A3 l0.length d3) := (blk_cell hb2 1).trans rfl; have hc3 : w1.cell? ⟨g, 3, none⟩ = some (.bool true) := (blk_cell hb2 3).trans rfl; have hf1 : ∀ j, w1.frozen? ⟨g, j, none⟩ = false := (fun j => blk_frozen hb2 j); clear hb2 hv2 hk2
            go_wp2
            go_roundw
            case rel =>
              have K1 : Kp w1 ((w1.setCell ⟨g, 1, none⟩ (.slice none 0 0)).setCell ⟨g, 3, none⟩ (.bool false)) g := ((Kp.refl w1 g).set 1 _).set 3 _
              have K : Kp wr ((w1.setCell ⟨g, 1, none⟩ (.slice none 0 0)).setCell ⟨g, 3, none⟩ (.bool false)) g := Kp.trans ⟨HK2.out.os, HK2.out.tape, HK2.out.output, HK2.out.size, HK2.out.block⟩ K1
              exact .inr (.inl ⟨by go_num, ⟨v2, .slice none 0 0, v1, u1, blk_set (blk_set HB2.out 1 _) 3 _, HN0.out ▸ vb_kp HV2.out K1 HG.out, Kd.V_nil _ _ _ _ _, vb_kp HT.out.a2 K HG.out, vb_kp HT.out.a3 K HG.out⟩, HKr.out.trans K⟩)
            case measure => simp [intOf]
          · by_cases hm : k.toNat < l0.length
            · have hk1 : 0 ≤ k := by omega
              have hk0 : keeps k l0.length = k.toNat := by unfold keeps; rw [if_neg hk, if_pos hm]
              have hk2 : (if (l0.length : Int) < k then (l0.length : Int) else k) = k := if_neg (by omega)
              have hmx : (if k < 0 then (0 : Int) else k) = k := if_neg hk
              have hk3 : k ≤ (l0.length : Int) := by omega
              have hk4 : k ≤ (d3 : Int) := by have := hld.out; omega
              have hnb : nb0 = b0 ++ l0.take k.toNat := by rw [HNB0.out]; show b0 ++ l0.take (keeps k l0.length) = _; rw [hk0]
              have HN0 := Aside0.mk hnb
              have HC : Aside0 _ := ⟨apply_calls g 0 _ 52 _ b0 (l0.take (k.toNat)) A3 k.toNat d3 false ok ok wr.drew (show wr.drew.heap[g]? = _ from HT.out.blk) rfl HT.out.a0 (ftake (Kd.V_F (e := 5) (base := 0) HT.out.a1) (by omega)) HG.out HG.out (fun k hk => HN.out k (Nat.le_trans HKr.out.size hk)) (by have := HL0.out; omega)⟩
              clear hnb
              clear hk0 hk
              go_wp2
              go_still_tail 14, (by kernel_rfl)
              change wpList _ _ _ _ _ wr.drew
              go_wp2_with fail
              refine HC.out.mono ?_; rintro e w1 ⟨rfl, v2, hb2, hv2, hk2⟩; have HB2 := Aside0.mk hb2; have HV2 := Aside0.mk hv2; have HK2 := Aside0.mk hk2; have hc1 : w1.cell? ⟨g, 1, none⟩ = some (.slice A3 l0.length d3) := (blk_cell hb2 1).trans rfl; have hc3 : w1.cell? ⟨g, 3, none⟩ = some (.bool true) := (blk_cell hb2 3).trans rfl; have hf1 : ∀ j, w1.frozen? ⟨g, j, none⟩ = false := (fun j => blk_frozen hb2 j); clear hb2 hv2 hk2
              go_wp2
              go_roundw
              case rel =>
                have K1 : Kp w1 ((w1.setCell ⟨g, 1, none⟩ (.slice none 0 0)).setCell ⟨g, 3, none⟩ (.bool false)) g := ((Kp.refl w1 g).set 1 _).set 3 _
                have K : Kp wr ((w1.setCell ⟨g, 1, none⟩ (.slice none 0 0)).setCell ⟨g, 3, none⟩ (.bool false)) g := Kp.trans ⟨HK2.out.os, HK2.out.tape, HK2.out.output, HK2.out.size, HK2.out.block⟩ K1
                exact .inr (.inl ⟨by go_num, ⟨v2, .slice none 0 0, v1, u1, blk_set (blk_set HB2.out 1 _) 3 _, HN0.out ▸ vb_kp HV2.out K1 HG.out, Kd.V_nil _ _ _ _ _, vb_kp HT.out.a2 K HG.out, vb_kp HT.out.a3 K HG.out⟩, HKr.out.trans K⟩)
              case measure => simp [intOf]
            · have hk1 : 0 ≤ k := by omega
              have hk0 : keeps k l0.length = l0.length := by unfold keeps; rw [if_neg hk, if_neg hm]
              have hk2 : (l0.length : Int) ≤ k := by omega
              have hmx : (if k < 0 then (0 : Int) else k) = k := if_neg hk
              have hmin : (if (l0.length : Int) < k then (l0.length : Int) else k) = (l0.length : Int) := by split <;> omega
              have hk4 : (l0.length : Int) ≤ (d3 : Int) := by have := hld.out; omega
              clear hk2
              have hnb : nb0 = b0 ++ l0.take l0.length := by rw [HNB0.out]; show b0 ++ l0.take (keeps k l0.length) = _; rw [hk0]
              have HN0 := Aside0.mk hnb
              have HC : Aside0 _ := ⟨apply_calls g 0 _ 52 _ b0 (l0.take (l0.length)) A3 l0.length d3 false ok ok wr.drew (show wr.drew.heap[g]? = _ from HT.out.blk) rfl HT.out.a0 (ftake (Kd.V_F (e := 5) (base := 0) HT.out.a1) (by omega)) HG.out HG.out (fun k hk => HN.out k (Nat.le_trans HKr.out.size hk)) (by have := HL0.out; omega)⟩
              clear hnb
              clear hk0 hk hm
              go_wp2
              go_still_tail 14, (by kernel_rfl)
              change wpList _ _ _ _ _ wr.drew
              go_wp2_with fail
              refine HC.out.mono ?_; rintro e w1 ⟨rfl, v2, hb2, hv2, hk2⟩; have HB2 := Aside0.mk hb2; have HV2 := Aside0.mk hv2; have HK2 := Aside0.mk hk2; have hc1 : w1.cell? ⟨g, 1, none⟩ = some (.slice A3 l0.length d3) := (blk_cell hb2 1).trans rfl; have hc3 : w1.cell? ⟨g, 3, none⟩ = some (.bool true) := (blk_cell hb2 3).trans rfl; have hf1 : ∀ j, w1.frozen? ⟨g, j, none⟩ = false := (fun j => blk_frozen hb2 j); clear hb2 hv2 hk2
              go_wp2
              go_roundw
              case rel =>
                have K1 : Kp w1 ((w1.setCell ⟨g, 1, none⟩ (.slice none 0 0)).setCell ⟨g, 3, none⟩ (.bool false)) g := ((Kp.refl w1 g).set 1 _).set 3 _
                have K : Kp wr ((w1.setCell ⟨g, 1, none⟩ (.slice none 0 0)).setCell ⟨g, 3, none⟩ (.bool false)) g := Kp.trans ⟨HK2.out.os, HK2.out.tape, HK2.out.output, HK2.out.size, HK2.out.block⟩ K1
                exact .inr (.inl ⟨by go_num, ⟨v2, .slice none 0 0, v1, u1, blk_set (blk_set HB2.out 1 _) 3 _, HN0.out ▸ vb_kp HV2.out K1 HG.out, Kd.V_nil _ _ _ _ _, vb_kp HT.out.a2 K HG.out, vb_kp HT.out.a3 K HG.out⟩, HKr.out.trans K⟩)
              case measure => simp [intOf]
        · by_cases hk : k % 2 = 1
          · have hkb : (Go.bits .and .i64 k 1 == 1) = true := by rw [and1, hk]; rfl
            have hkc : Go.bits .and .i64 k 1 = 1 := by rw [and1, hk]
            have hnb : nb0 = l0 := by rw [HNB0.out]; show (if k % 2 = 1 then l0 else b0) = _; rw [if_pos hk]
            have HN0 := Aside0.mk hnb
            have HC : Aside0 _ := ⟨apply_calls g 0 _ 52 _ b0 l0 A3 l0.length d3 true ok ok wr (show wr.heap[g]? = _ from HT.out.blk) rfl HT.out.a0 (Kd.V_F (e := 5) (base := 0) HT.out.a1) HG.out HG.out (fun k hk => HN.out k (Nat.le_trans HKr.out.size hk)) (by have := HL0.out; omega)⟩
            clear hnb
            clear hk
            go_wp2_with fail
            refine HC.out.mono ?_; rintro e w1 ⟨rfl, v2, hb2, hv2, hk2⟩; have HB2 := Aside0.mk hb2; have HV2 := Aside0.mk hv2; have HK2 := Aside0.mk hk2; have hc1 : w1.cell? ⟨g, 1, none⟩ = some (.slice A3 l0.length d3) := (blk_cell hb2 1).trans rfl; have hc3 : w1.cell? ⟨g, 3, none⟩ = some (.bool true) := (blk_cell hb2 3).trans rfl; have hf1 : ∀ j, w1.frozen? ⟨g, j, none⟩ = false := (fun j => blk_frozen hb2 j); clear hb2 hv2 hk2
            go_wp2
            go_roundw
            case rel =>
              have K1 : Kp w1 ((w1.setCell ⟨g, 1, none⟩ (.slice none 0 0)).setCell ⟨g, 3, none⟩ (.bool false)) g := ((Kp.refl w1 g).set 1 _).set 3 _
              have K : Kp wr ((w1.setCell ⟨g, 1, none⟩ (.slice none 0 0)).setCell ⟨g, 3, none⟩ (.bool false)) g := Kp.trans ⟨HK2.out.os, HK2.out.tape, HK2.out.output, HK2.out.size, HK2.out.block⟩ K1
              exact .inr (.inl ⟨by go_num, ⟨v2, .slice none 0 0, v1, u1, blk_set (blk_set HB2.out 1 _) 3 _, HN0.out ▸ vb_kp HV2.out K1 HG.out, Kd.V_nil _ _ _ _ _, vb_kp HT.out.a2 K HG.out, vb_kp HT.out.a3 K HG.out⟩, HKr.out.trans K⟩)
            case measure => simp [intOf]
          · have hkb : (Go.bits .and .i64 k 1 == 1) = false := by rw [and1]; simpa using hk
            have hkc : ¬ Go.bits .and .i64 k 1 = 1 := by rw [and1]; exact hk
            have hnb : nb0 = b0 := by rw [HNB0.out]; show (if k % 2 = 1 then l0 else b0) = _; rw [if_neg hk]
            clear hk
            have HN0 := Aside0.mk hnb
            clear hnb
            go_wp2
            go_roundw
            case rel =>
              have K : Kp wr ((wr.setCell ⟨g, 1, none⟩ (.slice none 0 0)).setCell ⟨g, 3, none⟩ (.bool false)) g := ((Kp.refl wr g).set 1 _).set 3 _
              rw [HN0.out]
              exact .inr (.inl ⟨by go_num, ⟨.slice A2 b0.length d2, .slice none 0 0, v1, u1, blk_set (blk_set HT.out.blk 1 _) 3 _, vb_kp HT.out.a0 K HG.out, Kd.V_nil _ _ _ _ _, vb_kp HT.out.a2 K HG.out, vb_kp HT.out.a3 K HG.out⟩, HKr.out.trans K⟩)
            case measure => simp [intOf]
    · skip
      obtain ⟨v0, u0, v1, u1, hTv⟩ := hTr
      have HT := Aside0.mk hTv
      obtain ⟨A2, d2, e2⟩ := Kd.V_slice HT.out.a2
      subst e2
      obtain ⟨A3, d3, e3⟩ := Kd.V_slice HT.out.a3
      subst e3
      have hld : Aside0 (l1.length ≤ d3) := ⟨(Kd.V_at HT.out.a3).2.1⟩
      obtain ⟨c0, c1, c2, c3, c4, c5, c6, c7, c8, c9, c10, c11, hfz⟩ := tc_cell HT.out.blk
      simp only at c0 c1 c2 c3 c4 c5 c6 c7 c8 c9 c10 c11
      have HKr := Aside0.mk hKr
      have hlt : g < wr.heap.size := blk_lt hTv.blk
      clear hTv hKr
      cases we1
      · skip
        have hnb : nb1 = b1 := by rw [HNB1.out]; rfl
        have HN0 := Aside0.mk hnb
        clear hnb
        go_wp2
        go_roundw
        case rel =>
          have K : Kp wr ((wr.setCell ⟨g, 6, none⟩ (.slice none 0 0)).setCell ⟨g, 8, none⟩ (.bool false)) g := ((Kp.refl wr g).set 6 _).set 8 _
          rw [HN0.out]
          exact .inr (.inr ⟨by go_num, ⟨v0, u0, .slice A2 b1.length d2, .slice none 0 0, blk_set (blk_set HT.out.blk 6 _) 8 _, vb_kp HT.out.a0 K HG.out, vb_kp HT.out.a1 K HG.out, vb_kp HT.out.a2 K HG.out, Kd.V_nil _ _ _ _ _⟩, HKr.out.trans K⟩)
        case measure => simp [intOf]
      · cases sw1
        · by_cases hk : k < 0
          · have hk1 : ¬ 0 ≤ k := by omega
            have hk0 : keeps k l1.length = 0 := if_pos hk
            have hq : (if (l1.length : Int) < 0 then (l1.length : Int) else 0) = 0 := if_neg (by omega)
            have hd3 : (0 : Int) ≤ (d3 : Int) := by omega
            have hnb : nb1 = b1 ++ l1.take 0 := by rw [HNB1.out]; show b1 ++ l1.take (keeps k l1.length) = _; rw [hk0]
            have HN0 := Aside0.mk hnb
            have HC : Aside0 _ := ⟨apply_calls g 5 _ 52 _ b1 (l1.take (0)) A3 0 d3 false ok ok wr.drew (show wr.drew.heap[g]? = _ from HT.out.blk) rfl HT.out.a2 (ftake (Kd.V_F (e := 5) (base := 0) HT.out.a3) (by omega)) HG.out HG.out (fun k hk => HN.out k (Nat.le_trans HKr.out.size hk)) (by have := HL1.out; omega)⟩
            clear hnb
            clear hk0 hk
            go_wp2
            go_still_tail 14, (by kernel_rfl)
            change wpList _ _ _ _ _ wr.drew
            go_wp2_with fail
            refine HC.out.mono ?_; rintro e w1 ⟨rfl, v2, hb2, hv2, hk2⟩; have HB2 := Aside0.mk hb2; have HV2 := Aside0.mk hv2; have HK2 := Aside0.mk hk2; have hc1 : w1.cell? ⟨g, 6, none⟩ = some (.slice A3 l1.length d3) := (blk_cell hb2 6).trans rfl; have hc3 : w1.cell? ⟨g, 8, none⟩ = some (.bool true) := (blk_cell hb2 8).trans rfl; have hf1 : ∀ j, w1.frozen? ⟨g, j, none⟩ = false := (fun j => blk_frozen hb2 j); clear hb2 hv2 hk2
            go_wp2
            go_roundw
            case rel =>
              have K1 : Kp w1 ((w1.setCell ⟨g, 6, none⟩ (.slice none 0 0)).setCell ⟨g, 8, none⟩ (.bool false)) g := ((Kp.refl w1 g).set 6 _).set 8 _
              have K : Kp wr ((w1.setCell ⟨g, 6, none⟩ (.slice none 0 0)).setCell ⟨g, 8, none⟩ (.bool false)) g := Kp.trans ⟨HK2.out.os, HK2.out.tape, HK2.out.output, HK2.out.size, HK2.out.block⟩ K1
              exact .inr (.inr ⟨by go_num, ⟨v0, u0, v2, .slice none 0 0, blk_set (blk_set HB2.out 6 _) 8 _, vb_kp HT.out.a0 K HG.out, vb_kp HT.out.a1 K HG.out, HN0.out ▸ vb_kp HV2.out K1 HG.out, Kd.V_nil _ _ _ _ _⟩, HKr.out.trans K⟩)
            case measure => simp [intOf]
          · by_cases hm : k.toNat < l1.length
            · have hk1 : 0 ≤ k := by omega
              have hk0 : keeps k l1.length = k.toNat := by unfold keeps; rw [if_neg hk, if_pos hm]
              have hk2 : (if (l1.length : Int) < k then (l1.length : Int) else k) = k := if_neg (by omega)
              have hmx : (if k < 0 then (0 : Int) else k) = k := if_neg hk
              have hk3 : k ≤ (l1.length : Int) := by omega
              have hk4 : k ≤ (d3 : Int) := by have := hld.out; omega
              have hnb : nb1 = b1 ++ l1.take k.toNat := by rw [HNB1.out]; show b1 ++ l1.take (keeps k l1.length) = _; rw [hk0]
              have HN0 := Aside0.mk hnb
              have HC : Aside0 _ := ⟨apply_calls g 5 _ 52 _ b1 (l1.take (k.toNat)) A3 k.toNat d3 false ok ok wr.drew (show wr.drew.heap[g]? = _ from HT.out.blk) rfl HT.out.a2 (ftake (Kd.V_F (e := 5) (base := 0) HT.out.a3) (by omega)) HG.out HG.out (fun k hk => HN.out k (Nat.le_trans HKr.out.size hk)) (by have := HL1.out; omega)⟩
              clear hnb
              clear hk0 hk
              go_wp2
              go_still_tail 14, (by kernel_rfl)
              change wpList _ _ _ _ _ wr.drew
              go_wp2_with fail
              refine HC.out.mono ?_; rintro e w1 ⟨rfl, v2, hb2, hv2, hk2⟩; have HB2 := Aside0.mk hb2; have HV2 := Aside0.mk hv2; have HK2 := Aside0.mk hk2; have hc1 : w1.cell? ⟨g, 6, none⟩ = some (.slice A3 l1.length d3) := (blk_cell hb2 6).trans rfl; have hc3 : w1.cell? ⟨g, 8, none⟩ = some (.bool true) := (blk_cell hb2 8).trans rfl; have hf1 : ∀ j, w1.frozen? ⟨g, j, none⟩ = false := (fun j => blk_frozen hb2 j); clear hb2 hv2 hk2
              go_wp2
              go_roundw
              case rel =>
                have K1 : Kp w1 ((w1.setCell ⟨g, 6, none⟩ (.slice none 0 0)).setCell ⟨g, 8, none⟩ (.bool false)) g := ((Kp.refl w1 g).set 6 _).set 8 _
                have K : Kp wr ((w1.setCell ⟨g, 6, none⟩ (.slice none 0 0)).setCell ⟨g, 8, none⟩ (.bool false)) g := Kp.trans ⟨HK2.out.os, HK2.out.tape, HK2.out.output, HK2.out.size, HK2.out.block⟩ K1
                exact .inr (.inr ⟨by go_num, ⟨v0, u0, v2, .slice none 0 0, blk_set (blk_set HB2.out 6 _) 8 _, vb_kp HT.out.a0 K HG.out, vb_kp HT.out.a1 K HG.out, HN0.out ▸ vb_kp HV2.out K1 HG.out, Kd.V_nil _ _ _ _ _⟩, HKr.out.trans K⟩)
              case measure => simp [intOf]
            · have hk1 : 0 ≤ k := by omega
              have hk0 : keeps k l1.length = l1.length := by unfold keeps; rw [if_neg hk, if_neg hm]
              have hk2 : (l1.length : Int) ≤ k := by omega
              have hmx : (if k < 0 then (0 : Int) else k) = k := if_neg hk
              have hmin : (if (l1.length : Int) < k then (l1.length : Int) else k) = (l1.length : Int) := by split <;> omega
              have hk4 : (l1.length : Int) ≤ (d3 : Int) := by have := hld.out; omega
              clear hk2
              have hnb : nb1 = b1 ++ l1.take l1.length := by rw [HNB1.out]; show b1 ++ l1.take (keeps k l1.length) = _; rw [hk0]
              have HN0 := Aside0.mk hnb
              have HC : Aside0 _ := ⟨apply_calls g 5 _ 52 _ b1 (l1.take (l1.length)) A3 l1.length d3 false ok ok wr.drew (show wr.drew.heap[g]? = _ from HT.out.blk) rfl HT.out.a2 (ftake (Kd.V_F (e := 5) (base := 0) HT.out.a3) (by omega)) HG.out HG.out (fun k hk => HN.out k (Nat.le_trans HKr.out.size hk)) (by have := HL1.out; omega)⟩
              clear hnb
              clear hk0 hk hm
              go_wp2
              go_still_tail 14, (by kernel_rfl)
              change wpList _ _ _ _ _ wr.drew
              go_wp2_with fail
              refine HC.out.mono ?_; rintro e w1 ⟨rfl, v2, hb2, hv2, hk2⟩; have HB2 := Aside0.mk hb2; have HV2 := Aside0.mk hv2; have HK2 := Aside0.mk hk2; have hc1 : w1.cell? ⟨g, 6, none⟩ = some (.slice A3 l1.length d3) := (blk_cell hb2 6).trans rfl; have hc3 : w1.cell? ⟨g, 8, none⟩ = some (.bool true) := (blk_cell hb2 8).trans rfl; have hf1 : ∀ j, w1.frozen? ⟨g, j, none⟩ = false := (fun j => blk_frozen hb2 j); clear hb2 hv2 hk2
              go_wp2
              go_roundw
              case rel =>
                have K1 : Kp w1 ((w1.setCell ⟨g, 6, none⟩ (.slice none 0 0)).setCell ⟨g, 8, none⟩ (.bool false)) g := ((Kp.refl w1 g).set 6 _).set 8 _
                have K : Kp wr ((w1.setCell ⟨g, 6, none⟩ (.slice none 0 0)).setCell ⟨g, 8, none⟩ (.bool false)) g := Kp.trans ⟨HK2.out.os, HK2.out.tape, HK2.out.output, HK2.out.size, HK2.out.block⟩ K1
                exact .inr (.inr ⟨by go_num, ⟨v0, u0, v2, .slice none 0 0, blk_set (blk_set HB2.out 6 _) 8 _, vb_kp HT.out.a0 K HG.out, vb_kp HT.out.a1 K HG.out, HN0.out ▸ vb_kp HV2.out K1 HG.out, Kd.V_nil _ _ _ _ _⟩, HKr.out.trans K⟩)
              case measure => simp [intOf]
        · by_cases hk : k % 2 = 1
          · have hkb : (Go.bits .and .i64 k 1 == 1) = true := by rw [and1, hk]; rfl
            have hkc : Go.bits .and .i64 k 1 = 1 := by rw [and1, hk]
            have hnb : nb1 = l1 := by rw [HNB1.out]; show (if k % 2 = 1 then l1 else b1) = _; rw [if_pos hk]
            have HN0 := Aside0.mk hnb
            have HC : Aside0 _ := ⟨apply_calls g 5 _ 52 _ b1 l1 A3 l1.length d3 true ok ok wr (show wr.heap[g]? = _ from HT.out.blk) rfl HT.out.a2 (Kd.V_F (e := 5) (base := 0) HT.out.a3) HG.out HG.out (fun k hk => HN.out k (Nat.le_trans HKr.out.size hk)) (by have := HL1.out; omega)⟩
            clear hnb
            clear hk
            go_wp2_with fail
            refine HC.out.mono ?_; rintro e w1 ⟨rfl, v2, hb2, hv2, hk2⟩; have HB2 := Aside0.mk hb2; have HV2 := Aside0.mk hv2; have HK2 := Aside0.mk hk2; have hc1 : w1.cell? ⟨g, 6, none⟩ = some (.slice A3 l1.length d3) := (blk_cell hb2 6).trans rfl; have hc3 : w1.cell? ⟨g, 8, none⟩ = some (.bool true) := (blk_cell hb2 8).trans rfl; have hf1 : ∀ j, w1.frozen? ⟨g, j, none⟩ = false := (fun j => blk_frozen hb2 j); clear hb2 hv2 hk2
            go_wp2
            go_roundw
            case rel =>
              have K1 : Kp w1 ((w1.setCell ⟨g, 6, none⟩ (.slice none 0 0)).setCell ⟨g, 8, none⟩ (.bool false)) g := ((Kp.refl w1 g).set 6 _).set 8 _
              have K : Kp wr ((w1.setCell ⟨g, 6, none⟩ (.slice none 0 0)).setCell ⟨g, 8, none⟩ (.bool false)) g := Kp.trans ⟨HK2.out.os, HK2.out.tape, HK2.out.output, HK2.out.size, HK2.out.block⟩ K1
              exact .inr (.inr ⟨by go_num, ⟨v0, u0, v2, .slice none 0 0, blk_set (blk_set HB2.out 6 _) 8 _, vb_kp HT.out.a0 K HG.out, vb_kp HT.out.a1 K HG.out, HN0.out ▸ vb_kp HV2.out K1 HG.out, Kd.V_nil _ _ _ _ _⟩, HKr.out.trans K⟩)
            case measure => simp [intOf]
          · have hkb : (Go.bits .and .i64 k 1 == 1) = false := by rw [and1]; simpa using hk
            have hkc : ¬ Go.bits .and .i64 k 1 = 1 := by rw [and1]; exact hk
            have hnb : nb1 = b1 := by rw [HNB1.out]; show (if k % 2 = 1 then l1 else b1) = _; rw [if_neg hk]
            clear hk
            have HN0 := Aside0.mk hnb
            clear hnb
            go_wp2
            go_roundw
            case rel =>
              have K : Kp wr ((wr.setCell ⟨g, 6, none⟩ (.slice none 0 0)).setCell ⟨g, 8, none⟩ (.bool false)) g := ((Kp.refl wr g).set 6 _).set 8 _
              rw [HN0.out]
              exact .inr (.inr ⟨by go_num, ⟨v0, u0, .slice A2 b1.length d2, .slice none 0 0, blk_set (blk_set HT.out.blk 6 _) 8 _, vb_kp HT.out.a0 K HG.out, vb_kp HT.out.a1 K HG.out, vb_kp HT.out.a2 K HG.out, Kd.V_nil _ _ _ _ _⟩, HKr.out.trans K⟩)
            case measure => simp [intOf]
    · obtain ⟨v0, u0, v1, u1, hTv⟩ := hTr
      obtain ⟨c0, c1, c2, c3, c4, c5, c6, c7, c8, c9, c10, c11, hfz⟩ := tc_cell hTv.blk
      simp only at c0 c1 c2 c3 c4 c5 c6 c7 c8 c9 c10 c11
      have HT := Aside0.mk hTv
      have HKr := Aside0.mk hKr
      clear hTv hKr
      go_wp2
      go_end0
      have K : Kp wr ((wr.setCell ⟨g, 10, none⟩ (.int .i64 (-1))).setCell ⟨g, 11, none⟩ (.bool false)) g := ((Kp.refl wr g).set 10 _).set 11 _
      exact ⟨rfl, ⟨v0, u0, v1, u1, tv_kp HT.out K HG.out (blk_set (blk_set HT.out.blk 10 _) 11 _) rfl rfl rfl rfl⟩, HKr.out.trans K⟩
end Go.Proofs.Ytfjjfoijjlpcjaa.Tp
