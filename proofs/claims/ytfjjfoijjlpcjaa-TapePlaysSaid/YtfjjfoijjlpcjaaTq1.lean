/- Tapes: the contracts of one, write, Append, Replace, Read, at, Spoil, Lose, Fuse, Crash, New. -/
import Derived.Test.YtfjjfoijjlpcjaaProg
import Derived.Below
import Derived.Deep.Draws
import Derived.Deep.AppendLies
import Derived.Maps.AppendAt
import Derived.OwnWalk
import Derived.Laws.BytesArg
import Derived.Laws.MakeOwn
import Derived.Laws.OwnMore
import Derived.Deep.OwnRows
import Derived.Tactics
import Derived.Lib.ConvBytes
import Derived.Laws.Slices
import Derived.WalkKit
import Derived.KernelRfl
import Derived.RowKit3
import Derived.Deep.LoopGhost
import Derived.Deep.QuietTactic
import Derived.BigQuiet
import Derived.WideLaws
import Derived.Deep.DeepCutAuto
import Derived.Deep.CutBlock
import Derived.Deep.RegionHeld3
import Derived.Laws.Rows
import Derived.Lib.AppendStr
import Derived.ArgAppend
import Derived.Laws.IdiomCopy
import Derived.OrdersHeld
import Derived.Laws.BitsLemmas
import Derived.RowKit
import Derived.Test.YtfjjfoijjlpcjaaWWords
import Derived.Test.YtfjjfoijjlpcjaaWLast
import Derived.Test.YtfjjfoijjlpcjaaWTab
import Derived.Test.YtfjjfoijjlpcjaaWFour
import Derived.Test.YtfjjfoijjlpcjaaWQPut
import Derived.Test.YtfjjfoijjlpcjaaWApart
import Derived.Test.YtfjjfoijjlpcjaaWArr
import Derived.Test.YtfjjfoijjlpcjaaWZeros
import Derived.Test.YtfjjfoijjlpcjaaWFoot
import Derived.Test.YtfjjfoijjlpcjaaWKept
import Derived.Test.YtfjjfoijjlpcjaaWShare
import Derived.Test.YtfjjfoijjlpcjaaWN
import Derived.Test.YtfjjfoijjlpcjaaWFootNe
import Derived.Test.YtfjjfoijjlpcjaaWAt
import Derived.Test.YtfjjfoijjlpcjaaWEqStruct
import Derived.Test.YtfjjfoijjlpcjaaWRepsOne
import Derived.Test.YtfjjfoijjlpcjaaWInv
import Derived.Test.YtfjjfoijjlpcjaaWInvWords
import Derived.Test.YtfjjfoijjlpcjaaWGuard
import Derived.Test.YtfjjfoijjlpcjaaWNEv
import Derived.Test.YtfjjfoijjlpcjaaWMore
import Derived.Test.YtfjjfoijjlpcjaaTq0
namespace Go.Proofs.Ytfjjfoijjlpcjaa.Tp
open Go.RowKit Go.Proofs.YtfjjfoijjlpcjaaW.PrintWords Go.Proofs.YtfjjfoijjlpcjaaW.PrintLast Go.Proofs.YtfjjfoijjlpcjaaW.PrintMore
attribute [local go_sem] max2_int min2_int max_two min_two max_three min_three max_four min_four
set_option linter.unusedVariables false
set_option linter.unusedSimpArgs false
theorem w64 (n : Int) (h : -9223372036854775808 ≤ n) (h' : n < 9223372036854775808) : wrap64 n = n := by unfold wrap64; omega
/-- A side, and both. -/
structure Sd where
  b : List Int
  l : List Int
  sw : Bool
  wet : Bool
  lost : Bool
structure Ta where
  s0 : Sd
  s1 : Sd
  fuse : Int
  down : Bool
def Sd.apply (s : Sd) (b : List Int) (sw : Bool) : Sd := { s with b := if sw then b else s.b ++ b }
def Sd.loose (s : Sd) (b : List Int) (sw : Bool) : Sd := { s with l := b, sw := sw, wet := true }
def Ta.burn (t : Ta) : Ta := { t with fuse := if 0 < t.fuse then t.fuse - 1 else t.fuse }
def Ta.one0 (t : Ta) (b : List Int) (sw : Bool) : Ta × Bool := if t.fuse = 0 then ({ t with down := true, s0 := t.s0.loose b sw }, false) else ({ t.burn with s0 := t.s0.apply b sw }, true)
def Ta.one1 (t : Ta) (b : List Int) (sw : Bool) : Ta × Bool := if t.fuse = 0 then ({ t with down := true, s1 := t.s1.loose b sw }, false) else ({ t.burn with s1 := t.s1.apply b sw }, true)
/-- The cells of a Tape. -/
def Tc (v0 u0 v1 u1 : Value) (t : Ta) : Array Value := #[v0, u0, .bool t.s0.sw, .bool t.s0.wet, .bool t.s0.lost, v1, u1, .bool t.s1.sw, .bool t.s1.wet, .bool t.s1.lost, .int .i64 t.fuse, .bool t.down]
/-- A Tape at block g. -/
structure Tv (W : World) (ok : Nat → Prop) (g : Nat) (v0 u0 v1 u1 : Value) (t : Ta) : Prop where
  blk : W.heap[g]? = some (.cells (Tc v0 u0 v1 u1 t) 52 (0, 0))
  a0 : Vb W ok v0 t.s0.b
  a1 : Vb W ok u0 t.s0.l
  a2 : Vb W ok v1 t.s1.b
  a3 : Vb W ok u1 t.s1.l
def Tp (W : World) (ok : Nat → Prop) (g : Nat) (t : Ta) : Prop := ∃ v0 u0 v1 u1, Tv W ok g v0 u0 v1 u1 t
theorem tc_cell {W : World} {g : Nat} {v0 u0 v1 u1 : Value} {t : Ta} (h : W.heap[g]? = some (.cells (Tc v0 u0 v1 u1 t) 52 (0, 0))) :
    W.cell? ⟨g, 0, none⟩ = some v0 ∧ W.cell? ⟨g, 1, none⟩ = some u0 ∧ W.cell? ⟨g, 2, none⟩ = some (.bool t.s0.sw) ∧ W.cell? ⟨g, 3, none⟩ = some (.bool t.s0.wet) ∧ W.cell? ⟨g, 4, none⟩ = some (.bool t.s0.lost) ∧
    W.cell? ⟨g, 5, none⟩ = some v1 ∧ W.cell? ⟨g, 6, none⟩ = some u1 ∧ W.cell? ⟨g, 7, none⟩ = some (.bool t.s1.sw) ∧ W.cell? ⟨g, 8, none⟩ = some (.bool t.s1.wet) ∧ W.cell? ⟨g, 9, none⟩ = some (.bool t.s1.lost) ∧
    W.cell? ⟨g, 10, none⟩ = some (.int .i64 t.fuse) ∧ W.cell? ⟨g, 11, none⟩ = some (.bool t.down) ∧ ∀ j, W.frozen? ⟨g, j, none⟩ = false :=
  ⟨(blk_cell h 0).trans rfl, (blk_cell h 1).trans rfl, (blk_cell h 2).trans rfl, (blk_cell h 3).trans rfl, (blk_cell h 4).trans rfl, (blk_cell h 5).trans rfl, (blk_cell h 6).trans rfl, (blk_cell h 7).trans rfl, (blk_cell h 8).trans rfl, (blk_cell h 9).trans rfl, (blk_cell h 10).trans rfl, (blk_cell h 11).trans rfl, fun j => blk_frozen h j⟩
/-- A world in which block g alone is another one. -/
theorem tv_kp {W W' : World} {ok : Nat → Prop} {g : Nat} {v0 u0 v1 u1 : Value} {t t' : Ta} (h : Tv W ok g v0 u0 v1 u1 t) (k : Kp W W' g) (hg : ∀ k, ok k → k ≠ g) (hb : W'.heap[g]? = some (.cells (Tc v0 u0 v1 u1 t') 52 (0, 0)))
    (e0 : t'.s0.b = t.s0.b) (e1 : t'.s0.l = t.s0.l) (e2 : t'.s1.b = t.s1.b) (e3 : t'.s1.l = t.s1.l) : Tv W' ok g v0 u0 v1 u1 t' :=
  ⟨hb, e0 ▸ vb_kp h.a0 k hg, e1 ▸ vb_kp h.a1 k hg, e2 ▸ vb_kp h.a2 k hg, e3 ▸ vb_kp h.a3 k hg⟩
theorem tp_step {W W' : World} {ok : Nat → Prop} {g : Nat} {t : Ta} (h : Tp W ok g t) (hm : ∀ k, ok k → k < W.heap.size → W'.heap[k]? = W.heap[k]?) (hg : W'.heap[g]? = W.heap[g]?) : Tp W' ok g t := by
  obtain ⟨v0, u0, v1, u1, h⟩ := h
  exact ⟨v0, u0, v1, u1, hg.trans h.blk, Kd.V_step h.a0 hm, Kd.V_step h.a1 hm, Kd.V_step h.a2 hm, Kd.V_step h.a3 hm⟩
theorem tp_lt {W : World} {ok : Nat → Prop} {g : Nat} {t : Ta} (h : Tp W ok g t) : g < W.heap.size := by
  obtain ⟨v0, u0, v1, u1, h⟩ := h
  exact blk_lt h.blk
theorem tp_below {W W' : World} {ok : Nat → Prop} {g : Nat} {t : Ta} (h : Tp W ok g t) (hb : Below W.heap.size W W') : Tp W' ok g t := tp_step h (fun k _ hk => hb.block k hk) (hb.block g (tp_lt h))
theorem tp_drewN {W : World} {ok : Nat → Prop} {g : Nat} {t : Ta} (h : Tp W ok g t) (n : Nat) : Tp (W.drewN n) ok g t := tp_step h (fun _ _ _ => rfl) rfl
theorem tp_mono {W : World} {ok ok' : Nat → Prop} {g : Nat} {t : Ta} (h : Tp W ok g t) (hok : ∀ k, ok k → k < W.heap.size → ok' k) : Tp W ok' g t := by
  obtain ⟨v0, u0, v1, u1, h⟩ := h
  exact ⟨v0, u0, v1, u1, h.blk, Kd.V_mono (Kd.V_bound h.a0) (fun k hk => hok k hk.1 hk.2), Kd.V_mono (Kd.V_bound h.a1) (fun k hk => hok k hk.1 hk.2), Kd.V_mono (Kd.V_bound h.a2) (fun k hk => hok k hk.1 hk.2), Kd.V_mono (Kd.V_bound h.a3) (fun k hk => hok k hk.1 hk.2)⟩
set_option maxHeartbeats 8000000 in
set_option maxRecDepth 100000 in
theorem one0_calls (g : Nat) (t : Ta) (lb : List Int) (A : Option Addr) (n c : Nat) (sw : Bool) (ok okb : Nat → Prop) (w : World)
    (hT : Tp w ok g t) (hF : Kd.F U8 w okb A n lb) (hg : ∀ k, ok k → k ≠ g) (hgb : ∀ k, okb k → k ≠ g) (hnew : ∀ k, w.heap.size ≤ k → ok k) (hL : t.s0.b.length + n < 1099511627776) (hf0 : -1 ≤ t.fuse) (hf1 : t.fuse < 9223372036854775808) :
    Calls Try.prog 24 #[.pointer (some ⟨g, 0, none⟩), .pointer (some ⟨g, 0, none⟩), .slice A n c, .bool sw] w fun e w' => e = .returned (.bool (t.one0 lb sw).2) ∧ Tp w' ok g (t.one0 lb sw).1 ∧ Kp w w' g := by
  obtain ⟨v0, u0, v1, u1, hT⟩ := hT
  have HT := Aside0.mk hT
  have HF := Aside0.mk hF
  have HG := Aside0.mk hg
  have HGB := Aside0.mk hgb
  clear hgb
  have HN := Aside0.mk hnew
  have HL := Aside0.mk hL
  obtain ⟨c0, c1, c2, c3, c4, c5, c6, c7, c8, c9, c10, c11, hfz⟩ := tc_cell hT.blk
  obtain ⟨⟨b0, l0, sw0, we0, lo0⟩, ⟨b1, l1, sw1, we1, lo1⟩, fu, dn⟩ := t
  simp only at c0 c1 c2 c3 c4 c5 c6 c7 c8 c9 c10 c11 HL hf0 hf1
  clear hT hF hg hnew hL
  by_cases hz : fu = 0
  · subst hz
    have hs : Ta.one0 ⟨⟨b0, l0, sw0, we0, lo0⟩, ⟨b1, l1, sw1, we1, lo1⟩, 0, dn⟩ lb sw = (⟨⟨b0, lb, sw, true, lo0⟩, ⟨b1, l1, sw1, we1, lo1⟩, 0, true⟩, false) := rfl
    rw [hs]
    clear hs
    go_enter Try.func24, Try.ntmps24
    go_wp2_with fail
    refine (clone_calls _ _ _ lb _ (Kd.F_now HF.out) (by have := HL.out; omega)).mono ?_
    rintro e w1 ⟨v2, rfl, ho, hb1⟩
    obtain ⟨A2, d2, e2⟩ := Kd.R_slice ho
    subst e2
    have HO := Aside0.mk ho
    have HB1 := Aside0.mk hb1
    have hblk1 := blk_below HT.out.blk hb1
    have HK1 := Aside0.mk hblk1
    clear c0 c1 c2 c3 c4 c5 c6 c7 c8 c9 c10 c11 hfz
    obtain ⟨c0, c1, c2, c3, c4, c5, c6, c7, c8, c9, c10, c11, hfz⟩ := tc_cell hblk1
    simp only at c0 c1 c2 c3 c4 c5 c6 c7 c8 c9 c10 c11
    clear ho hb1 hblk1
    go_wp2
    go_ret
    have K : Kp w ((((w1.setCell ⟨g, 11, none⟩ (.bool true)).setCell ⟨g, 1, none⟩ (.slice A2 lb.length d2)).setCell ⟨g, 2, none⟩ (.bool sw)).setCell ⟨g, 3, none⟩ (.bool true)) g := ((((Kp.of_below HB1.out g).set 11 _).set 1 _).set 2 _).set 3 _
    have K1 : Kp w1 ((((w1.setCell ⟨g, 11, none⟩ (.bool true)).setCell ⟨g, 1, none⟩ (.slice A2 lb.length d2)).setCell ⟨g, 2, none⟩ (.bool sw)).setCell ⟨g, 3, none⟩ (.bool true)) g := ((((Kp.refl w1 g).set 11 _).set 1 _).set 2 _).set 3 _
    exact ⟨rfl, ⟨v0, .slice A2 lb.length d2, v1, u1, blk_set (blk_set (blk_set (blk_set HK1.out 11 _) 1 _) 2 _) 3 _, vb_kp HT.out.a0 K HG.out, vb_kp (vb_new HO.out HN.out) K1 HG.out, vb_kp HT.out.a2 K HG.out, vb_kp HT.out.a3 K HG.out⟩, K⟩
  · have hz1 : (fu == 0) = false := by simpa using hz
    have HZ := Aside0.mk hz
    by_cases hp : 0 < fu
    · have hp1 : decide (0 < fu) = true := decide_eq_true hp
      have hw : wrap64 (fu - 1) = fu - 1 := w64 _ (by omega) (by omega)
      have hs : Ta.one0 ⟨⟨b0, l0, sw0, we0, lo0⟩, ⟨b1, l1, sw1, we1, lo1⟩, fu, dn⟩ lb sw = (⟨⟨if sw then lb else b0 ++ lb, l0, sw0, we0, lo0⟩, ⟨b1, l1, sw1, we1, lo1⟩, fu - 1, dn⟩, true) := by simp [Ta.one0, Ta.burn, Sd.apply, hz, hp]
      rw [hs]
      obtain ⟨nb, hnb⟩ : ∃ nb, nb = (if sw then lb else b0 ++ lb) := ⟨_, rfl⟩
      rw [← hnb]
      have HP := Aside0.mk hp
      have K0 : Kp w (w.setCell ⟨g, 10, none⟩ (.int .i64 (fu - 1))) g := (Kp.refl w g).set 10 _
      have HK0 := Aside0.mk K0
      have hblk2 : (w.setCell ⟨g, 10, none⟩ (.int .i64 (fu - 1))).heap[g]? = some (.cells (Tc v0 u0 v1 u1 ⟨⟨b0, l0, sw0, we0, lo0⟩, ⟨b1, l1, sw1, we1, lo1⟩, fu - 1, dn⟩) 52 (0, 0)) := blk_set HT.out.blk 10 _
      have HA : Aside0 _ := ⟨apply_calls g 0 _ 52 v0 b0 lb A n c sw ok okb _ hblk2 rfl (vb_kp HT.out.a0 K0 HG.out) (f_kp HF.out K0 HGB.out) HG.out HGB.out (fun k hk => HN.out k (Nat.le_trans K0.size hk)) HL.out⟩
      have HTv : Aside0 (Tv _ ok g v0 u0 v1 u1 ⟨⟨b0, l0, sw0, we0, lo0⟩, ⟨b1, l1, sw1, we1, lo1⟩, fu - 1, dn⟩) := ⟨tv_kp HT.out K0 HG.out hblk2 rfl rfl rfl rfl⟩
      rw [← hnb] at HA
      clear hs hz hp K0 hblk2 hnb
      go_enter Try.func24, Try.ntmps24
      go_wp2_with fail
      refine HA.out.mono ?_
      rintro e w1 ⟨rfl, v2, hb2, hv2, hk2⟩
      have HB2 := Aside0.mk hb2
      have HV2 := Aside0.mk hv2
      have HK2 := Aside0.mk hk2
      clear hb2 hv2 hk2
      go_wp2
      go_ret
      exact ⟨rfl, ⟨v2, u0, v1, u1, HB2.out, HV2.out, vb_kp HTv.out.a1 HK2.out HG.out, vb_kp HTv.out.a2 HK2.out HG.out, vb_kp HTv.out.a3 HK2.out HG.out⟩, HK0.out.trans HK2.out⟩
    · have hp1 : decide (0 < fu) = false := decide_eq_false hp
      have hs : Ta.one0 ⟨⟨b0, l0, sw0, we0, lo0⟩, ⟨b1, l1, sw1, we1, lo1⟩, fu, dn⟩ lb sw = (⟨⟨if sw then lb else b0 ++ lb, l0, sw0, we0, lo0⟩, ⟨b1, l1, sw1, we1, lo1⟩, fu, dn⟩, true) := by simp [Ta.one0, Ta.burn, Sd.apply, hz, hp]
      rw [hs]
      obtain ⟨nb, hnb⟩ : ∃ nb, nb = (if sw then lb else b0 ++ lb) := ⟨_, rfl⟩
      rw [← hnb]
      have HP := Aside0.mk hp
      have HA : Aside0 _ := ⟨apply_calls g 0 _ 52 v0 b0 lb A n c sw ok okb _ HT.out.blk rfl HT.out.a0 HF.out HG.out HGB.out HN.out HL.out⟩
      rw [← hnb] at HA
      clear hs hz hp hnb
      go_enter Try.func24, Try.ntmps24
      go_wp2_with fail
      refine HA.out.mono ?_
      rintro e w1 ⟨rfl, v2, hb2, hv2, hk2⟩
      have HB2 := Aside0.mk hb2
      have HV2 := Aside0.mk hv2
      have HK2 := Aside0.mk hk2
      clear hb2 hv2 hk2
      go_wp2
      go_ret
      exact ⟨rfl, ⟨v2, u0, v1, u1, HB2.out, HV2.out, vb_kp HT.out.a1 HK2.out HG.out, vb_kp HT.out.a2 HK2.out HG.out, vb_kp HT.out.a3 HK2.out HG.out⟩, HK2.out⟩
set_option maxHeartbeats 8000000 in
set_option maxRecDepth 100000 in
theorem one1_calls (g : Nat) (t : Ta) (lb : List Int) (A : Option Addr) (n c : Nat) (sw : Bool) (ok okb : Nat → Prop) (w : World)
    (hT : Tp w ok g t) (hF : Kd.F U8 w okb A n lb) (hg : ∀ k, ok k → k ≠ g) (hgb : ∀ k, okb k → k ≠ g) (hnew : ∀ k, w.heap.size ≤ k → ok k) (hL : t.s1.b.length + n < 1099511627776) (hf0 : -1 ≤ t.fuse) (hf1 : t.fuse < 9223372036854775808) :
    Calls Try.prog 24 #[.pointer (some ⟨g, 0, none⟩), .pointer (some ⟨g, 5, none⟩), .slice A n c, .bool sw] w fun e w' => e = .returned (.bool (t.one1 lb sw).2) ∧ Tp w' ok g (t.one1 lb sw).1 ∧ Kp w w' g := by
  obtain ⟨v0, u0, v1, u1, hT⟩ := hT
  have HT := Aside0.mk hT
  have HF := Aside0.mk hF
  have HG := Aside0.mk hg
  have HGB := Aside0.mk hgb
  clear hgb
  have HN := Aside0.mk hnew
  have HL := Aside0.mk hL
  obtain ⟨c0, c1, c2, c3, c4, c5, c6, c7, c8, c9, c10, c11, hfz⟩ := tc_cell hT.blk
  obtain ⟨⟨b0, l0, sw0, we0, lo0⟩, ⟨b1, l1, sw1, we1, lo1⟩, fu, dn⟩ := t
  simp only at c0 c1 c2 c3 c4 c5 c6 c7 c8 c9 c10 c11 HL hf0 hf1
  clear hT hF hg hnew hL
  by_cases hz : fu = 0
  · subst hz
    have hs : Ta.one1 ⟨⟨b0, l0, sw0, we0, lo0⟩, ⟨b1, l1, sw1, we1, lo1⟩, 0, dn⟩ lb sw = (⟨⟨b0, l0, sw0, we0, lo0⟩, ⟨b1, lb, sw, true, lo1⟩, 0, true⟩, false) := rfl
    rw [hs]
    clear hs
    go_enter Try.func24, Try.ntmps24
    go_wp2_with fail
    refine (clone_calls _ _ _ lb _ (Kd.F_now HF.out) (by have := HL.out; omega)).mono ?_
    rintro e w1 ⟨v2, rfl, ho, hb1⟩
    obtain ⟨A2, d2, e2⟩ := Kd.R_slice ho
    subst e2
    have HO := Aside0.mk ho
    have HB1 := Aside0.mk hb1
    have hblk1 := blk_below HT.out.blk hb1
    have HK1 := Aside0.mk hblk1
    clear c0 c1 c2 c3 c4 c5 c6 c7 c8 c9 c10 c11 hfz
    obtain ⟨c0, c1, c2, c3, c4, c5, c6, c7, c8, c9, c10, c11, hfz⟩ := tc_cell hblk1
    simp only at c0 c1 c2 c3 c4 c5 c6 c7 c8 c9 c10 c11
    clear ho hb1 hblk1
    go_wp2
    go_ret
    have K : Kp w ((((w1.setCell ⟨g, 11, none⟩ (.bool true)).setCell ⟨g, 6, none⟩ (.slice A2 lb.length d2)).setCell ⟨g, 7, none⟩ (.bool sw)).setCell ⟨g, 8, none⟩ (.bool true)) g := ((((Kp.of_below HB1.out g).set 11 _).set 6 _).set 7 _).set 8 _
    have K1 : Kp w1 ((((w1.setCell ⟨g, 11, none⟩ (.bool true)).setCell ⟨g, 6, none⟩ (.slice A2 lb.length d2)).setCell ⟨g, 7, none⟩ (.bool sw)).setCell ⟨g, 8, none⟩ (.bool true)) g := ((((Kp.refl w1 g).set 11 _).set 6 _).set 7 _).set 8 _
    exact ⟨rfl, ⟨v0, u0, v1, .slice A2 lb.length d2, blk_set (blk_set (blk_set (blk_set HK1.out 11 _) 6 _) 7 _) 8 _, vb_kp HT.out.a0 K HG.out, vb_kp HT.out.a1 K HG.out, vb_kp HT.out.a2 K HG.out, vb_kp (vb_new HO.out HN.out) K1 HG.out⟩, K⟩
  · have hz1 : (fu == 0) = false := by simpa using hz
    have HZ := Aside0.mk hz
    by_cases hp : 0 < fu
    · have hp1 : decide (0 < fu) = true := decide_eq_true hp
      have hw : wrap64 (fu - 1) = fu - 1 := w64 _ (by omega) (by omega)
      have hs : Ta.one1 ⟨⟨b0, l0, sw0, we0, lo0⟩, ⟨b1, l1, sw1, we1, lo1⟩, fu, dn⟩ lb sw = (⟨⟨b0, l0, sw0, we0, lo0⟩, ⟨if sw then lb else b1 ++ lb, l1, sw1, we1, lo1⟩, fu - 1, dn⟩, true) := by simp [Ta.one1, Ta.burn, Sd.apply, hz, hp]
      rw [hs]
      obtain ⟨nb, hnb⟩ : ∃ nb, nb = (if sw then lb else b1 ++ lb) := ⟨_, rfl⟩
      rw [← hnb]
      have HP := Aside0.mk hp
      have K0 : Kp w (w.setCell ⟨g, 10, none⟩ (.int .i64 (fu - 1))) g := (Kp.refl w g).set 10 _
      have HK0 := Aside0.mk K0
      have hblk2 : (w.setCell ⟨g, 10, none⟩ (.int .i64 (fu - 1))).heap[g]? = some (.cells (Tc v0 u0 v1 u1 ⟨⟨b0, l0, sw0, we0, lo0⟩, ⟨b1, l1, sw1, we1, lo1⟩, fu - 1, dn⟩) 52 (0, 0)) := blk_set HT.out.blk 10 _
      have HA : Aside0 _ := ⟨apply_calls g 5 _ 52 v1 b1 lb A n c sw ok okb _ hblk2 rfl (vb_kp HT.out.a2 K0 HG.out) (f_kp HF.out K0 HGB.out) HG.out HGB.out (fun k hk => HN.out k (Nat.le_trans K0.size hk)) HL.out⟩
      have HTv : Aside0 (Tv _ ok g v0 u0 v1 u1 ⟨⟨b0, l0, sw0, we0, lo0⟩, ⟨b1, l1, sw1, we1, lo1⟩, fu - 1, dn⟩) := ⟨tv_kp HT.out K0 HG.out hblk2 rfl rfl rfl rfl⟩
      rw [← hnb] at HA
      clear hs hz hp K0 hblk2 hnb
      go_enter Try.func24, Try.ntmps24
      go_wp2_with fail
      refine HA.out.mono ?_
      rintro e w1 ⟨rfl, v2, hb2, hv2, hk2⟩
      have HB2 := Aside0.mk hb2
      have HV2 := Aside0.mk hv2
      have HK2 := Aside0.mk hk2
      clear hb2 hv2 hk2
      go_wp2
      go_ret
      exact ⟨rfl, ⟨v0, u0, v2, u1, HB2.out, vb_kp HTv.out.a0 HK2.out HG.out, vb_kp HTv.out.a1 HK2.out HG.out, HV2.out, vb_kp HTv.out.a3 HK2.out HG.out⟩, HK0.out.trans HK2.out⟩
    · have hp1 : decide (0 < fu) = false := decide_eq_false hp
      have hs : Ta.one1 ⟨⟨b0, l0, sw0, we0, lo0⟩, ⟨b1, l1, sw1, we1, lo1⟩, fu, dn⟩ lb sw = (⟨⟨b0, l0, sw0, we0, lo0⟩, ⟨if sw then lb else b1 ++ lb, l1, sw1, we1, lo1⟩, fu, dn⟩, true) := by simp [Ta.one1, Ta.burn, Sd.apply, hz, hp]
      rw [hs]
      obtain ⟨nb, hnb⟩ : ∃ nb, nb = (if sw then lb else b1 ++ lb) := ⟨_, rfl⟩
      rw [← hnb]
      have HP := Aside0.mk hp
      have HA : Aside0 _ := ⟨apply_calls g 5 _ 52 v1 b1 lb A n c sw ok okb _ HT.out.blk rfl HT.out.a2 HF.out HG.out HGB.out HN.out HL.out⟩
      rw [← hnb] at HA
      clear hs hz hp hnb
      go_enter Try.func24, Try.ntmps24
      go_wp2_with fail
      refine HA.out.mono ?_
      rintro e w1 ⟨rfl, v2, hb2, hv2, hk2⟩
      have HB2 := Aside0.mk hb2
      have HV2 := Aside0.mk hv2
      have HK2 := Aside0.mk hk2
      clear hb2 hv2 hk2
      go_wp2
      go_ret
      exact ⟨rfl, ⟨v0, u0, v2, u1, HB2.out, vb_kp HT.out.a0 HK2.out HG.out, vb_kp HT.out.a1 HK2.out HG.out, HV2.out, vb_kp HT.out.a3 HK2.out HG.out⟩, HK2.out⟩
end Go.Proofs.Ytfjjfoijjlpcjaa.Tp
