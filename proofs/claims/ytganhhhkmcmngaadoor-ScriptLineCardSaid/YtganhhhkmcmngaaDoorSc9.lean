/- Scripts: a line, read. -/
import Derived.Test.YtganhhhkmcmngaaDoorProg
import Derived.Below
import Derived.Deep.Draws
import Derived.Deep.AppendLies
import Derived.Maps.AppendAt
import Derived.OwnWalk
import Derived.Laws.BytesArg
import Derived.Laws.MakeOwn
import Derived.Laws.OwnMore
import Derived.Deep.OwnRows
import Derived.Tactics
import Derived.Lib.ConvBytes
import Derived.Laws.Slices
import Derived.WalkKit
import Derived.KernelRfl
import Derived.RowKit3
import Derived.Deep.LoopGhost
import Derived.Deep.QuietTactic
import Derived.BigQuiet
import Derived.WideLaws
import Derived.Deep.DeepCutAuto
import Derived.Deep.CutBlock
import Derived.Deep.RegionHeld3
import Derived.Laws.Rows
import Derived.Lib.AppendStr
import Derived.ArgAppend
import Derived.Laws.IdiomCopy
import Derived.OrdersHeld
import Derived.Laws.BitsLemmas
import Derived.RowKit
import Derived.Test.YtganhhhkmcmngaaDoorWWords
import Derived.Test.YtganhhhkmcmngaaDoorWLast
import Derived.Test.YtganhhhkmcmngaaDoorWTab
import Derived.Test.YtganhhhkmcmngaaDoorWFour
import Derived.Test.YtganhhhkmcmngaaDoorWQPut
import Derived.Test.YtganhhhkmcmngaaDoorWApart
import Derived.Test.YtganhhhkmcmngaaDoorWArr
import Derived.Test.YtganhhhkmcmngaaDoorWZeros
import Derived.Test.YtganhhhkmcmngaaDoorWFoot
import Derived.Test.YtganhhhkmcmngaaDoorWKept
import Derived.Test.YtganhhhkmcmngaaDoorWShare
import Derived.Test.YtganhhhkmcmngaaDoorWN
import Derived.Test.YtganhhhkmcmngaaDoorWFootNe
import Derived.Test.YtganhhhkmcmngaaDoorWAt
import Derived.Test.YtganhhhkmcmngaaDoorWEqStruct
import Derived.Test.YtganhhhkmcmngaaDoorWRepsOne
import Derived.Test.YtganhhhkmcmngaaDoorWInv
import Derived.Test.YtganhhhkmcmngaaDoorWInvWords
import Derived.Test.YtganhhhkmcmngaaDoorWGuard
import Derived.Test.YtganhhhkmcmngaaDoorWNEv
import Derived.Test.YtganhhhkmcmngaaDoorWMore
import Derived.Test.YtganhhhkmcmngaaDoorSc8
import Derived.Lib.ParseIntBCases
namespace Go.Proofs.YtganhhhkmcmngaaDoor.Sc
open Go.RowKit Go.Proofs.YtganhhhkmcmngaaDoorW.PrintWords Go.Proofs.YtganhhhkmcmngaaDoorW.PrintLast Go.Proofs.YtganhhhkmcmngaaDoorW.PrintMore
attribute [local go_sem] max2_int min2_int max_two min_two max_three min_three max_four min_four
set_option linter.unusedVariables false
set_option linter.unusedSimpArgs false
open Go.Shelf
def fillRow (w : World) (p : Nat) : Nat → List Value → World
  | _, [] => w
  | j, v :: vs => fillRow (w.setCell ⟨p, j, none⟩ v) p (j + 1) vs
theorem fill_row (t : TypeId) (p : Nat) : ∀ (vs : List Value) (w : World) (j : Nat) (cs : List Value), w.heap[p]? = some (.cells cs.toArray t (0, 0)) → cs.length = j + vs.length →
    (fillRow w p j vs).heap[p]? = some (.cells (cs.take j ++ vs).toArray t (0, 0)) ∧ (∀ k, k ≠ p → (fillRow w p j vs).heap[k]? = w.heap[k]?) ∧ Below p w (fillRow w p j vs)
  | [], w, j, cs, hb, hl => ⟨by rw [List.append_nil, List.take_of_length_le (by simp at hl; omega)]; exact hb, fun k _ => rfl, Below.refl _ _⟩
  | v :: vs, w, j, cs, hb, hl => by
    simp only [List.length_cons] at hl
    have hb2 := blk_set hb j v
    rw [show (cs.toArray.setIfInBounds j v) = (cs.set j v).toArray from by simp] at hb2
    obtain ⟨h1, h2, h3⟩ := fill_row t p vs (w.setCell ⟨p, j, none⟩ v) (j + 1) (cs.set j v) hb2 (by simp; omega)
    refine ⟨?_, fun k hk => (h2 k hk).trans (Below.heap_setCell _ _ _ _ hk), ((Below.refl _ _).setCell (p := ⟨p, j, none⟩) (Nat.le_refl _) _).trans h3⟩
    show (fillRow (w.setCell ⟨p, j, none⟩ v) p (j + 1) vs).heap[p]? = _
    rw [h1]
    congr 3
    rw [List.take_add_one]
    simp only [List.append_assoc]
    congr 1
    · apply List.ext_getElem?
      intro i
      simp only [List.getElem?_take, List.getElem?_set]
      by_cases hi : i < j
      · rw [if_pos hi, if_pos hi, if_neg (by omega)]
      · rw [if_neg hi, if_neg hi]
    · rw [List.getElem?_set_self (by omega)]; rfl
theorem fill_all (w : World) (p : Nat) (cs vs : List Value) (t : TypeId) (hb : w.heap[p]? = some (.cells cs.toArray t (0, 0))) (hl : cs.length = vs.length) :
    ∃ W, fillRow w p 0 vs = W ∧ W.heap[p]? = some (.cells vs.toArray t (0, 0)) ∧ (∀ k, k ≠ p → W.heap[k]? = w.heap[k]?) ∧ Below p w W := by
  obtain ⟨h1, h2, h3⟩ := fill_row t p vs w 0 cs hb (by omega)
  exact ⟨_, rfl, by simpa using h1, h2, h3⟩
theorem numV_split {q : IntKind} {r : Option Int} {v : Value} (h : NumV q r v) : ∃ n e, v = .tuple #[.int q n, e] ∧ ((r = some n ∧ e = .nilIface) ∨ (r = none ∧ ∃ t p, e = .iface t p)) := by
  rcases h with ⟨n, rfl, rfl⟩ | ⟨rfl, n, t, p, rfl⟩
  · exact ⟨n, _, rfl, .inl ⟨rfl, rfl⟩⟩
  · exact ⟨n, _, rfl, .inr ⟨rfl, t, p, rfl⟩⟩
theorem okN_some {r : Lib.NumEnd Int} {n : Int} (h : okN r = some n) : r = .ok n := by
  cases r with
  | ok m => simp [okN] at h; rw [h]
  | _ => simp [okN] at h
theorem u_bounds {l : List UInt8} {n : Int} (h : okU (Lib.parseUintB 64 l) = some n) : 0 ≤ n ∧ n < 18446744073709551616 := by
  cases hp : Lib.parseUintB 64 l with
  | ok m =>
    rw [hp] at h
    simp [okN, okU] at h
    have := Lib.parseUintB_le hp
    omega
  | _ => rw [hp] at h; simp [okN, okU] at h
theorem str_size (l : List Int) : (strOfNums l).size = l.length := by rw [← data_length, strOfNums_data, List.length_map]
def stepP (l : List UInt8) : Option S32 :=
  match Lib.split l [32] with
  | [p0, p1, p2, p3, p4] =>
    (okN (Lib.atoiAll p0)).bind fun k => (okN (Lib.atoiAll p1)).bind fun a => (okU (Lib.parseUintB 64 p2)).bind fun u => (hexP p3).bind fun key => (hexP p4).bind fun data =>
      if lineU ⟨k, a, strOfNums key, data, u⟩ = l then some ⟨k, a, strOfNums key, data, u⟩ else none
  | _ => none
theorem list5 {α : Type} (l : List α) (h : l.length = 5) : ∃ a b c d e, l = [a, b, c, d, e] := by
  match l, h with
  | [a, b, c, d, e], _ => exact ⟨a, b, c, d, e, rfl⟩
theorem hexPairs_byt : ∀ (n : Nat) (l : List UInt8) (v : List Int), l.length ≤ n → hexPairs l = some v → Byt v ∧ 2 * v.length = l.length
  | _, [], v, _, h => by simp [hexPairs] at h; subst h; exact ⟨fun _ h => by simp at h, rfl⟩
  | _, [_], _, _, h => by simp [hexPairs] at h
  | 0, _ :: _ :: _, _, h, _ => by simp at h
  | n + 1, x :: y :: l, v, hn, h => by
    rw [hexPairs] at h
    split at h
    · rename_i hxy
      simp at hxy
      cases hl : hexPairs l with
      | none => rw [hl] at h; simp at h
      | some r =>
        rw [hl] at h
        simp only [Option.map_some, Option.some.injEq] at h
        obtain ⟨h1, h2⟩ := hexPairs_byt n l r (by simp at hn; omega) hl
        subst h
        refine ⟨fun z hz => ?_, by simp only [List.length_cons]; omega⟩
        rcases List.mem_cons.mp hz with rfl | hz
        · have := hexv_lt (hexS_hex x hxy.1)
          have := hexv_lt (hexS_hex y hxy.2)
          omega
        · exact h1 z hz
    · simp at h
theorem hexP_byt {l : List UInt8} {v : List Int} (h : hexP l = some v) : Byt v ∧ v.length ≤ l.length := by
  cases l with
  | nil => simp [hexP] at h
  | cons c l =>
    simp only [hexP] at h
    split at h
    · have := hexPairs_byt _ l v (Nat.le_refl _) h
      exact ⟨this.1, by simp only [List.length_cons]; omega⟩
    · simp at h
theorem split_short (l : List UInt8) : ∀ (k : Nat) (s : List UInt8) (p : List UInt8), p ∈ Lib.splitK l 0 k s → p.length ≤ s.length
  | 0, s, p, h => by simp [Lib.splitK] at h; subst h; exact Nat.le_refl _
  | k + 1, s, p, h => by
    unfold Lib.splitK at h
    split at h
    · simp at h; subst h; exact Nat.le_refl _
    · rcases List.mem_cons.mp h with rfl | h
      · rw [List.length_take]; omega
      · have := split_short l k _ p h
        rw [List.length_drop] at this
        omega
theorem cells5 (w : World) (p0 p1 p2 p3 p4 : ByteArray) : ∃ ad : Addr, some (⟨w.heap.size, 0, none⟩ : Addr) = some ad ∧ ∃ W, w.alloc (.cells (([p0, p1, p2, p3, p4] : List ByteArray).map Value.string).toArray 9) = W ∧ Below w.heap.size w W ∧ W.cell? ad = some (.string p0) ∧ W.cell? (ad.add 0) = some (.string p0) ∧ W.cell? ⟨ad.block, ad.off + 1, none⟩ = some (.string p1) ∧ W.cell? ⟨ad.block, ad.off + 2, none⟩ = some (.string p2) ∧ W.cell? ⟨ad.block, ad.off + 3, none⟩ = some (.string p3) ∧ W.cell? ⟨ad.block, ad.off + 4, none⟩ = some (.string p4) := by
  refine ⟨_, rfl, _, rfl, (Below.refl _ _).alloc (Nat.le_refl _) _, ?_⟩
  have h := heap_alloc_new w (.cells (([p0, p1, p2, p3, p4] : List ByteArray).map Value.string).toArray 9)
  refine ⟨?_, ?_, ?_, ?_, ?_, ?_⟩ <;> (try rw [add_plain]) <;> simp only [World.cell?, h] <;> rfl
theorem texts_calls' (s : ByteArray) (hs : s.size ≤ 1000000) (w : World) :
    Calls Tryd.prog 25 #[.string s] w fun e w' => ∃ A c l ok, e = .returned (.tuple #[.slice A l.length c, .bool ok]) ∧ U8.R 5 w' w.heap.size (fun _ => True) (.slice A l.length c) l ∧ ((hexP s.data.toList = none ∧ ok = false) ∨ (hexP s.data.toList = some l ∧ ok = true)) ∧ Below w.heap.size w w' := by
  refine (texts_calls s hs w).mono ?_
  rintro e w' ⟨⟨v, ok, rfl, h⟩, hb⟩
  rcases h with ⟨h1, rfl, rfl⟩ | ⟨l, h1, rfl, hR⟩
  · exact ⟨none, 0, [], false, rfl, Kd.R_nil _ _ _ _ _, .inl ⟨h1, rfl⟩, hb⟩
  · obtain ⟨A, c, rfl⟩ := Kd.R_slice hR
    exact ⟨A, c, l, true, rfl, hR, .inr ⟨h1, rfl⟩, hb⟩
theorem R_past {w w1 : World} {base : Nat} {v : Value} {xs : List Int} (h : U8.R 5 w base (fun _ => True) v xs) {p : Nat} (hp : p < base) (hm : ∀ k, k ≠ p → w1.heap[k]? = w.heap[k]?) : U8.R 5 w1 base (fun _ => True) v xs :=
  Kd.R_mono (Kd.R_move (Kd.R_bound h) (fun k hk => hm k (by have := hk.2.1; omega))) (fun _ _ => trivial)
/-- How a line's reading ends. -/
def StepEnd (s : ByteArray) (w : World) (e : Ending) (w' : World) : Prop :=
  (∃ k a key A l c u ok, e = .returned (.tuple #[.agg #[.int .i64 k, .int .i64 a, .string key, .slice A (l : List Int).length c, .int .u64 u], .bool ok]) ∧ U8.R 5 w' w.heap.size (fun _ => True) (.slice A l.length c) l ∧ ((stepP s.data.toList = none ∧ ok = false) ∨ (stepP s.data.toList = some ⟨k, a, key, l, u⟩ ∧ ok = true))) ∧ Below w.heap.size w w'
theorem StepEnd.intro {s : ByteArray} {w w' : World} (k a : Int) (key : ByteArray) (A : Option Addr) (l : List Int) (c n : Nat) (u : Int) (ok : Bool) (hn : l.length = n) (hR : U8.R 5 w' w.heap.size (fun _ => True) (.slice A n c) l)
    (hs : (stepP s.data.toList = none ∧ ok = false) ∨ (stepP s.data.toList = some ⟨k, a, key, l, u⟩ ∧ ok = true)) (hb : Below w.heap.size w w') : StepEnd s w (.returned (.tuple #[.agg #[.int .i64 k, .int .i64 a, .string key, .slice A n c, .int .u64 u], .bool ok])) w' := by
  subst hn; exact ⟨⟨k, a, key, A, l, c, u, ok, rfl, hR, hs⟩, hb⟩
set_option maxHeartbeats 8000000 in
set_option maxRecDepth 100000 in
theorem step_calls (s : ByteArray) (hs : s.size ≤ 100000) (w : World) (hT : Tb w) :
    Calls Tryd.prog 17 #[.string s] w fun e w' => StepEnd s w e w' := by
  have HT := Aside0.mk hT
  obtain ⟨m, hm⟩ := hT.max
  clear hT
  have HB0 : Aside0 (Below w.heap.size w (w.alloc (.cells #[.int .i64 0, .int .i64 0, .string ⟨#[]⟩, .slice none 0 0, .int .u64 0] 32))) := ⟨(Below.refl _ _).alloc (Nat.le_refl _) _⟩
  have HK0 : Aside0 ((w.alloc (.cells #[.int .i64 0, .int .i64 0, .string ⟨#[]⟩, .slice none 0 0, .int .u64 0] 32)).heap[w.heap.size]? = some (.cells #[.int .i64 0, .int .i64 0, .string ⟨#[]⟩, .slice none 0 0, .int .u64 0] 32 (0, 0))) := ⟨heap_alloc_new _ _⟩
  obtain ⟨W0, hW0⟩ : ∃ W0, w.alloc (.cells #[.int .i64 0, .int .i64 0, .string ⟨#[]⟩, .slice none 0 0, .int .u64 0] 32) = W0 := ⟨_, rfl⟩
  rw [hW0] at HB0 HK0
  have HM0 : Aside0 (W0.cell? ⟨0, 0, none⟩ = some (.int .i64 m)) := ⟨pw_cell_below HB0.out hm⟩
  clear hm
  have HSZ : Aside0 (w.heap.size < W0.heap.size) := ⟨blk_lt HK0.out⟩
  obtain ⟨b2, hb2⟩ : ∃ b, w.heap.size = b := ⟨_, rfl⟩
  rw [hb2] at HK0 HSZ
  have HB2 := Aside0.mk hb2
  by_cases hc : Lib.countB s ⟨#[32]⟩ = 4
  · obtain ⟨p0, p1, p2, p3, p4, hpl⟩ := list5 _ (Lib.splitB_all ⟨#[32]⟩ (by decide) 0 4 s hc)
    have hsp : Lib.split s.data.toList [32] = [p0.data.toList, p1.data.toList, p2.data.toList, p3.data.toList, p4.data.toList] := by
      have h := Lib.splitB_data ⟨#[32]⟩ 0 4 s
      rw [hpl] at h
      have h2 : Lib.count s.data.toList [32] = 4 := hc
      rw [Lib.split, h2]
      exact h.symm
    have hsm : ∀ p, p ∈ [p0.data.toList, p1.data.toList, p2.data.toList, p3.data.toList, p4.data.toList] → p.length ≤ 100000 := fun p hp => by
      rw [← hsp] at hp
      have := split_short [32] _ _ p hp
      rw [data_length] at this
      omega
    have HSP : Aside0 (stepP s.data.toList = (okN (Lib.atoiAll p0.data.toList)).bind fun k => (okN (Lib.atoiAll p1.data.toList)).bind fun a => (okU (Lib.parseUintB 64 p2.data.toList)).bind fun u => (hexP p3.data.toList).bind fun key => (hexP p4.data.toList).bind fun data =>
      if lineU ⟨k, a, strOfNums key, data, u⟩ = s.data.toList then some ⟨k, a, strOfNums key, data, u⟩ else none) := ⟨by unfold stepP; rw [hsp]⟩
    have hz0 : p0.size ≤ 100000 := by rw [← data_length]; exact hsm _ (by simp)
    have hz1 : p1.size ≤ 100000 := by rw [← data_length]; exact hsm _ (by simp)
    have hz2 : p2.size ≤ 100000 := by rw [← data_length]; exact hsm _ (by simp)
    have hz3 : p3.size ≤ 100000 := by rw [← data_length]; exact hsm _ (by simp)
    have hz4 : p4.size ≤ 100000 := by rw [← data_length]; exact hsm _ (by simp)
    have HZ : Aside0 (p0.size ≤ 100000 ∧ p1.size ≤ 100000 ∧ p2.size ≤ 100000 ∧ p3.size ≤ 100000 ∧ p4.size ≤ 100000) := ⟨hz0, hz1, hz2, hz3, hz4⟩
    have HSS := Aside0.mk (Tryd.strings_Split s ⟨#[32]⟩ m W0 (by omega) HM0.out (by decide))
    rw [hc, hpl] at HSS
    obtain ⟨ad, had, W1, hW1, hb1, k00, k0, k1, k2, k3, k4⟩ := cells5 W0 p0 p1 p2 p3 p4
    rw [had, hW1] at HSS
    have HB1 : Aside0 (Below w.heap.size w W1) := ⟨HB0.out.trans (hb1.mono HB0.out.size)⟩
    have HK1 : Aside0 (W1.heap[b2]? = _) := ⟨(hb1.block _ HSZ.out).trans HK0.out⟩
    clear had hW1 hb1 hsp hsm hz0 hz1 hz2 hz3 hz4 hpl hc
    go_enter Tryd.func17, Tryd.ntmps17
    go_wp2_with fail
    refine HSS.out.mono ?_
    rintro e w1 ⟨rfl, hw1⟩
    rw [hw1]
    clear hw1
    go_wp2_with fail
    refine (atoi_calls p0 (Nat.le_trans HZ.out.1 (by decide)) W1 (HT.out.below HB1.out)).mono ?_
    rintro e w2 ⟨v, rfl, hnv, hb⟩
    obtain ⟨n0, e0, rfl, hn0⟩ := numV_split hnv
    have HN0 := Aside0.mk hn0
    have HB3 : Aside0 (Below w.heap.size w w2) := ⟨HB1.out.trans (hb.mono HB1.out.size)⟩
    have HK2 : Aside0 (w2.heap[b2]? = _) := ⟨(hb.block _ (blk_lt HK1.out)).trans HK1.out⟩
    replace k1 := pw_cell_below hb k1
    replace k2 := pw_cell_below hb k2
    replace k3 := pw_cell_below hb k3
    replace k4 := pw_cell_below hb k4
    clear hb hnv hn0 k0 k00
    go_wp2_with fail
    refine (atoi_calls p1 (Nat.le_trans HZ.out.2.1 (by decide)) w2 (HT.out.below HB3.out)).mono ?_
    rintro e w3 ⟨v, rfl, hnv, hb⟩
    obtain ⟨n1, e1, rfl, hn1⟩ := numV_split hnv
    have HN1 := Aside0.mk hn1
    have HB4 : Aside0 (Below w.heap.size w w3) := ⟨HB3.out.trans (hb.mono HB3.out.size)⟩
    have HK3 : Aside0 (w3.heap[b2]? = _) := ⟨(hb.block _ (blk_lt HK2.out)).trans HK2.out⟩
    replace k2 := pw_cell_below hb k2
    replace k3 := pw_cell_below hb k3
    replace k4 := pw_cell_below hb k4
    clear hb hnv hn1 k1
    go_wp2_with fail
    refine (puint_calls p2 (Nat.le_trans HZ.out.2.2.1 (by decide)) w3 (HT.out.below HB4.out)).mono ?_
    rintro e w4 ⟨v, rfl, hnv, hb⟩
    obtain ⟨n2, e2, rfl, hn2⟩ := numV_split hnv
    have HN2 := Aside0.mk hn2
    have HB5 : Aside0 (Below w.heap.size w w4) := ⟨HB4.out.trans (hb.mono HB4.out.size)⟩
    have HK4 : Aside0 (w4.heap[b2]? = _) := ⟨(hb.block _ (blk_lt HK3.out)).trans HK3.out⟩
    replace k3 := pw_cell_below hb k3
    replace k4 := pw_cell_below hb k4
    clear hb hnv hn2 k2
    go_wp2_with fail
    refine (texts_calls' p3 (Nat.le_trans HZ.out.2.2.2.1 (by decide)) w4).mono ?_
    rintro e w5 ⟨A3, c3, l3, d3, rfl, hR3, hh3, hb⟩
    have HD3 := Aside0.mk hh3
    have HB6 : Aside0 (Below w.heap.size w w5) := ⟨HB5.out.trans (hb.mono HB5.out.size)⟩
    have HK5 : Aside0 (w5.heap[b2]? = _) := ⟨(hb.block _ (blk_lt HK4.out)).trans HK4.out⟩
    have HR3 : Aside0 (U8.C w5 A3 l3.length l3) := ⟨Kd.F_now (Kd.R_F hR3)⟩
    replace k4 := pw_cell_below hb k4
    clear hb hh3 hR3 k3
    go_wp2_with fail
    refine (texts_calls' p4 (Nat.le_trans HZ.out.2.2.2.2 (by decide)) w5).mono ?_
    rintro e w6 ⟨A4, c4, l4, d4, rfl, hR4, hh4, hb⟩
    have HD4 := Aside0.mk hh4
    have HB7 : Aside0 (Below w.heap.size w w6) := ⟨HB6.out.trans (hb.mono HB6.out.size)⟩
    have HK6 : Aside0 (w6.heap[b2]? = _) := ⟨(hb.block _ (blk_lt HK5.out)).trans HK5.out⟩
    have HR4 : Aside0 (U8.R 5 w6 w5.heap.size (fun _ => True) (.slice A4 l4.length c4) l4) := ⟨hR4⟩
    have HL5 : Aside0 (b2 < w5.heap.size) := ⟨blk_lt HK5.out⟩
    have hcv := conv_C (c := c3) (Kd.C_below HR3.out hb)
    clear hb hh4 hR4 k4
    go_upto_region 10 with fail
    have HB8 : Aside0 (Below w.heap.size w (w6.alloc (.cells #[.int .i64 n0, .int .i64 n1, .string (strOfNums l3), .slice A4 l4.length c4, .int .u64 n2] 32))) := ⟨HB7.out.alloc HB7.out.size _⟩
    have hbx := heap_alloc_new w6 (.cells #[.int .i64 n0, .int .i64 n1, .string (strOfNums l3), .slice A4 l4.length c4, .int .u64 n2] 32)
    have hb67 : Below w6.heap.size w6 (w6.alloc (.cells #[.int .i64 n0, .int .i64 n1, .string (strOfNums l3), .slice A4 l4.length c4, .int .u64 n2] 32)) := (Below.refl _ _).alloc (Nat.le_refl _) _
    have hl6 := HB7.out.size
    clear hcv
    generalize w6.alloc (.cells #[.int .i64 n0, .int .i64 n1, .string (strOfNums l3), .slice A4 l4.length c4, .int .u64 n2] 32) = W7 at HB8 hbx hb67 ⊢
    have HK7 : Aside0 (W7.heap[b2]? = _) := ⟨(hb67.block _ (blk_lt HK6.out)).trans HK6.out⟩
    have HR7 : Aside0 (U8.R 5 W7 w5.heap.size (fun _ => True) (.slice A4 l4.length c4) l4) := ⟨Kd.R_below HR4.out hb67⟩
    have HNE : Aside0 (w6.heap.size ≠ b2) := ⟨by have := blk_lt HK6.out; omega⟩
    generalize hg : w6.heap.size = g at *
    have HLW : Aside0 (w.heap.size ≤ w5.heap.size) := ⟨HB6.out.size⟩
    obtain ⟨kx, hkx⟩ : ∃ kx, strOfNums l3 = kx := ⟨_, rfl⟩
    rw [hkx] at hbx ⊢
    have HKX := Aside0.mk hkx
    have HC5 : Aside0 (W7.cell? ⟨g, 0, none⟩ = some (.int .i64 n0) ∧ W7.cell? ⟨g, 1, none⟩ = some (.int .i64 n1) ∧ W7.cell? ⟨g, 2, none⟩ = some (.string kx) ∧ W7.cell? ⟨g, 3, none⟩ = some (.slice A4 l4.length c4) ∧ W7.cell? ⟨g, 4, none⟩ = some (.int .u64 n2)) := ⟨(blk_cell hbx 0).trans rfl, (blk_cell hbx 1).trans rfl, (blk_cell hbx 2).trans rfl, (blk_cell hbx 3).trans rfl, (blk_cell hbx 4).trans rfl⟩
    clear hkx hbx hb67 hl6 hg hb2 hW0
    obtain ⟨n4, hn4⟩ : ∃ n4, l4.length = n4 := ⟨_, rfl⟩
    rw [hn4] at HC5 HR7 HR4 ⊢
    have HN4 := Aside0.mk hn4
    clear hn4
    rcases HN0.out with ⟨hq0, rfl⟩ | ⟨hq0, t, p, rfl⟩
    · rcases HN1.out with ⟨hq1, rfl⟩ | ⟨hq1, t, p, rfl⟩
      · rcases HN2.out with ⟨hq2, rfl⟩ | ⟨hq2, t, p, rfl⟩
        · rcases HD3.out with ⟨hq3, rfl⟩ | ⟨hq3, rfl⟩
          · have HRS : Aside0 (stepP s.data.toList = none) := ⟨by rw [HSP.out, hq0, hq1, hq2, hq3]; rfl⟩
            refine start_ (n := 26) (S := fun w' => w'.cell? ⟨g, 0, none⟩ = some (.int .i64 n0) ∧ w'.cell? ⟨g, 1, none⟩ = some (.int .i64 n1) ∧ w'.cell? ⟨g, 2, none⟩ = some (.string kx) ∧ w'.cell? ⟨g, 3, none⟩ = some (.slice A4 n4 c4) ∧ w'.cell? ⟨g, 4, none⟩ = some (.int .u64 n2)) (ds := [24]) #[false, false, false, false, false, false, false, false, false, false, false, false, false, false, false, false, false, false, false, false, false, false, false, false, false, false] (by kernel_rfl) rfl rfl ⟨HC5.out.1, HC5.out.2.1, HC5.out.2.2.1, HC5.out.2.2.2.1, HC5.out.2.2.2.2⟩ (fun hHeld => ?_)
            obtain ⟨w20, hw20⟩ : ∃ w20, w20 = W7.drew := ⟨_, rfl⟩
            have HB20 : Aside0 (Below w.heap.size w w20) := ⟨by rw [hw20]; exact HB8.out.drew⟩
            have HQ20 : Aside0 (Below W7.heap.size W7 w20) := ⟨by rw [hw20]; exact (Below.refl _ _).drew⟩
            have HK20 : Aside0 (w20.heap[b2]? = some (.cells #[.int .i64 0, .int .i64 0, .string ⟨#[]⟩, .slice none 0 0, .int .u64 0] 32 (0, 0))) := ⟨by rw [hw20]; exact HK7.out⟩
            have HR20 : Aside0 (U8.R 5 w20 w5.heap.size (fun _ => True) (.slice A4 n4 c4) l4) := ⟨Kd.R_below HR7.out HQ20.out⟩
            have z0 : w20.cell? ⟨b2, 0, none⟩ = some (.int .i64 0) := (blk_cell HK20.out 0).trans rfl
            have z1 : w20.cell? ⟨b2, 1, none⟩ = some (.int .i64 0) := (blk_cell HK20.out 1).trans rfl
            have z2 : w20.cell? ⟨b2, 2, none⟩ = some (.string ⟨#[]⟩) := (blk_cell HK20.out 2).trans rfl
            have z3 : w20.cell? ⟨b2, 3, none⟩ = some (.slice none 0 0) := (blk_cell HK20.out 3).trans rfl
            have z4 : w20.cell? ⟨b2, 4, none⟩ = some (.int .u64 0) := (blk_cell HK20.out 4).trans rfl
            have fz : ∀ j, w20.frozen? ⟨b2, j, none⟩ = false := fun j => blk_frozen HK20.out j
            rw [← hw20] at hHeld ⊢
            clear hw20
            refine pure_ (i := 1) (N := some 65) (v := ?_) (a' := ?_) #[false, true, false, false, false, false, false, false, false, false, false, false, false, false, false, false, false, false, false, false, false, false, false, false, false, false] rfl rfl (by kernel_rfl) (fun _ _ _ h => h) (Or.inl ⟨by rfl, ?_⟩) ?_ ?_
            rotate_left
            · intro w'
              go_simp
              with_reducible rfl
            rotate_left
            · simp only [Act.put, List.setIfInBounds_toArray, List.set_cons_zero, List.set_cons_succ, i64_w, i32_w]
              rfl
            refine pure_ (i := 2) (N := some 66) (v := ?_) (a' := ?_) #[false, true, true, false, false, false, false, false, false, false, false, false, false, false, false, false, false, false, false, false, false, false, false, false, false, false] rfl rfl (by kernel_rfl) (fun _ _ _ h => h) (Or.inl ⟨by rfl, ?_⟩) ?_ ?_
            rotate_left
            · intro w'
              go_simp
              with_reducible rfl
            rotate_left
            · simp only [Act.put, List.setIfInBounds_toArray, List.set_cons_zero, List.set_cons_succ, i64_w, i32_w]
              rfl
            refine pure_ (i := 3) (N := some 67) (v := ?_) (a' := ?_) #[false, true, true, true, false, false, false, false, false, false, false, false, false, false, false, false, false, false, false, false, false, false, false, false, false, false] rfl rfl (by kernel_rfl) (fun _ _ _ h => h) (Or.inl ⟨by rfl, ?_⟩) ?_ ?_
            rotate_left
            · intro w'
              go_simp
              with_reducible rfl
            rotate_left
            · simp only [Act.put, List.setIfInBounds_toArray, List.set_cons_zero, List.set_cons_succ, i64_w, i32_w]
              rfl
            refine pure_ (i := 4) (N := some 68) (v := ?_) (a' := ?_) #[false, true, true, true, true, false, false, false, false, false, false, false, false, false, false, false, false, false, false, false, false, false, false, false, false, false] rfl rfl (by kernel_rfl) (fun _ _ _ h => h) (Or.inl ⟨by rfl, ?_⟩) ?_ ?_
            rotate_left
            · intro w'
              go_simp
              with_reducible rfl
            rotate_left
            · simp only [Act.put, List.setIfInBounds_toArray, List.set_cons_zero, List.set_cons_succ, i64_w, i32_w]
              rfl
            refine pure_ (i := 5) (N := some 69) (v := ?_) (a' := ?_) #[false, true, true, true, true, true, false, false, false, false, false, false, false, false, false, false, false, false, false, false, false, false, false, false, false, false] rfl rfl (by kernel_rfl) (fun _ _ _ h => h) (Or.inl ⟨by rfl, ?_⟩) ?_ ?_
            rotate_left
            · intro w'
              go_simp
              with_reducible rfl
            rotate_left
            · simp only [Act.put, List.setIfInBounds_toArray, List.set_cons_zero, List.set_cons_succ, i64_w, i32_w]
              rfl
            refine pure_ (i := 6) (N := some 70) (v := ?_) (a' := ?_) #[false, true, true, true, true, true, true, false, false, false, false, false, false, false, false, false, false, false, false, false, false, false, false, false, false, false] rfl rfl (by kernel_rfl) (fun _ _ _ h => h) (Or.inl ⟨by rfl, ?_⟩) ?_ ?_
            rotate_left
            · intro w'
              go_simp
              with_reducible rfl
            rotate_left
            · simp only [Act.put, List.setIfInBounds_toArray, List.set_cons_zero, List.set_cons_succ, i64_w, i32_w]
              rfl
            refine pure_ (i := 7) (N := some 71) (v := ?_) (a' := ?_) #[false, true, true, true, true, true, true, true, false, false, false, false, false, false, false, false, false, false, false, false, false, false, false, false, false, false] rfl rfl (by kernel_rfl) (fun _ _ _ h => h) (Or.inl ⟨by rfl, ?_⟩) ?_ ?_
            rotate_left
            · intro w'
              go_simp
              with_reducible rfl
            rotate_left
            · simp only [Act.put, List.setIfInBounds_toArray, List.set_cons_zero, List.set_cons_succ, i64_w, i32_w]
              rfl
            refine pure_ (i := 8) (N := some 72) (v := ?_) (a' := ?_) #[false, true, true, true, true, true, true, true, true, false, false, false, false, false, false, false, false, false, false, false, false, false, false, false, false, false] rfl rfl (by kernel_rfl) (fun _ _ _ h => h) (Or.inl ⟨by rfl, ?_⟩) ?_ ?_
            rotate_left
            · intro w'
              go_simp
              with_reducible rfl
            rotate_left
            · simp only [Act.put, List.setIfInBounds_toArray, List.set_cons_zero, List.set_cons_succ, i64_w, i32_w]
              rfl
            refine pure_ (i := 9) (N := some 73) (v := ?_) (a' := ?_) #[false, true, true, true, true, true, true, true, true, true, false, false, false, false, false, false, false, false, false, false, false, false, false, false, false, false] rfl rfl (by kernel_rfl) (fun _ _ _ h => h) (Or.inl ⟨by rfl, ?_⟩) ?_ ?_
            rotate_left
            · intro w'
              go_simp
              with_reducible rfl
            rotate_left
            · simp only [Act.put, List.setIfInBounds_toArray, List.set_cons_zero, List.set_cons_succ, i64_w, i32_w]
              rfl
            refine pure_ (i := 10) (N := some 74) (v := ?_) (a' := ?_) #[false, true, true, true, true, true, true, true, true, true, true, false, false, false, false, false, false, false, false, false, false, false, false, false, false, false] rfl rfl (by kernel_rfl) (fun _ _ _ h => h) (Or.inl ⟨by rfl, ?_⟩) ?_ ?_
            rotate_left
            · intro w'
              go_simp
              with_reducible rfl
            rotate_left
            · simp only [Act.put, List.setIfInBounds_toArray, List.set_cons_zero, List.set_cons_succ, i64_w, i32_w]
              rfl
            refine pure_ (i := 11) (N := some 75) (v := ?_) (a' := ?_) #[false, true, true, true, true, true, true, true, true, true, true, true, false, false, false, false, false, false, false, false, false, false, false, false, false, false] rfl rfl (by kernel_rfl) (fun _ _ _ h => h) (Or.inl ⟨by rfl, ?_⟩) ?_ ?_
            rotate_left
            · intro w'
              go_simp
              with_reducible rfl
            rotate_left
            · simp only [Act.put, List.setIfInBounds_toArray, List.set_cons_zero, List.set_cons_succ, i64_w, i32_w]
              rfl
            refine pure_ (i := 12) (N := some 76) (v := ?_) (a' := ?_) #[false, true, true, true, true, true, true, true, true, true, true, true, true, false, false, false, false, false, false, false, false, false, false, false, false, false] rfl rfl (by kernel_rfl) (fun _ _ _ h => h) (Or.inl ⟨by rfl, ?_⟩) ?_ ?_
            rotate_left
            · intro w'
              go_simp
              with_reducible rfl
            rotate_left
            · simp only [Act.put, List.setIfInBounds_toArray, List.set_cons_zero, List.set_cons_succ, i64_w, i32_w]
              rfl
            refine pure_ (i := 13) (N := some 77) (v := ?_) (a' := ?_) #[false, true, true, true, true, true, true, true, true, true, true, true, true, true, false, false, false, false, false, false, false, false, false, false, false, false] rfl rfl (by kernel_rfl) (fun _ _ _ h => h) (Or.inl ⟨by rfl, ?_⟩) ?_ ?_
            rotate_left
            · intro w'
              go_simp
              with_reducible rfl
            rotate_left
            · simp only [Act.put, List.setIfInBounds_toArray, List.set_cons_zero, List.set_cons_succ, i64_w, i32_w]
              rfl
            refine pure_ (i := 14) (N := some 78) (v := ?_) (a' := ?_) #[false, true, true, true, true, true, true, true, true, true, true, true, true, true, true, false, false, false, false, false, false, false, false, false, false, false] rfl rfl (by kernel_rfl) (fun _ _ _ h => h) (Or.inl ⟨by rfl, ?_⟩) ?_ ?_
            rotate_left
            · intro w'
              go_simp
              with_reducible rfl
            rotate_left
            · simp only [Act.put, List.setIfInBounds_toArray, List.set_cons_zero, List.set_cons_succ, i64_w, i32_w]
              rfl
            refine pure_ (i := 15) (N := some 79) (v := undef) (a' := ?_) #[false, true, true, true, true, true, true, true, true, true, true, true, true, true, true, true, false, false, false, false, false, false, false, false, false, false] rfl rfl (by kernel_rfl) (fun _ _ _ h => h) (Or.inr ⟨by rfl, rfl⟩) ?_ ?_
            rotate_left
            · simp only [Act.put, List.setIfInBounds_toArray, List.set_cons_zero, List.set_cons_succ, i64_w, i32_w]
              rfl
            refine pure_ (i := 16) (N := some 80) (v := ?_) (a' := ?_) #[false, true, true, true, true, true, true, true, true, true, true, true, true, true, true, true, true, false, false, false, false, false, false, false, false, false] rfl rfl (by kernel_rfl) (fun _ _ _ h => h) (Or.inl ⟨by rfl, ?_⟩) ?_ ?_
            rotate_left
            · intro w'
              go_simp
              with_reducible rfl
            rotate_left
            · simp only [Act.put, List.setIfInBounds_toArray, List.set_cons_zero, List.set_cons_succ, i64_w, i32_w]
              rfl
            refine pure_ (i := 17) (N := some 81) (v := ?_) (a' := ?_) #[false, true, true, true, true, true, true, true, true, true, true, true, true, true, true, true, true, true, false, false, false, false, false, false, false, false] rfl rfl (by kernel_rfl) (fun _ _ _ h => h) (Or.inl ⟨by rfl, ?_⟩) ?_ ?_
            rotate_left
            · intro w'
              go_simp
              with_reducible rfl
            rotate_left
            · simp only [Act.put, List.setIfInBounds_toArray, List.set_cons_zero, List.set_cons_succ, i64_w, i32_w]
              rfl
            refine pure_ (i := 18) (N := some 82) (v := undef) (a' := ?_) #[false, true, true, true, true, true, true, true, true, true, true, true, true, true, true, true, true, true, true, false, false, false, false, false, false, false] rfl rfl (by kernel_rfl) (fun _ _ _ h => h) (Or.inr ⟨by rfl, rfl⟩) ?_ ?_
            rotate_left
            · simp only [Act.put, List.setIfInBounds_toArray, List.set_cons_zero, List.set_cons_succ, i64_w, i32_w]
              rfl
            refine pure_ (i := 19) (N := some 83) (v := undef) (a' := ?_) #[false, true, true, true, true, true, true, true, true, true, true, true, true, true, true, true, true, true, true, true, false, false, false, false, false, false] rfl rfl (by kernel_rfl) (fun _ _ _ h => h) (Or.inr ⟨by rfl, rfl⟩) ?_ ?_
            rotate_left
            · simp only [Act.put, List.setIfInBounds_toArray, List.set_cons_zero, List.set_cons_succ, i64_w, i32_w]
              rfl
            refine pure_ (i := 20) (N := some 84) (v := undef) (a' := ?_) #[false, true, true, true, true, true, true, true, true, true, true, true, true, true, true, true, true, true, true, true, true, false, false, false, false, false] rfl rfl (by kernel_rfl) (fun _ _ _ h => h) (Or.inr ⟨by rfl, rfl⟩) ?_ ?_
            rotate_left
            · simp only [Act.put, List.setIfInBounds_toArray, List.set_cons_zero, List.set_cons_succ, i64_w, i32_w]
              rfl
            refine pure_ (i := 21) (N := some 85) (v := undef) (a' := ?_) #[false, true, true, true, true, true, true, true, true, true, true, true, true, true, true, true, true, true, true, true, true, true, false, false, false, false] rfl rfl (by kernel_rfl) (fun _ _ _ h => h) (Or.inr ⟨by rfl, rfl⟩) ?_ ?_
            rotate_left
            · simp only [Act.put, List.setIfInBounds_toArray, List.set_cons_zero, List.set_cons_succ, i64_w, i32_w]
              rfl
            refine pure_ (i := 22) (N := some 86) (v := undef) (a' := ?_) #[false, true, true, true, true, true, true, true, true, true, true, true, true, true, true, true, true, true, true, true, true, true, true, false, false, false] rfl rfl (by kernel_rfl) (fun _ _ _ h => h) (Or.inr ⟨by rfl, rfl⟩) ?_ ?_
            rotate_left
            · simp only [Act.put, List.setIfInBounds_toArray, List.set_cons_zero, List.set_cons_succ, i64_w, i32_w]
              rfl
            refine pure_ (i := 23) (N := some 87) (v := ?_) (a' := ?_) #[false, true, true, true, true, true, true, true, true, true, true, true, true, true, true, true, true, true, true, true, true, true, true, true, false, false] rfl rfl (by kernel_rfl) (fun _ _ _ h => h) (Or.inl ⟨by rfl, ?_⟩) ?_ ?_
            rotate_left
            · intro w'
              go_simp
              with_reducible rfl
            rotate_left
            · simp only [Act.put, List.setIfInBounds_toArray, List.set_cons_zero, List.set_cons_succ, i64_w, i32_w]
              rfl
            refine take_ (i := 0) (N := some 64) (v := ?_) (a' := ?_) #[true, true, true, true, true, true, true, true, true, true, true, true, true, true, true, true, true, true, true, true, true, true, true, true, false, false] rfl rfl (by kernel_rfl) (fun _ _ _ h => h) (Or.inl ⟨by rfl, ?_⟩) hHeld ?_ ?_
            rotate_left
            · rintro w' ⟨s0, s1, s2, s3, s4⟩
              go_simp
              with_reducible rfl
            rotate_left
            · simp only [Act.put, List.setIfInBounds_toArray, List.set_cons_zero, List.set_cons_succ, i64_w, i32_w]
              rfl
            refine last_ (i := 24) (N := none) #[true, true, true, true, true, true, true, true, true, true, true, true, true, true, true, true, true, true, true, true, true, true, true, true, true, false] rfl rfl (by kernel_rfl) (by decide) (fun K hK => ?_)
            refine skip_ (w1 := ?_) (by rfl) rfl ?_ ?_
            rotate_left
            · go_simp
              rfl
            obtain ⟨w22, hhw22, hbw22, hmw22, hlw22⟩ := fill_all w20 b2 [.int .i64 0, .int .i64 0, .string ⟨#[]⟩, .slice none 0 0, .int .u64 0] [.int .i64 n0, .int .i64 n1, .string kx, .slice A4 n4 c4, .int .u64 n2] 32 HK20.out rfl
            have hcw22 : (((((w20.setCell ⟨b2, 0, none⟩ (.int .i64 n0)).setCell ⟨b2, 1, none⟩ (.int .i64 n1)).setCell ⟨b2, 2, none⟩ (.string kx)).setCell ⟨b2, 3, none⟩ (.slice A4 n4 c4)).setCell ⟨b2, 4, none⟩ (.int .u64 n2)) = w22 := hhw22
            rw [hcw22]
            have BKw22 : Aside0 (w22.heap[b2]? = some (.cells #[.int .i64 n0, .int .i64 n1, .string kx, .slice A4 n4 c4, .int .u64 n2] 32 (0, 0))) := ⟨hbw22⟩
            have Mw22 := Aside0.mk hmw22
            have HLw22 := Aside0.mk hlw22
            clear hhw22 hcw22 hbw22 hmw22 hlw22
            clear z0 z1 z2 z3 z4 fz
            refine hK.out _ _ ?_
            clear hK K
            refine pure_ (i := 25) (N := some 3) (v := ?_) (a' := ?_) #[true, true, true, true, true, true, true, true, true, true, true, true, true, true, true, true, true, true, true, true, true, true, true, true, true, true] rfl rfl (by kernel_rfl) (fun _ _ _ h => h) (Or.inl ⟨by rfl, ?_⟩) ?_ ?_
            rotate_left
            · intro w'
              go_simp
              with_reducible rfl
            rotate_left
            · simp only [Act.put, List.setIfInBounds_toArray, List.set_cons_zero, List.set_cons_succ, i64_w, i32_w]
              rfl
            refine done_ (by kernel_rfl) ?_
            go_wp2_with fail
            refine bodyPost_ret (results_ct rfl _ _ b2 32 #[.int .i64 n0, .int .i64 n1, .string kx, .slice A4 n4 c4, .int .u64 n2] (0, 0) _ rfl BKw22.out Tryd.underlying32 rfl (by kernel_rfl)) rfl ?_
            have hR := R_past HR20.out HL5.out Mw22.out
            exact StepEnd.intro n0 n1 kx A4 l4 c4 n4 n2 false HN4.out (Kd.R_lower hR HLW.out) (.inl ⟨HRS.out, rfl⟩) (HB20.out.trans (by rw [HB2.out]; exact HLw22.out))
          · rcases HD4.out with ⟨hq4, rfl⟩ | ⟨hq4, rfl⟩
            · have HRS : Aside0 (stepP s.data.toList = none) := ⟨by rw [HSP.out, hq0, hq1, hq2, hq3, hq4]; rfl⟩
              refine start_ (n := 26) (S := fun w' => w'.cell? ⟨g, 0, none⟩ = some (.int .i64 n0) ∧ w'.cell? ⟨g, 1, none⟩ = some (.int .i64 n1) ∧ w'.cell? ⟨g, 2, none⟩ = some (.string kx) ∧ w'.cell? ⟨g, 3, none⟩ = some (.slice A4 n4 c4) ∧ w'.cell? ⟨g, 4, none⟩ = some (.int .u64 n2)) (ds := [24]) #[false, false, false, false, false, false, false, false, false, false, false, false, false, false, false, false, false, false, false, false, false, false, false, false, false, false] (by kernel_rfl) rfl rfl ⟨HC5.out.1, HC5.out.2.1, HC5.out.2.2.1, HC5.out.2.2.2.1, HC5.out.2.2.2.2⟩ (fun hHeld => ?_)
              obtain ⟨w20, hw20⟩ : ∃ w20, w20 = W7.drew := ⟨_, rfl⟩
              have HB20 : Aside0 (Below w.heap.size w w20) := ⟨by rw [hw20]; exact HB8.out.drew⟩
              have HQ20 : Aside0 (Below W7.heap.size W7 w20) := ⟨by rw [hw20]; exact (Below.refl _ _).drew⟩
              have HK20 : Aside0 (w20.heap[b2]? = some (.cells #[.int .i64 0, .int .i64 0, .string ⟨#[]⟩, .slice none 0 0, .int .u64 0] 32 (0, 0))) := ⟨by rw [hw20]; exact HK7.out⟩
              have HR20 : Aside0 (U8.R 5 w20 w5.heap.size (fun _ => True) (.slice A4 n4 c4) l4) := ⟨Kd.R_below HR7.out HQ20.out⟩
              have z0 : w20.cell? ⟨b2, 0, none⟩ = some (.int .i64 0) := (blk_cell HK20.out 0).trans rfl
              have z1 : w20.cell? ⟨b2, 1, none⟩ = some (.int .i64 0) := (blk_cell HK20.out 1).trans rfl
              have z2 : w20.cell? ⟨b2, 2, none⟩ = some (.string ⟨#[]⟩) := (blk_cell HK20.out 2).trans rfl
              have z3 : w20.cell? ⟨b2, 3, none⟩ = some (.slice none 0 0) := (blk_cell HK20.out 3).trans rfl
              have z4 : w20.cell? ⟨b2, 4, none⟩ = some (.int .u64 0) := (blk_cell HK20.out 4).trans rfl
              have fz : ∀ j, w20.frozen? ⟨b2, j, none⟩ = false := fun j => blk_frozen HK20.out j
              rw [← hw20] at hHeld ⊢
              clear hw20
              refine pure_ (i := 1) (N := some 65) (v := ?_) (a' := ?_) #[false, true, false, false, false, false, false, false, false, false, false, false, false, false, false, false, false, false, false, false, false, false, false, false, false, false] rfl rfl (by kernel_rfl) (fun _ _ _ h => h) (Or.inl ⟨by rfl, ?_⟩) ?_ ?_
              rotate_left
              · intro w'
                go_simp
                with_reducible rfl
              rotate_left
              · simp only [Act.put, List.setIfInBounds_toArray, List.set_cons_zero, List.set_cons_succ, i64_w, i32_w]
                rfl
              refine pure_ (i := 2) (N := some 66) (v := ?_) (a' := ?_) #[false, true, true, false, false, false, false, false, false, false, false, false, false, false, false, false, false, false, false, false, false, false, false, false, false, false] rfl rfl (by kernel_rfl) (fun _ _ _ h => h) (Or.inl ⟨by rfl, ?_⟩) ?_ ?_
              rotate_left
              · intro w'
                go_simp
                with_reducible rfl
              rotate_left
              · simp only [Act.put, List.setIfInBounds_toArray, List.set_cons_zero, List.set_cons_succ, i64_w, i32_w]
                rfl
              refine pure_ (i := 3) (N := some 67) (v := ?_) (a' := ?_) #[false, true, true, true, false, false, false, false, false, false, false, false, false, false, false, false, false, false, false, false, false, false, false, false, false, false] rfl rfl (by kernel_rfl) (fun _ _ _ h => h) (Or.inl ⟨by rfl, ?_⟩) ?_ ?_
              rotate_left
              · intro w'
                go_simp
                with_reducible rfl
              rotate_left
              · simp only [Act.put, List.setIfInBounds_toArray, List.set_cons_zero, List.set_cons_succ, i64_w, i32_w]
                rfl
              refine pure_ (i := 4) (N := some 68) (v := ?_) (a' := ?_) #[false, true, true, true, true, false, false, false, false, false, false, false, false, false, false, false, false, false, false, false, false, false, false, false, false, false] rfl rfl (by kernel_rfl) (fun _ _ _ h => h) (Or.inl ⟨by rfl, ?_⟩) ?_ ?_
              rotate_left
              · intro w'
                go_simp
                with_reducible rfl
              rotate_left
              · simp only [Act.put, List.setIfInBounds_toArray, List.set_cons_zero, List.set_cons_succ, i64_w, i32_w]
                rfl
              refine pure_ (i := 5) (N := some 69) (v := ?_) (a' := ?_) #[false, true, true, true, true, true, false, false, false, false, false, false, false, false, false, false, false, false, false, false, false, false, false, false, false, false] rfl rfl (by kernel_rfl) (fun _ _ _ h => h) (Or.inl ⟨by rfl, ?_⟩) ?_ ?_
              rotate_left
              · intro w'
                go_simp
                with_reducible rfl
              rotate_left
              · simp only [Act.put, List.setIfInBounds_toArray, List.set_cons_zero, List.set_cons_succ, i64_w, i32_w]
                rfl
              refine pure_ (i := 6) (N := some 70) (v := ?_) (a' := ?_) #[false, true, true, true, true, true, true, false, false, false, false, false, false, false, false, false, false, false, false, false, false, false, false, false, false, false] rfl rfl (by kernel_rfl) (fun _ _ _ h => h) (Or.inl ⟨by rfl, ?_⟩) ?_ ?_
              rotate_left
              · intro w'
                go_simp
                with_reducible rfl
              rotate_left
              · simp only [Act.put, List.setIfInBounds_toArray, List.set_cons_zero, List.set_cons_succ, i64_w, i32_w]
                rfl
              refine pure_ (i := 7) (N := some 71) (v := ?_) (a' := ?_) #[false, true, true, true, true, true, true, true, false, false, false, false, false, false, false, false, false, false, false, false, false, false, false, false, false, false] rfl rfl (by kernel_rfl) (fun _ _ _ h => h) (Or.inl ⟨by rfl, ?_⟩) ?_ ?_
              rotate_left
              · intro w'
                go_simp
                with_reducible rfl
              rotate_left
              · simp only [Act.put, List.setIfInBounds_toArray, List.set_cons_zero, List.set_cons_succ, i64_w, i32_w]
                rfl
              refine pure_ (i := 8) (N := some 72) (v := ?_) (a' := ?_) #[false, true, true, true, true, true, true, true, true, false, false, false, false, false, false, false, false, false, false, false, false, false, false, false, false, false] rfl rfl (by kernel_rfl) (fun _ _ _ h => h) (Or.inl ⟨by rfl, ?_⟩) ?_ ?_
              rotate_left
              · intro w'
                go_simp
                with_reducible rfl
              rotate_left
              · simp only [Act.put, List.setIfInBounds_toArray, List.set_cons_zero, List.set_cons_succ, i64_w, i32_w]
                rfl
              refine pure_ (i := 9) (N := some 73) (v := ?_) (a' := ?_) #[false, true, true, true, true, true, true, true, true, true, false, false, false, false, false, false, false, false, false, false, false, false, false, false, false, false] rfl rfl (by kernel_rfl) (fun _ _ _ h => h) (Or.inl ⟨by rfl, ?_⟩) ?_ ?_
              rotate_left
              · intro w'
                go_simp
                with_reducible rfl
              rotate_left
              · simp only [Act.put, List.setIfInBounds_toArray, List.set_cons_zero, List.set_cons_succ, i64_w, i32_w]
                rfl
              refine pure_ (i := 10) (N := some 74) (v := ?_) (a' := ?_) #[false, true, true, true, true, true, true, true, true, true, true, false, false, false, false, false, false, false, false, false, false, false, false, false, false, false] rfl rfl (by kernel_rfl) (fun _ _ _ h => h) (Or.inl ⟨by rfl, ?_⟩) ?_ ?_
              rotate_left
              · intro w'
                go_simp
                with_reducible rfl
              rotate_left
              · simp only [Act.put, List.setIfInBounds_toArray, List.set_cons_zero, List.set_cons_succ, i64_w, i32_w]
                rfl
              refine pure_ (i := 11) (N := some 75) (v := ?_) (a' := ?_) #[false, true, true, true, true, true, true, true, true, true, true, true, false, false, false, false, false, false, false, false, false, false, false, false, false, false] rfl rfl (by kernel_rfl) (fun _ _ _ h => h) (Or.inl ⟨by rfl, ?_⟩) ?_ ?_
              rotate_left
              · intro w'
                go_simp
                with_reducible rfl
              rotate_left
              · simp only [Act.put, List.setIfInBounds_toArray, List.set_cons_zero, List.set_cons_succ, i64_w, i32_w]
                rfl
              refine pure_ (i := 12) (N := some 76) (v := ?_) (a' := ?_) #[false, true, true, true, true, true, true, true, true, true, true, true, true, false, false, false, false, false, false, false, false, false, false, false, false, false] rfl rfl (by kernel_rfl) (fun _ _ _ h => h) (Or.inl ⟨by rfl, ?_⟩) ?_ ?_
              rotate_left
              · intro w'
                go_simp
                with_reducible rfl
              rotate_left
              · simp only [Act.put, List.setIfInBounds_toArray, List.set_cons_zero, List.set_cons_succ, i64_w, i32_w]
                rfl
              refine pure_ (i := 13) (N := some 77) (v := ?_) (a' := ?_) #[false, true, true, true, true, true, true, true, true, true, true, true, true, true, false, false, false, false, false, false, false, false, false, false, false, false] rfl rfl (by kernel_rfl) (fun _ _ _ h => h) (Or.inl ⟨by rfl, ?_⟩) ?_ ?_
              rotate_left
              · intro w'
                go_simp
                with_reducible rfl
              rotate_left
              · simp only [Act.put, List.setIfInBounds_toArray, List.set_cons_zero, List.set_cons_succ, i64_w, i32_w]
                rfl
              refine pure_ (i := 14) (N := some 78) (v := ?_) (a' := ?_) #[false, true, true, true, true, true, true, true, true, true, true, true, true, true, true, false, false, false, false, false, false, false, false, false, false, false] rfl rfl (by kernel_rfl) (fun _ _ _ h => h) (Or.inl ⟨by rfl, ?_⟩) ?_ ?_
              rotate_left
              · intro w'
                go_simp
                with_reducible rfl
              rotate_left
              · simp only [Act.put, List.setIfInBounds_toArray, List.set_cons_zero, List.set_cons_succ, i64_w, i32_w]
                rfl
              refine pure_ (i := 15) (N := some 79) (v := ?_) (a' := ?_) #[false, true, true, true, true, true, true, true, true, true, true, true, true, true, true, true, false, false, false, false, false, false, false, false, false, false] rfl rfl (by kernel_rfl) (fun _ _ _ h => h) (Or.inl ⟨by rfl, ?_⟩) ?_ ?_
              rotate_left
              · intro w'
                go_simp
                with_reducible rfl
              rotate_left
              · simp only [Act.put, List.setIfInBounds_toArray, List.set_cons_zero, List.set_cons_succ, i64_w, i32_w]
                rfl
              refine pure_ (i := 16) (N := some 80) (v := ?_) (a' := ?_) #[false, true, true, true, true, true, true, true, true, true, true, true, true, true, true, true, true, false, false, false, false, false, false, false, false, false] rfl rfl (by kernel_rfl) (fun _ _ _ h => h) (Or.inl ⟨by rfl, ?_⟩) ?_ ?_
              rotate_left
              · intro w'
                go_simp
                with_reducible rfl
              rotate_left
              · simp only [Act.put, List.setIfInBounds_toArray, List.set_cons_zero, List.set_cons_succ, i64_w, i32_w]
                rfl
              refine pure_ (i := 17) (N := some 81) (v := ?_) (a' := ?_) #[false, true, true, true, true, true, true, true, true, true, true, true, true, true, true, true, true, true, false, false, false, false, false, false, false, false] rfl rfl (by kernel_rfl) (fun _ _ _ h => h) (Or.inl ⟨by rfl, ?_⟩) ?_ ?_
              rotate_left
              · intro w'
                go_simp
                with_reducible rfl
              rotate_left
              · simp only [Act.put, List.setIfInBounds_toArray, List.set_cons_zero, List.set_cons_succ, i64_w, i32_w]
                rfl
              refine pure_ (i := 18) (N := some 82) (v := undef) (a' := ?_) #[false, true, true, true, true, true, true, true, true, true, true, true, true, true, true, true, true, true, true, false, false, false, false, false, false, false] rfl rfl (by kernel_rfl) (fun _ _ _ h => h) (Or.inr ⟨by rfl, rfl⟩) ?_ ?_
              rotate_left
              · simp only [Act.put, List.setIfInBounds_toArray, List.set_cons_zero, List.set_cons_succ, i64_w, i32_w]
                rfl
              refine pure_ (i := 19) (N := some 83) (v := undef) (a' := ?_) #[false, true, true, true, true, true, true, true, true, true, true, true, true, true, true, true, true, true, true, true, false, false, false, false, false, false] rfl rfl (by kernel_rfl) (fun _ _ _ h => h) (Or.inr ⟨by rfl, rfl⟩) ?_ ?_
              rotate_left
              · simp only [Act.put, List.setIfInBounds_toArray, List.set_cons_zero, List.set_cons_succ, i64_w, i32_w]
                rfl
              refine pure_ (i := 20) (N := some 84) (v := undef) (a' := ?_) #[false, true, true, true, true, true, true, true, true, true, true, true, true, true, true, true, true, true, true, true, true, false, false, false, false, false] rfl rfl (by kernel_rfl) (fun _ _ _ h => h) (Or.inr ⟨by rfl, rfl⟩) ?_ ?_
              rotate_left
              · simp only [Act.put, List.setIfInBounds_toArray, List.set_cons_zero, List.set_cons_succ, i64_w, i32_w]
                rfl
              refine pure_ (i := 21) (N := some 85) (v := undef) (a' := ?_) #[false, true, true, true, true, true, true, true, true, true, true, true, true, true, true, true, true, true, true, true, true, true, false, false, false, false] rfl rfl (by kernel_rfl) (fun _ _ _ h => h) (Or.inr ⟨by rfl, rfl⟩) ?_ ?_
              rotate_left
              · simp only [Act.put, List.setIfInBounds_toArray, List.set_cons_zero, List.set_cons_succ, i64_w, i32_w]
                rfl
              refine pure_ (i := 22) (N := some 86) (v := undef) (a' := ?_) #[false, true, true, true, true, true, true, true, true, true, true, true, true, true, true, true, true, true, true, true, true, true, true, false, false, false] rfl rfl (by kernel_rfl) (fun _ _ _ h => h) (Or.inr ⟨by rfl, rfl⟩) ?_ ?_
              rotate_left
              · simp only [Act.put, List.setIfInBounds_toArray, List.set_cons_zero, List.set_cons_succ, i64_w, i32_w]
                rfl
              refine pure_ (i := 23) (N := some 87) (v := ?_) (a' := ?_) #[false, true, true, true, true, true, true, true, true, true, true, true, true, true, true, true, true, true, true, true, true, true, true, true, false, false] rfl rfl (by kernel_rfl) (fun _ _ _ h => h) (Or.inl ⟨by rfl, ?_⟩) ?_ ?_
              rotate_left
              · intro w'
                go_simp
                with_reducible rfl
              rotate_left
              · simp only [Act.put, List.setIfInBounds_toArray, List.set_cons_zero, List.set_cons_succ, i64_w, i32_w]
                rfl
              refine take_ (i := 0) (N := some 64) (v := ?_) (a' := ?_) #[true, true, true, true, true, true, true, true, true, true, true, true, true, true, true, true, true, true, true, true, true, true, true, true, false, false] rfl rfl (by kernel_rfl) (fun _ _ _ h => h) (Or.inl ⟨by rfl, ?_⟩) hHeld ?_ ?_
              rotate_left
              · rintro w' ⟨s0, s1, s2, s3, s4⟩
                go_simp
                with_reducible rfl
              rotate_left
              · simp only [Act.put, List.setIfInBounds_toArray, List.set_cons_zero, List.set_cons_succ, i64_w, i32_w]
                rfl
              refine last_ (i := 24) (N := none) #[true, true, true, true, true, true, true, true, true, true, true, true, true, true, true, true, true, true, true, true, true, true, true, true, true, false] rfl rfl (by kernel_rfl) (by decide) (fun K hK => ?_)
              refine skip_ (w1 := ?_) (by rfl) rfl ?_ ?_
              rotate_left
              · go_simp
                rfl
              obtain ⟨w22, hhw22, hbw22, hmw22, hlw22⟩ := fill_all w20 b2 [.int .i64 0, .int .i64 0, .string ⟨#[]⟩, .slice none 0 0, .int .u64 0] [.int .i64 n0, .int .i64 n1, .string kx, .slice A4 n4 c4, .int .u64 n2] 32 HK20.out rfl
              have hcw22 : (((((w20.setCell ⟨b2, 0, none⟩ (.int .i64 n0)).setCell ⟨b2, 1, none⟩ (.int .i64 n1)).setCell ⟨b2, 2, none⟩ (.string kx)).setCell ⟨b2, 3, none⟩ (.slice A4 n4 c4)).setCell ⟨b2, 4, none⟩ (.int .u64 n2)) = w22 := hhw22
              rw [hcw22]
              have BKw22 : Aside0 (w22.heap[b2]? = some (.cells #[.int .i64 n0, .int .i64 n1, .string kx, .slice A4 n4 c4, .int .u64 n2] 32 (0, 0))) := ⟨hbw22⟩
              have Mw22 := Aside0.mk hmw22
              have HLw22 := Aside0.mk hlw22
              clear hhw22 hcw22 hbw22 hmw22 hlw22
              clear z0 z1 z2 z3 z4 fz
              refine hK.out _ _ ?_
              clear hK K
              refine pure_ (i := 25) (N := some 3) (v := ?_) (a' := ?_) #[true, true, true, true, true, true, true, true, true, true, true, true, true, true, true, true, true, true, true, true, true, true, true, true, true, true] rfl rfl (by kernel_rfl) (fun _ _ _ h => h) (Or.inl ⟨by rfl, ?_⟩) ?_ ?_
              rotate_left
              · intro w'
                go_simp
                with_reducible rfl
              rotate_left
              · simp only [Act.put, List.setIfInBounds_toArray, List.set_cons_zero, List.set_cons_succ, i64_w, i32_w]
                rfl
              refine done_ (by kernel_rfl) ?_
              go_wp2_with fail
              refine bodyPost_ret (results_ct rfl _ _ b2 32 #[.int .i64 n0, .int .i64 n1, .string kx, .slice A4 n4 c4, .int .u64 n2] (0, 0) _ rfl BKw22.out Tryd.underlying32 rfl (by kernel_rfl)) rfl ?_
              have hR := R_past HR20.out HL5.out Mw22.out
              exact StepEnd.intro n0 n1 kx A4 l4 c4 n4 n2 false HN4.out (Kd.R_lower hR HLW.out) (.inl ⟨HRS.out, rfl⟩) (HB20.out.trans (by rw [HB2.out]; exact HLw22.out))
            · have hx := HSP.out
              rw [hq0, hq1, hq2, hq3, hq4] at hx
              simp only [Option.bind_some] at hx
              obtain ⟨xw, hxw⟩ : ∃ x : S32, x = ⟨n0, n1, strOfNums l3, l4, n2⟩ := ⟨_, rfl⟩
              have hwf : WfS xw := by
                have h0 := Lib.atoiAll_bounds (okN_some hq0)
                have h1 := Lib.atoiAll_bounds (okN_some hq1)
                have h2 := u_bounds hq2
                have h3 := hexP_byt hq3
                have h4 := hexP_byt hq4
                have z3 := HZ.out.2.2.2.1
                have z4 := HZ.out.2.2.2.2
                rw [← data_length] at z3 z4
                rw [hxw]
                exact ⟨h0.1, h0.2, h1.1, h1.2, h2.1, h2.2, by rw [str_size]; omega, by show l4.length ≤ _; omega, h4.1⟩
              have HLN : Aside0 (∀ W, Below W7.heap.size W7 W → Below w.heap.size w W → Calls Tryd.prog 19 #[.agg #[.int .i64 n0, .int .i64 n1, .string kx, .slice A4 n4 c4, .int .u64 n2]] W fun e w' => e = .returned (.string ⟨(lineU xw ++ [10]).toArray⟩) ∧ Below W.heap.size W w') := ⟨fun W hb hbw => by
                have hR := Kd.F_now (Kd.R_F (Kd.R_below HR7.out hb))
                have h := line_calls xw A4 c4 W hwf (by rw [hxw]; show U8.C W A4 l4.length l4; rw [HN4.out]; exact hR) (HT.out.below hbw)
                rw [hxw, ] at h
                dsimp only at h
                rw [HN4.out, HKX.out] at h
                rw [hxw]
                rw [HKX.out]
                exact h⟩
              have hszx : (9223372036854775807 < s.size + 1) = False := eq_false (by omega)
              obtain ⟨sx, hsx⟩ : ∃ sx, s ++ (⟨#[10]⟩ : ByteArray) = sx := ⟨_, rfl⟩
              obtain ⟨lx, hlx⟩ : ∃ lx : ByteArray, (⟨(lineU xw ++ [10]).toArray⟩ : ByteArray) = lx := ⟨_, rfl⟩
              obtain ⟨bb, hbb⟩ : ∃ bb, (lx.toList == sx.toList) = bb := ⟨_, rfl⟩
              have HFIN : Aside0 ((stepP s.data.toList = none ∧ bb = false) ∨ (stepP s.data.toList = some ⟨n0, n1, kx, l4, n2⟩ ∧ bb = true)) := ⟨by
                rw [hx, ← hxw, ← hbb, ← hlx, ← hsx, Lib.toList_data, Lib.toList_data]
                have e : (s ++ (⟨#[10]⟩ : ByteArray)).data.toList = s.data.toList ++ [10] := by simp
                rw [e]
                show (_ ∧ (lineU xw ++ [10] == s.data.toList ++ [10]) = false) ∨ (_ ∧ (lineU xw ++ [10] == s.data.toList ++ [10]) = true)
                by_cases hq : lineU xw = s.data.toList
                · rw [if_pos hq, hq]
                  exact .inr ⟨by rw [hxw, HKX.out], by simp⟩
                · rw [if_neg hq]
                  exact .inl ⟨rfl, by simpa using hq⟩⟩
              rw [hlx] at HLN
              clear hx hxw hwf hlx hq0 hq1 hq2 hq3 hq4
              refine start_ (n := 26) (S := fun w' => w'.cell? ⟨g, 0, none⟩ = some (.int .i64 n0) ∧ w'.cell? ⟨g, 1, none⟩ = some (.int .i64 n1) ∧ w'.cell? ⟨g, 2, none⟩ = some (.string kx) ∧ w'.cell? ⟨g, 3, none⟩ = some (.slice A4 n4 c4) ∧ w'.cell? ⟨g, 4, none⟩ = some (.int .u64 n2)) (ds := [24]) #[false, false, false, false, false, false, false, false, false, false, false, false, false, false, false, false, false, false, false, false, false, false, false, false, false, false] (by kernel_rfl) rfl rfl ⟨HC5.out.1, HC5.out.2.1, HC5.out.2.2.1, HC5.out.2.2.2.1, HC5.out.2.2.2.2⟩ (fun hHeld => ?_)
              obtain ⟨w20, hw20⟩ : ∃ w20, w20 = W7.drew := ⟨_, rfl⟩
              have HB20 : Aside0 (Below w.heap.size w w20) := ⟨by rw [hw20]; exact HB8.out.drew⟩
              have HQ20 : Aside0 (Below W7.heap.size W7 w20) := ⟨by rw [hw20]; exact (Below.refl _ _).drew⟩
              have HK20 : Aside0 (w20.heap[b2]? = some (.cells #[.int .i64 0, .int .i64 0, .string ⟨#[]⟩, .slice none 0 0, .int .u64 0] 32 (0, 0))) := ⟨by rw [hw20]; exact HK7.out⟩
              have HR20 : Aside0 (U8.R 5 w20 w5.heap.size (fun _ => True) (.slice A4 n4 c4) l4) := ⟨Kd.R_below HR7.out HQ20.out⟩
              have z0 : w20.cell? ⟨b2, 0, none⟩ = some (.int .i64 0) := (blk_cell HK20.out 0).trans rfl
              have z1 : w20.cell? ⟨b2, 1, none⟩ = some (.int .i64 0) := (blk_cell HK20.out 1).trans rfl
              have z2 : w20.cell? ⟨b2, 2, none⟩ = some (.string ⟨#[]⟩) := (blk_cell HK20.out 2).trans rfl
              have z3 : w20.cell? ⟨b2, 3, none⟩ = some (.slice none 0 0) := (blk_cell HK20.out 3).trans rfl
              have z4 : w20.cell? ⟨b2, 4, none⟩ = some (.int .u64 0) := (blk_cell HK20.out 4).trans rfl
              have fz : ∀ j, w20.frozen? ⟨b2, j, none⟩ = false := fun j => blk_frozen HK20.out j
              rw [← hw20] at hHeld ⊢
              clear hw20
              refine pure_ (i := 1) (N := some 65) (v := ?_) (a' := ?_) #[false, true, false, false, false, false, false, false, false, false, false, false, false, false, false, false, false, false, false, false, false, false, false, false, false, false] rfl rfl (by kernel_rfl) (fun _ _ _ h => h) (Or.inl ⟨by rfl, ?_⟩) ?_ ?_
              rotate_left
              · intro w'
                go_simp
                with_reducible rfl
              rotate_left
              · simp only [Act.put, List.setIfInBounds_toArray, List.set_cons_zero, List.set_cons_succ, i64_w, i32_w]
                rfl
              refine pure_ (i := 2) (N := some 66) (v := ?_) (a' := ?_) #[false, true, true, false, false, false, false, false, false, false, false, false, false, false, false, false, false, false, false, false, false, false, false, false, false, false] rfl rfl (by kernel_rfl) (fun _ _ _ h => h) (Or.inl ⟨by rfl, ?_⟩) ?_ ?_
              rotate_left
              · intro w'
                go_simp
                with_reducible rfl
              rotate_left
              · simp only [Act.put, List.setIfInBounds_toArray, List.set_cons_zero, List.set_cons_succ, i64_w, i32_w]
                rfl
              refine pure_ (i := 3) (N := some 67) (v := ?_) (a' := ?_) #[false, true, true, true, false, false, false, false, false, false, false, false, false, false, false, false, false, false, false, false, false, false, false, false, false, false] rfl rfl (by kernel_rfl) (fun _ _ _ h => h) (Or.inl ⟨by rfl, ?_⟩) ?_ ?_
              rotate_left
              · intro w'
                go_simp
                with_reducible rfl
              rotate_left
              · simp only [Act.put, List.setIfInBounds_toArray, List.set_cons_zero, List.set_cons_succ, i64_w, i32_w]
                rfl
              refine pure_ (i := 4) (N := some 68) (v := ?_) (a' := ?_) #[false, true, true, true, true, false, false, false, false, false, false, false, false, false, false, false, false, false, false, false, false, false, false, false, false, false] rfl rfl (by kernel_rfl) (fun _ _ _ h => h) (Or.inl ⟨by rfl, ?_⟩) ?_ ?_
              rotate_left
              · intro w'
                go_simp
                with_reducible rfl
              rotate_left
              · simp only [Act.put, List.setIfInBounds_toArray, List.set_cons_zero, List.set_cons_succ, i64_w, i32_w]
                rfl
              refine pure_ (i := 5) (N := some 69) (v := ?_) (a' := ?_) #[false, true, true, true, true, true, false, false, false, false, false, false, false, false, false, false, false, false, false, false, false, false, false, false, false, false] rfl rfl (by kernel_rfl) (fun _ _ _ h => h) (Or.inl ⟨by rfl, ?_⟩) ?_ ?_
              rotate_left
              · intro w'
                go_simp
                with_reducible rfl
              rotate_left
              · simp only [Act.put, List.setIfInBounds_toArray, List.set_cons_zero, List.set_cons_succ, i64_w, i32_w]
                rfl
              refine pure_ (i := 6) (N := some 70) (v := ?_) (a' := ?_) #[false, true, true, true, true, true, true, false, false, false, false, false, false, false, false, false, false, false, false, false, false, false, false, false, false, false] rfl rfl (by kernel_rfl) (fun _ _ _ h => h) (Or.inl ⟨by rfl, ?_⟩) ?_ ?_
              rotate_left
              · intro w'
                go_simp
                with_reducible rfl
              rotate_left
              · simp only [Act.put, List.setIfInBounds_toArray, List.set_cons_zero, List.set_cons_succ, i64_w, i32_w]
                rfl
              refine pure_ (i := 7) (N := some 71) (v := ?_) (a' := ?_) #[false, true, true, true, true, true, true, true, false, false, false, false, false, false, false, false, false, false, false, false, false, false, false, false, false, false] rfl rfl (by kernel_rfl) (fun _ _ _ h => h) (Or.inl ⟨by rfl, ?_⟩) ?_ ?_
              rotate_left
              · intro w'
                go_simp
                with_reducible rfl
              rotate_left
              · simp only [Act.put, List.setIfInBounds_toArray, List.set_cons_zero, List.set_cons_succ, i64_w, i32_w]
                rfl
              refine pure_ (i := 8) (N := some 72) (v := ?_) (a' := ?_) #[false, true, true, true, true, true, true, true, true, false, false, false, false, false, false, false, false, false, false, false, false, false, false, false, false, false] rfl rfl (by kernel_rfl) (fun _ _ _ h => h) (Or.inl ⟨by rfl, ?_⟩) ?_ ?_
              rotate_left
              · intro w'
                go_simp
                with_reducible rfl
              rotate_left
              · simp only [Act.put, List.setIfInBounds_toArray, List.set_cons_zero, List.set_cons_succ, i64_w, i32_w]
                rfl
              refine pure_ (i := 9) (N := some 73) (v := ?_) (a' := ?_) #[false, true, true, true, true, true, true, true, true, true, false, false, false, false, false, false, false, false, false, false, false, false, false, false, false, false] rfl rfl (by kernel_rfl) (fun _ _ _ h => h) (Or.inl ⟨by rfl, ?_⟩) ?_ ?_
              rotate_left
              · intro w'
                go_simp
                with_reducible rfl
              rotate_left
              · simp only [Act.put, List.setIfInBounds_toArray, List.set_cons_zero, List.set_cons_succ, i64_w, i32_w]
                rfl
              refine pure_ (i := 10) (N := some 74) (v := ?_) (a' := ?_) #[false, true, true, true, true, true, true, true, true, true, true, false, false, false, false, false, false, false, false, false, false, false, false, false, false, false] rfl rfl (by kernel_rfl) (fun _ _ _ h => h) (Or.inl ⟨by rfl, ?_⟩) ?_ ?_
              rotate_left
              · intro w'
                go_simp
                with_reducible rfl
              rotate_left
              · simp only [Act.put, List.setIfInBounds_toArray, List.set_cons_zero, List.set_cons_succ, i64_w, i32_w]
                rfl
              refine pure_ (i := 11) (N := some 75) (v := ?_) (a' := ?_) #[false, true, true, true, true, true, true, true, true, true, true, true, false, false, false, false, false, false, false, false, false, false, false, false, false, false] rfl rfl (by kernel_rfl) (fun _ _ _ h => h) (Or.inl ⟨by rfl, ?_⟩) ?_ ?_
              rotate_left
              · intro w'
                go_simp
                with_reducible rfl
              rotate_left
              · simp only [Act.put, List.setIfInBounds_toArray, List.set_cons_zero, List.set_cons_succ, i64_w, i32_w]
                rfl
              refine pure_ (i := 12) (N := some 76) (v := ?_) (a' := ?_) #[false, true, true, true, true, true, true, true, true, true, true, true, true, false, false, false, false, false, false, false, false, false, false, false, false, false] rfl rfl (by kernel_rfl) (fun _ _ _ h => h) (Or.inl ⟨by rfl, ?_⟩) ?_ ?_
              rotate_left
              · intro w'
                go_simp
                with_reducible rfl
              rotate_left
              · simp only [Act.put, List.setIfInBounds_toArray, List.set_cons_zero, List.set_cons_succ, i64_w, i32_w]
                rfl
              refine pure_ (i := 13) (N := some 77) (v := ?_) (a' := ?_) #[false, true, true, true, true, true, true, true, true, true, true, true, true, true, false, false, false, false, false, false, false, false, false, false, false, false] rfl rfl (by kernel_rfl) (fun _ _ _ h => h) (Or.inl ⟨by rfl, ?_⟩) ?_ ?_
              rotate_left
              · intro w'
                go_simp
                with_reducible rfl
              rotate_left
              · simp only [Act.put, List.setIfInBounds_toArray, List.set_cons_zero, List.set_cons_succ, i64_w, i32_w]
                rfl
              refine pure_ (i := 14) (N := some 78) (v := ?_) (a' := ?_) #[false, true, true, true, true, true, true, true, true, true, true, true, true, true, true, false, false, false, false, false, false, false, false, false, false, false] rfl rfl (by kernel_rfl) (fun _ _ _ h => h) (Or.inl ⟨by rfl, ?_⟩) ?_ ?_
              rotate_left
              · intro w'
                go_simp
                with_reducible rfl
              rotate_left
              · simp only [Act.put, List.setIfInBounds_toArray, List.set_cons_zero, List.set_cons_succ, i64_w, i32_w]
                rfl
              refine pure_ (i := 15) (N := some 79) (v := ?_) (a' := ?_) #[false, true, true, true, true, true, true, true, true, true, true, true, true, true, true, true, false, false, false, false, false, false, false, false, false, false] rfl rfl (by kernel_rfl) (fun _ _ _ h => h) (Or.inl ⟨by rfl, ?_⟩) ?_ ?_
              rotate_left
              · intro w'
                go_simp
                with_reducible rfl
              rotate_left
              · simp only [Act.put, List.setIfInBounds_toArray, List.set_cons_zero, List.set_cons_succ, i64_w, i32_w]
                rfl
              refine pure_ (i := 16) (N := some 80) (v := ?_) (a' := ?_) #[false, true, true, true, true, true, true, true, true, true, true, true, true, true, true, true, true, false, false, false, false, false, false, false, false, false] rfl rfl (by kernel_rfl) (fun _ _ _ h => h) (Or.inl ⟨by rfl, ?_⟩) ?_ ?_
              rotate_left
              · intro w'
                go_simp
                with_reducible rfl
              rotate_left
              · simp only [Act.put, List.setIfInBounds_toArray, List.set_cons_zero, List.set_cons_succ, i64_w, i32_w]
                rfl
              refine pure_ (i := 17) (N := some 81) (v := ?_) (a' := ?_) #[false, true, true, true, true, true, true, true, true, true, true, true, true, true, true, true, true, true, false, false, false, false, false, false, false, false] rfl rfl (by kernel_rfl) (fun _ _ _ h => h) (Or.inl ⟨by rfl, ?_⟩) ?_ ?_
              rotate_left
              · intro w'
                go_simp
                with_reducible rfl
              rotate_left
              · simp only [Act.put, List.setIfInBounds_toArray, List.set_cons_zero, List.set_cons_succ, i64_w, i32_w]
                rfl
              refine pure_ (i := 20) (N := some 84) (v := ?_) (a' := ?_) #[false, true, true, true, true, true, true, true, true, true, true, true, true, true, true, true, true, true, false, false, true, false, false, false, false, false] rfl rfl (by kernel_rfl) (fun _ _ _ h => h) (Or.inl ⟨by rfl, ?_⟩) ?_ ?_
              rotate_left
              · intro w'
                go_simp
                with_reducible rfl
              rotate_left
              · simp only [Act.put, List.setIfInBounds_toArray, List.set_cons_zero, List.set_cons_succ, i64_w, i32_w]
                rfl
              refine pure_ (i := 21) (N := some 85) (v := ?_) (a' := ?_) #[false, true, true, true, true, true, true, true, true, true, true, true, true, true, true, true, true, true, false, false, true, true, false, false, false, false] rfl rfl (by kernel_rfl) (fun _ _ _ h => h) (Or.inl ⟨by rfl, ?_⟩) ?_ ?_
              rotate_left
              · intro w'
                go_simp
                with_reducible rfl
              rotate_left
              · simp only [Act.put, List.setIfInBounds_toArray, List.set_cons_zero, List.set_cons_succ, i64_w, i32_w]
                rfl
              refine take_ (i := 0) (N := some 64) (v := ?_) (a' := ?_) #[true, true, true, true, true, true, true, true, true, true, true, true, true, true, true, true, true, true, false, false, true, true, false, false, false, false] rfl rfl (by kernel_rfl) (fun _ _ _ h => h) (Or.inl ⟨by rfl, ?_⟩) hHeld ?_ ?_
              rotate_left
              · rintro w' ⟨s0, s1, s2, s3, s4⟩
                go_simp
                with_reducible rfl
              rotate_left
              · simp only [Act.put, List.setIfInBounds_toArray, List.set_cons_zero, List.set_cons_succ, i64_w, i32_w]
                rfl
              refine take_ (i := 18) (N := some 82) (v := ?_) (a' := ?_) #[true, true, true, true, true, true, true, true, true, true, true, true, true, true, true, true, true, true, true, false, true, true, false, false, false, false] rfl rfl (by kernel_rfl) (fun _ _ _ h => h) (Or.inl ⟨by rfl, ?_⟩) hHeld ?_ ?_
              rotate_left
              · rintro w' ⟨s0, s1, s2, s3, s4⟩
                go_simp
                with_reducible rfl
              rotate_left
              · simp only [Act.put, List.setIfInBounds_toArray, List.set_cons_zero, List.set_cons_succ, i64_w, i32_w]
                rfl
              refine one_ (i := 19) (N := some 83) #[true, true, true, true, true, true, true, true, true, true, true, true, true, true, true, true, true, true, true, true, true, true, false, false, false, false] rfl rfl (by kernel_rfl) (by decide) (fun K hK => ?_)
              refine goes_ Tryd.func19 (by kernel_rfl) rfl #[.agg #[.int .i64 n0, .int .i64 n1, .string kx, .slice A4 n4 c4, .int .u64 n2]] (by rfl) rfl rfl (by simp only [List.map_toArray, List.map_cons, List.map_nil]; rfl) ?_
              with_reducible refine (HLN.out _ HQ20.out HB20.out).mono ?_
              rintro e w21 ⟨rfl, hb⟩
              refine ⟨_, rfl, ?_⟩
              have HB21 := Aside0.mk (HB20.out.trans (hb.mono HB20.out.size))
              have HK21 : Aside0 (w21.heap[b2]? = _) := ⟨(hb.block _ (blk_lt HK20.out)).trans HK20.out⟩
              have HR21 : Aside0 (U8.R 5 w21 w5.heap.size (fun _ => True) (.slice A4 n4 c4) l4) := ⟨Kd.R_below HR20.out hb⟩
              have HQ21 : Aside0 (Below W7.heap.size W7 w21) := ⟨HQ20.out.trans (hb.mono HQ20.out.size)⟩
              clear hb z0 z1 z2 z3 z4 fz
              have z0 : w21.cell? ⟨b2, 0, none⟩ = some (.int .i64 0) := (blk_cell HK21.out 0).trans rfl
              have z1 : w21.cell? ⟨b2, 1, none⟩ = some (.int .i64 0) := (blk_cell HK21.out 1).trans rfl
              have z2 : w21.cell? ⟨b2, 2, none⟩ = some (.string ⟨#[]⟩) := (blk_cell HK21.out 2).trans rfl
              have z3 : w21.cell? ⟨b2, 3, none⟩ = some (.slice none 0 0) := (blk_cell HK21.out 3).trans rfl
              have z4 : w21.cell? ⟨b2, 4, none⟩ = some (.int .u64 0) := (blk_cell HK21.out 4).trans rfl
              have fz : ∀ j, w21.frozen? ⟨b2, j, none⟩ = false := fun j => blk_frozen HK21.out j
              refine hK.out _ _ ⟨pw_cell_below HQ21.out HC5.out.1, pw_cell_below HQ21.out HC5.out.2.1, pw_cell_below HQ21.out HC5.out.2.2.1, pw_cell_below HQ21.out HC5.out.2.2.2.1, pw_cell_below HQ21.out HC5.out.2.2.2.2⟩ (fun hHeld => ?_)
              clear hK K
              refine norm_ (a' := ?_) ?_ ?_
              rotate_left
              · show Act.put _ (some 83) _ = _
                simp only [Act.put, List.setIfInBounds_toArray, List.set_cons_zero, List.set_cons_succ, i64_w, i32_w]
                rfl
              refine pure_ (i := 22) (N := some 86) (v := ?_) (a' := ?_) #[true, true, true, true, true, true, true, true, true, true, true, true, true, true, true, true, true, true, true, true, true, true, true, false, false, false] rfl rfl (by kernel_rfl) (fun _ _ _ h => h) (Or.inl ⟨by rfl, ?_⟩) ?_ ?_
              rotate_left
              · intro w'
                go_simp
                with_reducible rfl
              rotate_left
              · simp only [Act.put, List.setIfInBounds_toArray, List.set_cons_zero, List.set_cons_succ, i64_w, i32_w]
                rfl
              refine pure_ (i := 23) (N := some 87) (v := ?_) (a' := ?_) #[true, true, true, true, true, true, true, true, true, true, true, true, true, true, true, true, true, true, true, true, true, true, true, true, false, false] rfl rfl (by kernel_rfl) (fun _ _ _ h => h) (Or.inl ⟨by rfl, ?_⟩) ?_ ?_
              rotate_left
              · intro w'
                go_simp
                with_reducible rfl
              rotate_left
              · simp only [Act.put, List.setIfInBounds_toArray, List.set_cons_zero, List.set_cons_succ, i64_w, i32_w]
                rfl
              refine last_ (i := 24) (N := none) #[true, true, true, true, true, true, true, true, true, true, true, true, true, true, true, true, true, true, true, true, true, true, true, true, true, false] rfl rfl (by kernel_rfl) (by decide) (fun K hK => ?_)
              refine skip_ (w1 := ?_) (by rfl) rfl ?_ ?_
              rotate_left
              · go_simp
                rfl
              obtain ⟨w22, hhw22, hbw22, hmw22, hlw22⟩ := fill_all w21 b2 [.int .i64 0, .int .i64 0, .string ⟨#[]⟩, .slice none 0 0, .int .u64 0] [.int .i64 n0, .int .i64 n1, .string kx, .slice A4 n4 c4, .int .u64 n2] 32 HK21.out rfl
              have hcw22 : (((((w21.setCell ⟨b2, 0, none⟩ (.int .i64 n0)).setCell ⟨b2, 1, none⟩ (.int .i64 n1)).setCell ⟨b2, 2, none⟩ (.string kx)).setCell ⟨b2, 3, none⟩ (.slice A4 n4 c4)).setCell ⟨b2, 4, none⟩ (.int .u64 n2)) = w22 := hhw22
              rw [hcw22]
              have BKw22 : Aside0 (w22.heap[b2]? = some (.cells #[.int .i64 n0, .int .i64 n1, .string kx, .slice A4 n4 c4, .int .u64 n2] 32 (0, 0))) := ⟨hbw22⟩
              have Mw22 := Aside0.mk hmw22
              have HLw22 := Aside0.mk hlw22
              clear hhw22 hcw22 hbw22 hmw22 hlw22
              clear z0 z1 z2 z3 z4 fz
              refine hK.out _ _ ?_
              clear hK K
              refine pure_ (i := 25) (N := some 3) (v := ?_) (a' := ?_) #[true, true, true, true, true, true, true, true, true, true, true, true, true, true, true, true, true, true, true, true, true, true, true, true, true, true] rfl rfl (by kernel_rfl) (fun _ _ _ h => h) (Or.inl ⟨by rfl, ?_⟩) ?_ ?_
              rotate_left
              · intro w'
                go_simp
                with_reducible rfl
              rotate_left
              · simp only [Act.put, List.setIfInBounds_toArray, List.set_cons_zero, List.set_cons_succ, i64_w, i32_w]
                rfl
              refine done_ (by kernel_rfl) ?_
              go_wp2_with fail
              refine bodyPost_ret (results_ct rfl _ _ b2 32 #[.int .i64 n0, .int .i64 n1, .string kx, .slice A4 n4 c4, .int .u64 n2] (0, 0) _ rfl BKw22.out Tryd.underlying32 rfl (by kernel_rfl)) rfl ?_
              have hR := R_past HR21.out HL5.out Mw22.out
              exact StepEnd.intro n0 n1 kx A4 l4 c4 n4 n2 bb HN4.out (Kd.R_lower hR HLW.out) HFIN.out (HB21.out.trans (by rw [HB2.out]; exact HLw22.out))
        · have HRS : Aside0 (stepP s.data.toList = none) := ⟨by rw [HSP.out, hq0, hq1, hq2]; rfl⟩
          refine start_ (n := 26) (S := fun w' => w'.cell? ⟨g, 0, none⟩ = some (.int .i64 n0) ∧ w'.cell? ⟨g, 1, none⟩ = some (.int .i64 n1) ∧ w'.cell? ⟨g, 2, none⟩ = some (.string kx) ∧ w'.cell? ⟨g, 3, none⟩ = some (.slice A4 n4 c4) ∧ w'.cell? ⟨g, 4, none⟩ = some (.int .u64 n2)) (ds := [24]) #[false, false, false, false, false, false, false, false, false, false, false, false, false, false, false, false, false, false, false, false, false, false, false, false, false, false] (by kernel_rfl) rfl rfl ⟨HC5.out.1, HC5.out.2.1, HC5.out.2.2.1, HC5.out.2.2.2.1, HC5.out.2.2.2.2⟩ (fun hHeld => ?_)
          obtain ⟨w20, hw20⟩ : ∃ w20, w20 = W7.drew := ⟨_, rfl⟩
          have HB20 : Aside0 (Below w.heap.size w w20) := ⟨by rw [hw20]; exact HB8.out.drew⟩
          have HQ20 : Aside0 (Below W7.heap.size W7 w20) := ⟨by rw [hw20]; exact (Below.refl _ _).drew⟩
          have HK20 : Aside0 (w20.heap[b2]? = some (.cells #[.int .i64 0, .int .i64 0, .string ⟨#[]⟩, .slice none 0 0, .int .u64 0] 32 (0, 0))) := ⟨by rw [hw20]; exact HK7.out⟩
          have HR20 : Aside0 (U8.R 5 w20 w5.heap.size (fun _ => True) (.slice A4 n4 c4) l4) := ⟨Kd.R_below HR7.out HQ20.out⟩
          have z0 : w20.cell? ⟨b2, 0, none⟩ = some (.int .i64 0) := (blk_cell HK20.out 0).trans rfl
          have z1 : w20.cell? ⟨b2, 1, none⟩ = some (.int .i64 0) := (blk_cell HK20.out 1).trans rfl
          have z2 : w20.cell? ⟨b2, 2, none⟩ = some (.string ⟨#[]⟩) := (blk_cell HK20.out 2).trans rfl
          have z3 : w20.cell? ⟨b2, 3, none⟩ = some (.slice none 0 0) := (blk_cell HK20.out 3).trans rfl
          have z4 : w20.cell? ⟨b2, 4, none⟩ = some (.int .u64 0) := (blk_cell HK20.out 4).trans rfl
          have fz : ∀ j, w20.frozen? ⟨b2, j, none⟩ = false := fun j => blk_frozen HK20.out j
          rw [← hw20] at hHeld ⊢
          clear hw20
          refine pure_ (i := 1) (N := some 65) (v := ?_) (a' := ?_) #[false, true, false, false, false, false, false, false, false, false, false, false, false, false, false, false, false, false, false, false, false, false, false, false, false, false] rfl rfl (by kernel_rfl) (fun _ _ _ h => h) (Or.inl ⟨by rfl, ?_⟩) ?_ ?_
          rotate_left
          · intro w'
            go_simp
            with_reducible rfl
          rotate_left
          · simp only [Act.put, List.setIfInBounds_toArray, List.set_cons_zero, List.set_cons_succ, i64_w, i32_w]
            rfl
          refine pure_ (i := 2) (N := some 66) (v := ?_) (a' := ?_) #[false, true, true, false, false, false, false, false, false, false, false, false, false, false, false, false, false, false, false, false, false, false, false, false, false, false] rfl rfl (by kernel_rfl) (fun _ _ _ h => h) (Or.inl ⟨by rfl, ?_⟩) ?_ ?_
          rotate_left
          · intro w'
            go_simp
            with_reducible rfl
          rotate_left
          · simp only [Act.put, List.setIfInBounds_toArray, List.set_cons_zero, List.set_cons_succ, i64_w, i32_w]
            rfl
          refine pure_ (i := 3) (N := some 67) (v := ?_) (a' := ?_) #[false, true, true, true, false, false, false, false, false, false, false, false, false, false, false, false, false, false, false, false, false, false, false, false, false, false] rfl rfl (by kernel_rfl) (fun _ _ _ h => h) (Or.inl ⟨by rfl, ?_⟩) ?_ ?_
          rotate_left
          · intro w'
            go_simp
            with_reducible rfl
          rotate_left
          · simp only [Act.put, List.setIfInBounds_toArray, List.set_cons_zero, List.set_cons_succ, i64_w, i32_w]
            rfl
          refine pure_ (i := 4) (N := some 68) (v := ?_) (a' := ?_) #[false, true, true, true, true, false, false, false, false, false, false, false, false, false, false, false, false, false, false, false, false, false, false, false, false, false] rfl rfl (by kernel_rfl) (fun _ _ _ h => h) (Or.inl ⟨by rfl, ?_⟩) ?_ ?_
          rotate_left
          · intro w'
            go_simp
            with_reducible rfl
          rotate_left
          · simp only [Act.put, List.setIfInBounds_toArray, List.set_cons_zero, List.set_cons_succ, i64_w, i32_w]
            rfl
          refine pure_ (i := 5) (N := some 69) (v := ?_) (a' := ?_) #[false, true, true, true, true, true, false, false, false, false, false, false, false, false, false, false, false, false, false, false, false, false, false, false, false, false] rfl rfl (by kernel_rfl) (fun _ _ _ h => h) (Or.inl ⟨by rfl, ?_⟩) ?_ ?_
          rotate_left
          · intro w'
            go_simp
            with_reducible rfl
          rotate_left
          · simp only [Act.put, List.setIfInBounds_toArray, List.set_cons_zero, List.set_cons_succ, i64_w, i32_w]
            rfl
          refine pure_ (i := 6) (N := some 70) (v := ?_) (a' := ?_) #[false, true, true, true, true, true, true, false, false, false, false, false, false, false, false, false, false, false, false, false, false, false, false, false, false, false] rfl rfl (by kernel_rfl) (fun _ _ _ h => h) (Or.inl ⟨by rfl, ?_⟩) ?_ ?_
          rotate_left
          · intro w'
            go_simp
            with_reducible rfl
          rotate_left
          · simp only [Act.put, List.setIfInBounds_toArray, List.set_cons_zero, List.set_cons_succ, i64_w, i32_w]
            rfl
          refine pure_ (i := 7) (N := some 71) (v := ?_) (a' := ?_) #[false, true, true, true, true, true, true, true, false, false, false, false, false, false, false, false, false, false, false, false, false, false, false, false, false, false] rfl rfl (by kernel_rfl) (fun _ _ _ h => h) (Or.inl ⟨by rfl, ?_⟩) ?_ ?_
          rotate_left
          · intro w'
            go_simp
            with_reducible rfl
          rotate_left
          · simp only [Act.put, List.setIfInBounds_toArray, List.set_cons_zero, List.set_cons_succ, i64_w, i32_w]
            rfl
          refine pure_ (i := 8) (N := some 72) (v := ?_) (a' := ?_) #[false, true, true, true, true, true, true, true, true, false, false, false, false, false, false, false, false, false, false, false, false, false, false, false, false, false] rfl rfl (by kernel_rfl) (fun _ _ _ h => h) (Or.inl ⟨by rfl, ?_⟩) ?_ ?_
          rotate_left
          · intro w'
            go_simp
            with_reducible rfl
          rotate_left
          · simp only [Act.put, List.setIfInBounds_toArray, List.set_cons_zero, List.set_cons_succ, i64_w, i32_w]
            rfl
          refine pure_ (i := 9) (N := some 73) (v := ?_) (a' := ?_) #[false, true, true, true, true, true, true, true, true, true, false, false, false, false, false, false, false, false, false, false, false, false, false, false, false, false] rfl rfl (by kernel_rfl) (fun _ _ _ h => h) (Or.inl ⟨by rfl, ?_⟩) ?_ ?_
          rotate_left
          · intro w'
            go_simp
            with_reducible rfl
          rotate_left
          · simp only [Act.put, List.setIfInBounds_toArray, List.set_cons_zero, List.set_cons_succ, i64_w, i32_w]
            rfl
          refine pure_ (i := 10) (N := some 74) (v := ?_) (a' := ?_) #[false, true, true, true, true, true, true, true, true, true, true, false, false, false, false, false, false, false, false, false, false, false, false, false, false, false] rfl rfl (by kernel_rfl) (fun _ _ _ h => h) (Or.inl ⟨by rfl, ?_⟩) ?_ ?_
          rotate_left
          · intro w'
            go_simp
            with_reducible rfl
          rotate_left
          · simp only [Act.put, List.setIfInBounds_toArray, List.set_cons_zero, List.set_cons_succ, i64_w, i32_w]
            rfl
          refine pure_ (i := 11) (N := some 75) (v := ?_) (a' := ?_) #[false, true, true, true, true, true, true, true, true, true, true, true, false, false, false, false, false, false, false, false, false, false, false, false, false, false] rfl rfl (by kernel_rfl) (fun _ _ _ h => h) (Or.inl ⟨by rfl, ?_⟩) ?_ ?_
          rotate_left
          · intro w'
            go_simp
            with_reducible rfl
          rotate_left
          · simp only [Act.put, List.setIfInBounds_toArray, List.set_cons_zero, List.set_cons_succ, i64_w, i32_w]
            rfl
          refine pure_ (i := 12) (N := some 76) (v := undef) (a' := ?_) #[false, true, true, true, true, true, true, true, true, true, true, true, true, false, false, false, false, false, false, false, false, false, false, false, false, false] rfl rfl (by kernel_rfl) (fun _ _ _ h => h) (Or.inr ⟨by rfl, rfl⟩) ?_ ?_
          rotate_left
          · simp only [Act.put, List.setIfInBounds_toArray, List.set_cons_zero, List.set_cons_succ, i64_w, i32_w]
            rfl
          refine pure_ (i := 13) (N := some 77) (v := ?_) (a' := ?_) #[false, true, true, true, true, true, true, true, true, true, true, true, true, true, false, false, false, false, false, false, false, false, false, false, false, false] rfl rfl (by kernel_rfl) (fun _ _ _ h => h) (Or.inl ⟨by rfl, ?_⟩) ?_ ?_
          rotate_left
          · intro w'
            go_simp
            with_reducible rfl
          rotate_left
          · simp only [Act.put, List.setIfInBounds_toArray, List.set_cons_zero, List.set_cons_succ, i64_w, i32_w]
            rfl
          refine pure_ (i := 14) (N := some 78) (v := ?_) (a' := ?_) #[false, true, true, true, true, true, true, true, true, true, true, true, true, true, true, false, false, false, false, false, false, false, false, false, false, false] rfl rfl (by kernel_rfl) (fun _ _ _ h => h) (Or.inl ⟨by rfl, ?_⟩) ?_ ?_
          rotate_left
          · intro w'
            go_simp
            with_reducible rfl
          rotate_left
          · simp only [Act.put, List.setIfInBounds_toArray, List.set_cons_zero, List.set_cons_succ, i64_w, i32_w]
            rfl
          refine pure_ (i := 15) (N := some 79) (v := undef) (a' := ?_) #[false, true, true, true, true, true, true, true, true, true, true, true, true, true, true, true, false, false, false, false, false, false, false, false, false, false] rfl rfl (by kernel_rfl) (fun _ _ _ h => h) (Or.inr ⟨by rfl, rfl⟩) ?_ ?_
          rotate_left
          · simp only [Act.put, List.setIfInBounds_toArray, List.set_cons_zero, List.set_cons_succ, i64_w, i32_w]
            rfl
          refine pure_ (i := 16) (N := some 80) (v := ?_) (a' := ?_) #[false, true, true, true, true, true, true, true, true, true, true, true, true, true, true, true, true, false, false, false, false, false, false, false, false, false] rfl rfl (by kernel_rfl) (fun _ _ _ h => h) (Or.inl ⟨by rfl, ?_⟩) ?_ ?_
          rotate_left
          · intro w'
            go_simp
            with_reducible rfl
          rotate_left
          · simp only [Act.put, List.setIfInBounds_toArray, List.set_cons_zero, List.set_cons_succ, i64_w, i32_w]
            rfl
          refine pure_ (i := 17) (N := some 81) (v := ?_) (a' := ?_) #[false, true, true, true, true, true, true, true, true, true, true, true, true, true, true, true, true, true, false, false, false, false, false, false, false, false] rfl rfl (by kernel_rfl) (fun _ _ _ h => h) (Or.inl ⟨by rfl, ?_⟩) ?_ ?_
          rotate_left
          · intro w'
            go_simp
            with_reducible rfl
          rotate_left
          · simp only [Act.put, List.setIfInBounds_toArray, List.set_cons_zero, List.set_cons_succ, i64_w, i32_w]
            rfl
          refine pure_ (i := 18) (N := some 82) (v := undef) (a' := ?_) #[false, true, true, true, true, true, true, true, true, true, true, true, true, true, true, true, true, true, true, false, false, false, false, false, false, false] rfl rfl (by kernel_rfl) (fun _ _ _ h => h) (Or.inr ⟨by rfl, rfl⟩) ?_ ?_
          rotate_left
          · simp only [Act.put, List.setIfInBounds_toArray, List.set_cons_zero, List.set_cons_succ, i64_w, i32_w]
            rfl
          refine pure_ (i := 19) (N := some 83) (v := undef) (a' := ?_) #[false, true, true, true, true, true, true, true, true, true, true, true, true, true, true, true, true, true, true, true, false, false, false, false, false, false] rfl rfl (by kernel_rfl) (fun _ _ _ h => h) (Or.inr ⟨by rfl, rfl⟩) ?_ ?_
          rotate_left
          · simp only [Act.put, List.setIfInBounds_toArray, List.set_cons_zero, List.set_cons_succ, i64_w, i32_w]
            rfl
          refine pure_ (i := 20) (N := some 84) (v := undef) (a' := ?_) #[false, true, true, true, true, true, true, true, true, true, true, true, true, true, true, true, true, true, true, true, true, false, false, false, false, false] rfl rfl (by kernel_rfl) (fun _ _ _ h => h) (Or.inr ⟨by rfl, rfl⟩) ?_ ?_
          rotate_left
          · simp only [Act.put, List.setIfInBounds_toArray, List.set_cons_zero, List.set_cons_succ, i64_w, i32_w]
            rfl
          refine pure_ (i := 21) (N := some 85) (v := undef) (a' := ?_) #[false, true, true, true, true, true, true, true, true, true, true, true, true, true, true, true, true, true, true, true, true, true, false, false, false, false] rfl rfl (by kernel_rfl) (fun _ _ _ h => h) (Or.inr ⟨by rfl, rfl⟩) ?_ ?_
          rotate_left
          · simp only [Act.put, List.setIfInBounds_toArray, List.set_cons_zero, List.set_cons_succ, i64_w, i32_w]
            rfl
          refine pure_ (i := 22) (N := some 86) (v := undef) (a' := ?_) #[false, true, true, true, true, true, true, true, true, true, true, true, true, true, true, true, true, true, true, true, true, true, true, false, false, false] rfl rfl (by kernel_rfl) (fun _ _ _ h => h) (Or.inr ⟨by rfl, rfl⟩) ?_ ?_
          rotate_left
          · simp only [Act.put, List.setIfInBounds_toArray, List.set_cons_zero, List.set_cons_succ, i64_w, i32_w]
            rfl
          refine pure_ (i := 23) (N := some 87) (v := ?_) (a' := ?_) #[false, true, true, true, true, true, true, true, true, true, true, true, true, true, true, true, true, true, true, true, true, true, true, true, false, false] rfl rfl (by kernel_rfl) (fun _ _ _ h => h) (Or.inl ⟨by rfl, ?_⟩) ?_ ?_
          rotate_left
          · intro w'
            go_simp
            with_reducible rfl
          rotate_left
          · simp only [Act.put, List.setIfInBounds_toArray, List.set_cons_zero, List.set_cons_succ, i64_w, i32_w]
            rfl
          refine take_ (i := 0) (N := some 64) (v := ?_) (a' := ?_) #[true, true, true, true, true, true, true, true, true, true, true, true, true, true, true, true, true, true, true, true, true, true, true, true, false, false] rfl rfl (by kernel_rfl) (fun _ _ _ h => h) (Or.inl ⟨by rfl, ?_⟩) hHeld ?_ ?_
          rotate_left
          · rintro w' ⟨s0, s1, s2, s3, s4⟩
            go_simp
            with_reducible rfl
          rotate_left
          · simp only [Act.put, List.setIfInBounds_toArray, List.set_cons_zero, List.set_cons_succ, i64_w, i32_w]
            rfl
          refine last_ (i := 24) (N := none) #[true, true, true, true, true, true, true, true, true, true, true, true, true, true, true, true, true, true, true, true, true, true, true, true, true, false] rfl rfl (by kernel_rfl) (by decide) (fun K hK => ?_)
          refine skip_ (w1 := ?_) (by rfl) rfl ?_ ?_
          rotate_left
          · go_simp
            rfl
          obtain ⟨w22, hhw22, hbw22, hmw22, hlw22⟩ := fill_all w20 b2 [.int .i64 0, .int .i64 0, .string ⟨#[]⟩, .slice none 0 0, .int .u64 0] [.int .i64 n0, .int .i64 n1, .string kx, .slice A4 n4 c4, .int .u64 n2] 32 HK20.out rfl
          have hcw22 : (((((w20.setCell ⟨b2, 0, none⟩ (.int .i64 n0)).setCell ⟨b2, 1, none⟩ (.int .i64 n1)).setCell ⟨b2, 2, none⟩ (.string kx)).setCell ⟨b2, 3, none⟩ (.slice A4 n4 c4)).setCell ⟨b2, 4, none⟩ (.int .u64 n2)) = w22 := hhw22
          rw [hcw22]
          have BKw22 : Aside0 (w22.heap[b2]? = some (.cells #[.int .i64 n0, .int .i64 n1, .string kx, .slice A4 n4 c4, .int .u64 n2] 32 (0, 0))) := ⟨hbw22⟩
          have Mw22 := Aside0.mk hmw22
          have HLw22 := Aside0.mk hlw22
          clear hhw22 hcw22 hbw22 hmw22 hlw22
          clear z0 z1 z2 z3 z4 fz
          refine hK.out _ _ ?_
          clear hK K
          refine pure_ (i := 25) (N := some 3) (v := ?_) (a' := ?_) #[true, true, true, true, true, true, true, true, true, true, true, true, true, true, true, true, true, true, true, true, true, true, true, true, true, true] rfl rfl (by kernel_rfl) (fun _ _ _ h => h) (Or.inl ⟨by rfl, ?_⟩) ?_ ?_
          rotate_left
          · intro w'
            go_simp
            with_reducible rfl
          rotate_left
          · simp only [Act.put, List.setIfInBounds_toArray, List.set_cons_zero, List.set_cons_succ, i64_w, i32_w]
            rfl
          refine done_ (by kernel_rfl) ?_
          go_wp2_with fail
          refine bodyPost_ret (results_ct rfl _ _ b2 32 #[.int .i64 n0, .int .i64 n1, .string kx, .slice A4 n4 c4, .int .u64 n2] (0, 0) _ rfl BKw22.out Tryd.underlying32 rfl (by kernel_rfl)) rfl ?_
          have hR := R_past HR20.out HL5.out Mw22.out
          exact StepEnd.intro n0 n1 kx A4 l4 c4 n4 n2 false HN4.out (Kd.R_lower hR HLW.out) (.inl ⟨HRS.out, rfl⟩) (HB20.out.trans (by rw [HB2.out]; exact HLw22.out))
      · have HRS : Aside0 (stepP s.data.toList = none) := ⟨by rw [HSP.out, hq0, hq1]; rfl⟩
        refine start_ (n := 26) (S := fun w' => w'.cell? ⟨g, 0, none⟩ = some (.int .i64 n0) ∧ w'.cell? ⟨g, 1, none⟩ = some (.int .i64 n1) ∧ w'.cell? ⟨g, 2, none⟩ = some (.string kx) ∧ w'.cell? ⟨g, 3, none⟩ = some (.slice A4 n4 c4) ∧ w'.cell? ⟨g, 4, none⟩ = some (.int .u64 n2)) (ds := [24]) #[false, false, false, false, false, false, false, false, false, false, false, false, false, false, false, false, false, false, false, false, false, false, false, false, false, false] (by kernel_rfl) rfl rfl ⟨HC5.out.1, HC5.out.2.1, HC5.out.2.2.1, HC5.out.2.2.2.1, HC5.out.2.2.2.2⟩ (fun hHeld => ?_)
        obtain ⟨w20, hw20⟩ : ∃ w20, w20 = W7.drew := ⟨_, rfl⟩
        have HB20 : Aside0 (Below w.heap.size w w20) := ⟨by rw [hw20]; exact HB8.out.drew⟩
        have HQ20 : Aside0 (Below W7.heap.size W7 w20) := ⟨by rw [hw20]; exact (Below.refl _ _).drew⟩
        have HK20 : Aside0 (w20.heap[b2]? = some (.cells #[.int .i64 0, .int .i64 0, .string ⟨#[]⟩, .slice none 0 0, .int .u64 0] 32 (0, 0))) := ⟨by rw [hw20]; exact HK7.out⟩
        have HR20 : Aside0 (U8.R 5 w20 w5.heap.size (fun _ => True) (.slice A4 n4 c4) l4) := ⟨Kd.R_below HR7.out HQ20.out⟩
        have z0 : w20.cell? ⟨b2, 0, none⟩ = some (.int .i64 0) := (blk_cell HK20.out 0).trans rfl
        have z1 : w20.cell? ⟨b2, 1, none⟩ = some (.int .i64 0) := (blk_cell HK20.out 1).trans rfl
        have z2 : w20.cell? ⟨b2, 2, none⟩ = some (.string ⟨#[]⟩) := (blk_cell HK20.out 2).trans rfl
        have z3 : w20.cell? ⟨b2, 3, none⟩ = some (.slice none 0 0) := (blk_cell HK20.out 3).trans rfl
        have z4 : w20.cell? ⟨b2, 4, none⟩ = some (.int .u64 0) := (blk_cell HK20.out 4).trans rfl
        have fz : ∀ j, w20.frozen? ⟨b2, j, none⟩ = false := fun j => blk_frozen HK20.out j
        rw [← hw20] at hHeld ⊢
        clear hw20
        refine pure_ (i := 1) (N := some 65) (v := ?_) (a' := ?_) #[false, true, false, false, false, false, false, false, false, false, false, false, false, false, false, false, false, false, false, false, false, false, false, false, false, false] rfl rfl (by kernel_rfl) (fun _ _ _ h => h) (Or.inl ⟨by rfl, ?_⟩) ?_ ?_
        rotate_left
        · intro w'
          go_simp
          with_reducible rfl
        rotate_left
        · simp only [Act.put, List.setIfInBounds_toArray, List.set_cons_zero, List.set_cons_succ, i64_w, i32_w]
          rfl
        refine pure_ (i := 2) (N := some 66) (v := ?_) (a' := ?_) #[false, true, true, false, false, false, false, false, false, false, false, false, false, false, false, false, false, false, false, false, false, false, false, false, false, false] rfl rfl (by kernel_rfl) (fun _ _ _ h => h) (Or.inl ⟨by rfl, ?_⟩) ?_ ?_
        rotate_left
        · intro w'
          go_simp
          with_reducible rfl
        rotate_left
        · simp only [Act.put, List.setIfInBounds_toArray, List.set_cons_zero, List.set_cons_succ, i64_w, i32_w]
          rfl
        refine pure_ (i := 3) (N := some 67) (v := ?_) (a' := ?_) #[false, true, true, true, false, false, false, false, false, false, false, false, false, false, false, false, false, false, false, false, false, false, false, false, false, false] rfl rfl (by kernel_rfl) (fun _ _ _ h => h) (Or.inl ⟨by rfl, ?_⟩) ?_ ?_
        rotate_left
        · intro w'
          go_simp
          with_reducible rfl
        rotate_left
        · simp only [Act.put, List.setIfInBounds_toArray, List.set_cons_zero, List.set_cons_succ, i64_w, i32_w]
          rfl
        refine pure_ (i := 4) (N := some 68) (v := ?_) (a' := ?_) #[false, true, true, true, true, false, false, false, false, false, false, false, false, false, false, false, false, false, false, false, false, false, false, false, false, false] rfl rfl (by kernel_rfl) (fun _ _ _ h => h) (Or.inl ⟨by rfl, ?_⟩) ?_ ?_
        rotate_left
        · intro w'
          go_simp
          with_reducible rfl
        rotate_left
        · simp only [Act.put, List.setIfInBounds_toArray, List.set_cons_zero, List.set_cons_succ, i64_w, i32_w]
          rfl
        refine pure_ (i := 5) (N := some 69) (v := ?_) (a' := ?_) #[false, true, true, true, true, true, false, false, false, false, false, false, false, false, false, false, false, false, false, false, false, false, false, false, false, false] rfl rfl (by kernel_rfl) (fun _ _ _ h => h) (Or.inl ⟨by rfl, ?_⟩) ?_ ?_
        rotate_left
        · intro w'
          go_simp
          with_reducible rfl
        rotate_left
        · simp only [Act.put, List.setIfInBounds_toArray, List.set_cons_zero, List.set_cons_succ, i64_w, i32_w]
          rfl
        refine pure_ (i := 6) (N := some 70) (v := ?_) (a' := ?_) #[false, true, true, true, true, true, true, false, false, false, false, false, false, false, false, false, false, false, false, false, false, false, false, false, false, false] rfl rfl (by kernel_rfl) (fun _ _ _ h => h) (Or.inl ⟨by rfl, ?_⟩) ?_ ?_
        rotate_left
        · intro w'
          go_simp
          with_reducible rfl
        rotate_left
        · simp only [Act.put, List.setIfInBounds_toArray, List.set_cons_zero, List.set_cons_succ, i64_w, i32_w]
          rfl
        refine pure_ (i := 7) (N := some 71) (v := ?_) (a' := ?_) #[false, true, true, true, true, true, true, true, false, false, false, false, false, false, false, false, false, false, false, false, false, false, false, false, false, false] rfl rfl (by kernel_rfl) (fun _ _ _ h => h) (Or.inl ⟨by rfl, ?_⟩) ?_ ?_
        rotate_left
        · intro w'
          go_simp
          with_reducible rfl
        rotate_left
        · simp only [Act.put, List.setIfInBounds_toArray, List.set_cons_zero, List.set_cons_succ, i64_w, i32_w]
          rfl
        refine pure_ (i := 8) (N := some 72) (v := undef) (a' := ?_) #[false, true, true, true, true, true, true, true, true, false, false, false, false, false, false, false, false, false, false, false, false, false, false, false, false, false] rfl rfl (by kernel_rfl) (fun _ _ _ h => h) (Or.inr ⟨by rfl, rfl⟩) ?_ ?_
        rotate_left
        · simp only [Act.put, List.setIfInBounds_toArray, List.set_cons_zero, List.set_cons_succ, i64_w, i32_w]
          rfl
        refine pure_ (i := 9) (N := some 73) (v := undef) (a' := ?_) #[false, true, true, true, true, true, true, true, true, true, false, false, false, false, false, false, false, false, false, false, false, false, false, false, false, false] rfl rfl (by kernel_rfl) (fun _ _ _ h => h) (Or.inr ⟨by rfl, rfl⟩) ?_ ?_
        rotate_left
        · simp only [Act.put, List.setIfInBounds_toArray, List.set_cons_zero, List.set_cons_succ, i64_w, i32_w]
          rfl
        refine pure_ (i := 10) (N := some 74) (v := ?_) (a' := ?_) #[false, true, true, true, true, true, true, true, true, true, true, false, false, false, false, false, false, false, false, false, false, false, false, false, false, false] rfl rfl (by kernel_rfl) (fun _ _ _ h => h) (Or.inl ⟨by rfl, ?_⟩) ?_ ?_
        rotate_left
        · intro w'
          go_simp
          with_reducible rfl
        rotate_left
        · simp only [Act.put, List.setIfInBounds_toArray, List.set_cons_zero, List.set_cons_succ, i64_w, i32_w]
          rfl
        refine pure_ (i := 11) (N := some 75) (v := ?_) (a' := ?_) #[false, true, true, true, true, true, true, true, true, true, true, true, false, false, false, false, false, false, false, false, false, false, false, false, false, false] rfl rfl (by kernel_rfl) (fun _ _ _ h => h) (Or.inl ⟨by rfl, ?_⟩) ?_ ?_
        rotate_left
        · intro w'
          go_simp
          with_reducible rfl
        rotate_left
        · simp only [Act.put, List.setIfInBounds_toArray, List.set_cons_zero, List.set_cons_succ, i64_w, i32_w]
          rfl
        refine pure_ (i := 12) (N := some 76) (v := undef) (a' := ?_) #[false, true, true, true, true, true, true, true, true, true, true, true, true, false, false, false, false, false, false, false, false, false, false, false, false, false] rfl rfl (by kernel_rfl) (fun _ _ _ h => h) (Or.inr ⟨by rfl, rfl⟩) ?_ ?_
        rotate_left
        · simp only [Act.put, List.setIfInBounds_toArray, List.set_cons_zero, List.set_cons_succ, i64_w, i32_w]
          rfl
        refine pure_ (i := 13) (N := some 77) (v := ?_) (a' := ?_) #[false, true, true, true, true, true, true, true, true, true, true, true, true, true, false, false, false, false, false, false, false, false, false, false, false, false] rfl rfl (by kernel_rfl) (fun _ _ _ h => h) (Or.inl ⟨by rfl, ?_⟩) ?_ ?_
        rotate_left
        · intro w'
          go_simp
          with_reducible rfl
        rotate_left
        · simp only [Act.put, List.setIfInBounds_toArray, List.set_cons_zero, List.set_cons_succ, i64_w, i32_w]
          rfl
        refine pure_ (i := 14) (N := some 78) (v := ?_) (a' := ?_) #[false, true, true, true, true, true, true, true, true, true, true, true, true, true, true, false, false, false, false, false, false, false, false, false, false, false] rfl rfl (by kernel_rfl) (fun _ _ _ h => h) (Or.inl ⟨by rfl, ?_⟩) ?_ ?_
        rotate_left
        · intro w'
          go_simp
          with_reducible rfl
        rotate_left
        · simp only [Act.put, List.setIfInBounds_toArray, List.set_cons_zero, List.set_cons_succ, i64_w, i32_w]
          rfl
        refine pure_ (i := 15) (N := some 79) (v := undef) (a' := ?_) #[false, true, true, true, true, true, true, true, true, true, true, true, true, true, true, true, false, false, false, false, false, false, false, false, false, false] rfl rfl (by kernel_rfl) (fun _ _ _ h => h) (Or.inr ⟨by rfl, rfl⟩) ?_ ?_
        rotate_left
        · simp only [Act.put, List.setIfInBounds_toArray, List.set_cons_zero, List.set_cons_succ, i64_w, i32_w]
          rfl
        refine pure_ (i := 16) (N := some 80) (v := ?_) (a' := ?_) #[false, true, true, true, true, true, true, true, true, true, true, true, true, true, true, true, true, false, false, false, false, false, false, false, false, false] rfl rfl (by kernel_rfl) (fun _ _ _ h => h) (Or.inl ⟨by rfl, ?_⟩) ?_ ?_
        rotate_left
        · intro w'
          go_simp
          with_reducible rfl
        rotate_left
        · simp only [Act.put, List.setIfInBounds_toArray, List.set_cons_zero, List.set_cons_succ, i64_w, i32_w]
          rfl
        refine pure_ (i := 17) (N := some 81) (v := ?_) (a' := ?_) #[false, true, true, true, true, true, true, true, true, true, true, true, true, true, true, true, true, true, false, false, false, false, false, false, false, false] rfl rfl (by kernel_rfl) (fun _ _ _ h => h) (Or.inl ⟨by rfl, ?_⟩) ?_ ?_
        rotate_left
        · intro w'
          go_simp
          with_reducible rfl
        rotate_left
        · simp only [Act.put, List.setIfInBounds_toArray, List.set_cons_zero, List.set_cons_succ, i64_w, i32_w]
          rfl
        refine pure_ (i := 18) (N := some 82) (v := undef) (a' := ?_) #[false, true, true, true, true, true, true, true, true, true, true, true, true, true, true, true, true, true, true, false, false, false, false, false, false, false] rfl rfl (by kernel_rfl) (fun _ _ _ h => h) (Or.inr ⟨by rfl, rfl⟩) ?_ ?_
        rotate_left
        · simp only [Act.put, List.setIfInBounds_toArray, List.set_cons_zero, List.set_cons_succ, i64_w, i32_w]
          rfl
        refine pure_ (i := 19) (N := some 83) (v := undef) (a' := ?_) #[false, true, true, true, true, true, true, true, true, true, true, true, true, true, true, true, true, true, true, true, false, false, false, false, false, false] rfl rfl (by kernel_rfl) (fun _ _ _ h => h) (Or.inr ⟨by rfl, rfl⟩) ?_ ?_
        rotate_left
        · simp only [Act.put, List.setIfInBounds_toArray, List.set_cons_zero, List.set_cons_succ, i64_w, i32_w]
          rfl
        refine pure_ (i := 20) (N := some 84) (v := undef) (a' := ?_) #[false, true, true, true, true, true, true, true, true, true, true, true, true, true, true, true, true, true, true, true, true, false, false, false, false, false] rfl rfl (by kernel_rfl) (fun _ _ _ h => h) (Or.inr ⟨by rfl, rfl⟩) ?_ ?_
        rotate_left
        · simp only [Act.put, List.setIfInBounds_toArray, List.set_cons_zero, List.set_cons_succ, i64_w, i32_w]
          rfl
        refine pure_ (i := 21) (N := some 85) (v := undef) (a' := ?_) #[false, true, true, true, true, true, true, true, true, true, true, true, true, true, true, true, true, true, true, true, true, true, false, false, false, false] rfl rfl (by kernel_rfl) (fun _ _ _ h => h) (Or.inr ⟨by rfl, rfl⟩) ?_ ?_
        rotate_left
        · simp only [Act.put, List.setIfInBounds_toArray, List.set_cons_zero, List.set_cons_succ, i64_w, i32_w]
          rfl
        refine pure_ (i := 22) (N := some 86) (v := undef) (a' := ?_) #[false, true, true, true, true, true, true, true, true, true, true, true, true, true, true, true, true, true, true, true, true, true, true, false, false, false] rfl rfl (by kernel_rfl) (fun _ _ _ h => h) (Or.inr ⟨by rfl, rfl⟩) ?_ ?_
        rotate_left
        · simp only [Act.put, List.setIfInBounds_toArray, List.set_cons_zero, List.set_cons_succ, i64_w, i32_w]
          rfl
        refine pure_ (i := 23) (N := some 87) (v := ?_) (a' := ?_) #[false, true, true, true, true, true, true, true, true, true, true, true, true, true, true, true, true, true, true, true, true, true, true, true, false, false] rfl rfl (by kernel_rfl) (fun _ _ _ h => h) (Or.inl ⟨by rfl, ?_⟩) ?_ ?_
        rotate_left
        · intro w'
          go_simp
          with_reducible rfl
        rotate_left
        · simp only [Act.put, List.setIfInBounds_toArray, List.set_cons_zero, List.set_cons_succ, i64_w, i32_w]
          rfl
        refine take_ (i := 0) (N := some 64) (v := ?_) (a' := ?_) #[true, true, true, true, true, true, true, true, true, true, true, true, true, true, true, true, true, true, true, true, true, true, true, true, false, false] rfl rfl (by kernel_rfl) (fun _ _ _ h => h) (Or.inl ⟨by rfl, ?_⟩) hHeld ?_ ?_
        rotate_left
        · rintro w' ⟨s0, s1, s2, s3, s4⟩
          go_simp
          with_reducible rfl
        rotate_left
        · simp only [Act.put, List.setIfInBounds_toArray, List.set_cons_zero, List.set_cons_succ, i64_w, i32_w]
          rfl
        refine last_ (i := 24) (N := none) #[true, true, true, true, true, true, true, true, true, true, true, true, true, true, true, true, true, true, true, true, true, true, true, true, true, false] rfl rfl (by kernel_rfl) (by decide) (fun K hK => ?_)
        refine skip_ (w1 := ?_) (by rfl) rfl ?_ ?_
        rotate_left
        · go_simp
          rfl
        obtain ⟨w22, hhw22, hbw22, hmw22, hlw22⟩ := fill_all w20 b2 [.int .i64 0, .int .i64 0, .string ⟨#[]⟩, .slice none 0 0, .int .u64 0] [.int .i64 n0, .int .i64 n1, .string kx, .slice A4 n4 c4, .int .u64 n2] 32 HK20.out rfl
        have hcw22 : (((((w20.setCell ⟨b2, 0, none⟩ (.int .i64 n0)).setCell ⟨b2, 1, none⟩ (.int .i64 n1)).setCell ⟨b2, 2, none⟩ (.string kx)).setCell ⟨b2, 3, none⟩ (.slice A4 n4 c4)).setCell ⟨b2, 4, none⟩ (.int .u64 n2)) = w22 := hhw22
        rw [hcw22]
        have BKw22 : Aside0 (w22.heap[b2]? = some (.cells #[.int .i64 n0, .int .i64 n1, .string kx, .slice A4 n4 c4, .int .u64 n2] 32 (0, 0))) := ⟨hbw22⟩
        have Mw22 := Aside0.mk hmw22
        have HLw22 := Aside0.mk hlw22
        clear hhw22 hcw22 hbw22 hmw22 hlw22
        clear z0 z1 z2 z3 z4 fz
        refine hK.out _ _ ?_
        clear hK K
        refine pure_ (i := 25) (N := some 3) (v := ?_) (a' := ?_) #[true, true, true, true, true, true, true, true, true, true, true, true, true, true, true, true, true, true, true, true, true, true, true, true, true, true] rfl rfl (by kernel_rfl) (fun _ _ _ h => h) (Or.inl ⟨by rfl, ?_⟩) ?_ ?_
        rotate_left
        · intro w'
          go_simp
          with_reducible rfl
        rotate_left
        · simp only [Act.put, List.setIfInBounds_toArray, List.set_cons_zero, List.set_cons_succ, i64_w, i32_w]
          rfl
        refine done_ (by kernel_rfl) ?_
        go_wp2_with fail
        refine bodyPost_ret (results_ct rfl _ _ b2 32 #[.int .i64 n0, .int .i64 n1, .string kx, .slice A4 n4 c4, .int .u64 n2] (0, 0) _ rfl BKw22.out Tryd.underlying32 rfl (by kernel_rfl)) rfl ?_
        have hR := R_past HR20.out HL5.out Mw22.out
        exact StepEnd.intro n0 n1 kx A4 l4 c4 n4 n2 false HN4.out (Kd.R_lower hR HLW.out) (.inl ⟨HRS.out, rfl⟩) (HB20.out.trans (by rw [HB2.out]; exact HLw22.out))
    · have HRS : Aside0 (stepP s.data.toList = none) := ⟨by rw [HSP.out, hq0]; rfl⟩
      refine start_ (n := 26) (S := fun w' => w'.cell? ⟨g, 0, none⟩ = some (.int .i64 n0) ∧ w'.cell? ⟨g, 1, none⟩ = some (.int .i64 n1) ∧ w'.cell? ⟨g, 2, none⟩ = some (.string kx) ∧ w'.cell? ⟨g, 3, none⟩ = some (.slice A4 n4 c4) ∧ w'.cell? ⟨g, 4, none⟩ = some (.int .u64 n2)) (ds := [24]) #[false, false, false, false, false, false, false, false, false, false, false, false, false, false, false, false, false, false, false, false, false, false, false, false, false, false] (by kernel_rfl) rfl rfl ⟨HC5.out.1, HC5.out.2.1, HC5.out.2.2.1, HC5.out.2.2.2.1, HC5.out.2.2.2.2⟩ (fun hHeld => ?_)
      obtain ⟨w20, hw20⟩ : ∃ w20, w20 = W7.drew := ⟨_, rfl⟩
      have HB20 : Aside0 (Below w.heap.size w w20) := ⟨by rw [hw20]; exact HB8.out.drew⟩
      have HQ20 : Aside0 (Below W7.heap.size W7 w20) := ⟨by rw [hw20]; exact (Below.refl _ _).drew⟩
      have HK20 : Aside0 (w20.heap[b2]? = some (.cells #[.int .i64 0, .int .i64 0, .string ⟨#[]⟩, .slice none 0 0, .int .u64 0] 32 (0, 0))) := ⟨by rw [hw20]; exact HK7.out⟩
      have HR20 : Aside0 (U8.R 5 w20 w5.heap.size (fun _ => True) (.slice A4 n4 c4) l4) := ⟨Kd.R_below HR7.out HQ20.out⟩
      have z0 : w20.cell? ⟨b2, 0, none⟩ = some (.int .i64 0) := (blk_cell HK20.out 0).trans rfl
      have z1 : w20.cell? ⟨b2, 1, none⟩ = some (.int .i64 0) := (blk_cell HK20.out 1).trans rfl
      have z2 : w20.cell? ⟨b2, 2, none⟩ = some (.string ⟨#[]⟩) := (blk_cell HK20.out 2).trans rfl
      have z3 : w20.cell? ⟨b2, 3, none⟩ = some (.slice none 0 0) := (blk_cell HK20.out 3).trans rfl
      have z4 : w20.cell? ⟨b2, 4, none⟩ = some (.int .u64 0) := (blk_cell HK20.out 4).trans rfl
      have fz : ∀ j, w20.frozen? ⟨b2, j, none⟩ = false := fun j => blk_frozen HK20.out j
      rw [← hw20] at hHeld ⊢
      clear hw20
      refine pure_ (i := 1) (N := some 65) (v := ?_) (a' := ?_) #[false, true, false, false, false, false, false, false, false, false, false, false, false, false, false, false, false, false, false, false, false, false, false, false, false, false] rfl rfl (by kernel_rfl) (fun _ _ _ h => h) (Or.inl ⟨by rfl, ?_⟩) ?_ ?_
      rotate_left
      · intro w'
        go_simp
        with_reducible rfl
      rotate_left
      · simp only [Act.put, List.setIfInBounds_toArray, List.set_cons_zero, List.set_cons_succ, i64_w, i32_w]
        rfl
      refine pure_ (i := 2) (N := some 66) (v := ?_) (a' := ?_) #[false, true, true, false, false, false, false, false, false, false, false, false, false, false, false, false, false, false, false, false, false, false, false, false, false, false] rfl rfl (by kernel_rfl) (fun _ _ _ h => h) (Or.inl ⟨by rfl, ?_⟩) ?_ ?_
      rotate_left
      · intro w'
        go_simp
        with_reducible rfl
      rotate_left
      · simp only [Act.put, List.setIfInBounds_toArray, List.set_cons_zero, List.set_cons_succ, i64_w, i32_w]
        rfl
      refine pure_ (i := 3) (N := some 67) (v := ?_) (a' := ?_) #[false, true, true, true, false, false, false, false, false, false, false, false, false, false, false, false, false, false, false, false, false, false, false, false, false, false] rfl rfl (by kernel_rfl) (fun _ _ _ h => h) (Or.inl ⟨by rfl, ?_⟩) ?_ ?_
      rotate_left
      · intro w'
        go_simp
        with_reducible rfl
      rotate_left
      · simp only [Act.put, List.setIfInBounds_toArray, List.set_cons_zero, List.set_cons_succ, i64_w, i32_w]
        rfl
      refine pure_ (i := 4) (N := some 68) (v := undef) (a' := ?_) #[false, true, true, true, true, false, false, false, false, false, false, false, false, false, false, false, false, false, false, false, false, false, false, false, false, false] rfl rfl (by kernel_rfl) (fun _ _ _ h => h) (Or.inr ⟨by rfl, rfl⟩) ?_ ?_
      rotate_left
      · simp only [Act.put, List.setIfInBounds_toArray, List.set_cons_zero, List.set_cons_succ, i64_w, i32_w]
        rfl
      refine pure_ (i := 5) (N := some 69) (v := undef) (a' := ?_) #[false, true, true, true, true, true, false, false, false, false, false, false, false, false, false, false, false, false, false, false, false, false, false, false, false, false] rfl rfl (by kernel_rfl) (fun _ _ _ h => h) (Or.inr ⟨by rfl, rfl⟩) ?_ ?_
      rotate_left
      · simp only [Act.put, List.setIfInBounds_toArray, List.set_cons_zero, List.set_cons_succ, i64_w, i32_w]
        rfl
      refine pure_ (i := 6) (N := some 70) (v := ?_) (a' := ?_) #[false, true, true, true, true, true, true, false, false, false, false, false, false, false, false, false, false, false, false, false, false, false, false, false, false, false] rfl rfl (by kernel_rfl) (fun _ _ _ h => h) (Or.inl ⟨by rfl, ?_⟩) ?_ ?_
      rotate_left
      · intro w'
        go_simp
        with_reducible rfl
      rotate_left
      · simp only [Act.put, List.setIfInBounds_toArray, List.set_cons_zero, List.set_cons_succ, i64_w, i32_w]
        rfl
      refine pure_ (i := 7) (N := some 71) (v := ?_) (a' := ?_) #[false, true, true, true, true, true, true, true, false, false, false, false, false, false, false, false, false, false, false, false, false, false, false, false, false, false] rfl rfl (by kernel_rfl) (fun _ _ _ h => h) (Or.inl ⟨by rfl, ?_⟩) ?_ ?_
      rotate_left
      · intro w'
        go_simp
        with_reducible rfl
      rotate_left
      · simp only [Act.put, List.setIfInBounds_toArray, List.set_cons_zero, List.set_cons_succ, i64_w, i32_w]
        rfl
      refine pure_ (i := 8) (N := some 72) (v := undef) (a' := ?_) #[false, true, true, true, true, true, true, true, true, false, false, false, false, false, false, false, false, false, false, false, false, false, false, false, false, false] rfl rfl (by kernel_rfl) (fun _ _ _ h => h) (Or.inr ⟨by rfl, rfl⟩) ?_ ?_
      rotate_left
      · simp only [Act.put, List.setIfInBounds_toArray, List.set_cons_zero, List.set_cons_succ, i64_w, i32_w]
        rfl
      refine pure_ (i := 9) (N := some 73) (v := undef) (a' := ?_) #[false, true, true, true, true, true, true, true, true, true, false, false, false, false, false, false, false, false, false, false, false, false, false, false, false, false] rfl rfl (by kernel_rfl) (fun _ _ _ h => h) (Or.inr ⟨by rfl, rfl⟩) ?_ ?_
      rotate_left
      · simp only [Act.put, List.setIfInBounds_toArray, List.set_cons_zero, List.set_cons_succ, i64_w, i32_w]
        rfl
      refine pure_ (i := 10) (N := some 74) (v := ?_) (a' := ?_) #[false, true, true, true, true, true, true, true, true, true, true, false, false, false, false, false, false, false, false, false, false, false, false, false, false, false] rfl rfl (by kernel_rfl) (fun _ _ _ h => h) (Or.inl ⟨by rfl, ?_⟩) ?_ ?_
      rotate_left
      · intro w'
        go_simp
        with_reducible rfl
      rotate_left
      · simp only [Act.put, List.setIfInBounds_toArray, List.set_cons_zero, List.set_cons_succ, i64_w, i32_w]
        rfl
      refine pure_ (i := 11) (N := some 75) (v := ?_) (a' := ?_) #[false, true, true, true, true, true, true, true, true, true, true, true, false, false, false, false, false, false, false, false, false, false, false, false, false, false] rfl rfl (by kernel_rfl) (fun _ _ _ h => h) (Or.inl ⟨by rfl, ?_⟩) ?_ ?_
      rotate_left
      · intro w'
        go_simp
        with_reducible rfl
      rotate_left
      · simp only [Act.put, List.setIfInBounds_toArray, List.set_cons_zero, List.set_cons_succ, i64_w, i32_w]
        rfl
      refine pure_ (i := 12) (N := some 76) (v := undef) (a' := ?_) #[false, true, true, true, true, true, true, true, true, true, true, true, true, false, false, false, false, false, false, false, false, false, false, false, false, false] rfl rfl (by kernel_rfl) (fun _ _ _ h => h) (Or.inr ⟨by rfl, rfl⟩) ?_ ?_
      rotate_left
      · simp only [Act.put, List.setIfInBounds_toArray, List.set_cons_zero, List.set_cons_succ, i64_w, i32_w]
        rfl
      refine pure_ (i := 13) (N := some 77) (v := ?_) (a' := ?_) #[false, true, true, true, true, true, true, true, true, true, true, true, true, true, false, false, false, false, false, false, false, false, false, false, false, false] rfl rfl (by kernel_rfl) (fun _ _ _ h => h) (Or.inl ⟨by rfl, ?_⟩) ?_ ?_
      rotate_left
      · intro w'
        go_simp
        with_reducible rfl
      rotate_left
      · simp only [Act.put, List.setIfInBounds_toArray, List.set_cons_zero, List.set_cons_succ, i64_w, i32_w]
        rfl
      refine pure_ (i := 14) (N := some 78) (v := ?_) (a' := ?_) #[false, true, true, true, true, true, true, true, true, true, true, true, true, true, true, false, false, false, false, false, false, false, false, false, false, false] rfl rfl (by kernel_rfl) (fun _ _ _ h => h) (Or.inl ⟨by rfl, ?_⟩) ?_ ?_
      rotate_left
      · intro w'
        go_simp
        with_reducible rfl
      rotate_left
      · simp only [Act.put, List.setIfInBounds_toArray, List.set_cons_zero, List.set_cons_succ, i64_w, i32_w]
        rfl
      refine pure_ (i := 15) (N := some 79) (v := undef) (a' := ?_) #[false, true, true, true, true, true, true, true, true, true, true, true, true, true, true, true, false, false, false, false, false, false, false, false, false, false] rfl rfl (by kernel_rfl) (fun _ _ _ h => h) (Or.inr ⟨by rfl, rfl⟩) ?_ ?_
      rotate_left
      · simp only [Act.put, List.setIfInBounds_toArray, List.set_cons_zero, List.set_cons_succ, i64_w, i32_w]
        rfl
      refine pure_ (i := 16) (N := some 80) (v := ?_) (a' := ?_) #[false, true, true, true, true, true, true, true, true, true, true, true, true, true, true, true, true, false, false, false, false, false, false, false, false, false] rfl rfl (by kernel_rfl) (fun _ _ _ h => h) (Or.inl ⟨by rfl, ?_⟩) ?_ ?_
      rotate_left
      · intro w'
        go_simp
        with_reducible rfl
      rotate_left
      · simp only [Act.put, List.setIfInBounds_toArray, List.set_cons_zero, List.set_cons_succ, i64_w, i32_w]
        rfl
      refine pure_ (i := 17) (N := some 81) (v := ?_) (a' := ?_) #[false, true, true, true, true, true, true, true, true, true, true, true, true, true, true, true, true, true, false, false, false, false, false, false, false, false] rfl rfl (by kernel_rfl) (fun _ _ _ h => h) (Or.inl ⟨by rfl, ?_⟩) ?_ ?_
      rotate_left
      · intro w'
        go_simp
        with_reducible rfl
      rotate_left
      · simp only [Act.put, List.setIfInBounds_toArray, List.set_cons_zero, List.set_cons_succ, i64_w, i32_w]
        rfl
      refine pure_ (i := 18) (N := some 82) (v := undef) (a' := ?_) #[false, true, true, true, true, true, true, true, true, true, true, true, true, true, true, true, true, true, true, false, false, false, false, false, false, false] rfl rfl (by kernel_rfl) (fun _ _ _ h => h) (Or.inr ⟨by rfl, rfl⟩) ?_ ?_
      rotate_left
      · simp only [Act.put, List.setIfInBounds_toArray, List.set_cons_zero, List.set_cons_succ, i64_w, i32_w]
        rfl
      refine pure_ (i := 19) (N := some 83) (v := undef) (a' := ?_) #[false, true, true, true, true, true, true, true, true, true, true, true, true, true, true, true, true, true, true, true, false, false, false, false, false, false] rfl rfl (by kernel_rfl) (fun _ _ _ h => h) (Or.inr ⟨by rfl, rfl⟩) ?_ ?_
      rotate_left
      · simp only [Act.put, List.setIfInBounds_toArray, List.set_cons_zero, List.set_cons_succ, i64_w, i32_w]
        rfl
      refine pure_ (i := 20) (N := some 84) (v := undef) (a' := ?_) #[false, true, true, true, true, true, true, true, true, true, true, true, true, true, true, true, true, true, true, true, true, false, false, false, false, false] rfl rfl (by kernel_rfl) (fun _ _ _ h => h) (Or.inr ⟨by rfl, rfl⟩) ?_ ?_
      rotate_left
      · simp only [Act.put, List.setIfInBounds_toArray, List.set_cons_zero, List.set_cons_succ, i64_w, i32_w]
        rfl
      refine pure_ (i := 21) (N := some 85) (v := undef) (a' := ?_) #[false, true, true, true, true, true, true, true, true, true, true, true, true, true, true, true, true, true, true, true, true, true, false, false, false, false] rfl rfl (by kernel_rfl) (fun _ _ _ h => h) (Or.inr ⟨by rfl, rfl⟩) ?_ ?_
      rotate_left
      · simp only [Act.put, List.setIfInBounds_toArray, List.set_cons_zero, List.set_cons_succ, i64_w, i32_w]
        rfl
      refine pure_ (i := 22) (N := some 86) (v := undef) (a' := ?_) #[false, true, true, true, true, true, true, true, true, true, true, true, true, true, true, true, true, true, true, true, true, true, true, false, false, false] rfl rfl (by kernel_rfl) (fun _ _ _ h => h) (Or.inr ⟨by rfl, rfl⟩) ?_ ?_
      rotate_left
      · simp only [Act.put, List.setIfInBounds_toArray, List.set_cons_zero, List.set_cons_succ, i64_w, i32_w]
        rfl
      refine pure_ (i := 23) (N := some 87) (v := ?_) (a' := ?_) #[false, true, true, true, true, true, true, true, true, true, true, true, true, true, true, true, true, true, true, true, true, true, true, true, false, false] rfl rfl (by kernel_rfl) (fun _ _ _ h => h) (Or.inl ⟨by rfl, ?_⟩) ?_ ?_
      rotate_left
      · intro w'
        go_simp
        with_reducible rfl
      rotate_left
      · simp only [Act.put, List.setIfInBounds_toArray, List.set_cons_zero, List.set_cons_succ, i64_w, i32_w]
        rfl
      refine take_ (i := 0) (N := some 64) (v := ?_) (a' := ?_) #[true, true, true, true, true, true, true, true, true, true, true, true, true, true, true, true, true, true, true, true, true, true, true, true, false, false] rfl rfl (by kernel_rfl) (fun _ _ _ h => h) (Or.inl ⟨by rfl, ?_⟩) hHeld ?_ ?_
      rotate_left
      · rintro w' ⟨s0, s1, s2, s3, s4⟩
        go_simp
        with_reducible rfl
      rotate_left
      · simp only [Act.put, List.setIfInBounds_toArray, List.set_cons_zero, List.set_cons_succ, i64_w, i32_w]
        rfl
      refine last_ (i := 24) (N := none) #[true, true, true, true, true, true, true, true, true, true, true, true, true, true, true, true, true, true, true, true, true, true, true, true, true, false] rfl rfl (by kernel_rfl) (by decide) (fun K hK => ?_)
      refine skip_ (w1 := ?_) (by rfl) rfl ?_ ?_
      rotate_left
      · go_simp
        rfl
      obtain ⟨w22, hhw22, hbw22, hmw22, hlw22⟩ := fill_all w20 b2 [.int .i64 0, .int .i64 0, .string ⟨#[]⟩, .slice none 0 0, .int .u64 0] [.int .i64 n0, .int .i64 n1, .string kx, .slice A4 n4 c4, .int .u64 n2] 32 HK20.out rfl
      have hcw22 : (((((w20.setCell ⟨b2, 0, none⟩ (.int .i64 n0)).setCell ⟨b2, 1, none⟩ (.int .i64 n1)).setCell ⟨b2, 2, none⟩ (.string kx)).setCell ⟨b2, 3, none⟩ (.slice A4 n4 c4)).setCell ⟨b2, 4, none⟩ (.int .u64 n2)) = w22 := hhw22
      rw [hcw22]
      have BKw22 : Aside0 (w22.heap[b2]? = some (.cells #[.int .i64 n0, .int .i64 n1, .string kx, .slice A4 n4 c4, .int .u64 n2] 32 (0, 0))) := ⟨hbw22⟩
      have Mw22 := Aside0.mk hmw22
      have HLw22 := Aside0.mk hlw22
      clear hhw22 hcw22 hbw22 hmw22 hlw22
      clear z0 z1 z2 z3 z4 fz
      refine hK.out _ _ ?_
      clear hK K
      refine pure_ (i := 25) (N := some 3) (v := ?_) (a' := ?_) #[true, true, true, true, true, true, true, true, true, true, true, true, true, true, true, true, true, true, true, true, true, true, true, true, true, true] rfl rfl (by kernel_rfl) (fun _ _ _ h => h) (Or.inl ⟨by rfl, ?_⟩) ?_ ?_
      rotate_left
      · intro w'
        go_simp
        with_reducible rfl
      rotate_left
      · simp only [Act.put, List.setIfInBounds_toArray, List.set_cons_zero, List.set_cons_succ, i64_w, i32_w]
        rfl
      refine done_ (by kernel_rfl) ?_
      go_wp2_with fail
      refine bodyPost_ret (results_ct rfl _ _ b2 32 #[.int .i64 n0, .int .i64 n1, .string kx, .slice A4 n4 c4, .int .u64 n2] (0, 0) _ rfl BKw22.out Tryd.underlying32 rfl (by kernel_rfl)) rfl ?_
      have hR := R_past HR20.out HL5.out Mw22.out
      exact StepEnd.intro n0 n1 kx A4 l4 c4 n4 n2 false HN4.out (Kd.R_lower hR HLW.out) (.inl ⟨HRS.out, rfl⟩) (HB20.out.trans (by rw [HB2.out]; exact HLw22.out))
  · have hne : Lib.countB s ⟨#[32]⟩ + 1 ≠ 5 := by omega
    have HRS : Aside0 (stepP s.data.toList = none) := ⟨by
      unfold stepP
      have hl : (Lib.split s.data.toList [32]).length = Lib.countB s ⟨#[32]⟩ + 1 := by
        have h := Lib.splitB_data ⟨#[32]⟩ 0 (Lib.countB s ⟨#[32]⟩) s
        have h2 := Lib.splitB_all ⟨#[32]⟩ (by decide) 0 _ s rfl
        rw [Lib.split]
        rw [show Lib.splitK [32] 0 (Lib.count s.data.toList [32]) s.data.toList = _ from h.symm, List.length_map]
        exact h2
      split
      · rename_i h
        rw [h] at hl
        exact absurd hl.symm hne
      · rfl⟩
    have HSS := Aside0.mk (Tryd.strings_Split s ⟨#[32]⟩ m W0 (by omega) HM0.out (by decide))
    have hb1 : Below W0.heap.size W0 (W0.alloc (.cells ((Lib.splitB ⟨#[32]⟩ 0 (Lib.countB s ⟨#[32]⟩) s).map Value.string).toArray 9)) := (Below.refl _ _).alloc (Nat.le_refl _) _
    have hcl := Lib.countB_le ⟨#[32]⟩ (by decide) s.size s (Nat.le_refl _)
    generalize W0.alloc (.cells ((Lib.splitB ⟨#[32]⟩ 0 (Lib.countB s ⟨#[32]⟩) s).map Value.string).toArray 9) = W1 at HSS hb1
    generalize W0.heap.size = g0 at HSS
    generalize Lib.countB s ⟨#[32]⟩ + 1 = N at HSS hne
    have d1 : (N == 5) = false := by simpa using hne
    have d2 : ((N : Int) == 5) = false := by simp; omega
    have HB1 : Aside0 (Below w.heap.size w W1) := ⟨HB0.out.trans (hb1.mono HB0.out.size)⟩
    have HK1 : Aside0 (W1.heap[b2]? = some (.cells #[.int .i64 0, .int .i64 0, .string ⟨#[]⟩, .slice none 0 0, .int .u64 0] 32 (0, 0))) := ⟨(hb1.block _ HSZ.out).trans HK0.out⟩
    have z0 : W1.cell? ⟨b2, 0, none⟩ = some (.int .i64 0) := (blk_cell HK1.out 0).trans rfl
    have z1 : W1.cell? ⟨b2, 1, none⟩ = some (.int .i64 0) := (blk_cell HK1.out 1).trans rfl
    have z2 : W1.cell? ⟨b2, 2, none⟩ = some (.string ⟨#[]⟩) := (blk_cell HK1.out 2).trans rfl
    have z3 : W1.cell? ⟨b2, 3, none⟩ = some (.slice none 0 0) := (blk_cell HK1.out 3).trans rfl
    have z4 : W1.cell? ⟨b2, 4, none⟩ = some (.int .u64 0) := (blk_cell HK1.out 4).trans rfl
    have fz : ∀ j, W1.frozen? ⟨b2, j, none⟩ = false := fun j => blk_frozen HK1.out j
    clear hb1 hne hc hcl
    go_enter Tryd.func17, Tryd.ntmps17
    go_wp2_with fail
    refine HSS.out.mono ?_
    rintro e w1 ⟨rfl, hw1⟩
    rw [hw1]
    clear hw1
    go_wp2_with fail
    obtain ⟨w22, hhw, hbw, hmw, hlw⟩ := fill_all W1 b2 [.int .i64 0, .int .i64 0, .string ⟨#[]⟩, .slice none 0 0, .int .u64 0] [.int .i64 0, .int .i64 0, .string ⟨#[]⟩, .slice none 0 0, .int .u64 0] 32 HK1.out rfl
    have hcw : (((((W1.setCell ⟨b2, 0, none⟩ (.int .i64 0)).setCell ⟨b2, 1, none⟩ (.int .i64 0)).setCell ⟨b2, 2, none⟩ (.string ⟨#[]⟩)).setCell ⟨b2, 3, none⟩ (.slice none 0 0)).setCell ⟨b2, 4, none⟩ (.int .u64 0)) = w22 := hhw
    rw [hcw]
    refine bodyPost_ret (results_ct rfl _ _ b2 32 #[.int .i64 0, .int .i64 0, .string ⟨#[]⟩, .slice none 0 0, .int .u64 0] (0, 0) _ rfl hbw Tryd.underlying32 rfl (by kernel_rfl)) rfl ?_
    exact StepEnd.intro 0 0 ⟨#[]⟩ none [] 0 0 0 false rfl (Kd.R_nil _ _ _ _ _) (.inl ⟨HRS.out, rfl⟩) (HB1.out.trans (by rw [HB2.out]; exact hlw))
end Go.Proofs.YtganhhhkmcmngaaDoor.Sc
