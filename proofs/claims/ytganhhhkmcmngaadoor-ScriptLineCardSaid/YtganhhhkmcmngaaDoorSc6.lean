/- Scripts: what the program prints, and the law's text. -/
import Derived.Test.YtganhhhkmcmngaaDoorProg
import Derived.Below
import Derived.Deep.Draws
import Derived.Deep.AppendLies
import Derived.Maps.AppendAt
import Derived.OwnWalk
import Derived.Laws.BytesArg
import Derived.Laws.MakeOwn
import Derived.Laws.OwnMore
import Derived.Deep.OwnRows
import Derived.Tactics
import Derived.Lib.ConvBytes
import Derived.Laws.Slices
import Derived.WalkKit
import Derived.KernelRfl
import Derived.RowKit3
import Derived.Deep.LoopGhost
import Derived.Deep.QuietTactic
import Derived.BigQuiet
import Derived.WideLaws
import Derived.Deep.DeepCutAuto
import Derived.Deep.CutBlock
import Derived.Deep.RegionHeld3
import Derived.Laws.Rows
import Derived.Lib.AppendStr
import Derived.ArgAppend
import Derived.Laws.IdiomCopy
import Derived.OrdersHeld
import Derived.Laws.BitsLemmas
import Derived.RowKit
import Derived.Test.YtganhhhkmcmngaaDoorWWords
import Derived.Test.YtganhhhkmcmngaaDoorWLast
import Derived.Test.YtganhhhkmcmngaaDoorWTab
import Derived.Test.YtganhhhkmcmngaaDoorWFour
import Derived.Test.YtganhhhkmcmngaaDoorWQPut
import Derived.Test.YtganhhhkmcmngaaDoorWApart
import Derived.Test.YtganhhhkmcmngaaDoorWArr
import Derived.Test.YtganhhhkmcmngaaDoorWZeros
import Derived.Test.YtganhhhkmcmngaaDoorWFoot
import Derived.Test.YtganhhhkmcmngaaDoorWKept
import Derived.Test.YtganhhhkmcmngaaDoorWShare
import Derived.Test.YtganhhhkmcmngaaDoorWN
import Derived.Test.YtganhhhkmcmngaaDoorWFootNe
import Derived.Test.YtganhhhkmcmngaaDoorWAt
import Derived.Test.YtganhhhkmcmngaaDoorWEqStruct
import Derived.Test.YtganhhhkmcmngaaDoorWRepsOne
import Derived.Test.YtganhhhkmcmngaaDoorWInv
import Derived.Test.YtganhhhkmcmngaaDoorWInvWords
import Derived.Test.YtganhhhkmcmngaaDoorWGuard
import Derived.Test.YtganhhhkmcmngaaDoorWNEv
import Derived.Test.YtganhhhkmcmngaaDoorWMore
import Derived.Test.YtganhhhkmcmngaaDoorSc5
namespace Go.Proofs.YtganhhhkmcmngaaDoor.Sc
open Go.RowKit Go.Proofs.YtganhhhkmcmngaaDoorW.PrintWords Go.Proofs.YtganhhhkmcmngaaDoorW.PrintLast Go.Proofs.YtganhhhkmcmngaaDoorW.PrintMore
attribute [local go_sem] max2_int min2_int max_two min_two max_three min_three max_four min_four
set_option linter.unusedVariables false
set_option linter.unusedSimpArgs false
open Go.Shelf
theorem builder_below {T e : TypeId} {B b : Nat} {bs : List Value} {W W' : World} (h : Lib.IsBuilderF T e B b bs W) (hb : Below W.heap.size W W') : Lib.IsBuilderF T e B b bs W' := by
  have go : ∀ {p : Value}, Lib.BuilderAtF T e B b p bs W → Lib.BuilderAtF T e B b p bs W' := fun h => by
    have hlt := h.lt
    obtain ⟨hB, v, hv, hown, hne⟩ := h
    exact ⟨hB, v, (hb.block b hlt).trans hv, hown.kept (row := none) ⟨hb.os, hb.tape, hb.output, hb.size, fun k hk _ => hb.block k hk⟩ (Classical.em _), hne⟩
  exact h.elim (fun x => .inl (go x)) (fun x => .inr (go x))
theorem builder_new (w : World) : Lib.IsBuilderF 46 5 w.heap.size w.heap.size (Lib.byteCells []) (w.alloc (.cells #[.pointer none, .slice none 0 0] 46)) :=
  .inl ⟨Nat.le_refl _, .slice none 0 0, heap_alloc_new w _, ⟨rfl, .inl ⟨rfl, rfl⟩⟩, by simp [Value.ownBlock]⟩
theorem strCells_mk (l : List UInt8) : Lib.strCells ⟨l.toArray⟩ = Lib.byteCells l := rfl
theorem textU_take (l : List S32) (q : Nat) (hq : q < l.length) : textU (l.take (q + 1)) = textU (l.take q) ++ (lineU (rd_T32 l (q : Int)) ++ [10]) := by
  have e : rd_T32 l (q : Int) = l[q] := by simp [rd_T32, hq]
  rw [List.take_succ_eq_append_getElem hq, e]
  unfold textU
  rw [List.flatMap_append, List.flatMap_singleton]
theorem wf_at {l : List S32} (h : ∀ x, x ∈ l → WfS x) (q : Nat) (hq : q < l.length) : WfS (rd_T32 l (q : Int)) := by
  have e : rd_T32 l (q : Int) = l[q] := by simp [rd_T32, hq]
  rw [e]; exact h _ (List.getElem_mem hq)
theorem mk_str (l : List UInt8) : ∃ s : ByteArray, (⟨l.toArray⟩ : ByteArray) = s ∧ s.size = l.length := ⟨_, rfl, by show l.toArray.size = _; simp⟩
set_option maxHeartbeats 4000000 in
set_option maxRecDepth 100000 in
theorem print_calls (A : Option Addr) (c n : Nat) (l : List S32) (w : World) (hn : l.length = n) (hC : Kd.C k32 w A n l) (hw : ∀ x, x ∈ l → WfS x) (hl : n ≤ 100000) (hT : Tb w) :
    Calls Tryd.prog 12 #[.slice A n c] w fun e w' => e = .returned (.string ⟨(textU l).toArray⟩) ∧ Below w.heap.size w w' := by
  have HN := Aside0.mk hn
  have HC := Aside0.mk hC
  have HW := Aside0.mk hw
  have HT := Aside0.mk hT
  have HTL : Aside0 (∀ q, (textU (l.take q)).length ≤ 50000100000) := ⟨fun q => by
    have h := textU_len (l.take q) fun x hx => hw x (List.mem_of_mem_take hx)
    rw [List.length_take, hn] at h
    have : min q n ≤ 100000 := by omega
    have : 500001 * min q n ≤ 500001 * 100000 := Nat.mul_le_mul_left _ this
    omega⟩
  clear hn hC hw hT
  go_enter Tryd.func12, Tryd.ntmps12
  go_upto_region 2 with fail
  have HB0 : Aside0 (Below w.heap.size w (w.alloc (.cells #[.pointer none, .slice none 0 0] 46))) := ⟨(Below.refl _ _).alloc (Nat.le_refl _) _⟩
  have HU0 := Aside0.mk (builder_new w)
  obtain ⟨W0, hW0⟩ : ∃ W0, w.alloc (.cells #[.pointer none, .slice none 0 0] 46) = W0 := ⟨_, rfl⟩
  rw [hW0] at HB0 HU0 ⊢
  clear hW0
  go_wp2_with fail
  go_loopw [8] (fun i wr => ∃ q : Nat, q ≤ n ∧ i = .int .i64 q ∧ Aside0 (Lib.IsBuilderF 46 5 w.heap.size w.heap.size (Lib.byteCells (textU (l.take q))) wr) ∧ Aside0 (Below w.heap.size w wr)) (fun i _ => n - (intOf i).toNat)
  case atStart => exact ⟨0, Nat.zero_le _, rfl, HU0, HB0⟩
  case round =>
    obtain ⟨q, hq, rfl, HU, HB⟩ := hrel
    by_cases hlt : q < n
    · have hd : decide (q < n) = true := decide_eq_true hlt
      obtain ⟨ad, A3, c3, e0, x0, x1, x2, x3, x4, l3, g3⟩ := at_T32 HC.out (q : Int) (by omega) (by omega)
      cases e0
      rw [Int.toNat_natCast] at x0 x1 x2 x3 x4
      have HST := Aside0.mk (textU_take l q (by rw [HN.out]; exact hlt))
      have HX := Aside0.mk (wf_at HW.out q (by rw [HN.out]; exact hlt))
      generalize rd_T32 l (q : Int) = x at *
      have y0 := pw_cell_below HB.out x0
      have y1 := pw_cell_below HB.out x1
      have y2 := pw_cell_below HB.out x2
      have y3 := pw_cell_below HB.out x3
      have y4 := pw_cell_below HB.out x4
      have HLC : Aside0 (∀ W, Below w.heap.size w W → Calls Tryd.prog 19 #[.agg #[.int .i64 x.f0, .int .i64 x.f1, .string x.f2, .slice A3 x.f3.length c3, .int .u64 x.f4]] W fun e w' => e = .returned (.string ⟨(lineU x ++ [10]).toArray⟩) ∧ Below W.heap.size W w') := ⟨fun W hb => line_calls x A3 c3 W HX.out (Kd.C_below g3 hb) (HT.out.below hb)⟩
      have HSZ : Aside0 ((Lib.byteCells (textU (l.take q))).length + (⟨(lineU x ++ [10]).toArray⟩ : ByteArray).size ≤ 140737488355328) := ⟨by
        rw [Lib.byteCells, List.length_map]
        have h1 := HTL.out q
        have h2 := lineU_len x HX.out
        have h3 : (⟨(lineU x ++ [10]).toArray⟩ : ByteArray).size = (lineU x ++ [10]).length := by show (lineU x ++ [10]).toArray.size = _; simp
        rw [h3, List.length_append]
        show _ + (_ + 1) ≤ _
        omega⟩
      have HST' : Aside0 (Lib.byteCells (textU (l.take (q + 1))) = Lib.byteCells (textU (l.take q)) ++ Lib.strCells ⟨(lineU x ++ [10]).toArray⟩) := ⟨by rw [HST.out, Lib.byteCells, List.map_append]; rfl⟩
      clear x0 x1 x2 x3 x4 g3 l3 HST
      have HST := HST'
      clear HST'
      generalize (⟨(lineU x ++ [10]).toArray⟩ : ByteArray) = sx at *
      generalize Lib.byteCells (textU (l.take q)) = bs at *
      clear HX
      obtain ⟨k, a, key, lv, u⟩ := x
      dsimp only at *
      generalize lv.length = nv at *
      obtain ⟨ae, hae⟩ : ∃ ae, ad.add (q * 5) = ae := ⟨_, rfl⟩
      rw [hae] at y0 y1 y2 y3 y4
      go_wp2_with fail
      have HB1 : Aside0 (Below wr.heap.size wr (wr.alloc (.cells #[.int .i64 k, .int .i64 a, .string key, .slice A3 nv c3, .int .u64 u] 32))) := ⟨(Below.refl _ _).alloc (Nat.le_refl _) _⟩
      generalize wr.alloc (.cells #[.int .i64 k, .int .i64 a, .string key, .slice A3 nv c3, .int .u64 u] 32) = W1 at HB1 ⊢
      have HB2 : Aside0 (Below w.heap.size w W1) := ⟨HB.out.trans (HB1.out.mono HB.out.size)⟩
      refine (HLC.out W1 HB2.out).mono ?_
      rintro e w2 ⟨rfl, hb2⟩
      have HB3 : Aside0 (Below w.heap.size w w2) := ⟨HB2.out.trans (hb2.mono HB2.out.size)⟩
      have HU3 := Aside0.mk (builder_below HU.out (HB1.out.trans (hb2.mono HB1.out.size)))
      clear hb2
      go_wp2_with fail
      refine (write_calls w.heap.size w.heap.size bs sx w2 HU3.out HSZ.out HB3.out.size).mono ?_
      rintro e w4 ⟨rfl, hu4, hb4⟩
      have HB5 : Aside0 (Below w.heap.size w w4) := ⟨HB3.out.trans hb4⟩
      have HU5 : Aside0 (Lib.IsBuilderF 46 5 w.heap.size w.heap.size (Lib.byteCells (textU (l.take (q + 1)))) w4) := ⟨by
        rw [HST.out]
        exact .inr hu4⟩
      clear hu4 hb4
      go_wp2_with fail
      go_roundw
      case rel => exact ⟨q + 1, by omega, by go_num, HU5, HB5⟩
      case measure => simp [intOf]; omega
    · obtain rfl : q = n := by omega
      have hd : decide (q < q) = false := decide_eq_false (Nat.lt_irrefl q)
      have htk : l.take q = l := List.take_of_length_le (by rw [HN.out]; exact Nat.le_refl _)
      rw [htk] at HU
      go_wp2_with fail
      refine (Tryd.Builder_String_any_f w.heap.size w.heap.size (textU l) wr HU.out HB.out.size).mono ?_
      rintro e w2 ⟨rfl, _, hb2⟩
      have HB3 : Aside0 (Below w.heap.size w w2) := ⟨HB.out.trans hb2⟩
      clear hb2
      go_wp2_with fail
      go_ret
      exact ⟨rfl, HB3.out⟩
set_option maxHeartbeats 4000000 in
set_option maxRecDepth 100000 in
theorem text_calls (A : Option Addr) (c n : Nat) (l : List S32) (w : World) (hn : l.length = n) (hC : Kd.C k32 w A n l) (hw : ∀ x, x ∈ l → WfS x) (hl : n ≤ 100000) :
    Calls Tryd.prog 10 #[.slice A n c] w fun e w' => e = .returned (.string ⟨(textU l).toArray⟩) ∧ Below w.heap.size w w' := by
  have HN := Aside0.mk hn
  have HC := Aside0.mk hC
  have HW := Aside0.mk hw
  have HTL : Aside0 (∀ q, (textU (l.take q)).length ≤ 50000100000) := ⟨fun q => by
    have h := textU_len (l.take q) fun x hx => hw x (List.mem_of_mem_take hx)
    rw [List.length_take, hn] at h
    have : min q n ≤ 100000 := by omega
    have : 500001 * min q n ≤ 500001 * 100000 := Nat.mul_le_mul_left _ this
    omega⟩
  clear hn hC hw
  go_enter Tryd.func10, Tryd.ntmps10
  go_wp2_with fail
  go_loopw [3, 4] (fun v i wr => ∃ q : Nat, q ≤ n ∧ i = .int .i64 q ∧ v = .string ⟨(textU (l.take q)).toArray⟩ ∧ Aside0 (Below w.heap.size w wr)) (fun _ i _ => n - (intOf i).toNat)
  case atStart => exact ⟨0, Nat.zero_le _, rfl, rfl, ⟨Below.refl _ _⟩⟩
  case round =>
    obtain ⟨q, hq, rfl, rfl, HB⟩ := hrel
    by_cases hlt : q < n
    · have hd : decide (q < n) = true := decide_eq_true hlt
      obtain ⟨ad, A3, c3, e0, x0, x1, x2, x3, x4, l3, g3⟩ := at_T32 HC.out (q : Int) (by omega) (by omega)
      cases e0
      rw [Int.toNat_natCast] at x0 x1 x2 x3 x4
      have HX := wf_at HW.out q (by rw [HN.out]; exact hlt)
      have HST := Aside0.mk (textU_take l q (by rw [HN.out]; exact hlt))
      have HTQ := HTL.out q
      generalize rd_T32 l (q : Int) = x at *
      have HLU := Aside0.mk (lineU_len x HX)
      have hlx : lineU x = lineU x := rfl
      obtain ⟨k, a, key, lv, u⟩ := x
      obtain ⟨a0, a1, b0, b1, k0, k1, hk, hlv, hY⟩ := HX
      dsimp only at *
      obtain ⟨m, rfl⟩ : ∃ m : Nat, u = (m : Int) := ⟨u.toNat, by omega⟩
      obtain ⟨nv, hnv⟩ : ∃ nv, lv.length = nv := ⟨_, rfl⟩
      rw [hnv] at x3 l3 g3 hlv
      unfold lineU at HST HLU
      dsimp only at HST HLU
      rw [Int.toNat_natCast] at HST HLU
      have HV := Aside0.mk hnv
      have HG3 := Aside0.mk g3
      have HW2 : Aside0 (-9223372036854775808 ≤ k ∧ k ≤ 9223372036854775807 ∧ -9223372036854775808 ≤ a ∧ a ≤ 9223372036854775807 ∧ m < 18446744073709551616 ∧ key.size ≤ 100000 ∧ nv ≤ 100000 ∧ Byt lv) := ⟨a0, a1, b0, b1, by omega, hk, hlv, hY⟩
      have hS1 := itoa_len k a0 a1
      have hS2 := itoa_len a b0 b1
      have hS3 := dec_short m (by omega)
      have hS4 := hexU_len (bytesOf key)
      rw [bytesOf_length] at hS4
      have hS5 := hexU_len lv
      rw [hnv] at hS5
      clear a0 a1 b0 b1 k0 k1 hY hnv g3
      obtain ⟨s0, hs0⟩ : ∃ s, textU (l.take q) = s := ⟨_, rfl⟩
      obtain ⟨s1, hs1⟩ : ∃ s, Lib.itoa k = s := ⟨_, rfl⟩
      obtain ⟨s2, hs2⟩ : ∃ s, Lib.itoa a = s := ⟨_, rfl⟩
      obtain ⟨s3, hs3⟩ : ∃ s, Lib.decDigits m = s := ⟨_, rfl⟩
      obtain ⟨s4, hs4⟩ : ∃ s, hexU (bytesOf key) = s := ⟨_, rfl⟩
      obtain ⟨s5, hs5⟩ : ∃ s, hexU lv = s := ⟨_, rfl⟩
      rw [hs0] at HTQ HST ⊢
      rw [hs1] at hS1 HST
      rw [hs2] at hS2 HST
      rw [hs3] at hS3 HST
      rw [hs4] at hS4 HST
      rw [hs5] at hS5 HST
      have hE1 : (⟨(Lib.itoa k).toArray⟩ : ByteArray) = ⟨s1.toArray⟩ := by rw [hs1]
      have hE2 : (⟨(Lib.itoa a).toArray⟩ : ByteArray) = ⟨s2.toArray⟩ := by rw [hs2]
      have hE3 : (⟨(Lib.decDigits m).toArray⟩ : ByteArray) = ⟨s3.toArray⟩ := by rw [hs3]
      have hE4 : (⟨(hexU (bytesOf key)).toArray⟩ : ByteArray) = ⟨s4.toArray⟩ := by rw [hs4]
      have hE5 : (⟨(hexU lv).toArray⟩ : ByteArray) = ⟨s5.toArray⟩ := by rw [hs5]
      clear hs0 hs1 hs2 hs3 hs4 hs5 hlx
      obtain ⟨p0, hp0, z0⟩ := mk_str s0
      obtain ⟨t1, ht1, y1⟩ := mk_str s1
      obtain ⟨t2, ht2, y2⟩ := mk_str s2
      obtain ⟨t3, ht3, y3⟩ := mk_str s3
      obtain ⟨t4, ht4, y4⟩ := mk_str s4
      obtain ⟨t5, ht5, y5⟩ := mk_str s5
      rw [← y1] at hS1
      rw [← y2] at hS2
      rw [← y3] at hS3
      rw [← y4] at hS4
      rw [← y5] at hS5
      rw [← z0] at HTQ
      rw [hp0]
      rw [ht1] at hE1
      rw [ht2] at hE2
      rw [ht3] at hE3
      rw [ht4] at hE4
      rw [ht5] at hE5
      have HE1 := Aside0.mk hE1
      have HE2 := Aside0.mk hE2
      have HE3 := Aside0.mk hE3
      have HE4 := Aside0.mk hE4
      have HE5 := Aside0.mk hE5
      have HFIN : Aside0 (p0 ++ t1 ++ ⟨#[32]⟩ ++ t2 ++ ⟨#[32]⟩ ++ t3 ++ ⟨#[32, 120]⟩ ++ t4 ++ ⟨#[32, 120]⟩ ++ t5 ++ ⟨#[10]⟩ = ⟨(textU (l.take (q + 1))).toArray⟩) := ⟨by
        rw [HST.out, ← hp0, ← ht1, ← ht2, ← ht3, ← ht4, ← ht5]
        apply Go.WideShapes.bytes_inj
        simp⟩
      have HX5 : Aside0 (w.cell? (ad.add (q * 5)) = some (.int .i64 k) ∧ w.cell? ⟨(ad.add (q * 5)).block, (ad.add (q * 5)).off + 1, none⟩ = some (.int .i64 a) ∧ w.cell? ⟨(ad.add (q * 5)).block, (ad.add (q * 5)).off + 2, none⟩ = some (.string key) ∧ w.cell? ⟨(ad.add (q * 5)).block, (ad.add (q * 5)).off + 3, none⟩ = some (.slice A3 nv c3) ∧ w.cell? ⟨(ad.add (q * 5)).block, (ad.add (q * 5)).off + 4, none⟩ = some (.int .u64 (m : Int))) := ⟨x0, x1, x2, x3, x4⟩
      have HSS : Aside0 (p0.size ≤ 50000100000 ∧ t1.size ≤ 21 ∧ t2.size ≤ 21 ∧ t3.size ≤ 20 ∧ t4.size ≤ 200000 ∧ t5.size ≤ 200000) := ⟨HTQ, hS1, hS2, hS3, by omega, by omega⟩
      clear hE1 hE2 hE3 hE4 hE5 hp0 ht1 ht2 ht3 ht4 ht5 z0 y1 y2 y3 y4 y5 hS1 hS2 hS3 hS4 hS5 HTQ x0 x1 x2 x3 x4 HST HLU hk hlv
      have cat : ∀ a b : ByteArray, (a ++ b).size = a.size + b.size := fun a b => ByteArray.size_append
      obtain ⟨P1, hP1⟩ : ∃ P, p0 ++ t1 = P := ⟨_, rfl⟩
      obtain ⟨P2, hP2⟩ : ∃ P, P1 ++ (⟨#[32]⟩ : ByteArray) = P := ⟨_, rfl⟩
      obtain ⟨P3, hP3⟩ : ∃ P, P2 ++ t2 = P := ⟨_, rfl⟩
      obtain ⟨P4, hP4⟩ : ∃ P, P3 ++ (⟨#[32]⟩ : ByteArray) = P := ⟨_, rfl⟩
      obtain ⟨P5, hP5⟩ : ∃ P, P4 ++ t3 = P := ⟨_, rfl⟩
      obtain ⟨P6, hP6⟩ : ∃ P, P5 ++ (⟨#[32, 120]⟩ : ByteArray) = P := ⟨_, rfl⟩
      obtain ⟨P7, hP7⟩ : ∃ P, P6 ++ t4 = P := ⟨_, rfl⟩
      obtain ⟨P8, hP8⟩ : ∃ P, P7 ++ (⟨#[32, 120]⟩ : ByteArray) = P := ⟨_, rfl⟩
      obtain ⟨P9, hP9⟩ : ∃ P, P8 ++ t5 = P := ⟨_, rfl⟩
      obtain ⟨P10, hP10⟩ : ∃ P, P9 ++ (⟨#[10]⟩ : ByteArray) = P := ⟨_, rfl⟩
      rw [hP1, hP2, hP3, hP4, hP5, hP6, hP7, hP8, hP9, hP10] at HFIN
      have q1 : P1.size = p0.size + t1.size := by rw [← hP1, cat]
      have q2 : P2.size = P1.size + 1 := by rw [← hP2, cat]; rfl
      have q3 : P3.size = P2.size + t2.size := by rw [← hP3, cat]
      have q4 : P4.size = P3.size + 1 := by rw [← hP4, cat]; rfl
      have q5 : P5.size = P4.size + t3.size := by rw [← hP5, cat]
      have q6 : P6.size = P5.size + 2 := by rw [← hP6, cat]; rfl
      have q7 : P7.size = P6.size + t4.size := by rw [← hP7, cat]
      have q8 : P8.size = P7.size + 2 := by rw [← hP8, cat]; rfl
      have q9 : P9.size = P8.size + t5.size := by rw [← hP9, cat]
      have hSS := HSS.out
      have r1 : (9223372036854775807 < p0.size + t1.size) = False := eq_false (by omega)
      have r2 : (9223372036854775807 < P1.size + 1) = False := eq_false (by omega)
      have r3 : (9223372036854775807 < P2.size + t2.size) = False := eq_false (by omega)
      have r4 : (9223372036854775807 < P3.size + 1) = False := eq_false (by omega)
      have r5 : (9223372036854775807 < P4.size + t3.size) = False := eq_false (by omega)
      have r6 : (9223372036854775807 < P5.size + 2) = False := eq_false (by omega)
      have r7 : (9223372036854775807 < P6.size + t4.size) = False := eq_false (by omega)
      have r8 : (9223372036854775807 < P7.size + 2) = False := eq_false (by omega)
      have r9 : (9223372036854775807 < P8.size + t5.size) = False := eq_false (by omega)
      have r10 : (9223372036854775807 < P9.size + 1) = False := eq_false (by omega)
      clear q1 q2 q3 q4 q5 q6 q7 q8 q9 hSS HSS cat
      go_wp2_with fail
      go_upto_region 5 with fail
      refine start_ (n := 43) (S := fun w' => w'.cell? (ad.add (q * 5)) = some (.int .i64 k) ∧ w'.cell? ⟨(ad.add (q * 5)).block, (ad.add (q * 5)).off + 1, none⟩ = some (.int .i64 a) ∧ w'.cell? ⟨(ad.add (q * 5)).block, (ad.add (q * 5)).off + 2, none⟩ = some (.string key) ∧ w'.cell? ⟨(ad.add (q * 5)).block, (ad.add (q * 5)).off + 3, none⟩ = some (.slice A3 nv c3) ∧ w'.cell? ⟨(ad.add (q * 5)).block, (ad.add (q * 5)).off + 4, none⟩ = some (.int .u64 (m : Int))) (ds := []) #[false, false, false, false, false, false, false, false, false, false, false, false, false, false, false, false, false, false, false, false, false, false, false, false, false, false, false, false, false, false, false, false, false, false, false, false, false, false, false, false, false, false, false] (by kernel_rfl) rfl rfl ⟨pw_cell_below HB.out HX5.out.1, pw_cell_below HB.out HX5.out.2.1, pw_cell_below HB.out HX5.out.2.2.1, pw_cell_below HB.out HX5.out.2.2.2.1, pw_cell_below HB.out HX5.out.2.2.2.2⟩ (fun hHeld => ?_)
      obtain ⟨w20, hw20⟩ : ∃ w20, w20 = wr.drew := ⟨_, rfl⟩
      have n0_ : Aside0 (Below w.heap.size w w20) := ⟨by rw [hw20]; exact HB.out.drew⟩
      clear HB
      have HB := n0_
      clear n0_
      rw [← hw20] at hHeld ⊢
      clear hw20
      refine pure_ (i := 0) (N := some 11) (v := ?_) (a' := ?_) #[true, false, false, false, false, false, false, false, false, false, false, false, false, false, false, false, false, false, false, false, false, false, false, false, false, false, false, false, false, false, false, false, false, false, false, false, false, false, false, false, false, false, false] rfl rfl (by kernel_rfl) (fun _ _ _ h => h) (Or.inl ⟨by rfl, ?_⟩) ?_ ?_
      rotate_left
      · intro w'
        go_simp
        with_reducible rfl
      rotate_left
      · simp only [Act.put, List.setIfInBounds_toArray, List.set_cons_zero, List.set_cons_succ, i64_w, i32_w]
        rfl
      refine pure_ (i := 1) (N := some 12) (v := ?_) (a' := ?_) #[true, true, false, false, false, false, false, false, false, false, false, false, false, false, false, false, false, false, false, false, false, false, false, false, false, false, false, false, false, false, false, false, false, false, false, false, false, false, false, false, false, false, false] rfl rfl (by kernel_rfl) (fun _ _ _ h => h) (Or.inl ⟨by rfl, ?_⟩) ?_ ?_
      rotate_left
      · intro w'
        go_simp
        with_reducible rfl
      rotate_left
      · simp only [Act.put, List.setIfInBounds_toArray, List.set_cons_zero, List.set_cons_succ, i64_w, i32_w]
        rfl
      refine pure_ (i := 2) (N := some 13) (v := ?_) (a' := ?_) #[true, true, true, false, false, false, false, false, false, false, false, false, false, false, false, false, false, false, false, false, false, false, false, false, false, false, false, false, false, false, false, false, false, false, false, false, false, false, false, false, false, false, false] rfl rfl (by kernel_rfl) (fun _ _ _ h => h) (Or.inl ⟨by rfl, ?_⟩) ?_ ?_
      rotate_left
      · intro w'
        go_simp
        with_reducible rfl
      rotate_left
      · simp only [Act.put, List.setIfInBounds_toArray, List.set_cons_zero, List.set_cons_succ, i64_w, i32_w]
        rfl
      refine pure_ (i := 3) (N := some 14) (v := ?_) (a' := ?_) #[true, true, true, true, false, false, false, false, false, false, false, false, false, false, false, false, false, false, false, false, false, false, false, false, false, false, false, false, false, false, false, false, false, false, false, false, false, false, false, false, false, false, false] rfl rfl (by kernel_rfl) (fun _ _ _ h => h) (Or.inl ⟨by rfl, ?_⟩) ?_ ?_
      rotate_left
      · intro w'
        go_simp
        with_reducible rfl
      rotate_left
      · simp only [Act.put, List.setIfInBounds_toArray, List.set_cons_zero, List.set_cons_succ, i64_w, i32_w]
        rfl
      refine pure_ (i := 4) (N := some 15) (v := ?_) (a' := ?_) #[true, true, true, true, true, false, false, false, false, false, false, false, false, false, false, false, false, false, false, false, false, false, false, false, false, false, false, false, false, false, false, false, false, false, false, false, false, false, false, false, false, false, false] rfl rfl (by kernel_rfl) (fun _ _ _ h => h) (Or.inl ⟨by rfl, ?_⟩) ?_ ?_
      rotate_left
      · intro w'
        go_simp
        with_reducible rfl
      rotate_left
      · simp only [Act.put, List.setIfInBounds_toArray, List.set_cons_zero, List.set_cons_succ, i64_w, i32_w]
        rfl
      refine pure_ (i := 9) (N := some 20) (v := ?_) (a' := ?_) #[true, true, true, true, true, false, false, false, false, true, false, false, false, false, false, false, false, false, false, false, false, false, false, false, false, false, false, false, false, false, false, false, false, false, false, false, false, false, false, false, false, false, false] rfl rfl (by kernel_rfl) (fun _ _ _ h => h) (Or.inl ⟨by rfl, ?_⟩) ?_ ?_
      rotate_left
      · intro w'
        go_simp
        with_reducible rfl
      rotate_left
      · simp only [Act.put, List.setIfInBounds_toArray, List.set_cons_zero, List.set_cons_succ, i64_w, i32_w]
        rfl
      refine pure_ (i := 10) (N := some 21) (v := ?_) (a' := ?_) #[true, true, true, true, true, false, false, false, false, true, true, false, false, false, false, false, false, false, false, false, false, false, false, false, false, false, false, false, false, false, false, false, false, false, false, false, false, false, false, false, false, false, false] rfl rfl (by kernel_rfl) (fun _ _ _ h => h) (Or.inl ⟨by rfl, ?_⟩) ?_ ?_
      rotate_left
      · intro w'
        go_simp
        with_reducible rfl
      rotate_left
      · simp only [Act.put, List.setIfInBounds_toArray, List.set_cons_zero, List.set_cons_succ, i64_w, i32_w]
        rfl
      refine pure_ (i := 11) (N := some 22) (v := ?_) (a' := ?_) #[true, true, true, true, true, false, false, false, false, true, true, true, false, false, false, false, false, false, false, false, false, false, false, false, false, false, false, false, false, false, false, false, false, false, false, false, false, false, false, false, false, false, false] rfl rfl (by kernel_rfl) (fun _ _ _ h => h) (Or.inl ⟨by rfl, ?_⟩) ?_ ?_
      rotate_left
      · intro w'
        go_simp
        with_reducible rfl
      rotate_left
      · simp only [Act.put, List.setIfInBounds_toArray, List.set_cons_zero, List.set_cons_succ, i64_w, i32_w]
        rfl
      refine pure_ (i := 12) (N := some 23) (v := ?_) (a' := ?_) #[true, true, true, true, true, false, false, false, false, true, true, true, true, false, false, false, false, false, false, false, false, false, false, false, false, false, false, false, false, false, false, false, false, false, false, false, false, false, false, false, false, false, false] rfl rfl (by kernel_rfl) (fun _ _ _ h => h) (Or.inl ⟨by rfl, ?_⟩) ?_ ?_
      rotate_left
      · intro w'
        go_simp
        with_reducible rfl
      rotate_left
      · simp only [Act.put, List.setIfInBounds_toArray, List.set_cons_zero, List.set_cons_succ, i64_w, i32_w]
        rfl
      refine pure_ (i := 17) (N := some 28) (v := ?_) (a' := ?_) #[true, true, true, true, true, false, false, false, false, true, true, true, true, false, false, false, false, true, false, false, false, false, false, false, false, false, false, false, false, false, false, false, false, false, false, false, false, false, false, false, false, false, false] rfl rfl (by kernel_rfl) (fun _ _ _ h => h) (Or.inl ⟨by rfl, ?_⟩) ?_ ?_
      rotate_left
      · intro w'
        go_simp
        with_reducible rfl
      rotate_left
      · simp only [Act.put, List.setIfInBounds_toArray, List.set_cons_zero, List.set_cons_succ, i64_w, i32_w]
        rfl
      refine pure_ (i := 18) (N := some 29) (v := ?_) (a' := ?_) #[true, true, true, true, true, false, false, false, false, true, true, true, true, false, false, false, false, true, true, false, false, false, false, false, false, false, false, false, false, false, false, false, false, false, false, false, false, false, false, false, false, false, false] rfl rfl (by kernel_rfl) (fun _ _ _ h => h) (Or.inl ⟨by rfl, ?_⟩) ?_ ?_
      rotate_left
      · intro w'
        go_simp
        with_reducible rfl
      rotate_left
      · simp only [Act.put, List.setIfInBounds_toArray, List.set_cons_zero, List.set_cons_succ, i64_w, i32_w]
        rfl
      refine pure_ (i := 19) (N := some 30) (v := ?_) (a' := ?_) #[true, true, true, true, true, false, false, false, false, true, true, true, true, false, false, false, false, true, true, true, false, false, false, false, false, false, false, false, false, false, false, false, false, false, false, false, false, false, false, false, false, false, false] rfl rfl (by kernel_rfl) (fun _ _ _ h => h) (Or.inl ⟨by rfl, ?_⟩) ?_ ?_
      rotate_left
      · intro w'
        go_simp
        with_reducible rfl
      rotate_left
      · simp only [Act.put, List.setIfInBounds_toArray, List.set_cons_zero, List.set_cons_succ, i64_w, i32_w]
        rfl
      refine pure_ (i := 20) (N := some 31) (v := ?_) (a' := ?_) #[true, true, true, true, true, false, false, false, false, true, true, true, true, false, false, false, false, true, true, true, true, false, false, false, false, false, false, false, false, false, false, false, false, false, false, false, false, false, false, false, false, false, false] rfl rfl (by kernel_rfl) (fun _ _ _ h => h) (Or.inl ⟨by rfl, ?_⟩) ?_ ?_
      rotate_left
      · intro w'
        go_simp
        with_reducible rfl
      rotate_left
      · simp only [Act.put, List.setIfInBounds_toArray, List.set_cons_zero, List.set_cons_succ, i64_w, i32_w]
        rfl
      refine pure_ (i := 25) (N := some 36) (v := ?_) (a' := ?_) #[true, true, true, true, true, false, false, false, false, true, true, true, true, false, false, false, false, true, true, true, true, false, false, false, false, true, false, false, false, false, false, false, false, false, false, false, false, false, false, false, false, false, false] rfl rfl (by kernel_rfl) (fun _ _ _ h => h) (Or.inl ⟨by rfl, ?_⟩) ?_ ?_
      rotate_left
      · intro w'
        go_simp
        with_reducible rfl
      rotate_left
      · simp only [Act.put, List.setIfInBounds_toArray, List.set_cons_zero, List.set_cons_succ, i64_w, i32_w]
        rfl
      refine pure_ (i := 26) (N := some 37) (v := ?_) (a' := ?_) #[true, true, true, true, true, false, false, false, false, true, true, true, true, false, false, false, false, true, true, true, true, false, false, false, false, true, true, false, false, false, false, false, false, false, false, false, false, false, false, false, false, false, false] rfl rfl (by kernel_rfl) (fun _ _ _ h => h) (Or.inl ⟨by rfl, ?_⟩) ?_ ?_
      rotate_left
      · intro w'
        go_simp
        with_reducible rfl
      rotate_left
      · simp only [Act.put, List.setIfInBounds_toArray, List.set_cons_zero, List.set_cons_succ, i64_w, i32_w]
        rfl
      refine pure_ (i := 27) (N := some 38) (v := ?_) (a' := ?_) #[true, true, true, true, true, false, false, false, false, true, true, true, true, false, false, false, false, true, true, true, true, false, false, false, false, true, true, true, false, false, false, false, false, false, false, false, false, false, false, false, false, false, false] rfl rfl (by kernel_rfl) (fun _ _ _ h => h) (Or.inl ⟨by rfl, ?_⟩) ?_ ?_
      rotate_left
      · intro w'
        go_simp
        with_reducible rfl
      rotate_left
      · simp only [Act.put, List.setIfInBounds_toArray, List.set_cons_zero, List.set_cons_succ, i64_w, i32_w]
        rfl
      refine pure_ (i := 28) (N := some 39) (v := ?_) (a' := ?_) #[true, true, true, true, true, false, false, false, false, true, true, true, true, false, false, false, false, true, true, true, true, false, false, false, false, true, true, true, true, false, false, false, false, false, false, false, false, false, false, false, false, false, false] rfl rfl (by kernel_rfl) (fun _ _ _ h => h) (Or.inl ⟨by rfl, ?_⟩) ?_ ?_
      rotate_left
      · intro w'
        go_simp
        with_reducible rfl
      rotate_left
      · simp only [Act.put, List.setIfInBounds_toArray, List.set_cons_zero, List.set_cons_succ, i64_w, i32_w]
        rfl
      refine pure_ (i := 34) (N := some 45) (v := ?_) (a' := ?_) #[true, true, true, true, true, false, false, false, false, true, true, true, true, false, false, false, false, true, true, true, true, false, false, false, false, true, true, true, true, false, false, false, false, false, true, false, false, false, false, false, false, false, false] rfl rfl (by kernel_rfl) (fun _ _ _ h => h) (Or.inl ⟨by rfl, ?_⟩) ?_ ?_
      rotate_left
      · intro w'
        go_simp
        with_reducible rfl
      rotate_left
      · simp only [Act.put, List.setIfInBounds_toArray, List.set_cons_zero, List.set_cons_succ, i64_w, i32_w]
        rfl
      refine pure_ (i := 35) (N := some 46) (v := ?_) (a' := ?_) #[true, true, true, true, true, false, false, false, false, true, true, true, true, false, false, false, false, true, true, true, true, false, false, false, false, true, true, true, true, false, false, false, false, false, true, true, false, false, false, false, false, false, false] rfl rfl (by kernel_rfl) (fun _ _ _ h => h) (Or.inl ⟨by rfl, ?_⟩) ?_ ?_
      rotate_left
      · intro w'
        go_simp
        with_reducible rfl
      rotate_left
      · simp only [Act.put, List.setIfInBounds_toArray, List.set_cons_zero, List.set_cons_succ, i64_w, i32_w]
        rfl
      refine pure_ (i := 36) (N := some 47) (v := ?_) (a' := ?_) #[true, true, true, true, true, false, false, false, false, true, true, true, true, false, false, false, false, true, true, true, true, false, false, false, false, true, true, true, true, false, false, false, false, false, true, true, true, false, false, false, false, false, false] rfl rfl (by kernel_rfl) (fun _ _ _ h => h) (Or.inl ⟨by rfl, ?_⟩) ?_ ?_
      rotate_left
      · intro w'
        go_simp
        with_reducible rfl
      rotate_left
      · simp only [Act.put, List.setIfInBounds_toArray, List.set_cons_zero, List.set_cons_succ, i64_w, i32_w]
        rfl
      refine pure_ (i := 37) (N := some 48) (v := ?_) (a' := ?_) #[true, true, true, true, true, false, false, false, false, true, true, true, true, false, false, false, false, true, true, true, true, false, false, false, false, true, true, true, true, false, false, false, false, false, true, true, true, true, false, false, false, false, false] rfl rfl (by kernel_rfl) (fun _ _ _ h => h) (Or.inl ⟨by rfl, ?_⟩) ?_ ?_
      rotate_left
      · intro w'
        go_simp
        with_reducible rfl
      rotate_left
      · simp only [Act.put, List.setIfInBounds_toArray, List.set_cons_zero, List.set_cons_succ, i64_w, i32_w]
        rfl
      refine take_ (i := 5) (N := some 16) (v := ?_) (a' := ?_) #[true, true, true, true, true, true, false, false, false, true, true, true, true, false, false, false, false, true, true, true, true, false, false, false, false, true, true, true, true, false, false, false, false, false, true, true, true, true, false, false, false, false, false] rfl rfl (by kernel_rfl) (fun _ _ _ h => h) (Or.inl ⟨by rfl, ?_⟩) hHeld ?_ ?_
      rotate_left
      · rintro w' ⟨s0, s1, s2, s3, s4⟩
        go_simp
        with_reducible rfl
      rotate_left
      · simp only [Act.put, List.setIfInBounds_toArray, List.set_cons_zero, List.set_cons_succ, i64_w, i32_w]
        rfl
      refine take_ (i := 13) (N := some 24) (v := ?_) (a' := ?_) #[true, true, true, true, true, true, false, false, false, true, true, true, true, true, false, false, false, true, true, true, true, false, false, false, false, true, true, true, true, false, false, false, false, false, true, true, true, true, false, false, false, false, false] rfl rfl (by kernel_rfl) (fun _ _ _ h => h) (Or.inl ⟨by rfl, ?_⟩) hHeld ?_ ?_
      rotate_left
      · rintro w' ⟨s0, s1, s2, s3, s4⟩
        go_simp
        with_reducible rfl
      rotate_left
      · simp only [Act.put, List.setIfInBounds_toArray, List.set_cons_zero, List.set_cons_succ, i64_w, i32_w]
        rfl
      refine take_ (i := 21) (N := some 32) (v := ?_) (a' := ?_) #[true, true, true, true, true, true, false, false, false, true, true, true, true, true, false, false, false, true, true, true, true, true, false, false, false, true, true, true, true, false, false, false, false, false, true, true, true, true, false, false, false, false, false] rfl rfl (by kernel_rfl) (fun _ _ _ h => h) (Or.inl ⟨by rfl, ?_⟩) hHeld ?_ ?_
      rotate_left
      · rintro w' ⟨s0, s1, s2, s3, s4⟩
        go_simp
        with_reducible rfl
      rotate_left
      · simp only [Act.put, List.setIfInBounds_toArray, List.set_cons_zero, List.set_cons_succ, i64_w, i32_w]
        rfl
      refine take_ (i := 29) (N := some 40) (v := ?_) (a' := ?_) #[true, true, true, true, true, true, false, false, false, true, true, true, true, true, false, false, false, true, true, true, true, true, false, false, false, true, true, true, true, true, false, false, false, false, true, true, true, true, false, false, false, false, false] rfl rfl (by kernel_rfl) (fun _ _ _ h => h) (Or.inl ⟨by rfl, ?_⟩) hHeld ?_ ?_
      rotate_left
      · rintro w' ⟨s0, s1, s2, s3, s4⟩
        go_simp
        with_reducible rfl
      rotate_left
      · simp only [Act.put, List.setIfInBounds_toArray, List.set_cons_zero, List.set_cons_succ, i64_w, i32_w]
        rfl
      refine take_ (i := 38) (N := some 49) (v := ?_) (a' := ?_) #[true, true, true, true, true, true, false, false, false, true, true, true, true, true, false, false, false, true, true, true, true, true, false, false, false, true, true, true, true, true, false, false, false, false, true, true, true, true, true, false, false, false, false] rfl rfl (by kernel_rfl) (fun _ _ _ h => h) (Or.inl ⟨by rfl, ?_⟩) hHeld ?_ ?_
      rotate_left
      · rintro w' ⟨s0, s1, s2, s3, s4⟩
        go_simp
        with_reducible rfl
      rotate_left
      · simp only [Act.put, List.setIfInBounds_toArray, List.set_cons_zero, List.set_cons_succ, i64_w, i32_w]
        rfl
      refine join_ (σ := Nat × Nat) 7 #[true, true, true, true, true, true, true, true, true, true, true, true, true, true, true, true, true, true, true, true, true, true, true, true, true, true, true, true, true, true, true, false, false, false, true, true, true, true, true, false, false, false, false] (fun s_ => [(17, .string t1), (18, .string P1), (19, .string P2), (25, .string t2), (26, .string P3), (27, .string P4), (33, .string t3), (34, .string P5), (35, .string P6), (41, .slice (some ⟨s_.1, 0, none⟩) key.size s_.2)]) (fun s_ w' => Below w.heap.size w w' ∧ U8.C w' (some ⟨s_.1, 0, none⟩) key.size (bytesOf key)) ?_ ?_
      rotate_left
      · intro hCont
        refine two_ (i := 6) (j := 30) (Ni := some 17) (Nj := some 41) #[true, true, true, true, true, true, true, false, false, true, true, true, true, true, false, false, false, true, true, true, true, true, false, false, false, true, true, true, true, true, false, false, false, false, true, true, true, true, true, false, false, false, false] #[true, true, true, true, true, true, false, false, false, true, true, true, true, true, false, false, false, true, true, true, true, true, false, false, false, true, true, true, true, true, true, false, false, false, true, true, true, true, true, false, false, false, false] rfl rfl rfl rfl (by kernel_rfl) (by decide) (by decide) (fun K hK => ?_) (fun K hK => ?_)
        · skip
          refine goes_ Tryd.func13 (by kernel_rfl) rfl #[.int .i64 k] (by rfl) rfl rfl (by simp only [List.map_toArray, List.map_cons, List.map_nil]; rfl) ?_
          with_reducible refine (num_calls k HW2.out.1 HW2.out.2.1 _).mono ?_
          rintro e w21 ⟨rfl, hb⟩
          rw [HE1.out]
          refine ⟨_, rfl, ?_⟩
          have n0_ := Aside0.mk (HB.out.trans (hb.mono HB.out.size))
          clear HB
          have HB := n0_
          clear n0_
          clear hb
          refine hK.out _ _ ⟨pw_cell_below HB.out HX5.out.1, pw_cell_below HB.out HX5.out.2.1, pw_cell_below HB.out HX5.out.2.2.1, pw_cell_below HB.out HX5.out.2.2.2.1, pw_cell_below HB.out HX5.out.2.2.2.2⟩ (fun hHeld => ?_)
          clear hK K
          refine norm_ (a' := ?_) ?_ ?_
          rotate_left
          · show Act.put _ (some 17) _ = _
            simp only [Act.put, List.setIfInBounds_toArray, List.set_cons_zero, List.set_cons_succ, i64_w, i32_w]
            rfl
          refine pure_ (i := 7) (N := some 18) (v := ?_) (a' := ?_) #[true, true, true, true, true, true, true, true, false, true, true, true, true, true, false, false, false, true, true, true, true, true, false, false, false, true, true, true, true, true, false, false, false, false, true, true, true, true, true, false, false, false, false] rfl rfl (by kernel_rfl) (fun _ _ _ h => h) (Or.inl ⟨by rfl, ?_⟩) ?_ ?_
          rotate_left
          · intro w'
            go_simp
            with_reducible rfl
          rotate_left
          · simp only [Act.put, List.setIfInBounds_toArray, List.set_cons_zero, List.set_cons_succ, i64_w, i32_w]
            rfl
          refine pure_ (i := 8) (N := some 19) (v := ?_) (a' := ?_) #[true, true, true, true, true, true, true, true, true, true, true, true, true, true, false, false, false, true, true, true, true, true, false, false, false, true, true, true, true, true, false, false, false, false, true, true, true, true, true, false, false, false, false] rfl rfl (by kernel_rfl) (fun _ _ _ h => h) (Or.inl ⟨by rfl, ?_⟩) ?_ ?_
          rotate_left
          · intro w'
            go_simp
            with_reducible rfl
          rotate_left
          · simp only [Act.put, List.setIfInBounds_toArray, List.set_cons_zero, List.set_cons_succ, i64_w, i32_w]
            rfl
          refine two_ (i := 14) (j := 30) (Ni := some 25) (Nj := some 41) #[true, true, true, true, true, true, true, true, true, true, true, true, true, true, true, false, false, true, true, true, true, true, false, false, false, true, true, true, true, true, false, false, false, false, true, true, true, true, true, false, false, false, false] #[true, true, true, true, true, true, true, true, true, true, true, true, true, true, false, false, false, true, true, true, true, true, false, false, false, true, true, true, true, true, true, false, false, false, true, true, true, true, true, false, false, false, false] rfl rfl rfl rfl (by kernel_rfl) (by decide) (by decide) (fun K hK => ?_) (fun K hK => ?_)
          · skip
            refine goes_ Tryd.func13 (by kernel_rfl) rfl #[.int .i64 a] (by rfl) rfl rfl (by simp only [List.map_toArray, List.map_cons, List.map_nil]; rfl) ?_
            with_reducible refine (num_calls a HW2.out.2.2.1 HW2.out.2.2.2.1 _).mono ?_
            rintro e w22 ⟨rfl, hb⟩
            rw [HE2.out]
            refine ⟨_, rfl, ?_⟩
            have n0_ := Aside0.mk (HB.out.trans (hb.mono HB.out.size))
            clear HB
            have HB := n0_
            clear n0_
            clear hb
            refine hK.out _ _ ⟨pw_cell_below HB.out HX5.out.1, pw_cell_below HB.out HX5.out.2.1, pw_cell_below HB.out HX5.out.2.2.1, pw_cell_below HB.out HX5.out.2.2.2.1, pw_cell_below HB.out HX5.out.2.2.2.2⟩ (fun hHeld => ?_)
            clear hK K
            refine norm_ (a' := ?_) ?_ ?_
            rotate_left
            · show Act.put _ (some 25) _ = _
              simp only [Act.put, List.setIfInBounds_toArray, List.set_cons_zero, List.set_cons_succ, i64_w, i32_w]
              rfl
            refine pure_ (i := 15) (N := some 26) (v := ?_) (a' := ?_) #[true, true, true, true, true, true, true, true, true, true, true, true, true, true, true, true, false, true, true, true, true, true, false, false, false, true, true, true, true, true, false, false, false, false, true, true, true, true, true, false, false, false, false] rfl rfl (by kernel_rfl) (fun _ _ _ h => h) (Or.inl ⟨by rfl, ?_⟩) ?_ ?_
            rotate_left
            · intro w'
              go_simp
              with_reducible rfl
            rotate_left
            · simp only [Act.put, List.setIfInBounds_toArray, List.set_cons_zero, List.set_cons_succ, i64_w, i32_w]
              rfl
            refine pure_ (i := 16) (N := some 27) (v := ?_) (a' := ?_) #[true, true, true, true, true, true, true, true, true, true, true, true, true, true, true, true, true, true, true, true, true, true, false, false, false, true, true, true, true, true, false, false, false, false, true, true, true, true, true, false, false, false, false] rfl rfl (by kernel_rfl) (fun _ _ _ h => h) (Or.inl ⟨by rfl, ?_⟩) ?_ ?_
            rotate_left
            · intro w'
              go_simp
              with_reducible rfl
            rotate_left
            · simp only [Act.put, List.setIfInBounds_toArray, List.set_cons_zero, List.set_cons_succ, i64_w, i32_w]
              rfl
            refine two_ (i := 22) (j := 30) (Ni := some 33) (Nj := some 41) #[true, true, true, true, true, true, true, true, true, true, true, true, true, true, true, true, true, true, true, true, true, true, true, false, false, true, true, true, true, true, false, false, false, false, true, true, true, true, true, false, false, false, false] #[true, true, true, true, true, true, true, true, true, true, true, true, true, true, true, true, true, true, true, true, true, true, false, false, false, true, true, true, true, true, true, false, false, false, true, true, true, true, true, false, false, false, false] rfl rfl rfl rfl (by kernel_rfl) (by decide) (by decide) (fun K hK => ?_) (fun K hK => ?_)
            · skip
              refine goes_ Tryd.func14 (by kernel_rfl) rfl #[.int .u64 (m : Int)] (by rfl) rfl rfl (by simp only [List.map_toArray, List.map_cons, List.map_nil]; rfl) ?_
              with_reducible refine (dec_calls m _ HW2.out.2.2.2.2.1).mono ?_
              rintro e w23 ⟨rfl, hb⟩
              rw [HE3.out]
              refine ⟨_, rfl, ?_⟩
              have n0_ := Aside0.mk (HB.out.trans (hb.mono HB.out.size))
              clear HB
              have HB := n0_
              clear n0_
              clear hb
              refine hK.out _ _ ⟨pw_cell_below HB.out HX5.out.1, pw_cell_below HB.out HX5.out.2.1, pw_cell_below HB.out HX5.out.2.2.1, pw_cell_below HB.out HX5.out.2.2.2.1, pw_cell_below HB.out HX5.out.2.2.2.2⟩ (fun hHeld => ?_)
              clear hK K
              refine norm_ (a' := ?_) ?_ ?_
              rotate_left
              · show Act.put _ (some 33) _ = _
                simp only [Act.put, List.setIfInBounds_toArray, List.set_cons_zero, List.set_cons_succ, i64_w, i32_w]
                rfl
              refine pure_ (i := 23) (N := some 34) (v := ?_) (a' := ?_) #[true, true, true, true, true, true, true, true, true, true, true, true, true, true, true, true, true, true, true, true, true, true, true, true, false, true, true, true, true, true, false, false, false, false, true, true, true, true, true, false, false, false, false] rfl rfl (by kernel_rfl) (fun _ _ _ h => h) (Or.inl ⟨by rfl, ?_⟩) ?_ ?_
              rotate_left
              · intro w'
                go_simp
                with_reducible rfl
              rotate_left
              · simp only [Act.put, List.setIfInBounds_toArray, List.set_cons_zero, List.set_cons_succ, i64_w, i32_w]
                rfl
              refine pure_ (i := 24) (N := some 35) (v := ?_) (a' := ?_) #[true, true, true, true, true, true, true, true, true, true, true, true, true, true, true, true, true, true, true, true, true, true, true, true, true, true, true, true, true, true, false, false, false, false, true, true, true, true, true, false, false, false, false] rfl rfl (by kernel_rfl) (fun _ _ _ h => h) (Or.inl ⟨by rfl, ?_⟩) ?_ ?_
              rotate_left
              · intro w'
                go_simp
                with_reducible rfl
              rotate_left
              · simp only [Act.put, List.setIfInBounds_toArray, List.set_cons_zero, List.set_cons_succ, i64_w, i32_w]
                rfl
              refine one_ (i := 30) (N := some 41) #[true, true, true, true, true, true, true, true, true, true, true, true, true, true, true, true, true, true, true, true, true, true, true, true, true, true, true, true, true, true, true, false, false, false, true, true, true, true, true, false, false, false, false] rfl rfl (by kernel_rfl) (by decide) (fun K hK => ?_)
              have kb := print_bytes (P := Tryd.prog) 9 30 5 Tryd.underlying9 Tryd.underlying30 Tryd.underlying5 key w23
              refine value_ (w1 := ?_) (v := ?_) (by rfl) rfl ?_ ?_
              rotate_left 2
              · go_simp
                constructor
                · rfl
                · rfl
              clear kb
              have hb := below_bytes w23 key
              have HC := Aside0.mk (str_C w23 key HW2.out.2.2.2.2.2.1)
              generalize Lib.bytesWorld w23 5 key = w24 at hb HC ⊢
              generalize grownCap w23 key.size 0 5 = cp at HC ⊢
              have n0_ := Aside0.mk (HB.out.trans (hb.mono HB.out.size))
              clear HB
              have HB := n0_
              clear n0_
              clear hb
              generalize w23.heap.size = g at HC ⊢
              refine hK.out _ _ ⟨pw_cell_below HB.out HX5.out.1, pw_cell_below HB.out HX5.out.2.1, pw_cell_below HB.out HX5.out.2.2.1, pw_cell_below HB.out HX5.out.2.2.2.1, pw_cell_below HB.out HX5.out.2.2.2.2⟩ (fun hHeld => ?_)
              clear hK K
              refine norm_ (a' := ?_) ?_ ?_
              rotate_left
              · show Act.put _ (some 41) _ = _
                simp only [Act.put, List.setIfInBounds_toArray, List.set_cons_zero, List.set_cons_succ, i64_w, i32_w]
                rfl
              exact norm_ (by simp only [putAll, Act.put, List.setIfInBounds_toArray, List.set_cons_zero, List.set_cons_succ]) (hCont (g, cp) _ ⟨HB.out, HC.out⟩)
            · skip
              have kb := print_bytes (P := Tryd.prog) 9 30 5 Tryd.underlying9 Tryd.underlying30 Tryd.underlying5 key w22
              refine value_ (w1 := ?_) (v := ?_) (by rfl) rfl ?_ ?_
              rotate_left 2
              · go_simp
                constructor
                · rfl
                · rfl
              clear kb
              have hb := below_bytes w22 key
              have HC := Aside0.mk (str_C w22 key HW2.out.2.2.2.2.2.1)
              generalize Lib.bytesWorld w22 5 key = w23 at hb HC ⊢
              generalize grownCap w22 key.size 0 5 = cp at HC ⊢
              have n0_ := Aside0.mk (HB.out.trans (hb.mono HB.out.size))
              clear HB
              have HB := n0_
              clear n0_
              clear hb
              generalize w22.heap.size = g at HC ⊢
              refine hK.out _ _ ⟨pw_cell_below HB.out HX5.out.1, pw_cell_below HB.out HX5.out.2.1, pw_cell_below HB.out HX5.out.2.2.1, pw_cell_below HB.out HX5.out.2.2.2.1, pw_cell_below HB.out HX5.out.2.2.2.2⟩ (fun hHeld => ?_)
              clear hK K
              refine norm_ (a' := ?_) ?_ ?_
              rotate_left
              · show Act.put _ (some 41) _ = _
                simp only [Act.put, List.setIfInBounds_toArray, List.set_cons_zero, List.set_cons_succ, i64_w, i32_w]
                rfl
              refine one_ (i := 22) (N := some 33) #[true, true, true, true, true, true, true, true, true, true, true, true, true, true, true, true, true, true, true, true, true, true, true, false, false, true, true, true, true, true, true, false, false, false, true, true, true, true, true, false, false, false, false] rfl rfl (by kernel_rfl) (by decide) (fun K hK => ?_)
              refine goes_ Tryd.func14 (by kernel_rfl) rfl #[.int .u64 (m : Int)] (by rfl) rfl rfl (by simp only [List.map_toArray, List.map_cons, List.map_nil]; rfl) ?_
              with_reducible refine (dec_calls m _ HW2.out.2.2.2.2.1).mono ?_
              rintro e w24 ⟨rfl, hb⟩
              rw [HE3.out]
              refine ⟨_, rfl, ?_⟩
              have n0_ := Aside0.mk (HB.out.trans (hb.mono HB.out.size))
              clear HB
              have HB := n0_
              clear n0_
              have n0_ := Aside0.mk (Kd.C_below HC.out hb)
              clear HC
              have HC := n0_
              clear n0_
              clear hb
              refine hK.out _ _ ⟨pw_cell_below HB.out HX5.out.1, pw_cell_below HB.out HX5.out.2.1, pw_cell_below HB.out HX5.out.2.2.1, pw_cell_below HB.out HX5.out.2.2.2.1, pw_cell_below HB.out HX5.out.2.2.2.2⟩ (fun hHeld => ?_)
              clear hK K
              refine norm_ (a' := ?_) ?_ ?_
              rotate_left
              · show Act.put _ (some 33) _ = _
                simp only [Act.put, List.setIfInBounds_toArray, List.set_cons_zero, List.set_cons_succ, i64_w, i32_w]
                rfl
              refine pure_ (i := 23) (N := some 34) (v := ?_) (a' := ?_) #[true, true, true, true, true, true, true, true, true, true, true, true, true, true, true, true, true, true, true, true, true, true, true, true, false, true, true, true, true, true, true, false, false, false, true, true, true, true, true, false, false, false, false] rfl rfl (by kernel_rfl) (fun _ _ _ h => h) (Or.inl ⟨by rfl, ?_⟩) ?_ ?_
              rotate_left
              · intro w'
                go_simp
                with_reducible rfl
              rotate_left
              · simp only [Act.put, List.setIfInBounds_toArray, List.set_cons_zero, List.set_cons_succ, i64_w, i32_w]
                rfl
              refine pure_ (i := 24) (N := some 35) (v := ?_) (a' := ?_) #[true, true, true, true, true, true, true, true, true, true, true, true, true, true, true, true, true, true, true, true, true, true, true, true, true, true, true, true, true, true, true, false, false, false, true, true, true, true, true, false, false, false, false] rfl rfl (by kernel_rfl) (fun _ _ _ h => h) (Or.inl ⟨by rfl, ?_⟩) ?_ ?_
              rotate_left
              · intro w'
                go_simp
                with_reducible rfl
              rotate_left
              · simp only [Act.put, List.setIfInBounds_toArray, List.set_cons_zero, List.set_cons_succ, i64_w, i32_w]
                rfl
              exact norm_ (by simp only [putAll, Act.put, List.setIfInBounds_toArray, List.set_cons_zero, List.set_cons_succ]) (hCont (g, cp) _ ⟨HB.out, HC.out⟩)
          · skip
            have kb := print_bytes (P := Tryd.prog) 9 30 5 Tryd.underlying9 Tryd.underlying30 Tryd.underlying5 key w21
            refine value_ (w1 := ?_) (v := ?_) (by rfl) rfl ?_ ?_
            rotate_left 2
            · go_simp
              constructor
              · rfl
              · rfl
            clear kb
            have hb := below_bytes w21 key
            have HC := Aside0.mk (str_C w21 key HW2.out.2.2.2.2.2.1)
            generalize Lib.bytesWorld w21 5 key = w22 at hb HC ⊢
            generalize grownCap w21 key.size 0 5 = cp at HC ⊢
            have n0_ := Aside0.mk (HB.out.trans (hb.mono HB.out.size))
            clear HB
            have HB := n0_
            clear n0_
            clear hb
            generalize w21.heap.size = g at HC ⊢
            refine hK.out _ _ ⟨pw_cell_below HB.out HX5.out.1, pw_cell_below HB.out HX5.out.2.1, pw_cell_below HB.out HX5.out.2.2.1, pw_cell_below HB.out HX5.out.2.2.2.1, pw_cell_below HB.out HX5.out.2.2.2.2⟩ (fun hHeld => ?_)
            clear hK K
            refine norm_ (a' := ?_) ?_ ?_
            rotate_left
            · show Act.put _ (some 41) _ = _
              simp only [Act.put, List.setIfInBounds_toArray, List.set_cons_zero, List.set_cons_succ, i64_w, i32_w]
              rfl
            refine one_ (i := 14) (N := some 25) #[true, true, true, true, true, true, true, true, true, true, true, true, true, true, true, false, false, true, true, true, true, true, false, false, false, true, true, true, true, true, true, false, false, false, true, true, true, true, true, false, false, false, false] rfl rfl (by kernel_rfl) (by decide) (fun K hK => ?_)
            refine goes_ Tryd.func13 (by kernel_rfl) rfl #[.int .i64 a] (by rfl) rfl rfl (by simp only [List.map_toArray, List.map_cons, List.map_nil]; rfl) ?_
            with_reducible refine (num_calls a HW2.out.2.2.1 HW2.out.2.2.2.1 _).mono ?_
            rintro e w23 ⟨rfl, hb⟩
            rw [HE2.out]
            refine ⟨_, rfl, ?_⟩
            have n0_ := Aside0.mk (HB.out.trans (hb.mono HB.out.size))
            clear HB
            have HB := n0_
            clear n0_
            have n0_ := Aside0.mk (Kd.C_below HC.out hb)
            clear HC
            have HC := n0_
            clear n0_
            clear hb
            refine hK.out _ _ ⟨pw_cell_below HB.out HX5.out.1, pw_cell_below HB.out HX5.out.2.1, pw_cell_below HB.out HX5.out.2.2.1, pw_cell_below HB.out HX5.out.2.2.2.1, pw_cell_below HB.out HX5.out.2.2.2.2⟩ (fun hHeld => ?_)
            clear hK K
            refine norm_ (a' := ?_) ?_ ?_
            rotate_left
            · show Act.put _ (some 25) _ = _
              simp only [Act.put, List.setIfInBounds_toArray, List.set_cons_zero, List.set_cons_succ, i64_w, i32_w]
              rfl
            refine pure_ (i := 15) (N := some 26) (v := ?_) (a' := ?_) #[true, true, true, true, true, true, true, true, true, true, true, true, true, true, true, true, false, true, true, true, true, true, false, false, false, true, true, true, true, true, true, false, false, false, true, true, true, true, true, false, false, false, false] rfl rfl (by kernel_rfl) (fun _ _ _ h => h) (Or.inl ⟨by rfl, ?_⟩) ?_ ?_
            rotate_left
            · intro w'
              go_simp
              with_reducible rfl
            rotate_left
            · simp only [Act.put, List.setIfInBounds_toArray, List.set_cons_zero, List.set_cons_succ, i64_w, i32_w]
              rfl
            refine pure_ (i := 16) (N := some 27) (v := ?_) (a' := ?_) #[true, true, true, true, true, true, true, true, true, true, true, true, true, true, true, true, true, true, true, true, true, true, false, false, false, true, true, true, true, true, true, false, false, false, true, true, true, true, true, false, false, false, false] rfl rfl (by kernel_rfl) (fun _ _ _ h => h) (Or.inl ⟨by rfl, ?_⟩) ?_ ?_
            rotate_left
            · intro w'
              go_simp
              with_reducible rfl
            rotate_left
            · simp only [Act.put, List.setIfInBounds_toArray, List.set_cons_zero, List.set_cons_succ, i64_w, i32_w]
              rfl
            refine one_ (i := 22) (N := some 33) #[true, true, true, true, true, true, true, true, true, true, true, true, true, true, true, true, true, true, true, true, true, true, true, false, false, true, true, true, true, true, true, false, false, false, true, true, true, true, true, false, false, false, false] rfl rfl (by kernel_rfl) (by decide) (fun K hK => ?_)
            refine goes_ Tryd.func14 (by kernel_rfl) rfl #[.int .u64 (m : Int)] (by rfl) rfl rfl (by simp only [List.map_toArray, List.map_cons, List.map_nil]; rfl) ?_
            with_reducible refine (dec_calls m _ HW2.out.2.2.2.2.1).mono ?_
            rintro e w24 ⟨rfl, hb⟩
            rw [HE3.out]
            refine ⟨_, rfl, ?_⟩
            have n0_ := Aside0.mk (HB.out.trans (hb.mono HB.out.size))
            clear HB
            have HB := n0_
            clear n0_
            have n0_ := Aside0.mk (Kd.C_below HC.out hb)
            clear HC
            have HC := n0_
            clear n0_
            clear hb
            refine hK.out _ _ ⟨pw_cell_below HB.out HX5.out.1, pw_cell_below HB.out HX5.out.2.1, pw_cell_below HB.out HX5.out.2.2.1, pw_cell_below HB.out HX5.out.2.2.2.1, pw_cell_below HB.out HX5.out.2.2.2.2⟩ (fun hHeld => ?_)
            clear hK K
            refine norm_ (a' := ?_) ?_ ?_
            rotate_left
            · show Act.put _ (some 33) _ = _
              simp only [Act.put, List.setIfInBounds_toArray, List.set_cons_zero, List.set_cons_succ, i64_w, i32_w]
              rfl
            refine pure_ (i := 23) (N := some 34) (v := ?_) (a' := ?_) #[true, true, true, true, true, true, true, true, true, true, true, true, true, true, true, true, true, true, true, true, true, true, true, true, false, true, true, true, true, true, true, false, false, false, true, true, true, true, true, false, false, false, false] rfl rfl (by kernel_rfl) (fun _ _ _ h => h) (Or.inl ⟨by rfl, ?_⟩) ?_ ?_
            rotate_left
            · intro w'
              go_simp
              with_reducible rfl
            rotate_left
            · simp only [Act.put, List.setIfInBounds_toArray, List.set_cons_zero, List.set_cons_succ, i64_w, i32_w]
              rfl
            refine pure_ (i := 24) (N := some 35) (v := ?_) (a' := ?_) #[true, true, true, true, true, true, true, true, true, true, true, true, true, true, true, true, true, true, true, true, true, true, true, true, true, true, true, true, true, true, true, false, false, false, true, true, true, true, true, false, false, false, false] rfl rfl (by kernel_rfl) (fun _ _ _ h => h) (Or.inl ⟨by rfl, ?_⟩) ?_ ?_
            rotate_left
            · intro w'
              go_simp
              with_reducible rfl
            rotate_left
            · simp only [Act.put, List.setIfInBounds_toArray, List.set_cons_zero, List.set_cons_succ, i64_w, i32_w]
              rfl
            exact norm_ (by simp only [putAll, Act.put, List.setIfInBounds_toArray, List.set_cons_zero, List.set_cons_succ]) (hCont (g, cp) _ ⟨HB.out, HC.out⟩)
        · skip
          have kb := print_bytes (P := Tryd.prog) 9 30 5 Tryd.underlying9 Tryd.underlying30 Tryd.underlying5 key w20
          refine value_ (w1 := ?_) (v := ?_) (by rfl) rfl ?_ ?_
          rotate_left 2
          · go_simp
            constructor
            · rfl
            · rfl
          clear kb
          have hb := below_bytes w20 key
          have HC := Aside0.mk (str_C w20 key HW2.out.2.2.2.2.2.1)
          generalize Lib.bytesWorld w20 5 key = w21 at hb HC ⊢
          generalize grownCap w20 key.size 0 5 = cp at HC ⊢
          have n0_ := Aside0.mk (HB.out.trans (hb.mono HB.out.size))
          clear HB
          have HB := n0_
          clear n0_
          clear hb
          generalize w20.heap.size = g at HC ⊢
          refine hK.out _ _ ⟨pw_cell_below HB.out HX5.out.1, pw_cell_below HB.out HX5.out.2.1, pw_cell_below HB.out HX5.out.2.2.1, pw_cell_below HB.out HX5.out.2.2.2.1, pw_cell_below HB.out HX5.out.2.2.2.2⟩ (fun hHeld => ?_)
          clear hK K
          refine norm_ (a' := ?_) ?_ ?_
          rotate_left
          · show Act.put _ (some 41) _ = _
            simp only [Act.put, List.setIfInBounds_toArray, List.set_cons_zero, List.set_cons_succ, i64_w, i32_w]
            rfl
          refine one_ (i := 6) (N := some 17) #[true, true, true, true, true, true, true, false, false, true, true, true, true, true, false, false, false, true, true, true, true, true, false, false, false, true, true, true, true, true, true, false, false, false, true, true, true, true, true, false, false, false, false] rfl rfl (by kernel_rfl) (by decide) (fun K hK => ?_)
          refine goes_ Tryd.func13 (by kernel_rfl) rfl #[.int .i64 k] (by rfl) rfl rfl (by simp only [List.map_toArray, List.map_cons, List.map_nil]; rfl) ?_
          with_reducible refine (num_calls k HW2.out.1 HW2.out.2.1 _).mono ?_
          rintro e w22 ⟨rfl, hb⟩
          rw [HE1.out]
          refine ⟨_, rfl, ?_⟩
          have n0_ := Aside0.mk (HB.out.trans (hb.mono HB.out.size))
          clear HB
          have HB := n0_
          clear n0_
          have n0_ := Aside0.mk (Kd.C_below HC.out hb)
          clear HC
          have HC := n0_
          clear n0_
          clear hb
          refine hK.out _ _ ⟨pw_cell_below HB.out HX5.out.1, pw_cell_below HB.out HX5.out.2.1, pw_cell_below HB.out HX5.out.2.2.1, pw_cell_below HB.out HX5.out.2.2.2.1, pw_cell_below HB.out HX5.out.2.2.2.2⟩ (fun hHeld => ?_)
          clear hK K
          refine norm_ (a' := ?_) ?_ ?_
          rotate_left
          · show Act.put _ (some 17) _ = _
            simp only [Act.put, List.setIfInBounds_toArray, List.set_cons_zero, List.set_cons_succ, i64_w, i32_w]
            rfl
          refine pure_ (i := 7) (N := some 18) (v := ?_) (a' := ?_) #[true, true, true, true, true, true, true, true, false, true, true, true, true, true, false, false, false, true, true, true, true, true, false, false, false, true, true, true, true, true, true, false, false, false, true, true, true, true, true, false, false, false, false] rfl rfl (by kernel_rfl) (fun _ _ _ h => h) (Or.inl ⟨by rfl, ?_⟩) ?_ ?_
          rotate_left
          · intro w'
            go_simp
            with_reducible rfl
          rotate_left
          · simp only [Act.put, List.setIfInBounds_toArray, List.set_cons_zero, List.set_cons_succ, i64_w, i32_w]
            rfl
          refine pure_ (i := 8) (N := some 19) (v := ?_) (a' := ?_) #[true, true, true, true, true, true, true, true, true, true, true, true, true, true, false, false, false, true, true, true, true, true, false, false, false, true, true, true, true, true, true, false, false, false, true, true, true, true, true, false, false, false, false] rfl rfl (by kernel_rfl) (fun _ _ _ h => h) (Or.inl ⟨by rfl, ?_⟩) ?_ ?_
          rotate_left
          · intro w'
            go_simp
            with_reducible rfl
          rotate_left
          · simp only [Act.put, List.setIfInBounds_toArray, List.set_cons_zero, List.set_cons_succ, i64_w, i32_w]
            rfl
          refine one_ (i := 14) (N := some 25) #[true, true, true, true, true, true, true, true, true, true, true, true, true, true, true, false, false, true, true, true, true, true, false, false, false, true, true, true, true, true, true, false, false, false, true, true, true, true, true, false, false, false, false] rfl rfl (by kernel_rfl) (by decide) (fun K hK => ?_)
          refine goes_ Tryd.func13 (by kernel_rfl) rfl #[.int .i64 a] (by rfl) rfl rfl (by simp only [List.map_toArray, List.map_cons, List.map_nil]; rfl) ?_
          with_reducible refine (num_calls a HW2.out.2.2.1 HW2.out.2.2.2.1 _).mono ?_
          rintro e w23 ⟨rfl, hb⟩
          rw [HE2.out]
          refine ⟨_, rfl, ?_⟩
          have n0_ := Aside0.mk (HB.out.trans (hb.mono HB.out.size))
          clear HB
          have HB := n0_
          clear n0_
          have n0_ := Aside0.mk (Kd.C_below HC.out hb)
          clear HC
          have HC := n0_
          clear n0_
          clear hb
          refine hK.out _ _ ⟨pw_cell_below HB.out HX5.out.1, pw_cell_below HB.out HX5.out.2.1, pw_cell_below HB.out HX5.out.2.2.1, pw_cell_below HB.out HX5.out.2.2.2.1, pw_cell_below HB.out HX5.out.2.2.2.2⟩ (fun hHeld => ?_)
          clear hK K
          refine norm_ (a' := ?_) ?_ ?_
          rotate_left
          · show Act.put _ (some 25) _ = _
            simp only [Act.put, List.setIfInBounds_toArray, List.set_cons_zero, List.set_cons_succ, i64_w, i32_w]
            rfl
          refine pure_ (i := 15) (N := some 26) (v := ?_) (a' := ?_) #[true, true, true, true, true, true, true, true, true, true, true, true, true, true, true, true, false, true, true, true, true, true, false, false, false, true, true, true, true, true, true, false, false, false, true, true, true, true, true, false, false, false, false] rfl rfl (by kernel_rfl) (fun _ _ _ h => h) (Or.inl ⟨by rfl, ?_⟩) ?_ ?_
          rotate_left
          · intro w'
            go_simp
            with_reducible rfl
          rotate_left
          · simp only [Act.put, List.setIfInBounds_toArray, List.set_cons_zero, List.set_cons_succ, i64_w, i32_w]
            rfl
          refine pure_ (i := 16) (N := some 27) (v := ?_) (a' := ?_) #[true, true, true, true, true, true, true, true, true, true, true, true, true, true, true, true, true, true, true, true, true, true, false, false, false, true, true, true, true, true, true, false, false, false, true, true, true, true, true, false, false, false, false] rfl rfl (by kernel_rfl) (fun _ _ _ h => h) (Or.inl ⟨by rfl, ?_⟩) ?_ ?_
          rotate_left
          · intro w'
            go_simp
            with_reducible rfl
          rotate_left
          · simp only [Act.put, List.setIfInBounds_toArray, List.set_cons_zero, List.set_cons_succ, i64_w, i32_w]
            rfl
          refine one_ (i := 22) (N := some 33) #[true, true, true, true, true, true, true, true, true, true, true, true, true, true, true, true, true, true, true, true, true, true, true, false, false, true, true, true, true, true, true, false, false, false, true, true, true, true, true, false, false, false, false] rfl rfl (by kernel_rfl) (by decide) (fun K hK => ?_)
          refine goes_ Tryd.func14 (by kernel_rfl) rfl #[.int .u64 (m : Int)] (by rfl) rfl rfl (by simp only [List.map_toArray, List.map_cons, List.map_nil]; rfl) ?_
          with_reducible refine (dec_calls m _ HW2.out.2.2.2.2.1).mono ?_
          rintro e w24 ⟨rfl, hb⟩
          rw [HE3.out]
          refine ⟨_, rfl, ?_⟩
          have n0_ := Aside0.mk (HB.out.trans (hb.mono HB.out.size))
          clear HB
          have HB := n0_
          clear n0_
          have n0_ := Aside0.mk (Kd.C_below HC.out hb)
          clear HC
          have HC := n0_
          clear n0_
          clear hb
          refine hK.out _ _ ⟨pw_cell_below HB.out HX5.out.1, pw_cell_below HB.out HX5.out.2.1, pw_cell_below HB.out HX5.out.2.2.1, pw_cell_below HB.out HX5.out.2.2.2.1, pw_cell_below HB.out HX5.out.2.2.2.2⟩ (fun hHeld => ?_)
          clear hK K
          refine norm_ (a' := ?_) ?_ ?_
          rotate_left
          · show Act.put _ (some 33) _ = _
            simp only [Act.put, List.setIfInBounds_toArray, List.set_cons_zero, List.set_cons_succ, i64_w, i32_w]
            rfl
          refine pure_ (i := 23) (N := some 34) (v := ?_) (a' := ?_) #[true, true, true, true, true, true, true, true, true, true, true, true, true, true, true, true, true, true, true, true, true, true, true, true, false, true, true, true, true, true, true, false, false, false, true, true, true, true, true, false, false, false, false] rfl rfl (by kernel_rfl) (fun _ _ _ h => h) (Or.inl ⟨by rfl, ?_⟩) ?_ ?_
          rotate_left
          · intro w'
            go_simp
            with_reducible rfl
          rotate_left
          · simp only [Act.put, List.setIfInBounds_toArray, List.set_cons_zero, List.set_cons_succ, i64_w, i32_w]
            rfl
          refine pure_ (i := 24) (N := some 35) (v := ?_) (a' := ?_) #[true, true, true, true, true, true, true, true, true, true, true, true, true, true, true, true, true, true, true, true, true, true, true, true, true, true, true, true, true, true, true, false, false, false, true, true, true, true, true, false, false, false, false] rfl rfl (by kernel_rfl) (fun _ _ _ h => h) (Or.inl ⟨by rfl, ?_⟩) ?_ ?_
          rotate_left
          · intro w'
            go_simp
            with_reducible rfl
          rotate_left
          · simp only [Act.put, List.setIfInBounds_toArray, List.set_cons_zero, List.set_cons_succ, i64_w, i32_w]
            rfl
          exact norm_ (by simp only [putAll, Act.put, List.setIfInBounds_toArray, List.set_cons_zero, List.set_cons_succ]) (hCont (g, cp) _ ⟨HB.out, HC.out⟩)
      rintro ⟨g, cp⟩ w30 ⟨hb0, hc1⟩
      have HB2 := Aside0.mk hb0
      have HC1 := Aside0.mk hc1
      clear hb0 hc1
      dsimp only
      refine norm_ (a' := ?_) ?_ ?_
      rotate_left
      · simp only [putAll, Act.put, List.setIfInBounds_toArray, List.set_cons_zero, List.set_cons_succ]
        rfl
      refine one_ (i := 31) (N := some 42) #[true, true, true, true, true, true, true, true, true, true, true, true, true, true, true, true, true, true, true, true, true, true, true, true, true, true, true, true, true, true, true, true, false, false, true, true, true, true, true, false, false, false, false] rfl rfl (by kernel_rfl) (by decide) (fun K hK => ?_)
      refine goes_ Tryd.func15 (by kernel_rfl) rfl #[.slice (some ⟨g, 0, none⟩) key.size cp] (by rfl) rfl rfl (by simp only [List.map_toArray, List.map_cons, List.map_nil]; rfl) ?_
      with_reducible refine (hex_callsN (some ⟨g, 0, none⟩) cp key.size (bytesOf key) _ (bytesOf_length key) HC1.out (byt_bytesOf key) (Nat.le_trans HW2.out.2.2.2.2.2.1 (by decide))).mono ?_
      rintro e w31 ⟨rfl, hb⟩
      rw [HE4.out]
      refine ⟨_, rfl, ?_⟩
      have HB3 := Aside0.mk (HB2.out.trans (hb.mono HB2.out.size))
      clear hb
      refine hK.out _ _ ⟨pw_cell_below HB3.out HX5.out.1, pw_cell_below HB3.out HX5.out.2.1, pw_cell_below HB3.out HX5.out.2.2.1, pw_cell_below HB3.out HX5.out.2.2.2.1, pw_cell_below HB3.out HX5.out.2.2.2.2⟩ (fun hHeld => ?_)
      clear hK K
      refine norm_ (a' := ?_) ?_ ?_
      rotate_left
      · show Act.put _ (some 42) _ = _
        simp only [Act.put, List.setIfInBounds_toArray, List.set_cons_zero, List.set_cons_succ, i64_w, i32_w]
        rfl
      refine pure_ (i := 32) (N := some 43) (v := ?_) (a' := ?_) #[true, true, true, true, true, true, true, true, true, true, true, true, true, true, true, true, true, true, true, true, true, true, true, true, true, true, true, true, true, true, true, true, true, false, true, true, true, true, true, false, false, false, false] rfl rfl (by kernel_rfl) (fun _ _ _ h => h) (Or.inl ⟨by rfl, ?_⟩) ?_ ?_
      rotate_left
      · intro w'
        go_simp
        with_reducible rfl
      rotate_left
      · simp only [Act.put, List.setIfInBounds_toArray, List.set_cons_zero, List.set_cons_succ, i64_w, i32_w]
        rfl
      refine pure_ (i := 33) (N := some 44) (v := ?_) (a' := ?_) #[true, true, true, true, true, true, true, true, true, true, true, true, true, true, true, true, true, true, true, true, true, true, true, true, true, true, true, true, true, true, true, true, true, true, true, true, true, true, true, false, false, false, false] rfl rfl (by kernel_rfl) (fun _ _ _ h => h) (Or.inl ⟨by rfl, ?_⟩) ?_ ?_
      rotate_left
      · intro w'
        go_simp
        with_reducible rfl
      rotate_left
      · simp only [Act.put, List.setIfInBounds_toArray, List.set_cons_zero, List.set_cons_succ, i64_w, i32_w]
        rfl
      refine one_ (i := 39) (N := some 50) #[true, true, true, true, true, true, true, true, true, true, true, true, true, true, true, true, true, true, true, true, true, true, true, true, true, true, true, true, true, true, true, true, true, true, true, true, true, true, true, true, false, false, false] rfl rfl (by kernel_rfl) (by decide) (fun K hK => ?_)
      refine goes_ Tryd.func15 (by kernel_rfl) rfl #[.slice A3 nv c3] (by rfl) rfl rfl (by simp only [List.map_toArray, List.map_cons, List.map_nil]; rfl) ?_
      with_reducible refine (hex_callsN A3 c3 nv lv _ HV.out (Kd.C_below HG3.out HB3.out) HW2.out.2.2.2.2.2.2.2 (Nat.le_trans HW2.out.2.2.2.2.2.2.1 (by decide))).mono ?_
      rintro e w32 ⟨rfl, hb⟩
      rw [HE5.out]
      refine ⟨_, rfl, ?_⟩
      have HB4 := Aside0.mk (HB3.out.trans (hb.mono HB3.out.size))
      clear hb
      refine hK.out _ _ ⟨pw_cell_below HB4.out HX5.out.1, pw_cell_below HB4.out HX5.out.2.1, pw_cell_below HB4.out HX5.out.2.2.1, pw_cell_below HB4.out HX5.out.2.2.2.1, pw_cell_below HB4.out HX5.out.2.2.2.2⟩ (fun hHeld => ?_)
      clear hK K
      refine norm_ (a' := ?_) ?_ ?_
      rotate_left
      · show Act.put _ (some 50) _ = _
        simp only [Act.put, List.setIfInBounds_toArray, List.set_cons_zero, List.set_cons_succ, i64_w, i32_w]
        rfl
      refine pure_ (i := 40) (N := some 51) (v := ?_) (a' := ?_) #[true, true, true, true, true, true, true, true, true, true, true, true, true, true, true, true, true, true, true, true, true, true, true, true, true, true, true, true, true, true, true, true, true, true, true, true, true, true, true, true, true, false, false] rfl rfl (by kernel_rfl) (fun _ _ _ h => h) (Or.inl ⟨by rfl, ?_⟩) ?_ ?_
      rotate_left
      · intro w'
        go_simp
        with_reducible rfl
      rotate_left
      · simp only [Act.put, List.setIfInBounds_toArray, List.set_cons_zero, List.set_cons_succ, i64_w, i32_w]
        rfl
      refine pure_ (i := 41) (N := some 52) (v := ?_) (a' := ?_) #[true, true, true, true, true, true, true, true, true, true, true, true, true, true, true, true, true, true, true, true, true, true, true, true, true, true, true, true, true, true, true, true, true, true, true, true, true, true, true, true, true, true, false] rfl rfl (by kernel_rfl) (fun _ _ _ h => h) (Or.inl ⟨by rfl, ?_⟩) ?_ ?_
      rotate_left
      · intro w'
        go_simp
        with_reducible rfl
      rotate_left
      · simp only [Act.put, List.setIfInBounds_toArray, List.set_cons_zero, List.set_cons_succ, i64_w, i32_w]
        rfl
      refine pure_ (i := 42) (N := some 3) (v := ?_) (a' := ?_) #[true, true, true, true, true, true, true, true, true, true, true, true, true, true, true, true, true, true, true, true, true, true, true, true, true, true, true, true, true, true, true, true, true, true, true, true, true, true, true, true, true, true, true] rfl rfl (by kernel_rfl) (fun _ _ _ h => h) (Or.inl ⟨by rfl, ?_⟩) ?_ ?_
      rotate_left
      · intro w'
        go_simp
        with_reducible rfl
      rotate_left
      · simp only [Act.put, List.setIfInBounds_toArray, List.set_cons_zero, List.set_cons_succ, i64_w, i32_w]
        rfl
      refine done_ (by kernel_rfl) ?_
      go_wp2_with fail
      go_roundw
      case rel => exact ⟨q + 1, by omega, by go_num, by rw [HFIN.out], HB4⟩
      case measure => simp [intOf]; omega
    · obtain rfl : q = n := by omega
      have hd : decide (q < q) = false := decide_eq_false (Nat.lt_irrefl q)
      have htk : l.take q = l := List.take_of_length_le (by rw [HN.out]; exact Nat.le_refl _)
      rw [htk]
      go_wp2_with fail
      go_ret
      exact ⟨rfl, HB.out⟩
end Go.Proofs.YtganhhhkmcmngaaDoor.Sc
