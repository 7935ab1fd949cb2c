/- What comes in, of whatever type: read as the words' kinds (Kd). -/
import Derived.Test.YtganhhhkmcmngaaDoorProg
import Derived.Below
import Derived.Deep.Draws
import Derived.Deep.AppendLies
import Derived.Maps.AppendAt
import Derived.OwnWalk
import Derived.Laws.BytesArg
import Derived.Laws.MakeOwn
import Derived.Laws.OwnMore
import Derived.Deep.OwnRows
import Derived.Tactics
import Derived.Lib.ConvBytes
import Derived.Laws.Slices
import Derived.WalkKit
import Derived.KernelRfl
import Derived.RowKit3
import Derived.Deep.LoopGhost
import Derived.Deep.QuietTactic
import Derived.BigQuiet
import Derived.WideLaws
import Derived.Deep.DeepCutAuto
import Derived.Deep.CutBlock
import Derived.Deep.RegionHeld3
import Derived.Laws.Rows
import Derived.Lib.AppendStr
import Derived.ArgAppend
import Derived.Laws.IdiomCopy
import Derived.OrdersHeld
import Derived.Laws.BitsLemmas
import Derived.RowKit
import Derived.Test.YtganhhhkmcmngaaDoorWWords
import Derived.Test.YtganhhhkmcmngaaDoorWLast
import Derived.Test.YtganhhhkmcmngaaDoorWTab
import Derived.Test.YtganhhhkmcmngaaDoorWFour
import Derived.Test.YtganhhhkmcmngaaDoorWQPut
import Derived.Test.YtganhhhkmcmngaaDoorWApart
import Derived.Test.YtganhhhkmcmngaaDoorWArr
import Derived.Test.YtganhhhkmcmngaaDoorWZeros
import Derived.Test.YtganhhhkmcmngaaDoorWFoot
import Derived.Test.YtganhhhkmcmngaaDoorWKept
import Derived.Test.YtganhhhkmcmngaaDoorWShare
import Derived.Test.YtganhhhkmcmngaaDoorWN
import Derived.Test.YtganhhhkmcmngaaDoorWFootNe
import Derived.Test.YtganhhhkmcmngaaDoorWAt
import Derived.Test.YtganhhhkmcmngaaDoorWEqStruct
import Derived.Test.YtganhhhkmcmngaaDoorWRepsOne
import Derived.Test.YtganhhhkmcmngaaDoorWInv
import Derived.Test.YtganhhhkmcmngaaDoorWInvWords
import Derived.Test.YtganhhhkmcmngaaDoorWGuard
import Derived.Test.YtganhhhkmcmngaaDoorWNEv
import Derived.Test.YtganhhhkmcmngaaDoorWMore
import Derived.Deep.Slices
import Derived.ChangeArms
import Derived.SizedLaws
import Derived.WideShapes
namespace Go.Proofs.YtganhhhkmcmngaaDoor.Op
open Go.RowKit Go.Proofs.YtganhhhkmcmngaaDoorW.PrintWords Go.Proofs.YtganhhhkmcmngaaDoorW.PrintLast Go.Proofs.YtganhhhkmcmngaaDoorW.PrintMore
attribute [local go_sem] max2_int min2_int max_two min_two max_three min_three max_four min_four
set_option linter.unusedVariables false
set_option linter.unusedSimpArgs false
open Go.ChangeShapes Go.WideShapes
/-- Cells of type t, read as data, are an element of kind d, which is as G says. -/
structure Opens {α : Type} (P : Program) (d : Kd α) (t : TypeId) (G : α → Prop) : Prop where
  sz : P.cellsOf t = d.sz
  op : ∀ {H : Type} {enc : TypeId × Value → H} {w : World} {base : Nat} {spare : Nat → Bool} {held : Bool} {fuel : Nat} {cs : List Value} {x : DataW H × List MemPlace},
    DataW.trod enc P w base spare held fuel t cs = some x → (∀ n ∈ x.1.weights P t, n ≤ reachBytes) → ∃ a, d.K w a cs ∧ G a
theorem opens_int {P : Program} {t : TypeId} {k : IntKind} (ht : P.underlying t = some (.int k)) (hc : P.cellsOf t = 1) : Opens P (Kd.int k) t (fun n => (Lit.int k n).wf = true) :=
  ⟨hc, fun h _ => by
    obtain ⟨n, rfl, _, hw⟩ := DataW.trod_int ht h
    exact ⟨n, rfl, hw⟩⟩
theorem opens_bool {P : Program} {t : TypeId} (ht : P.underlying t = some .bool) (hc : P.cellsOf t = 1) : Opens P Kd.bool t (fun _ => True) :=
  ⟨hc, fun h _ => by
    obtain ⟨b, rfl, _⟩ := DataW.trod_bool ht h
    exact ⟨b, rfl, trivial⟩⟩
theorem opens_string {P : Program} {t : TypeId} (ht : P.underlying t = some .string) (hc : P.cellsOf t = 1) : Opens P Kd.string t (fun s => s.size ≤ 140737488351232) :=
  ⟨hc, fun h hw => by
    obtain ⟨s, rfl, rfl, _⟩ := DataW.trod_string ht h
    have h2 := hw s.data.toList.length (by simp [DataW.weights])
    exact ⟨s, rfl, by simpa [reachBytes] using h2⟩⟩
theorem list_of {α : Type} {Q : Nat → α → Prop} : ∀ {n : Nat}, (∀ i, i < n → ∃ a, Q i a) → ∃ l : List α, l.length = n ∧ ∀ i a, l[i]? = some a → Q i a
  | 0, _ => ⟨[], rfl, fun i a h => by simp at h⟩
  | n + 1, h => by
    obtain ⟨l, hl, hq⟩ := list_of (fun i hi => h i (Nat.lt_succ_of_lt hi))
    obtain ⟨a, ha⟩ := h n (Nat.lt_succ_self n)
    refine ⟨l ++ [a], by simp [hl], fun i b hb => ?_⟩
    rcases Nat.lt_or_ge i n with hi | hi
    · rw [List.getElem?_append_left (by omega)] at hb
      exact hq i b hb
    · rw [List.getElem?_append_right (by omega)] at hb
      have h0 : i - l.length = 0 := by
        rcases Nat.eq_zero_or_pos (i - l.length) with h1 | h1
        · exact h1
        · rw [List.getElem?_eq_none (by simp; omega)] at hb
          cases hb
      rw [h0] at hb
      simp only [List.getElem?_cons_zero, Option.some.injEq] at hb
      subst hb
      have : i = n := by omega
      subst this
      exact ha
theorem weights_all {H : Type} {P : Program} {e : TypeId} : ∀ {l : List (DataW H)} {d : DataW H}, d ∈ l → ∀ n ∈ d.weights P e, n ∈ DataW.weightsAll P e l
  | d0 :: l, d, hd, n, hn => by
    simp only [DataW.weightsAll, List.mem_append]
    rcases List.mem_cons.1 hd with rfl | hd
    · exact .inl hn
    · exact .inr (weights_all hd n hn)
/-- Of a list: its bytes are in reach; of each element what G says. -/
structure Row {α : Type} (b : Nat) (G : α → Prop) (l : List α) : Prop where
  len : l.length * b ≤ 140737488351232
  all : ∀ a, a ∈ l → G a
theorem opens_slice {α : Type} {P : Program} {d : Kd α} {t e : TypeId} {G : α → Prop} (E b : Nat) (ht : P.underlying t = some (.slice e)) (hc : P.cellsOf t = 1) (hb : P.bytesOf e = b) (ho : Opens P d e G) :
    Opens P (Kd.slice E d) t (Row b G) :=
  ⟨hc, fun {H enc w base spare held fuel cs x} h hw => by
    rcases Go.Deep.open_slice ht h with ⟨rfl, rfl⟩ | ⟨a, len, cap, m, n, D, Pl, rfl, _, hl, hm, hmm, rfl, hi⟩
    · exact ⟨[], ⟨none, 0, rfl, Nat.le_refl _, Kd.C_nil d w⟩, ⟨by simp, fun a ha => by simp at ha⟩⟩
    · have hlm : len ≤ m := by rw [hmm]; split <;> omega
      have hw0 := hw ((((List.range len).map D).length + ((List.range (m - len)).map fun j => D (len + j)).length) * P.bytesOf e) (by simp [DataW.weights, ht])
      have hlen : len * b ≤ 140737488351232 := by
        rw [hb, List.length_map, List.length_range] at hw0
        refine Nat.le_trans ?_ hw0
        exact Nat.mul_le_mul_right _ (Nat.le_add_right _ _)
      obtain ⟨l, hll, hq⟩ := list_of (Q := fun i (y : α) => (∃ c : List Value, c.length = d.sz ∧ d.K w y c ∧ ∀ j u, c[j]? = some u → w.cell? (a.add (i * d.sz + j)) = some u) ∧ G y) (n := len) (fun i hil => by
        obtain ⟨cs', hcs, htr⟩ := hi i (Nat.lt_of_lt_of_le hil hlm)
        obtain ⟨y, hK, hG⟩ := ho.op htr (fun q hq => hw q (by
          have : D i ∈ (List.range len).map D := List.mem_map.2 ⟨i, List.mem_range.2 hil, rfl⟩
          have h3 := weights_all (P := P) (e := e) this q hq
          simp only [DataW.weights, ht, List.mem_cons, List.mem_append]
          exact .inr (.inl h3)))
        obtain ⟨_, hcl, hat⟩ := World.cells?_some hcs
        refine ⟨y, ⟨cs', by rw [hcl, ho.sz], hK, fun j u hu => ?_⟩, hG⟩
        have hjl : j < P.cellsOf e := by
          have := (List.getElem?_eq_some_iff.1 hu).1
          omega
        have h4 := hat j hjl
        rw [Go.Deep.add_add, ho.sz] at h4
        rw [h4, hu])
      refine ⟨l, ⟨some a, cap, by rw [hll], by omega, hll ▸ rfl, ?_, fun _ => ⟨a, rfl, fun j p hj => ?_⟩⟩, ⟨by rw [hll]; exact hlen, fun y hy => ?_⟩⟩
      · unfold maxLen at hm; omega
      · obtain ⟨⟨c, h1, h2, h3⟩, _⟩ := hq j p hj
        exact ⟨c, h1, h2, h3⟩
      · obtain ⟨j, hj⟩ := List.getElem?_of_mem hy
        exact (hq j y hj).2⟩
/-- The fields from the i-th on, whose cells begin at o. -/
structure OpensF {α : Type} (P : Program) (fs : Array Field) (i o : Nat) (d : Kd α) (G : α → Prop) : Prop where
  op : ∀ {H : Type} {enc : TypeId × Value → H} {w : World} {base : Nat} {spare : Nat → Bool} {held : Bool} {n : Nat} {cs : List Value} {xs : List (DataW H × List MemPlace)},
    cs.length = o + d.sz → (∀ (j : Nat) (f : Field), fs[j]? = some f → DataW.trod enc P w base spare held n f.type ((cs.drop f.offset).take (P.cellsOf f.type)) = xs[j]?) → xs.length = fs.size →
    (∀ q ∈ DataW.weightsEach P (fs.toList.map (·.type)) (xs.map (·.1)), q ≤ reachBytes) → ∃ a, d.K w a (cs.drop o) ∧ G a
theorem field_op {α : Type} {P : Program} {d : Kd α} {t : TypeId} {G : α → Prop} (ho : Opens P d t G) {fs : Array Field} {i o : Nat} {f : Field} (hf : fs[i]? = some f) (ht : f.type = t) (hoff : f.offset = o)
    {H : Type} {enc : TypeId × Value → H} {w : World} {base : Nat} {spare : Nat → Bool} {held : Bool} {n : Nat} {cs : List Value} {xs : List (DataW H × List MemPlace)}
    (hg : ∀ (j : Nat) (f : Field), fs[j]? = some f → DataW.trod enc P w base spare held n f.type ((cs.drop f.offset).take (P.cellsOf f.type)) = xs[j]?) (hl : xs.length = fs.size)
    (hw : ∀ q ∈ DataW.weightsEach P (fs.toList.map (·.type)) (xs.map (·.1)), q ≤ reachBytes) : ∃ a, d.K w a ((cs.drop o).take d.sz) ∧ G a := by
  have hil : i < fs.size := (Array.getElem?_eq_some_iff.1 hf).1
  have h1 := hg i f hf
  rw [List.getElem?_eq_getElem (by omega : i < xs.length), ht, hoff, ho.sz] at h1
  refine ho.op h1 (fun q hq => hw q (DataW.weights_mem_each (j := i) (t := t) (d := (xs[i]'(by omega)).1) ?_ ?_ q hq))
  · rw [List.getElem?_map, Array.getElem?_toList, hf]; simp [ht]
  · rw [List.getElem?_map, List.getElem?_eq_getElem (by omega : i < xs.length)]; rfl
theorem opensF_last {α : Type} {P : Program} {d : Kd α} {t : TypeId} {G : α → Prop} (ho : Opens P d t G) {fs : Array Field} {i o : Nat} {f : Field} (hf : fs[i]? = some f) (ht : f.type = t) (hoff : f.offset = o) : OpensF P fs i o d G :=
  ⟨fun {H enc w base spare held n cs xs} hc hg hl hw => by
    obtain ⟨a, hK, hG⟩ := field_op ho hf ht hoff hg hl hw
    rw [List.take_of_length_le (by rw [List.length_drop]; omega)] at hK
    exact ⟨a, hK, hG⟩⟩
theorem opensF_cons {α β : Type} {P : Program} {d : Kd α} {d' : Kd β} {t : TypeId} {G : α → Prop} {G' : β → Prop} (ho : Opens P d t G) {fs : Array Field} {i o : Nat} {f : Field} (hf : fs[i]? = some f) (ht : f.type = t) (hoff : f.offset = o)
    (hr : OpensF P fs (i + 1) (o + d.sz) d' G') : OpensF P fs i o (Kd.pair d d') (fun x => G x.1 ∧ G' x.2) :=
  ⟨fun {H enc w base spare held n cs xs} hc hg hl hw => by
    obtain ⟨a, hK, hG⟩ := field_op ho hf ht hoff hg hl hw
    obtain ⟨b, hK', hG'⟩ := hr.op (cs := cs) (by rw [hc]; show o + (d.sz + d'.sz) = _; omega) hg hl hw
    refine ⟨(a, b), ⟨(cs.drop o).take d.sz, cs.drop (o + d.sz), ?_, hK, hK'⟩, hG, hG'⟩
    rw [← List.drop_drop, List.take_append_drop]⟩
theorem opens_struct {α : Type} {P : Program} {d : Kd α} {t : TypeId} {G : α → Prop} {fs : Array Field} (ht : P.underlying t = some (.struct fs)) (hc : P.cellsOf t = d.sz) (hr : OpensF P fs 0 0 d G) : Opens P d t G :=
  ⟨hc, fun {H enc w base spare held fuel cs x} h hw => by
    obtain ⟨xs, n, _, rfl, hl, hx, hg⟩ := DataW.trod_struct ht h
    obtain ⟨a, hK, hG⟩ := hr.op (cs := cs) (by rw [hl, hc]; omega) hg hx (fun q hq => hw q (by simp only [DataW.weights, ht]; exact hq))
    exact ⟨a, by simpa using hK, hG⟩⟩
/-- An argument. -/
theorem opens_arg {α : Type} {P : Program} {d : Kd α} {t : TypeId} {G : α → Prop} (ho : Opens P d t G) {H : Type} {enc : TypeId × Value → H} {w : World} {v : Value} {x : DataW H} {p : List MemPlace} {ts : List TypeId} {ds : List (DataW H)} {j : Nat}
    (h : DataW.Trod enc P w 0 (fun _ => true) true t v x p) (hsz : (DataW.weightsEach P ts ds).all (· ≤ reachBytes) = true) (ht : ts[j]? = some t) (hd : ds[j]? = some x) : ∃ a, d.K w a v.cells.toList ∧ G a := by
  obtain ⟨fuel, hf⟩ := h
  refine ho.op hf (fun n hn => ?_)
  have := List.all_eq_true.1 hsz n (DataW.weights_mem_each ht hd n hn)
  simpa using this
theorem opens_arg_slice {α : Type} {P : Program} {d : Kd α} {t e : TypeId} {G : α → Prop} {E b : Nat} (ho : Opens P (Kd.slice E d) t (Row b G)) (hu : P.underlying t = some (.slice e)) {H : Type} {enc : TypeId × Value → H} {w : World} {r : Reach} {bs : Nat} {v : Value} {x : DataW H} {p : List MemPlace} {ts : List TypeId} {ds : List (DataW H)} {j : Nat}
    (hv : Value.okWide P w r bs t v) (h : DataW.Trod enc P w 0 (fun _ => true) true t v x p) (hsz : (DataW.weightsEach P ts ds).all (· ≤ reachBytes) = true) (ht : ts[j]? = some t) (hd : ds[j]? = some x) :
    ∃ (A : Option Addr) (c : Nat) (l : List α), v = .slice A l.length c ∧ l.length ≤ c ∧ d.C w A l.length l ∧ Row b G l := by
  obtain ⟨A0, n0, c0, rfl⟩ := okWide_slice hu hv
  obtain ⟨l, ⟨A, c, he, hl, hC⟩, hG⟩ := opens_arg ho h hsz ht hd
  have he' : [Value.slice A0 n0 c0] = [.slice A l.length c] := he
  injection he' with he'
  exact ⟨A, c, l, he', hl, hC, hG⟩
theorem opens_arg_struct {α : Type} {P : Program} {d : Kd α} {t : TypeId} {fs : Array Field} {G : α → Prop} (ho : Opens P d t G) (hu : P.underlying t = some (.struct fs)) {H : Type} {enc : TypeId × Value → H} {w : World} {r : Reach} {bs : Nat} {v : Value} {x : DataW H} {p : List MemPlace} {ts : List TypeId} {ds : List (DataW H)} {j : Nat}
    (hv : Value.okWide P w r bs t v) (h : DataW.Trod enc P w 0 (fun _ => true) true t v x p) (hsz : (DataW.weightsEach P ts ds).all (· ≤ reachBytes) = true) (ht : ts[j]? = some t) (hd : ds[j]? = some x) :
    ∃ (cs : Array Value) (a : α), v = .agg cs ∧ d.K w a cs.toList ∧ G a := by
  obtain ⟨cs, rfl, _⟩ := okWide_struct hu hv
  obtain ⟨a, hK, hG⟩ := opens_arg ho h hsz ht hd
  exact ⟨cs, a, rfl, hK, hG⟩
end Go.Proofs.YtganhhhkmcmngaaDoor.Op
