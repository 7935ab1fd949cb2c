/- A map of the call's own, by what it finds. -/
import Derived.Test.YthocnaagpmkoeaaProg
import Derived.Below
import Derived.Deep.Draws
import Derived.Deep.AppendLies
import Derived.Maps.AppendAt
import Derived.OwnWalk
import Derived.Laws.BytesArg
import Derived.Laws.MakeOwn
import Derived.Laws.OwnMore
import Derived.Deep.OwnRows
import Derived.Tactics
import Derived.Lib.ConvBytes
import Derived.Laws.Slices
import Derived.WalkKit
import Derived.KernelRfl
import Derived.RowKit3
import Derived.Deep.LoopGhost
import Derived.Deep.QuietTactic
import Derived.BigQuiet
import Derived.WideLaws
import Derived.Deep.DeepCutAuto
import Derived.Deep.CutBlock
import Derived.Deep.RegionHeld3
import Derived.Laws.Rows
import Derived.Lib.AppendStr
import Derived.ArgAppend
import Derived.Laws.IdiomCopy
import Derived.OrdersHeld
import Derived.Laws.BitsLemmas
import Derived.RowKit
import Derived.Test.YthocnaagpmkoeaaWWords
import Derived.Test.YthocnaagpmkoeaaWLast
import Derived.Test.YthocnaagpmkoeaaWTab
import Derived.Test.YthocnaagpmkoeaaWFour
import Derived.Test.YthocnaagpmkoeaaWQPut
import Derived.Test.YthocnaagpmkoeaaWApart
import Derived.Test.YthocnaagpmkoeaaWArr
import Derived.Test.YthocnaagpmkoeaaWZeros
import Derived.Test.YthocnaagpmkoeaaWFoot
import Derived.Test.YthocnaagpmkoeaaWKept
import Derived.Test.YthocnaagpmkoeaaWShare
import Derived.Test.YthocnaagpmkoeaaWN
import Derived.Test.YthocnaagpmkoeaaWFootNe
import Derived.Test.YthocnaagpmkoeaaWAt
import Derived.Test.YthocnaagpmkoeaaWEqStruct
import Derived.Test.YthocnaagpmkoeaaWRepsOne
import Derived.Test.YthocnaagpmkoeaaWInv
import Derived.Test.YthocnaagpmkoeaaWInvWords
import Derived.Test.YthocnaagpmkoeaaWGuard
import Derived.Test.YthocnaagpmkoeaaWNEv
import Derived.Test.YthocnaagpmkoeaaWMore
import Derived.Maps.Own
import Derived.Maps.OwnSet
namespace Go.Proofs.Ythocnaagpmkoeaa.Mp
open Go.RowKit Go.Proofs.YthocnaagpmkoeaaW.PrintWords Go.Proofs.YthocnaagpmkoeaaW.PrintLast Go.Proofs.YthocnaagpmkoeaaW.PrintMore
attribute [local go_sem] max2_int min2_int max_two min_two max_three min_three max_four min_four
set_option linter.unusedVariables false
set_option linter.unusedSimpArgs false
open Go.Maps (Keyed)
open Go.MapKept (Stamped)
/-- Block b is a map; of each key it finds what f says. -/
def IsM (P : Program) (k : TypeId) (w : World) (b : Nat) (f : Value → Option Value) : Prop :=
  ∃ es clock, w.heap[b]? = some (.map es clock) ∧ Stamped es clock ∧ (∀ x ∈ es.toList, ∃ l, keyOf P k x.key = some l) ∧ ∀ q v, f q = some v ↔ ∃ x ∈ es.toList, x.key = q ∧ x.val = v
section
variable {P : Program} {k t e : TypeId} {w w' : World} {b : Nat} {f f' : Value → Option Value} {key val : Value} {kl : Lit}
theorem IsM.lt (h : IsM P k w b f) : b < w.heap.size := by
  obtain ⟨es, clock, hb, _⟩ := h
  exact (Array.getElem?_eq_some_iff.1 hb).1
theorem IsM.step (h : IsM P k w b f) (hb : w'.heap[b]? = w.heap[b]?) : IsM P k w' b f := by
  obtain ⟨es, clock, h1, h2⟩ := h
  exact ⟨es, clock, hb.trans h1, h2⟩
theorem IsM.made (w : World) (P : Program) (k : TypeId) : IsM P k (w.alloc (.map #[] 0)) w.heap.size (fun _ => none) :=
  ⟨#[], 0, heap_alloc_new w _, Go.MapKept.stamped_empty 0, fun x hx => by simp at hx, fun q v => by simp⟩
/-- Block b is another one. -/
def putb (w : World) (b : Nat) (o : Obj) : World := { w with heap := w.heap.setIfInBounds b o }
theorem putb_same (h : b < w.heap.size) (o : Obj) : (putb w b o).heap[b]? = some o := by simp [putb, h]
theorem putb_ne (o : Obj) (i : Nat) (h : i ≠ b) : (putb w b o).heap[i]? = w.heap[i]? := by simp [putb, Ne.symm h]
theorem putb_size (o : Obj) : (putb w b o).heap.size = w.heap.size := by simp [putb]
/-- All but block b is as it was. -/
structure Turned (w w' : World) (b : Nat) : Prop where
  os : w'.os = w.os
  tape : w'.tape = w.tape
  output : w'.output = w.output
  size : w'.heap.size = w.heap.size
  block : ∀ i, i ≠ b → w'.heap[i]? = w.heap[i]?
theorem putb_turned (o : Obj) : Turned w (putb w b o) b := ⟨rfl, rfl, rfl, putb_size o, fun i hi => putb_ne o i hi⟩
/-- m[q], ok. -/
theorem IsM.look (h : IsM P k w b f) (K : Keyed P k) (ht : P.underlying t = some (.map k e)) {z : Value} (hz : (zeroValue e).run P w = .ok z w) (hkey : keyOf P k key = some kl) (c : Bool) :
    (Instr.lookup t (.map (some b)) key c).run P w = .ok (if c then .tuple #[(f key).getD z, .bool (f key).isSome] else (f key).getD z) w := by
  obtain ⟨es, clock, hb, hst, hks, hf⟩ := h
  rcases K.find w hkey es.toList hks with ⟨h1, h2⟩ | ⟨j, e0, h1, h2, h3⟩
  · have hn : f key = none := by
      cases hv : f key with
      | none => rfl
      | some v =>
        obtain ⟨x, hx, hxk, _⟩ := (hf key v).1 hv
        exact absurd hxk (h2 x hx)
    rw [hn]
    cases c <;> simp [Instr.lookup, run_underlying ht, MapKept.run_getObj_map hb, K.check w _ hkey, h1, hz, Result.andThen]
  · have hn : f key = some e0.val := (hf key e0.val).2 ⟨e0, List.mem_of_getElem? h2, h3, rfl⟩
    rw [hn]
    cases c <;> simp [Instr.lookup, run_underlying ht, MapKept.run_getObj_map hb, K.check w _ hkey, h1, Result.andThen]
theorem stamped_keys {es : Array MapEntry} {clock : Nat} (h : Stamped es clock) : es.toList.Pairwise (fun x y => x.key ≠ y.key) := ((Go.MapKept.stamped_iff es clock).1 h).2.2
theorem key_at {l : List MapEntry} (h : l.Pairwise (fun x y => x.key ≠ y.key)) {i j : Nat} {x y : MapEntry} (hi : l[i]? = some x) (hj : l[j]? = some y) (he : x.key = y.key) : i = j := by
  obtain ⟨hil, rfl⟩ := List.getElem?_eq_some_iff.1 hi
  obtain ⟨hjl, rfl⟩ := List.getElem?_eq_some_iff.1 hj
  rcases Nat.lt_trichotomy i j with h1 | h1 | h1
  · exact absurd he (List.pairwise_iff_getElem.1 h i j hil hjl h1)
  · exact h1
  · exact absurd he.symm (List.pairwise_iff_getElem.1 h j i hjl hil h1)
/-- m[q] = v. -/
theorem IsM.put_ (h : IsM P k w b f) (K : Keyed P k) (ht : P.underlying t = some (.map k e)) (hkey : keyOf P k key = some kl) (val : Value) (h1 : f' key = some val) (h2 : ∀ q, q ≠ key → f' q = f q) :
    ∃ o, (Instr.mapUpdate t (.map (some b)) key val).run P w = .ok () (putb w b o) ∧ IsM P k (putb w b o) b f' := by
  have hlt := h.lt
  obtain ⟨es, clock, hb, hst, hks, hf⟩ := h
  rcases K.find w hkey es.toList hks with ⟨g1, g2⟩ | ⟨j, e0, g1, g2, g3⟩
  · refine ⟨.map (es.push ⟨key, val, clock⟩) (clock + 1), ?_, es.push ⟨key, val, clock⟩, clock + 1, putb_same hlt _, Go.MapKept.stamped_push hst g2, fun x hx => ?_, fun q v => ?_⟩
    · simp [Instr.mapUpdate, run_underlying ht, MapKept.run_getObj_map hb, K.check w false hkey, g1, MapKept.run_setObj_map _ hb, Result.andThen, putb]
    · simp only [Array.toList_push, List.mem_append, List.mem_singleton] at hx
      rcases hx with hx | rfl
      · exact hks x hx
      · exact ⟨kl, hkey⟩
    · simp only [Array.toList_push, List.mem_append, List.mem_singleton]
      by_cases hq : q = key
      · subst hq
        rw [h1]
        constructor
        · intro hv
          injection hv with hv
          exact ⟨_, .inr rfl, rfl, hv⟩
        · rintro ⟨x, hx | rfl, hxk, hxv⟩
          · exact absurd hxk (g2 x hx)
          · rw [← hxv]
      · rw [h2 q hq, hf]
        constructor
        · rintro ⟨x, hx, hxk, hxv⟩
          exact ⟨x, .inl hx, hxk, hxv⟩
        · rintro ⟨x, hx | rfl, hxk, hxv⟩
          · exact ⟨x, hx, hxk, hxv⟩
          · exact absurd hxk.symm hq
  · have hj : es[j]? = some e0 := by simpa using g2
    have hjl : j < es.toList.length := (List.getElem?_eq_some_iff.1 g2).1
    have hlist : (es.modify j (fun e' => { e' with key := key, val := val })).toList = es.toList.set j { e0 with key := key, val := val } := by rw [Array.toList_modify, Go.ChangeMaps.modify_eq_set _ _ _ _ g2]
    have hkeyf : ∀ e', es[j]? = some e' → ({ e' with key := key, val := val } : MapEntry).key = e'.key := fun e' he' => by rw [hj] at he'; cases he'; exact g3.symm
    have who : ∀ x, x ∈ es.toList.set j { e0 with key := key, val := val } ↔ x = { e0 with key := key, val := val } ∨ (x ∈ es.toList ∧ x.key ≠ key) := by
      intro x
      constructor
      · intro hx
        obtain ⟨i, hi⟩ := List.getElem?_of_mem hx
        by_cases hij : i = j
        · subst hij
          rw [List.getElem?_set_self hjl] at hi
          injection hi with hi
          exact .inl hi.symm
        · rw [List.getElem?_set_ne (Ne.symm hij)] at hi
          exact .inr ⟨List.mem_of_getElem? hi, fun he => hij (key_at (stamped_keys hst) hi g2 (he.trans g3.symm))⟩
      · rintro (rfl | ⟨hx, hne⟩)
        · exact List.mem_of_getElem? (List.getElem?_set_self hjl)
        · obtain ⟨i, hi⟩ := List.getElem?_of_mem hx
          have hij : j ≠ i := by
            rintro rfl
            rw [g2] at hi
            injection hi with hi
            exact hne (hi ▸ g3)
          exact List.mem_of_getElem? ((List.getElem?_set_ne hij).trans hi)
    refine ⟨.map (es.modify j (fun e' => { e' with key := key, val := val })) clock, ?_, es.modify j (fun e' => { e' with key := key, val := val }), clock, putb_same hlt _, Go.MapKept.stamped_modify hst _ _ (fun _ _ => rfl) (fun e' _ he' => hkeyf e' he'), fun x hx => ?_, fun q v => ?_⟩
    · simp [Instr.mapUpdate, run_underlying ht, MapKept.run_getObj_map hb, K.check w false hkey, g1, hj, g3, K.stays w hkey, MapKept.run_setObj_map _ hb, Result.andThen, putb]
    · rw [hlist, who] at hx
      rcases hx with rfl | ⟨hx, _⟩
      · exact ⟨kl, hkey⟩
      · exact hks x hx
    · rw [hlist]
      simp only [who]
      by_cases hq : q = key
      · subst hq
        rw [h1]
        constructor
        · intro hv
          injection hv with hv
          exact ⟨_, .inl rfl, rfl, hv⟩
        · rintro ⟨x, rfl | ⟨hx, hne⟩, hxk, hxv⟩
          · rw [← hxv]
          · exact absurd hxk hne
      · rw [h2 q hq, hf]
        constructor
        · rintro ⟨x, hx, hxk, hxv⟩
          exact ⟨x, .inr ⟨hx, fun he => hq (hxk.symm.trans he)⟩, hxk, hxv⟩
        · rintro ⟨x, rfl | ⟨hx, hne⟩, hxk, hxv⟩
          · exact absurd hxk.symm hq
          · exact ⟨x, hx, hxk, hxv⟩
/-- delete(m, q). -/
theorem IsM.drop_ (h : IsM P k w b f) (K : Keyed P k) (ht : P.underlying t = some (.map k e)) (hkey : keyOf P k key = some kl) (h1 : f' key = none) (h2 : ∀ q, q ≠ key → f' q = f q) (ty : TypeId) :
    ∃ o, (Builtin.delete_ #[t, k] ty #[.map (some b), key]).run P w = .ok (.tuple #[]) (putb w b o) ∧ IsM P k (putb w b o) b f' := by
  have hlt := h.lt
  obtain ⟨es, clock, hb, hst, hks, hf⟩ := h
  rcases K.find w hkey es.toList hks with ⟨g1, g2⟩ | ⟨j, e0, g1, g2, g3⟩
  · refine ⟨.map es clock, ?_, es, clock, putb_same hlt _, hst, hks, fun q v => ?_⟩
    · simp [Builtin.delete_, run_underlying ht, MapKept.run_getObj_map hb, K.check w _ hkey, g1, MapKept.run_setObj_map _ hb, Result.andThen, putb]
    · by_cases hq : q = key
      · subst hq
        rw [h1]
        constructor
        · intro hv; cases hv
        · rintro ⟨x, hx, hxk, _⟩
          exact absurd hxk (g2 x hx)
      · rw [h2 q hq]
        exact hf q v
  · have hjl : j < es.toList.length := (List.getElem?_eq_some_iff.1 g2).1
    have hjs : j < es.size := by simpa using hjl
    have hsub : (es.eraseIdxIfInBounds j).toList = es.toList.eraseIdx j := by
      unfold Array.eraseIdxIfInBounds
      rw [dif_pos hjs]
      simp
    have who : ∀ x, x ∈ es.toList.eraseIdx j ↔ x ∈ es.toList ∧ x.key ≠ key := by
      intro x
      rw [List.mem_eraseIdx_iff_getElem?]
      constructor
      · rintro ⟨i, hne, hi⟩
        exact ⟨List.mem_of_getElem? hi, fun he => hne (key_at (stamped_keys hst) hi g2 (he.trans g3.symm))⟩
      · rintro ⟨hx, hne⟩
        obtain ⟨i, hi⟩ := List.getElem?_of_mem hx
        refine ⟨i, ?_, hi⟩
        rintro rfl
        rw [g2] at hi
        injection hi with hi
        exact hne (hi ▸ g3)
    refine ⟨.map (es.eraseIdxIfInBounds j) clock, ?_, es.eraseIdxIfInBounds j, clock, putb_same hlt _, Go.MapKept.stamped_erase hst j, fun x hx => ?_, fun q v => ?_⟩
    · simp [Builtin.delete_, run_underlying ht, MapKept.run_getObj_map hb, K.check w _ hkey, g1, MapKept.run_setObj_map _ hb, Result.andThen, putb]
    · rw [hsub, who] at hx
      exact hks x hx.1
    · rw [hsub]
      simp only [who]
      by_cases hq : q = key
      · subst hq
        rw [h1]
        constructor
        · intro hv; cases hv
        · rintro ⟨x, ⟨_, hne⟩, hxk, _⟩
          exact absurd hxk hne
      · rw [h2 q hq, hf]
        constructor
        · rintro ⟨x, hx, hxk, hxv⟩
          exact ⟨x, ⟨hx, fun he => hq (hxk.symm.trans he)⟩, hxk, hxv⟩
        · rintro ⟨x, ⟨hx, _⟩, hxk, hxv⟩
          exact ⟨x, hx, hxk, hxv⟩
/-- clear(m). -/
theorem IsM.clear_ (h : IsM P k w b f) (ht : P.underlying t = some (.map k e)) (h1 : ∀ q, f' q = none) (ty : TypeId) :
    ∃ o, (Builtin.clear_ #[t] ty #[.map (some b)]).run P w = .ok (.tuple #[]) (putb w b o) ∧ IsM P k (putb w b o) b f' := by
  have hlt := h.lt
  obtain ⟨es, clock, hb, hst, hks, hf⟩ := h
  refine ⟨.map #[] clock, ?_, #[], clock, putb_same hlt _, Go.MapKept.stamped_empty clock, fun x hx => by simp at hx, fun q v => by rw [h1]; simp⟩
  simp [Builtin.clear_, run_underlying ht, MapKept.run_getObj_map hb, MapKept.run_setObj_map _ hb, Result.andThen, putb]
end
/-! Their operations. -/
section
variable {P : Program} {ops : Array Oper} {rest : List Oper} {o : Oper} {a : Act} {w : World} {Q : Exit → Act → World → Prop}
theorem wpList_look_m (hg : o.guard = none) (m x : Operand) (t : TypeId) (c : Bool) (hop : o.op = Op.lookup t m x c) {k e : TypeId} (K : Keyed P k) (ht : P.underlying t = some (.map k e)) {z : Value} (hz : (zeroValue e).run P w = .ok z w) {b : Nat} {f : Value → Option Value}
    (hm : a.eval m = .map (some b)) (h : IsM P k w b f) (key : Value) {kl : Lit} (hx : a.eval x = key) (hkey : keyOf P k key = some kl)
    (hK : wpList P ops Q rest (a.put o.dst (if c then .tuple #[(f key).getD z, .bool (f key).isSome] else (f key).getD z)) w) : wpList P ops Q (o :: rest) a w := by
  refine wpList_plain hg fun K' hK' => ?_
  have hrun := h.look K ht hz hkey c
  unfold Oper.wp
  simp only [execOp, hop, hm, hx]
  simp [hrun, Result.andThen]
  exact hK' _ _ hK
theorem wpList_put_m (hg : o.guard = none) (m x v : Operand) (t : TypeId) (hop : o.op = Op.mapUpdate t m x v) {k e : TypeId} (K : Keyed P k) (ht : P.underlying t = some (.map k e)) {b : Nat} {f : Value → Option Value} (f' : Value → Option Value)
    (hm : a.eval m = .map (some b)) (h : IsM P k w b f) (key : Value) {kl : Lit} (hx : a.eval x = key) (hkey : keyOf P k key = some kl) (val : Value) (hv : a.eval v = val) (h1 : f' key = some val) (h2 : ∀ q, q ≠ key → f' q = f q)
    (hK : ∀ w', Turned w w' b → IsM P k w' b f' → wpList P ops Q rest (a.put o.dst undef) w') : wpList P ops Q (o :: rest) a w := by
  refine wpList_plain hg fun K' hK' => ?_
  obtain ⟨ob, hrun, hi⟩ := h.put_ K ht hkey val h1 h2
  unfold Oper.wp
  simp only [execOp, hop, hm, hx, hv]
  simp [hrun, Result.andThen]
  exact hK' _ _ (hK _ (putb_turned ob) hi)
theorem wpList_drop_m (hg : o.guard = none) (m x : Operand) (t k : TypeId) (hop : o.op = Op.call { callee := Callee.builtin Builtin.delete, args := #[m, x], argTypes := #[t, k] }) {e : TypeId} (K : Keyed P k) (ht : P.underlying t = some (.map k e)) {b : Nat} {f : Value → Option Value} (f' : Value → Option Value)
    (hm : a.eval m = .map (some b)) (h : IsM P k w b f) (key : Value) {kl : Lit} (hx : a.eval x = key) (hkey : keyOf P k key = some kl) (h1 : f' key = none) (h2 : ∀ q, q ≠ key → f' q = f q)
    (hK : ∀ w', Turned w w' b → IsM P k w' b f' → wpList P ops Q rest (a.put o.dst (.tuple #[])) w') : wpList P ops Q (o :: rest) a w := by
  refine wpList_plain hg fun K' hK' => ?_
  obtain ⟨ob, hrun, hi⟩ := h.drop_ K ht hkey h1 h2 o.type
  unfold Oper.wp
  simp [execOp, hop, resolve, invoke, builtin, hm, hx, hrun, Result.andThen]
  exact hK' _ _ (hK _ (putb_turned ob) hi)
theorem wpList_clear_m (hg : o.guard = none) (m : Operand) (t : TypeId) (hop : o.op = Op.call { callee := Callee.builtin Builtin.clear, args := #[m], argTypes := #[t] }) {k e : TypeId} (ht : P.underlying t = some (.map k e)) {b : Nat} {f : Value → Option Value} (f' : Value → Option Value)
    (hm : a.eval m = .map (some b)) (h : IsM P k w b f) (h1 : ∀ q, f' q = none)
    (hK : ∀ w', Turned w w' b → IsM P k w' b f' → wpList P ops Q rest (a.put o.dst (.tuple #[])) w') : wpList P ops Q (o :: rest) a w := by
  refine wpList_plain hg fun K' hK' => ?_
  obtain ⟨ob, hrun, hi⟩ := h.clear_ ht h1 o.type
  unfold Oper.wp
  simp [execOp, hop, resolve, invoke, builtin, hm, hrun, Result.andThen]
  exact hK' _ _ (hK _ (putb_turned ob) hi)
end
end Go.Proofs.Ythocnaagpmkoeaa.Mp
