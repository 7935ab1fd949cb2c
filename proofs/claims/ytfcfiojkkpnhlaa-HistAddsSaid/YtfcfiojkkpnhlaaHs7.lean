/- Histories: the history, what is wanted, what has ended: three that lie apart. -/
import Derived.Test.YtfcfiojkkpnhlaaProg
import Derived.Below
import Derived.Deep.Draws
import Derived.Deep.AppendLies
import Derived.Maps.AppendAt
import Derived.OwnWalk
import Derived.Laws.BytesArg
import Derived.Laws.MakeOwn
import Derived.Laws.OwnMore
import Derived.Deep.OwnRows
import Derived.Tactics
import Derived.Lib.ConvBytes
import Derived.Laws.Slices
import Derived.WalkKit
import Derived.KernelRfl
import Derived.RowKit3
import Derived.Deep.LoopGhost
import Derived.Deep.QuietTactic
import Derived.BigQuiet
import Derived.WideLaws
import Derived.Deep.DeepCutAuto
import Derived.Deep.CutBlock
import Derived.Deep.RegionHeld3
import Derived.Laws.Rows
import Derived.Lib.AppendStr
import Derived.ArgAppend
import Derived.Laws.IdiomCopy
import Derived.OrdersHeld
import Derived.Laws.BitsLemmas
import Derived.RowKit
import Derived.Test.YtfcfiojkkpnhlaaWWords
import Derived.Test.YtfcfiojkkpnhlaaWLast
import Derived.Test.YtfcfiojkkpnhlaaWTab
import Derived.Test.YtfcfiojkkpnhlaaWFour
import Derived.Test.YtfcfiojkkpnhlaaWQPut
import Derived.Test.YtfcfiojkkpnhlaaWApart
import Derived.Test.YtfcfiojkkpnhlaaWArr
import Derived.Test.YtfcfiojkkpnhlaaWZeros
import Derived.Test.YtfcfiojkkpnhlaaWFoot
import Derived.Test.YtfcfiojkkpnhlaaWKept
import Derived.Test.YtfcfiojkkpnhlaaWShare
import Derived.Test.YtfcfiojkkpnhlaaWN
import Derived.Test.YtfcfiojkkpnhlaaWFootNe
import Derived.Test.YtfcfiojkkpnhlaaWAt
import Derived.Test.YtfcfiojkkpnhlaaWEqStruct
import Derived.Test.YtfcfiojkkpnhlaaWRepsOne
import Derived.Test.YtfcfiojkkpnhlaaWInv
import Derived.Test.YtfcfiojkkpnhlaaWInvWords
import Derived.Test.YtfcfiojkkpnhlaaWGuard
import Derived.Test.YtfcfiojkkpnhlaaWNEv
import Derived.Test.YtfcfiojkkpnhlaaWMore
import Derived.Test.YtfcfiojkkpnhlaaHs6
namespace Go.Proofs.Ytfcfiojkkpnhlaa.Hs
open Go.RowKit Go.Proofs.YtfcfiojkkpnhlaaW.PrintWords Go.Proofs.YtfcfiojkkpnhlaaW.PrintLast Go.Proofs.YtfcfiojkkpnhlaaW.PrintMore
attribute [local go_sem] max2_int min2_int max_two min_two max_three min_three max_four min_four
set_option linter.unusedVariables false
set_option linter.unusedSimpArgs false
open Go.Proofs.Ytfcfiojkkpnhlaa.Mp
/-- What is wanted: its block is its own, its bytes were there ahead of B. -/
def NT (B : Nat) (W : World) (v : Value) (ws : List Cl) : Prop := Kd.N CKy 40 W B (fun k => k < B ∨ some k = v.ownBlock) v ws
section
variable {B : Nat} {W W' : World} {v v' : Value} {ws : List Cl}
theorem NT.base (h : NT B W v ws) : ∀ k, v.ownBlock = some k → B ≤ k := Kd.N_base h
theorem NT.lt (h : NT B W v ws) : ∀ k, v.ownBlock = some k → k < W.heap.size := Kd.N_lt h
theorem NT.step (h : NT B W v ws) (h1 : ∀ k, k < B → k < W.heap.size → W'.heap[k]? = W.heap[k]?) (h2 : ∀ k, v.ownBlock = some k → W'.heap[k]? = W.heap[k]?) : NT B W' v ws :=
  Kd.N_step h (fun k hk hl => hk.elim (fun e => h1 k e hl) (fun e => h2 k e.symm))
theorem NT.grown (h : NT B W v ws) {row : Option Nat} (hg : W.grownBy W' row) (hb : ∀ k, row = some k → B ≤ k) (hne : ∀ k, v.ownBlock = some k → row ≠ some k) : NT B W' v ws :=
  h.step (fun k hk hl => hg.block k hl (fun e => by have := hb k e.symm; omega)) (fun k hk => hg.block k (h.lt k hk) (fun e => hne k hk e.symm))
theorem nt_nil (B : Nat) (W : World) : NT B W (.slice none 0 0) [] := Kd.N_nil _ _ _ _ _
theorem nt_made (h : NT B W v ws) {rows : List (List Value)} {cs : List Value} {p : Cl} (hp : Kd.FK CKy W (fun k => k < B) p cs) (hB : B ≤ W.heap.size) (hlr : rows.length = ws.length)
    (hf : ∀ (j : Nat) (x : Cl) (c : List Value), ws[j]? = some x → rows[j]? = some c → Kd.FK CKy W (fun k => (k < B ∨ some k = v.ownBlock) ∧ some k ≠ v.ownBlock) x c)
    (hR : (Kd.raw 10).R 40 W' B (fun _ => True) v' (rows ++ [cs])) (hg : W.grownBy W' v.ownBlock) (hat : v'.ownBlock = v.ownBlock ∨ ∃ b, v'.ownBlock = some b ∧ W.heap.size ≤ b) : NT B W' v' (ws ++ [p]) := by
  have hb1 := h.base
  have hb2 : ∀ k, some k = v'.ownBlock → B ≤ k := fun k hk => by
    rcases hat with hat | ⟨b, hb, hle⟩
    · exact hb1 k (hat ▸ hk.symm)
    · rw [hb] at hk; injection hk with hk; omega
  have st : ∀ {x : Cl} {c : List Value}, Kd.FK CKy W (fun k => k < B) x c → Kd.FK CKy W' (fun k => (k < B ∨ some k = v'.ownBlock) ∧ some k ≠ v'.ownBlock) x c := fun hq =>
    Kd.FK_mono (Kd.FK_step hq (fun k hk hl => hg.block k hl (fun e => by have := hb1 k e.symm; omega))) (fun k hk => ⟨.inl hk, fun e => by have := hb2 k e; omega⟩)
  refine ⟨fun k hk => .inr hk.symm, rows ++ [cs], by rw [List.length_append, List.length_append, hlr]; rfl, Kd.raw_tight hR, fun j x c hx hc => ?_⟩
  rcases Nat.lt_or_ge j ws.length with hlt | hge
  · rw [List.getElem?_append_left hlt] at hx
    rw [List.getElem?_append_left (by omega)] at hc
    exact st (Kd.FK_mono (hf j x c hx hc) (fun k hk => hk.1.elim id (fun e => absurd e hk.2)))
  · rw [List.getElem?_append_right hge] at hx
    rw [List.getElem?_append_right (by omega), hlr] at hc
    by_cases hj : j - ws.length = 0
    · rw [hj] at hx hc
      simp only [List.getElem?_cons_zero, Option.some.injEq] at hx hc
      subst hx hc
      exact st hp
    · obtain ⟨i, hi⟩ : ∃ i, j - ws.length = i + 1 := ⟨j - ws.length - 1, by omega⟩
      rw [hi] at hx
      simp at hx
end
theorem Own.moved {w W W' : World} {g mb : Nat} {ok : Nat → Prop} {h : Hst} {m : Nat} (O : Own w W g mb ok h m) {row : Option Nat} (hg : W.grownBy W' row) (hr : ∀ k, row = some k → ¬ ok k ∧ k ≠ g ∧ k ≠ mb ∧ w.heap.size ≤ k) : Own w W' g mb (fun k => ok k ∧ (k < W.heap.size ∨ W'.heap.size ≤ k)) h m := by
  have hp := O.hp
  have hl := hp.lt
  obtain ⟨v, H⟩ := hp
  have H2 : Hv W (fun k => ok k ∧ (k < W.heap.size ∨ W'.heap.size ≤ k)) g mb v h := H.mono (fun k h1 h2 => ⟨h1, .inl h2⟩) (fun e => H.ng e.1) (fun e => H.nm e.1)
  have hne : ∀ k, ok k → k < W.heap.size → W'.heap[k]? = W.heap[k]? := fun k h1 h2 => hg.block k h2 (fun e => (hr k e.symm).1 h1)
  refine ⟨⟨v, H2.step (fun k hk h2 => hne k hk.1 h2) (hg.block g hl.1 (fun e => (hr g e.symm).2.1 rfl)) (hg.block mb hl.2 (fun e => (hr mb e.symm).2.2.1 rfl))⟩, ?_, O.gk, O.bk, fun k hk => O.okk k hk.1, fun k hk => ⟨O.new k (Nat.le_trans hg.size hk), .inr hk⟩, O.fm⟩
  exact O.bl.grown hg O.bl.size (fun k e => (hr k e).2.2.2)
/-- The three. -/
def Three (w W : World) (g mb : Nat) (pr : Nat → Prop) (h : Hst) (m : Nat) (v : Value) (ws : List Cl) (u : Value) (es : List Bool) : Prop :=
  ∃ ok, Own w W g mb ok h m ∧ NT w.heap.size W v ws ∧ Kd.bool.R 4 W w.heap.size (fun _ => True) u es ∧
    (∀ k, (v.ownBlock = some k ∨ u.ownBlock = some k ∨ pr k) → k < W.heap.size ∧ ¬ ok k ∧ k ≠ g ∧ k ≠ mb) ∧ (∀ k, v.ownBlock = some k → u.ownBlock ≠ some k) ∧ (∀ k, pr k → v.ownBlock ≠ some k ∧ u.ownBlock ≠ some k)
section
variable {w W W' : World} {g mb : Nat} {pr pr' : Nat → Prop} {h : Hst} {m : Nat} {v v' u u' : Value} {ws ws' : List Cl} {es es' : List Bool}
theorem Three.bl (T : Three w W g mb pr h m v ws u es) : Below w.heap.size w W := by
  obtain ⟨ok, O, _⟩ := T
  exact O.bl
theorem Three.fm (T : Three w W g mb pr h m v ws u es) : h.Fm m := by
  obtain ⟨ok, O, _⟩ := T
  exact O.fm
theorem Three.nt (T : Three w W g mb pr h m v ws u es) : NT w.heap.size W v ws := by
  obtain ⟨ok, O, N, _⟩ := T
  exact N
theorem Three.bs (T : Three w W g mb pr h m v ws u es) : Kd.bool.R 4 W w.heap.size (fun _ => True) u es := by
  obtain ⟨ok, O, N, R, _⟩ := T
  exact R
theorem Three.ne (T : Three w W g mb pr h m v ws u es) : ∀ k, v.ownBlock = some k → u.ownBlock ≠ some k := by
  obtain ⟨ok, O, N, R, a, b, c⟩ := T
  exact b
theorem Three.pr_ne (T : Three w W g mb pr h m v ws u es) : ∀ k, pr k → v.ownBlock ≠ some k ∧ u.ownBlock ≠ some k := by
  obtain ⟨ok, O, N, R, a, b, c⟩ := T
  exact c
/-- All but the history. -/
theorem Three.grow (T : Three w W g mb pr h m v ws u es) {row : Option Nat} (hg : W.grownBy W' row) (hrow : ∀ k, row = some k → v.ownBlock = some k ∨ u.ownBlock = some k)
    (hN : NT w.heap.size W' v' ws') (hR : Kd.bool.R 4 W' w.heap.size (fun _ => True) u' es') (hv : ∀ k, v'.ownBlock = some k → v.ownBlock = some k ∨ W.heap.size ≤ k) (hu : ∀ k, u'.ownBlock = some k → u.ownBlock = some k ∨ W.heap.size ≤ k)
    (hvu : ∀ k, v'.ownBlock = some k → u'.ownBlock ≠ some k) (hpr : ∀ k, pr' k → pr k ∨ (W.heap.size ≤ k ∧ k < W'.heap.size)) (hpv : ∀ k, pr' k → v'.ownBlock ≠ some k ∧ u'.ownBlock ≠ some k) : Three w W' g mb pr' h m v' ws' u' es' := by
  obtain ⟨ok, O, N, R, a, b, c⟩ := T
  have hl := O.hp.lt
  have hz := hg.size
  refine ⟨_, O.moved hg (fun k e => ?_), hN, hR, fun k hk => ?_, hvu, hpv⟩
  · rcases hrow k e with e1 | e1
    · exact ⟨(a k (.inl e1)).2.1, (a k (.inl e1)).2.2.1, (a k (.inl e1)).2.2.2, N.base k e1⟩
    · exact ⟨(a k (.inr (.inl e1))).2.1, (a k (.inr (.inl e1))).2.2.1, (a k (.inr (.inl e1))).2.2.2, Kd.R_base R k e1⟩
  · have old : (k < W.heap.size ∧ ¬ ok k ∧ k ≠ g ∧ k ≠ mb) → k < W'.heap.size ∧ ¬ (ok k ∧ (k < W.heap.size ∨ W'.heap.size ≤ k)) ∧ k ≠ g ∧ k ≠ mb := fun e => ⟨by omega, fun e2 => e.2.1 e2.1, e.2.2⟩
    have new : (W.heap.size ≤ k ∧ k < W'.heap.size) → k < W'.heap.size ∧ ¬ (ok k ∧ (k < W.heap.size ∨ W'.heap.size ≤ k)) ∧ k ≠ g ∧ k ≠ mb := fun e => ⟨by omega, fun e2 => by omega, by omega, by omega⟩
    rcases hk with hk | hk | hk
    · rcases hv k hk with e | e
      · exact old (a k (.inl e))
      · exact new ⟨e, hN.lt k hk⟩
    · rcases hu k hk with e | e
      · exact old (a k (.inr (.inl e)))
      · exact new ⟨e, Kd.R_lt hR k hk⟩
    · rcases hpr k hk with e | e
      · exact old (a k (.inr (.inr e)))
      · exact new e
/-- The history. -/
theorem Three.hist (T : Three w W g mb pr h m v ws u es) : ∃ ok, Own w W g mb ok h m ∧ (∀ k, pr k → ¬ ok k ∧ k ≠ mb ∧ k ≠ g) ∧ ∀ W' h' m', Own w W' g mb ok h' m' → Kq W W' (fun k => ok k ∨ k = mb) g → Three w W' g mb pr h' m' v ws u es ∧ ∀ k, pr k → W'.heap[k]? = W.heap[k]? := by
  obtain ⟨ok, O, N, R, a, b, c⟩ := T
  refine ⟨ok, O, fun k hk => ⟨(a k (.inr (.inr hk))).2.1, (a k (.inr (.inr hk))).2.2.2, (a k (.inr (.inr hk))).2.2.1⟩, fun W' h' m' O' K => ?_⟩
  have same : ∀ k, (v.ownBlock = some k ∨ u.ownBlock = some k ∨ pr k) → W'.heap[k]? = W.heap[k]? := fun k hk => K.block k (a k hk).1 (fun e => e.elim (a k hk).2.1 (a k hk).2.2.2) (a k hk).2.2.1
  refine ⟨⟨ok, O', N.step (fun k hk hl => (O'.bl.block k hk).trans (O.bl.block k hk).symm) (fun k hk => same k (.inl hk)), ?_, fun k hk => ⟨Nat.lt_of_lt_of_le (a k hk).1 K.size, (a k hk).2⟩, b, c⟩, fun k hk => same k (.inr (.inr hk))⟩
  exact Kd.R_mono (Kd.R_step (Kd.R_tight rfl R) (fun k hk hl => same k (.inr (.inl hk.symm)))) (fun _ _ => trivial)
theorem Three.below (T : Three w W g mb pr h m v ws u es) (hb : Below W.heap.size W W') : Three w W' g mb pr h m v ws u es := by
  refine T.grow (row := none) ⟨hb.os, hb.tape, hb.output, hb.size, fun k hk _ => hb.block k hk⟩ (fun k e => by cases e) (T.nt.step (fun k _ hl => hb.block k hl) (fun k hk => hb.block k (T.nt.lt k hk))) (Kd.R_below T.bs hb) (fun k e => .inl e) (fun k e => .inl e) T.ne (fun k e => .inl e) T.pr_ne
/-- New blocks are left alone. -/
theorem Three.guard_ (T : Three w W g mb pr h m v ws u es) (hb : Below W.heap.size W W') (hp : ∀ k, pr' k → pr k ∨ (W.heap.size ≤ k ∧ k < W'.heap.size)) : Three w W' g mb pr' h m v ws u es := by
  refine T.grow (row := none) ⟨hb.os, hb.tape, hb.output, hb.size, fun k hk _ => hb.block k hk⟩ (fun k e => by cases e) (T.nt.step (fun k _ hl => hb.block k hl) (fun k hk => hb.block k (T.nt.lt k hk))) (Kd.R_below T.bs hb) (fun k e => .inl e) (fun k e => .inl e) T.ne hp (fun k hk => ?_)
  rcases hp k hk with e | e
  · exact T.pr_ne k e
  · exact ⟨fun e2 => by have := T.nt.lt k e2; omega, fun e2 => by have := Kd.R_lt T.bs k e2; omega⟩
theorem Three.less (T : Three w W g mb pr h m v ws u es) (hp : ∀ k, pr' k → pr k) : Three w W g mb pr' h m v ws u es := T.guard_ (Below.refl _ _) (fun k hk => .inl (hp k hk))
end
/-! What is wanted, in plain words. -/
/-- Of the calls ahead of k the task's have ended. -/
def markTo (ws : List Cl) (es : List Bool) (t : Int) : Nat → List Bool
  | 0 => es
  | k + 1 => if (ws.getD k clz).task = t then (markTo ws es t k).set k true else markTo ws es t k
theorem markTo_len (ws : List Cl) (es : List Bool) (t : Int) : ∀ k, (markTo ws es t k).length = es.length
  | 0 => rfl
  | k + 1 => by
    unfold markTo
    split
    · rw [List.length_set]; exact markTo_len ws es t k
    · exact markTo_len ws es t k
theorem markTo_at (ws : List Cl) (es : List Bool) (t : Int) (n : Nat) (hn : n < es.length) : ∀ k, (markTo ws es t k).getD n true = if n < k ∧ (ws.getD n clz).task = t then true else es.getD n true
  | 0 => by rw [if_neg (by omega)]; rfl
  | k + 1 => by
    have ih := markTo_at ws es t n hn k
    have hlen := markTo_len ws es t k
    unfold markTo
    by_cases hk : (ws.getD k clz).task = t
    · rw [if_pos hk]
      rw [List.getD_eq_getElem?_getD] at ih ⊢
      by_cases hnk : k = n
      · subst hnk
        rw [List.getElem?_set_self (by omega), if_pos ⟨by omega, hk⟩]; rfl
      · rw [List.getElem?_set_ne hnk, ih]
        by_cases h1 : n < k ∧ (ws.getD n clz).task = t
        · rw [if_pos h1, if_pos ⟨by omega, h1.2⟩]
        · rw [if_neg h1, if_neg (fun e => h1 ⟨by omega, e.2⟩)]
    · rw [if_neg hk, ih]
      by_cases h1 : n < k ∧ (ws.getD n clz).task = t
      · rw [if_pos h1, if_pos ⟨by omega, h1.2⟩]
      · rw [if_neg h1, if_neg (fun e => h1 ⟨by
          rcases Nat.lt_or_ge n k with h | h
          · exact h
          · exact absurd (by rw [show k = n by omega]; exact e.2) hk, e.2⟩)]
/-- The history and what is wanted agree. -/
structure Jn (h : Hst) (ws : List Cl) (es : List Bool) (i : Nat) : Prop where
  list : ws = h.list
  len : es.length = ws.length
  now : h.now = (i : Int)
  a : ∀ n, n < ws.length → es.getD n true = false → h.opn (ws.getD n clz).task = some n
  b : ∀ t n, h.opn t = some n → n < ws.length ∧ (ws.getD n clz).task = t ∧ es.getD n true = false
theorem jn0 : Jn h0 [] [] 0 := ⟨rfl, rfl, rfl, fun n hn => by simp at hn, fun t n ht => by cases ht⟩
theorem getD_app (l : List Cl) (c : Cl) (n : Nat) : (l ++ [c]).getD n clz = if n < l.length then l.getD n clz else if n = l.length then c else clz := by
  simp only [List.getD_eq_getElem?_getD, List.getElem?_append]
  split
  · rfl
  · split
    · rename_i h1 h2
      subst h2
      simp
    · rename_i h1 h2
      obtain ⟨j, hj⟩ : ∃ j, n - l.length = j + 1 := ⟨n - l.length - 1, by omega⟩
      rw [hj]; rfl
theorem getB_app (l : List Bool) (c : Bool) (n : Nat) : (l ++ [c]).getD n true = if n < l.length then l.getD n true else if n = l.length then c else true := by
  simp only [List.getD_eq_getElem?_getD, List.getElem?_append]
  split
  · rfl
  · split
    · rename_i h1 h2
      subst h2
      simp
    · rename_i h1 h2
      obtain ⟨j, hj⟩ : ∃ j, n - l.length = j + 1 := ⟨n - l.length - 1, by omega⟩
      rw [hj]; rfl
section
variable {h : Hst} {ws : List Cl} {es : List Bool} {i : Nat}
theorem Jn.call (J : Jn h ws es i) (x : Stp) (a : Ans) (hx : x.kind = 1) (he : a.e = 0) : Jn (h.add x a) (ws ++ [⟨a.task, x.a, x.key, x.data, (i : Int) + 1, 0, 0, 0, [], []⟩]) (markTo ws es a.task ws.length ++ [false]) (i + 1) := by
  have hl := markTo_len ws es a.task ws.length
  have hlist := J.list
  have hlen := J.len
  unfold Hst.add
  rw [if_pos ⟨hx, he⟩]
  refine ⟨?_, by simp [hl, hlen], by show h.now + 1 = _; rw [J.now]; omega, fun n hn hf => ?_, fun t n ht => ?_⟩
  · show _ = h.list ++ [h.call x a]
    rw [← hlist]
    unfold Hst.call
    rw [J.now]
  · simp only [List.length_append, List.length_singleton] at hn
    rw [getB_app, hl, hlen] at hf
    rw [getD_app]
    show upd h.opn a.task (some h.list.length) _ = _
    rw [← hlist]
    unfold upd
    by_cases h1 : n < ws.length
    · rw [if_pos h1] at hf ⊢
      rw [markTo_at ws es a.task n (by omega)] at hf
      by_cases h2 : (ws.getD n clz).task = a.task
      · rw [if_pos ⟨h1, h2⟩] at hf; cases hf
      · rw [if_neg (fun e => h2 e.2)] at hf
        rw [if_neg h2]
        exact J.a n h1 hf
    · obtain rfl : n = ws.length := by omega
      rw [if_neg h1, if_pos rfl]
      exact if_pos rfl
  · have ht' : upd h.opn a.task (some h.list.length) t = some n := ht
    unfold upd at ht'
    rw [getD_app, getB_app, hl, hlen]
    simp only [List.length_append, List.length_singleton]
    by_cases h2 : t = a.task
    · rw [if_pos h2] at ht'
      injection ht' with ht'
      rw [← hlist] at ht'
      subst ht'
      rw [if_neg (by omega), if_pos rfl, if_neg (by omega), if_pos rfl]
      exact ⟨by omega, h2.symm, rfl⟩
    · rw [if_neg h2] at ht'
      obtain ⟨h3, h4, h5⟩ := J.b t n ht'
      rw [if_pos h3, if_pos h3, markTo_at ws es a.task n (by omega), if_neg (fun e => h2 (h4.symm.trans e.2))]
      exact ⟨by omega, h4, h5⟩
theorem Jn.tick (J : Jn h ws es i) : Jn h.tick ws es (i + 1) := ⟨J.list, J.len, by show h.now + 1 = _; rw [J.now]; omega, J.a, J.b⟩
theorem getB_set (l : List Bool) (n k : Nat) (b : Bool) (hn : n < l.length) : (l.set n b).getD k true = if k = n then b else l.getD k true := by
  simp only [List.getD_eq_getElem?_getD]
  by_cases h : n = k
  · subst h
    rw [List.getElem?_set_self hn, if_pos rfl]; rfl
  · rw [List.getElem?_set_ne h, if_neg (Ne.symm h)]
/-- The one that is found. -/
def foundC (c : Cl) (i : Nat) (a : Ans) : Cl := if a.mark = 0 then c else { c with at_ := (i : Int) + 1 }
def foundD (c : Cl) (i : Nat) (a : Ans) : Cl := { foundC c i a with to_ := (i : Int) + 1, e := a.e, out := a.data, keys := a.keys }
theorem foundC_task (c : Cl) (i : Nat) (a : Ans) : (foundC c i a).task = c.task := by unfold foundC; split <;> rfl
theorem Jn.run (J : Jn h ws es i) (x : Stp) (a : Ans) (hx : x.kind = 2) (k : Nat) (hk : k < ws.length) (ht : (ws.getD k clz).task = x.a) (hf : es.getD k true = false) :
    Jn (h.add x a) (ws.set k (if a.done then foundD (ws.getD k clz) i a else foundC (ws.getD k clz) i a)) (if a.done then es.set k true else es) (i + 1) := by
  have ho : h.opn x.a = some k := ht ▸ J.a k hk hf
  have hlist := J.list
  have hlen := J.len
  have e1 : h.tick.list = ws := hlist.symm
  have e2 : h.tick.now = (i : Int) + 1 := by show h.now + 1 = _; rw [J.now]
  have hm : h.tick.marked k a = foundC (ws.getD k clz) i a := by
    unfold Hst.marked foundC
    rw [e1, e2]
  have hd : h.tick.ended k a = foundD (ws.getD k clz) i a := by
    unfold Hst.ended foundD
    rw [hm, e2]
  have htask : ∀ c : Cl, c.task = (ws.getD k clz).task → ∀ n, ((ws.set k c).getD n clz).task = (ws.getD n clz).task := fun c hc n => by
    rw [getD_set]
    split
    · rename_i e; rw [hc, e.1]
    · rfl
  unfold Hst.add
  rw [if_neg (fun e => by omega), if_pos hx]
  unfold Hst.run
  rw [show h.tick.opn x.a = some k from ho]
  show Jn (if a.done = true then _ else _) _ _ _
  cases hdn : a.done with
  | true =>
    rw [if_pos rfl, if_pos rfl, if_pos rfl, hd]
    refine ⟨by show _ = h.list.set k _; rw [hlist], by rw [List.length_set, List.length_set]; exact hlen, by show h.now + 1 = _; rw [J.now]; omega, fun n hn hf2 => ?_, fun t n ht2 => ?_⟩
    · rw [List.length_set] at hn
      rw [getB_set _ _ _ _ (by omega)] at hf2
      rw [htask _ (by unfold foundD; exact foundC_task _ _ _)]
      show upd h.opn x.a none _ = _
      unfold upd
      by_cases h2 : n = k
      · rw [if_pos h2] at hf2; cases hf2
      · rw [if_neg h2] at hf2
        have := J.a n hn hf2
        rw [if_neg (fun e => h2 (by rw [e, ho] at this; injection this with this; exact this.symm))]
        exact this
    · have ht3 : upd h.opn x.a none t = some n := ht2
      unfold upd at ht3
      split at ht3
      · cases ht3
      · rename_i hne
        obtain ⟨h3, h4, h5⟩ := J.b t n ht3
        rw [List.length_set, htask _ (by unfold foundD; exact foundC_task _ _ _), getB_set _ _ _ _ (by omega), if_neg (fun e => hne (by rw [← h4, e, ht]))]
        exact ⟨h3, h4, h5⟩
  | false =>
    rw [if_neg (by decide), if_neg (by decide), if_neg (by decide), hm]
    refine ⟨by show _ = h.list.set k _; rw [hlist], by rw [List.length_set]; exact hlen, by show h.now + 1 = _; rw [J.now]; omega, fun n hn hf2 => ?_, fun t n ht2 => ?_⟩
    · rw [List.length_set] at hn
      rw [htask _ (foundC_task _ _ _)]
      exact J.a n hn hf2
    · rw [List.length_set, htask _ (foundC_task _ _ _)]
      exact J.b t n ht2
theorem Jn.lost (J : Jn h ws es i) (x : Stp) (a : Ans) (hx : x.kind = 2) (hno : ∀ n, n < ws.length → (ws.getD n clz).task = x.a → es.getD n true = true) : Jn (h.add x a) ws es (i + 1) := by
  have ho : h.tick.opn x.a = none := by
    cases hc : h.opn x.a with
    | none => exact hc
    | some n =>
      obtain ⟨h3, h4, h5⟩ := J.b x.a n hc
      rw [hno n h3 h4] at h5
      cases h5
  unfold Hst.add
  rw [if_neg (fun e => by omega), if_pos hx]
  unfold Hst.run
  rw [ho]
  exact J.tick
theorem Jn.crash (J : Jn h ws es i) (x : Stp) (a : Ans) (hx : x.kind = 8) : Jn (h.add x a) ws (List.replicate es.length true) (i + 1) := by
  unfold Hst.add
  rw [if_neg (fun e => by omega), if_neg (by omega), if_pos hx]
  refine ⟨J.list, by simp [J.len], by show h.now + 1 = _; rw [J.now]; omega, fun n hn hf => ?_, fun t n ht => by cases ht⟩
  rw [List.getD_eq_getElem?_getD, List.getElem?_replicate] at hf
  split at hf <;> cases hf
theorem Jn.other (J : Jn h ws es i) (x : Stp) (a : Ans) (h1 : ¬ (x.kind = 1 ∧ a.e = 0)) (h2 : x.kind ≠ 2) (h8 : x.kind ≠ 8) : Jn (h.add x a) ws es (i + 1) := by
  unfold Hst.add
  rw [if_neg h1, if_neg h2, if_neg h8]
  exact J.tick
end
end Go.Proofs.Ytfcfiojkkpnhlaa.Hs
