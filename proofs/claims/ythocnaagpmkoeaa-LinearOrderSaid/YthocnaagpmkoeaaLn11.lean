/- Calls, one after the other: the words of LinearOrder's walk. -/
import Derived.Test.YthocnaagpmkoeaaProg
import Derived.Below
import Derived.Deep.Draws
import Derived.Deep.AppendLies
import Derived.Maps.AppendAt
import Derived.OwnWalk
import Derived.Laws.BytesArg
import Derived.Laws.MakeOwn
import Derived.Laws.OwnMore
import Derived.Deep.OwnRows
import Derived.Tactics
import Derived.Lib.ConvBytes
import Derived.Laws.Slices
import Derived.WalkKit
import Derived.KernelRfl
import Derived.RowKit3
import Derived.Deep.LoopGhost
import Derived.Deep.QuietTactic
import Derived.BigQuiet
import Derived.WideLaws
import Derived.Deep.DeepCutAuto
import Derived.Deep.CutBlock
import Derived.Deep.RegionHeld3
import Derived.Laws.Rows
import Derived.Lib.AppendStr
import Derived.ArgAppend
import Derived.Laws.IdiomCopy
import Derived.OrdersHeld
import Derived.Laws.BitsLemmas
import Derived.RowKit
import Derived.Test.YthocnaagpmkoeaaWWords
import Derived.Test.YthocnaagpmkoeaaWLast
import Derived.Test.YthocnaagpmkoeaaWTab
import Derived.Test.YthocnaagpmkoeaaWFour
import Derived.Test.YthocnaagpmkoeaaWQPut
import Derived.Test.YthocnaagpmkoeaaWApart
import Derived.Test.YthocnaagpmkoeaaWArr
import Derived.Test.YthocnaagpmkoeaaWZeros
import Derived.Test.YthocnaagpmkoeaaWFoot
import Derived.Test.YthocnaagpmkoeaaWKept
import Derived.Test.YthocnaagpmkoeaaWShare
import Derived.Test.YthocnaagpmkoeaaWN
import Derived.Test.YthocnaagpmkoeaaWFootNe
import Derived.Test.YthocnaagpmkoeaaWAt
import Derived.Test.YthocnaagpmkoeaaWEqStruct
import Derived.Test.YthocnaagpmkoeaaWRepsOne
import Derived.Test.YthocnaagpmkoeaaWInv
import Derived.Test.YthocnaagpmkoeaaWInvWords
import Derived.Test.YthocnaagpmkoeaaWGuard
import Derived.Test.YthocnaagpmkoeaaWNEv
import Derived.Test.YthocnaagpmkoeaaWMore
import Derived.Test.YthocnaagpmkoeaaLn10
namespace Go.Proofs.Ythocnaagpmkoeaa.Ln
open Go.RowKit Go.Proofs.YthocnaagpmkoeaaW.PrintWords Go.Proofs.YthocnaagpmkoeaaW.PrintLast Go.Proofs.YthocnaagpmkoeaaW.PrintMore
attribute [local go_sem] max2_int min2_int max_two min_two max_three min_three max_four min_four
set_option linter.unusedVariables false
set_option linter.unusedSimpArgs false
open Go.Proofs.Ythocnaagpmkoeaa.Mp
def lastOf (m : ByteArray → Option (List Int)) : Value → Option Value
  | .string s => (m s).map (fun l => .string (strOfNums l))
  | _ => none
theorem lastOf_at (m : ByteArray → Option (List Int)) (k : ByteArray) (b : List Int) : lastOf (updL m k b) (.string k) = some (.string (strOfNums b)) := by simp [lastOf, updL]
theorem lastOf_ne (m : ByteArray → Option (List Int)) (k : ByteArray) (b : List Int) (q : Value) (hq : q ≠ .string k) : lastOf (updL m k b) q = lastOf m q := by
  unfold lastOf
  split
  · rename_i s
    have : s ≠ k := fun e => hq (by rw [e])
    simp [updL, this]
  · rfl
theorem zero9 (w : World) : (zeroValue 9).run Try.prog w = .ok (.string ⟨#[]⟩) w := by kernel_rfl
/-- Bytes of a string, in new memory. -/
theorem ds_bytes (W : World) (l : List Int) (hl : Byt l) (hn : l.length ≤ 1000) : Ds.ok (Lib.bytesWorld W 5 (strOfNums l)) ⟨some ⟨W.heap.size, 0, none⟩, grownCap W l.length 0 5, l⟩ := ⟨grownCap_ge W l.length 0 5, by
  refine Kd.C_of_reads (d := (0 : Int)) ⟨rfl, Nat.le_trans hn (by decide), fun _ => ⟨_, rfl, fun j hj => ?_⟩⟩
  have hsz : (strOfNums l).size = l.length := by simp [strOfNums, ByteArray.size]
  have h1 := Lib.bytesWorld_cell W 5 (strOfNums l) j (by rw [hsz]; simpa using hj)
  rw [add_plain, h1]
  rw [strOfNums_data]
  have hjl : j < l.length := by simpa using hj
  simp only [List.getD_eq_getElem?_getD, List.getElem?_map, List.getElem?_eq_getElem hjl, Option.map_some, Option.getD_some]
  have h2 := hl _ (List.getElem_mem hjl)
  rw [back8 _ h2.1 h2.2]⟩
theorem below_bytes (W : World) (s : ByteArray) : Below W.heap.size W (Lib.bytesWorld W 5 s) := ⟨rfl, rfl, rfl, by rw [Lib.bytesWorld_size]; exact Nat.le_succ _, fun k hk => Lib.bytesWorld_at_old W 5 s k hk⟩
theorem rw_odd {B : Nat} {w : World} {g : Nat} {fs : List Fc} {q : Nat} (hq : q < fs.length) (h : Rw B w (some ⟨g, 0, none⟩) fs) : Rw B (w.setCell ⟨g, q * 10 + 4, none⟩ (.int .i64 ((fs.getD q default).at_ + 1))) (some ⟨g, 0, none⟩) (odd4 fs q) := fun i hi => by
  have hl : (odd4 fs q).length = fs.length := by simp [odd4]
  rw [hl] at hi
  obtain ⟨g', e, hB, hc⟩ := h i hi
  injection e with e
  injection e with e
  subst e
  refine ⟨g, rfl, hB, fun j hj => ?_⟩
  obtain ⟨h1, h2⟩ := hc j hj
  refine ⟨?_, by rw [World.frozen?_setCell]; exact h2⟩
  by_cases hiq : i = q
  · subst hiq
    have e1 : (odd4 fs i).getD i default = { fs.getD i default with fr := (fs.getD i default).at_ + 1 } := by simp [odd4, List.getD_eq_getElem?_getD, hq]
    rw [e1]
    by_cases hj6 : j = 4
    · subst hj6
      rw [World.cell?_setCell_same (h := h1)]
      rfl
    · rw [World.cell?_setCell_other (h := fun e : (⟨g, i * 10 + 4, none⟩ : Addr) = ⟨g, i * 10 + j, none⟩ => hj6 (by injection e with _ e; omega)), h1]
      match j, hj with
      | 0, _ => rfl
      | 1, _ => rfl
      | 2, _ => rfl
      | 3, _ => rfl
      | 4, _ => exact absurd rfl hj6
      | 5, _ => rfl
      | 6, _ => rfl
      | 7, _ => rfl
      | 8, _ => rfl
      | 9, _ => rfl
  · have e1 : (odd4 fs q).getD i default = fs.getD i default := by simp [odd4, List.getD_eq_getElem?_getD, List.getElem?_set_ne (Ne.symm hiq)]
    rw [e1, World.cell?_setCell_other (h := fun e : (⟨g, q * 10 + 4, none⟩ : Addr) = ⟨g, i * 10 + j, none⟩ => by injection e with _ e; omega), h1]
section
variable {P : Program} {ops : Array Oper} {o : Oper} {a : Act} {W : World} {Q : Exit → Act → World → Prop} {Kc : Act → World → Prop}
/-- An append of a row, whose order is open. -/
theorem app_step (hw : Region.wanted o (yielded ops a.tmps) = true) (s x : Operand) (t : TypeId) (ho : o.op = .call { callee := .builtin .append, args := #[s, x], argTypes := #[t, t] }) (base : Nat) (e : TypeId) (z : Value) (size bytes : Nat)
    (ht : P.underlying t = some (.slice e)) (hinfo : (P.info? e).map (fun i => (i.zero, i.size, i.bytes)) = some (some z, size, bytes)) (hzs : z.cells.size = size) (hsz : 0 < size) (v : Value) (n : Nat) (xs : List Value) (hs : a.eval s = v) (hown : W.ownsRow base e size v n xs)
    (ad : Addr) (m c : Nat) (news : List Value) (hx : a.eval x = .slice (some ad) m c) (hl : news.length = m * size) (hnews : ∀ j u, news[j]? = some u → W.cell? (ad.add j) = some u) (h1 : ∀ u ∈ news, u.oneCell' = true)
    (h63 : n + m ≤ maxLen) (hbytes : (n + m) * bytes ≤ 140737488355328) (hbase : base ≤ W.heap.size)
    (h : ∀ v' w', w'.ownsRow base e size v' (n + m) (xs ++ news) → W.grownBy w' v.ownBlock → (v'.ownBlock = v.ownBlock ∨ v'.ownBlock = some W.heap.size) → Kc (a.put o.dst v') w') :
    if Region.wanted o (yielded ops a.tmps) = true then Oper.wp P o a W Kc Q else Kc (a.put o.dst undef) W := by
  obtain ⟨i, hi, hz0, hz1, hz2⟩ := info_parts hinfo
  obtain ⟨v', w', hr, h2, h3, _, h5⟩ := run_append_own_at (P := P) (w := W) base t o.type e i z size bytes ht hi hz0 hz1 hz2 hzs hsz v n xs hown ad m c news hl hnews h1 h63 hbytes hbase
  refine event_step hw ?_ (h v' w' h2 h3 h5)
  unfold execOp
  simp only [ho, resolve, invoke, builtin, Sem.run_bind, Sem.run_pure, Result.andThen_ok, List.map_toArray, List.map_cons, List.map_nil, hs, hx, hr]
end
/-- A block's cells are written, one by one. -/
def fillRow (w : World) (p : Nat) : Nat → List Value → World
  | _, [] => w
  | j, v :: vs => fillRow (w.setCell ⟨p, j, none⟩ v) p (j + 1) vs
theorem fill_row (t : TypeId) (p : Nat) : ∀ (vs : List Value) (w : World) (j : Nat) (cs : List Value), w.heap[p]? = some (.cells cs.toArray t (0, 0)) → cs.length = j + vs.length →
    (fillRow w p j vs).heap[p]? = some (.cells (cs.take j ++ vs).toArray t (0, 0)) ∧ (∀ k, k ≠ p → (fillRow w p j vs).heap[k]? = w.heap[k]?) ∧ Below p w (fillRow w p j vs)
  | [], w, j, cs, hb, hl => ⟨by rw [List.append_nil, List.take_of_length_le (by simp at hl; omega)]; exact hb, fun k _ => rfl, Below.refl _ _⟩
  | v :: vs, w, j, cs, hb, hl => by
    simp only [List.length_cons] at hl
    have hb2 := blk_set hb j v
    rw [show (cs.toArray.setIfInBounds j v) = (cs.set j v).toArray from by simp] at hb2
    obtain ⟨h1, h2, h3⟩ := fill_row t p vs (w.setCell ⟨p, j, none⟩ v) (j + 1) (cs.set j v) hb2 (by simp; omega)
    refine ⟨?_, fun k hk => (h2 k hk).trans (Below.heap_setCell _ _ _ _ hk), ((Below.refl _ _).setCell (p := ⟨p, j, none⟩) (Nat.le_refl _) _).trans h3⟩
    show (fillRow (w.setCell ⟨p, j, none⟩ v) p (j + 1) vs).heap[p]? = _
    rw [h1]
    congr 3
    rw [List.take_add_one]
    simp only [List.append_assoc]
    congr 1
    · apply List.ext_getElem?
      intro i
      simp only [List.getElem?_take, List.getElem?_set]
      by_cases hi : i < j
      · rw [if_pos hi, if_pos hi, if_neg (by omega)]
      · rw [if_neg hi, if_neg hi]
    · rw [List.getElem?_set_self (by omega)]; rfl
theorem fill_all (w : World) (p : Nat) (cs vs : List Value) (t : TypeId) (hb : w.heap[p]? = some (.cells cs.toArray t (0, 0))) (hl : cs.length = vs.length) :
    ∃ W, fillRow w p 0 vs = W ∧ W.heap[p]? = some (.cells vs.toArray t (0, 0)) ∧ (∀ k, k ≠ p → W.heap[k]? = w.heap[k]?) ∧ Below p w W := by
  obtain ⟨h1, h2, h3⟩ := fill_row t p vs w 0 cs hb (by omega)
  exact ⟨_, rfl, by simpa using h1, h2, h3⟩
/-- Bytes that lie in a block of their own, or none. -/
def Dk (W : World) (d : Ds) : Prop := (d.a = none ∧ d.bs = []) ∨ ∃ b cs fr, d.a = some ⟨b, 0, none⟩ ∧ W.heap[b]? = some (Obj.cells cs 5 fr) ∧ ∀ W' : World, W'.heap[b]? = W.heap[b]? → d.ok W'
theorem Dk.ok {W : World} {d : Ds} (h : Dk W d) (hc : d.bs.length ≤ d.c) : d.ok W := by
  rcases h with ⟨h1, h2⟩ | ⟨b, cs, fr, _, _, h⟩
  · obtain ⟨a, c, l⟩ := d
    simp only at h1 h2
    subst h1 h2
    exact ⟨hc, Kd.C_nil _ _⟩
  · exact h W rfl
theorem Dk.step {W W' : World} {d : Ds} (h : Dk W d) (hk : ∀ (b : Nat) (cs : Array Value) (fr : Nat × Nat), W.heap[b]? = some (Obj.cells cs 5 fr) → W'.heap[b]? = W.heap[b]?) : Dk W' d := by
  rcases h with h | ⟨b, cs, fr, h1, h2, h3⟩
  · exact .inl h
  · have e := hk b cs fr h2
    exact .inr ⟨b, cs, fr, h1, e.trans h2, fun W2 h => h3 W2 (h.trans e)⟩
def Fk (W : World) (f : Fc) : Prop := (Dk W f.data ∧ f.data.bs.length ≤ f.data.c) ∧ Dk W f.out ∧ f.out.bs.length ≤ f.out.c
theorem Fk.ok {W : World} {f : Fc} (h : Fk W f) : f.ok W := ⟨h.1.1.ok h.1.2, h.2.1.ok h.2.2⟩
theorem Fk.step {W W' : World} {f : Fc} (h : Fk W f) (hk : ∀ (b : Nat) (cs : Array Value) (fr : Nat × Nat), W.heap[b]? = some (Obj.cells cs 5 fr) → W'.heap[b]? = W.heap[b]?) : Fk W' f := ⟨⟨h.1.1.step hk, h.1.2⟩, h.2.1.step hk, h.2.2⟩
theorem keep_below {W W' : World} (h : Below W.heap.size W W') : ∀ (b : Nat) (cs : Array Value) (fr : Nat × Nat), W.heap[b]? = some (Obj.cells cs 5 fr) → W'.heap[b]? = W.heap[b]? := fun b cs fr hb => h.block b (blk_lt hb)
theorem keep_map {W W' : World} {mb : Nat} {f : Value → Option Value} {k : TypeId} {P : Program} (h : IsM P k W mb f) (hT : Turned W W' mb) : ∀ (b : Nat) (cs : Array Value) (fr : Nat × Nat), W.heap[b]? = some (Obj.cells cs 5 fr) → W'.heap[b]? = W.heap[b]? := fun b cs fr hb => hT.block b (by
  rintro rfl
  obtain ⟨es, clock, h1, _⟩ := h
  rw [hb] at h1
  cases h1)
theorem keep_grown {W W' : World} {B n : Nat} {v : Value} {xs : List Value} (h : W.ownsRow B 29 10 v n xs) (hg : W.grownBy W' v.ownBlock) : ∀ (b : Nat) (cs : Array Value) (fr : Nat × Nat), W.heap[b]? = some (Obj.cells cs 5 fr) → W'.heap[b]? = W.heap[b]? := fun b cs fr hb => hg.block b (blk_lt hb) (by
  intro e
  rcases h.2 with ⟨rfl, _⟩ | ⟨g, cap, cur, rfl, _, hh, _⟩
  · cases e
  · have e2 : b = g := by
      have : (Value.slice (some ⟨g, 0, none⟩) n cap).ownBlock = some g := rfl
      rw [this] at e
      injection e
    subst e2
    rw [hb] at hh
    injection hh with hh
    injection hh with _ hh
    exact absurd hh (by decide))
theorem dk_bytes (W : World) (l : List Int) (hl : Byt l) (hn : l.length ≤ 1000) : Dk (Lib.bytesWorld W 5 (strOfNums l)) ⟨some ⟨W.heap.size, 0, none⟩, grownCap W l.length 0 5, l⟩ := by
  have h := ds_bytes W l hl hn
  refine .inr ⟨W.heap.size, _, _, rfl, Lib.bytesWorld_at_new W 5 (strOfNums l), fun W' hW => ⟨h.cap, ?_⟩⟩
  obtain ⟨h1, h2, h3⟩ := h.row
  refine ⟨h1, h2, fun hp => ?_⟩
  obtain ⟨ad, e, hc⟩ := h3 hp
  refine ⟨ad, e, fun j p hj => ?_⟩
  obtain ⟨c, hcl, hK, hcell⟩ := hc j p hj
  injection e with e
  subst e
  refine ⟨c, hcl, hK, fun i u hu => ?_⟩
  rw [← hcell i u hu]
  refine World.cell?_of_block ?_
  rw [add_plain]
  exact hW
theorem one_C (W : World) (k : Int) : U8.C (W.alloc (.cells #[.int .u8 k] 5)) (some ⟨W.heap.size, 0, none⟩) ([k] : List Int).length [k] := by
  refine Kd.C_of_reads (d := (0 : Int)) ⟨rfl, by show (1 : Nat) ≤ _; decide, fun _ => ⟨_, rfl, fun j hj => ?_⟩⟩
  have : j = 0 := by simp at hj; omega
  subst this
  rw [add_plain]
  have h := heap_alloc_new W (.cells #[.int .u8 k] 5)
  simp only [World.cell?, h]
  rfl
theorem conv_one (W : World) (k : Int) (g : Nat) (hg : g = W.heap.size) : (convert 22 9 (.slice (some ⟨g, 0, none⟩) 1 1)).run Try.prog (W.alloc (.cells #[.int .u8 k] 5)) = .ok (.string (strOfNums [k])) (W.alloc (.cells #[.int .u8 k] 5)) := by
  subst hg
  exact Kd.C_string (P := Try.prog) (c := 1) Try.underlying22 Try.underlying5 Try.underlying9 (one_C W k)
theorem own_same {W W' : World} {B n : Nat} {v : Value} {xs : List Value} (h : W.ownsRow B 29 10 v n xs) (hk : ∀ g, B ≤ g → g < W.heap.size → v.ownBlock = some g → W'.heap[g]? = W.heap[g]?) : W'.ownsRow B 29 10 v n xs := by
  refine ⟨h.1, ?_⟩
  rcases h.2 with h1 | ⟨g, cap, cur, h1, hg, hh, r⟩
  · exact .inl h1
  · exact .inr ⟨g, cap, cur, h1, hg, (hk g hg (blk_lt hh) (by rw [h1]; rfl)).trans hh, r⟩
theorem own_tag {W : World} {B n g : Nat} {v : Value} {xs : List Value} (h : W.ownsRow B 29 10 v n xs) (hg : v.ownBlock = some g) : B ≤ g ∧ g < W.heap.size := h.lt g hg
/-- What a round of LinearOrder's loop keeps. -/
structure Rd5 (w W : World) (mb q : Nat) (A : Option Addr) (c : Nat) (fs : List Fc) (last : ByteArray → Option (List Int)) : Prop where
  len : fs.length = q
  own : W.ownsRow (mb + 1) 29 10 (.slice A q c) q (fs.flatMap encF)
  inv : Inv fs last
  map : IsM Try.prog 9 W mb (lastOf last)
  byt : ∀ k l, last k = some l → Byt l ∧ l.length = 1
  fk : ∀ f ∈ fs, Fk W f
  below : Below mb w W
theorem Rd5.step {w W W' : World} {mb q : Nat} {A : Option Addr} {c : Nat} {fs : List Fc} {last : ByteArray → Option (List Int)} (h : Rd5 w W mb q A c fs last) (hb : Below W.heap.size W W') : Rd5 w W' mb q A c fs last :=
  ⟨h.len, own_below29 h.own hb, h.inv, h.map.step (hb.block mb h.map.lt), h.byt, fun f hf => (h.fk f hf).step (keep_below hb), h.below.trans (hb.mono (by have := h.map.lt; omega))⟩
/-- A block of another kind is written. -/
theorem Rd5.touch {w W W' : World} {mb q p : Nat} {A : Option Addr} {c : Nat} {fs : List Fc} {last : ByteArray → Option (List Int)} (h : Rd5 w W mb q A c fs last) (hp : mb < p) (hn : (Value.slice A q c).ownBlock ≠ some p) (ht : ∀ cs fr, W.heap[p]? ≠ some (Obj.cells cs 5 fr)) (hk : ∀ k, k ≠ p → W'.heap[k]? = W.heap[k]?) (hb : Below p W W') : Rd5 w W' mb q A c fs last :=
  ⟨h.len, own_same h.own (fun g _ _ hg => hk g (fun e => hn (by rw [hg, e]))), h.inv, h.map.step (hk mb (by omega)), h.byt, fun f hf => (h.fk f hf).step (fun b cs fr hb => hk b (fun e => ht cs fr (by rw [← e]; exact hb))), h.below.trans (hb.mono (by omega))⟩
theorem Rd5.put {w W W' : World} {mb q : Nat} {A : Option Addr} {c : Nat} {fs : List Fc} {last last' : ByteArray → Option (List Int)} (h : Rd5 w W mb q A c fs last) (hT : Turned W W' mb) (hm : IsM Try.prog 9 W' mb (lastOf last')) : W'.ownsRow (mb + 1) 29 10 (.slice A q c) q (fs.flatMap encF) ∧ (∀ f ∈ fs, Fk W' f) ∧ Below mb w W' :=
  ⟨own_same h.own (fun g hg _ _ => hT.block g (by omega)), fun f hf => (h.fk f hf).step (keep_map h.map hT), h.below.trans ⟨hT.os, hT.tape, hT.output, Nat.le_of_eq hT.size.symm, fun k hk => hT.block k (by omega)⟩⟩
theorem Rd5.app {w W W' : World} {mb q : Nat} {A A' : Option Addr} {c c' : Nat} {fs : List Fc} {last' : ByteArray → Option (List Int)} {f : Fc} (hl : fs.length = q) (ho : W.ownsRow (mb + 1) 29 10 (.slice A q c) q (fs.flatMap encF)) (hi : Inv (fs ++ [f]) last') (hm : IsM Try.prog 9 W mb (lastOf last')) (hy : ∀ k l, last' k = some l → Byt l ∧ l.length = 1) (hf : ∀ f ∈ fs, Fk W f) (hf2 : Fk W f) (hb : Below mb w W)
    (ho2 : W'.ownsRow (mb + 1) 29 10 (.slice A' (q + 1) c') (q + 1) (fs.flatMap encF ++ encF f)) (hb2 : Below (mb + 1) W W') (hg : W.grownBy W' (Value.slice A q c).ownBlock) : Rd5 w W' mb (q + 1) A' c' (fs ++ [f]) last' :=
  ⟨by rw [List.length_append, hl]; rfl, by rw [List.flatMap_append, List.flatMap_singleton]; exact ho2, hi, hm.step (hb2.block mb (Nat.lt_succ_self mb)), hy, fun g hg2 => by
    rcases List.mem_append.1 hg2 with h | h
    · exact (hf g h).step (keep_grown ho hg)
    · rw [List.mem_singleton.1 h]; exact hf2.step (keep_grown ho hg), hb.trans (hb2.mono (Nat.le_succ mb))⟩
theorem flat_len (l : List Fc) : (l.flatMap encF).length = l.length * 10 := by
  induction l with
  | nil => rfl
  | cons x l ih => rw [List.flatMap_cons, List.length_append, ih, encF_len, List.length_cons]; omega
theorem flat_one (l : List Fc) : ∀ u ∈ l.flatMap encF, u.oneCell' = true := fun u hu => by
  obtain ⟨f, _, hf⟩ := List.mem_flatMap.1 hu
  exact encF_one f u hf
theorem src_all {W : World} {g : Nat} {fs : List Fc} (h : Go.Sort.HoldsK encF 10 W g 0 fs.toArray) (j : Nat) (u : Value) (hj : (fs.flatMap encF)[j]? = some u) : W.cell? ⟨g, j, none⟩ = some u := by
  have hl : j < fs.length * 10 := by
    have := (List.getElem?_eq_some_iff.1 hj).1
    rwa [flat_len] at this
  have h2 := flatF fs j hl
  rw [hj] at h2
  have h3 := getF_ h (q := j / 10) (by omega) (j % 10) (by omega)
  rw [show j / 10 * 10 + j % 10 = j by omega] at h3
  rw [h3, h2]
  have hq : j / 10 < fs.length := by omega
  simp [hq]
theorem src_drop {W : World} {g : Nat} {fs : List Fc} (h : Go.Sort.HoldsK encF 10 W g 0 fs.toArray) (t j : Nat) (u : Value) (hj : ((fs.drop t).flatMap encF)[j]? = some u) : W.cell? ((⟨g, t * 10, none⟩ : Addr).add j) = some u := by
  have e : (⟨g, t * 10, none⟩ : Addr).add j = ⟨g, t * 10 + j, none⟩ := by unfold Addr.add; split <;> simp_all
  rw [e]
  refine src_all h _ u ?_
  have e2 : fs.flatMap encF = (fs.take t).flatMap encF ++ (fs.drop t).flatMap encF := by rw [← List.flatMap_append, List.take_append_drop]
  by_cases ht : t ≤ fs.length
  · rw [e2, List.getElem?_append_right (by rw [flat_len, List.length_take, Nat.min_eq_left ht]; omega), flat_len, List.length_take, Nat.min_eq_left ht, show t * 10 + j - t * 10 = j by omega, hj]
  · rw [List.drop_eq_nil_of_le (by omega)] at hj
    simp at hj
theorem src_take {W : World} {g : Nat} {fs : List Fc} (h : Go.Sort.HoldsK encF 10 W g 0 fs.toArray) (t j : Nat) (u : Value) (hj : ((fs.take t).flatMap encF)[j]? = some u) : W.cell? ((⟨g, 0, none⟩ : Addr).add j) = some u := by
  rw [add_plain]
  refine src_all h _ u ?_
  have e2 : fs.flatMap encF = (fs.take t).flatMap encF ++ (fs.drop t).flatMap encF := by rw [← List.flatMap_append, List.take_append_drop]
  rw [e2, List.getElem?_append_left (List.getElem?_eq_some_iff.1 hj).1, hj]
theorem check_row (A : Option Addr) (c n : Nat) (xs : List Fc) (W : World) (r : Bool) (hn : xs.length = n) (hR : Rd W A xs) (h20 : n ≤ 20) (hr : runF (fun _ => none) (sortF (filt xs)) = r) (hok : ∀ x ∈ xs, x.ok W ∧ x.key.size ≤ 1000 ∧ (x.op = 1 ∨ x.op = 2)) :
    Calls Try.prog 7 #[.slice A n c] W fun e w' => e = .returned (.bool r) ∧ Below W.heap.size W w' := by
  subst hn hr
  exact check_calls A c xs W hR (by omega) (Nat.le_trans (List.length_filter_le _ _) h20) (fun x hx => hok x (List.mem_filter.1 hx).1)
theorem Rd5.oks {w W : World} {mb q : Nat} {A : Option Addr} {c : Nat} {fs : List Fc} {last : ByteArray → Option (List Int)} (h : Rd5 w W mb q A c fs last) : ∀ x ∈ fs, x.ok W ∧ x.key.size ≤ 1000 ∧ (x.op = 1 ∨ x.op = 2) := fun x hx => by
  obtain ⟨i, hi⟩ := List.getElem?_of_mem hx
  have hs := h.inv.sp i x hi
  exact ⟨(h.fk x hx).ok, hs.key, hs.op⟩
theorem oks_odd {W : World} {fs : List Fc} (h : ∀ x ∈ fs, x.ok W ∧ x.key.size ≤ 1000 ∧ (x.op = 1 ∨ x.op = 2)) (j : Nat) (hj : j < fs.length) : ∀ x ∈ odd4 fs j, x.ok W ∧ x.key.size ≤ 1000 ∧ (x.op = 1 ∨ x.op = 2) := fun x hx => by
  rcases List.mem_or_eq_of_mem_set hx with h1 | h1
  · exact h x h1
  · have h2 := h (fs.getD j default) (by simp [hj])
    subst h1
    exact ⟨⟨h2.1.data, h2.1.out⟩, h2.2⟩
end Go.Proofs.Ythocnaagpmkoeaa.Ln
