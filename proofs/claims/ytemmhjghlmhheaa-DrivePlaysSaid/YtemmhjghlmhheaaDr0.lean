/- Drives: the words for a drive's state, and the contract of bytes.Clone. -/
import Derived.Test.YtemmhjghlmhheaaProg
import Derived.Below
import Derived.Deep.Draws
import Derived.Deep.AppendLies
import Derived.Maps.AppendAt
import Derived.OwnWalk
import Derived.Laws.BytesArg
import Derived.Laws.MakeOwn
import Derived.Laws.OwnMore
import Derived.Deep.OwnRows
import Derived.Tactics
import Derived.Lib.ConvBytes
import Derived.Laws.Slices
import Derived.WalkKit
import Derived.KernelRfl
import Derived.RowKit3
import Derived.Deep.LoopGhost
import Derived.Deep.QuietTactic
import Derived.BigQuiet
import Derived.WideLaws
import Derived.Deep.DeepCutAuto
import Derived.Deep.CutBlock
import Derived.Deep.RegionHeld3
import Derived.Laws.Rows
import Derived.Lib.AppendStr
import Derived.ArgAppend
import Derived.Laws.IdiomCopy
import Derived.OrdersHeld
import Derived.Laws.BitsLemmas
import Derived.RowKit
import Derived.Test.YtemmhjghlmhheaaWWords
import Derived.Test.YtemmhjghlmhheaaWLast
import Derived.Test.YtemmhjghlmhheaaWTab
import Derived.Test.YtemmhjghlmhheaaWFour
import Derived.Test.YtemmhjghlmhheaaWQPut
import Derived.Test.YtemmhjghlmhheaaWApart
import Derived.Test.YtemmhjghlmhheaaWArr
import Derived.Test.YtemmhjghlmhheaaWZeros
import Derived.Test.YtemmhjghlmhheaaWFoot
import Derived.Test.YtemmhjghlmhheaaWKept
import Derived.Test.YtemmhjghlmhheaaWShare
import Derived.Test.YtemmhjghlmhheaaWN
import Derived.Test.YtemmhjghlmhheaaWFootNe
import Derived.Test.YtemmhjghlmhheaaWAt
import Derived.Test.YtemmhjghlmhheaaWEqStruct
import Derived.Test.YtemmhjghlmhheaaWRepsOne
import Derived.Test.YtemmhjghlmhheaaWInv
import Derived.Test.YtemmhjghlmhheaaWInvWords
import Derived.Test.YtemmhjghlmhheaaWGuard
import Derived.Test.YtemmhjghlmhheaaWNEv
import Derived.Test.YtemmhjghlmhheaaWMore
import Derived.Lib.SliceRun
import Derived.Outline
import Derived.StillTailTactics
import Derived.Lib.SlBytesConst
namespace Go.Proofs.Ytemmhjghlmhheaa.Dr
open Go.RowKit Go.Proofs.YtemmhjghlmhheaaW.PrintWords Go.Proofs.YtemmhjghlmhheaaW.PrintLast Go.Proofs.YtemmhjghlmhheaaW.PrintMore
attribute [local go_sem] max2_int min2_int max_two min_two max_three min_three max_four min_four
set_option linter.unusedVariables false
set_option linter.unusedSimpArgs false
abbrev U8 : Kd Int := Kd.int .u8
theorem info5 : (Try.prog.info? 5).map (fun i => (i.zero, i.size, i.bytes)) = some (some (.int .u8 0), 1, 1) := by kernel_rfl
set_option maxHeartbeats 8000000 in
set_option maxRecDepth 100000 in
theorem clone_calls (A0 : Option Addr) (n c0 : Nat) (l0 : List Int) (w : World) (hr0 : U8.C w A0 n l0) (hlt : n < 17592186044416) :
    Calls Try.prog 27 #[.slice A0 n c0] w fun e w' => ∃ v0_ : Value, e = .returned (v0_) ∧ U8.R 5 w' w.heap.size (fun _ => True) v0_ l0 ∧ Below w.heap.size w w' := by
  obtain rfl : l0.length = n := hr0.1
  cases A0 with
  | none =>
    have h0 : l0 = [] := by
      rcases Nat.eq_zero_or_pos l0.length with h0 | h0
      · exact List.length_eq_zero_iff.1 h0
      · obtain ⟨ad, e, _⟩ := hr0.2.2 h0
        cases e
    subst h0
    clear hr0 hlt
    have heql := fun (w : World) => Lib.run_eql_slice_nil (P := Try.prog) w 22 5 none 0 c0 0 0 Try.underlying22
    go_enter Try.func27, Try.ntmps27
    go_wp2
    go_ret
    exact ⟨_, rfl, Kd.R_nil _ _ _ _ _, Below.refl _ _⟩
  | some ad =>
    have LM := Aside0.mk hlt
    have HR0 := Aside0.mk hr0
    clear hr0 hlt
    have heql := fun (w : World) => Lib.run_eql_slice_nil (P := Try.prog) w 22 5 (some ad) l0.length c0 0 0 Try.underlying22
    have HM : Aside0 (U8.R 5 (w.alloc (.cells #[] 5)) w.heap.size (fun _ => True) (.slice (some ⟨w.heap.size, 0, none⟩) 0 0) []) :=
      ⟨⟨fun _ _ => trivial, [], World.ownsRow_made w #[] 0 (Nat.le_refl _) (Nat.zero_le _) rfl, Reps.none _ _⟩⟩
    have HB := Aside0.mk ((Below.refl w.heap.size w).alloc (Nat.le_refl _) (.cells #[] 5))
    go_enter Try.func27, Try.ntmps27
    go_wp2_with (at_builtin; refine Kd.R_append_rows U8 (w0 := w) (Rr := U8.K w) w.heap.size rfl (.tmp 5) (.tmp 6) 22 5 (.int .u8 0) 1 rfl Try.underlying22 info5 rfl (by decide) (by decide) (.slice (some ⟨w.heap.size, 0, none⟩) 0 0) [] l0 (some ad) l0.length c0 (fun _ => True) (fun _ => False) rfl rfl ?aO ?aR ?aM (fun _ hk => hk.elim) (fun _ _ => trivial) ?aB ?aS ?aL ?_; (case aO => exact HM.out); (case aR => exact ReadsRow.imp_ HR0.out ((Below.refl w.heap.size w).alloc (Nat.le_refl _) _) (fun _ _ h => h)); (case aM => exact fun _ _ h => h); (case aB => exact HB.out); (case aS => simp); (case aL => have := LM.out; simp only [List.length_nil]; omega); intro v1 w1 ho hb hg hat; have HO := Aside0.mk ho; have HB2 := Aside0.mk hb; clear ho hb hg hat HM HB)
    go_ret
    exact ⟨_, rfl, HO.out, HB2.out⟩
/-- Bytes that are only read, told by their value; they lie in ok. -/
abbrev Vb (W : World) (ok : Nat → Prop) (v : Value) (xs : List Int) : Prop := Kd.V U8 5 W 0 ok v xs
theorem vb_new {W : World} {B : Nat} {v : Value} {xs : List Int} {ok : Nat → Prop} (h : U8.R 5 W B (fun _ => True) v xs) (hok : ∀ k, B ≤ k → ok k) : Vb W ok v xs :=
  Kd.R_V (Kd.R_mono (Kd.R_bound h) (fun k hk => hok k hk.2.1))

abbrev By : Kd (List Int) := Kd.slice 5 U8
abbrev Wr : Kd (Int × List Int) := Kd.pair (Kd.int .i64) By
theorem w64 (n : Int) (h : -9223372036854775808 ≤ n) (h' : n < 9223372036854775808) : wrap64 n = n := by unfold wrap64; omega
theorem info22 : (Try.prog.info? 22).map (fun i => (i.zero, i.size, i.bytes)) = some (some (.slice none 0 0), 1, 24) := by kernel_rfl
theorem info58 : (Try.prog.info? 58).map (fun i => (i.zero, i.size, i.bytes)) = some (some (.agg #[.int .i64 0, .slice none 0 0]), 2, 32) := by kernel_rfl
theorem info61 : (Try.prog.info? 61).map (fun i => (i.zero, i.size, i.bytes)) = some (some (.agg #[.int .i64 0, .slice none 0 0]), 2, 32) := by kernel_rfl
/-- Bytes as an element's cells. -/
theorem vb_fk {W : World} {ok : Nat → Prop} {v : Value} {xs : List Int} (h : Vb W ok v xs) : Kd.FK By W ok xs [v] := by
  obtain ⟨A, c, rfl, hl, hF⟩ := h
  exact fun W' hW => ⟨A, c, rfl, hl, hF W' hW⟩
theorem fk_vb {W : World} {ok : Nat → Prop} {v : Value} {xs : List Int} (h : Kd.FK By W ok xs [v]) : Vb W ok v xs := by
  obtain ⟨A, c, e, hl, _⟩ := Kd.FK_now h
  injection e with e
  subst e
  refine ⟨A, c, rfl, hl, fun W' hW => ?_⟩
  obtain ⟨A', c', e', _, hC⟩ := h W' hW
  injection e' with e'
  injection e' with e1 e2 e3
  subst e1
  exact hC
theorem vb_wr {W : World} {ok : Nat → Prop} {v : Value} {s : Int} {xs : List Int} (h : Vb W ok v xs) : Kd.FK Wr W ok (s, xs) [.int .i64 s, v] := by
  intro W' hW
  exact ⟨[.int .i64 s], [v], rfl, rfl, vb_fk h W' hW⟩
theorem wr_vb {W : World} {ok : Nat → Prop} {x : Int × List Int} {c : List Value} (h : Kd.FK Wr W ok x c) : ∃ v, c = [.int .i64 x.1, v] ∧ Vb W ok v x.2 := by
  obtain ⟨c0, c1, e, h0, h1⟩ := Kd.FK_now h
  obtain ⟨A, n, e1, hl, hC⟩ := h1
  have h0' : c0 = [.int .i64 x.1] := h0
  subst h0'
  subst e1
  subst e
  refine ⟨_, rfl, fk_vb (fun W' hW => ?_)⟩
  obtain ⟨d0, d1, e, g0, g1⟩ := h W' hW
  have g0' : d0 = [.int .i64 x.1] := g0
  subst g0'
  injection e with _ e
  have e' : d1 = [.slice A x.2.length n] := e.symm
  subst e'
  exact g1
/-- A drive: what lasts of each slot, what is loose. -/
structure Dr where
  slots : List (List Int)
  loose : List (Int × List Int)
  lost : Bool
/-- A drive at block g (of type T; its loose writes are of type Tw). -/
structure Dv (T Tw : Nat) (W : World) (ok : Nat → Prop) (g : Nat) (v u : Value) (d : Dr) : Prop where
  blk : W.heap[g]? = some (.cells #[v, u, .bool d.lost] T (0, 0))
  ng : ¬ ok g
  hv : Kd.N By 22 W 0 (fun k => ok k ∧ some k ≠ u.ownBlock) v d.slots
  hu : Kd.N Wr Tw W 0 (fun k => ok k ∧ some k ≠ v.ownBlock) u d.loose
def Dp (T Tw : Nat) (W : World) (ok : Nat → Prop) (g : Nat) (d : Dr) : Prop := ∃ v u, Dv T Tw W ok g v u d
section
variable {T Tw : Nat} {W W' w a b : World} {ok ok' : Nat → Prop} {g : Nat} {v u : Value} {d : Dr}
theorem Dv.lt (h : Dv T Tw W ok g v u d) : g < W.heap.size := blk_lt h.blk
theorem Dv.step (h : Dv T Tw W ok g v u d) (hm : ∀ k, ok k → k < W.heap.size → W'.heap[k]? = W.heap[k]?) (hg : W'.heap[g]? = W.heap[g]?) : Dv T Tw W' ok g v u d :=
  ⟨hg.trans h.blk, h.ng, Kd.N_step h.hv (fun k hk hl => hm k hk.1 hl), Kd.N_step h.hu (fun k hk hl => hm k hk.1 hl)⟩
theorem Dv.below (h : Dv T Tw W ok g v u d) (hb : Below W.heap.size W W') : Dv T Tw W' ok g v u d := h.step (fun k _ hk => hb.block k hk) (hb.block g h.lt)
theorem Dv.mono (h : Dv T Tw W ok g v u d) (hok : ∀ k, ok k → k < W.heap.size → ok' k) (hn : ¬ ok' g) : Dv T Tw W ok' g v u d :=
  ⟨h.blk, hn, Kd.N_mono (Kd.N_bound h.hv) (fun k hk => ⟨hok k hk.1.1 hk.2, hk.1.2⟩), Kd.N_mono (Kd.N_bound h.hu) (fun k hk => ⟨hok k hk.1.1 hk.2, hk.1.2⟩)⟩
theorem Dp.lt (h : Dp T Tw W ok g d) : g < W.heap.size := by
  obtain ⟨v, u, h⟩ := h
  exact h.lt
theorem Dp.step (h : Dp T Tw W ok g d) (hm : ∀ k, ok k → k < W.heap.size → W'.heap[k]? = W.heap[k]?) (hg : W'.heap[g]? = W.heap[g]?) : Dp T Tw W' ok g d := by
  obtain ⟨v, u, h⟩ := h
  exact ⟨v, u, h.step hm hg⟩
theorem Dp.below (h : Dp T Tw W ok g d) (hb : Below W.heap.size W W') : Dp T Tw W' ok g d := h.step (fun k _ hk => hb.block k hk) (hb.block g h.lt)
theorem Dp.drewN (h : Dp T Tw W ok g d) (n : Nat) : Dp T Tw (W.drewN n) ok g d := h.step (fun _ _ _ => rfl) rfl
theorem Dp.mono (h : Dp T Tw W ok g d) (hok : ∀ k, ok k → k < W.heap.size → ok' k) (hn : ¬ ok' g) : Dp T Tw W ok' g d := by
  obtain ⟨v, u, h⟩ := h
  exact ⟨v, u, h.mono hok hn⟩
theorem Dp.ng (h : Dp T Tw W ok g d) : ¬ ok g := by
  obtain ⟨v, u, h⟩ := h
  exact h.ng
/-- All is as it was but block g and what lies in ok. -/
structure Kq (w w' : World) (ok : Nat → Prop) (g : Nat) : Prop where
  os : w'.os = w.os
  tape : w'.tape = w.tape
  output : w'.output = w.output
  size : w.heap.size ≤ w'.heap.size
  block : ∀ k, k < w.heap.size → ¬ ok k → k ≠ g → w'.heap[k]? = w.heap[k]?
theorem Kq.refl (w : World) (ok : Nat → Prop) (g : Nat) : Kq w w ok g := ⟨rfl, rfl, rfl, Nat.le_refl _, fun _ _ _ _ => rfl⟩
theorem Kq.trans (h : Kq w a ok g) (k : Kq a b ok' g) (hok : ∀ k, k < w.heap.size → ok' k → ok k) : Kq w b ok g :=
  ⟨k.os.trans h.os, k.tape.trans h.tape, k.output.trans h.output, Nat.le_trans h.size k.size, fun i hi hn hg => (k.block i (Nat.lt_of_lt_of_le hi h.size) (fun h2 => hn (hok i hi h2)) hg).trans (h.block i hi hn hg)⟩
theorem Kq.then_ (h : Kq w a ok g) (k : Kq a b ok g) : Kq w b ok g := h.trans k (fun _ _ h => h)
theorem Kq.below (h : Kq w a ok g) (k : Below a.heap.size a b) : Kq w b ok g := h.then_ ⟨k.os, k.tape, k.output, k.size, fun i hi _ _ => k.block i hi⟩
theorem Kq.of_below (k : Below w.heap.size w b) : Kq w b ok g := (Kq.refl w ok g).below k
theorem Kq.drewN (h : Kq w a ok g) (n : Nat) : Kq w (a.drewN n) ok g := ⟨h.os, h.tape, h.output, h.size, h.block⟩
theorem Kq.alloc (h : Kq w a ok g) (o : Obj) : Kq w (a.alloc o) ok g := h.below ((Below.refl _ _).alloc (Nat.le_refl _) o)
theorem Kq.set (h : Kq w a ok g) {p : Addr} (hp : p.block = g ∨ ok p.block ∨ w.heap.size ≤ p.block) (x : Value) : Kq w (a.setCell p x) ok g :=
  ⟨h.os, h.tape, h.output, by simpa [World.setCell] using h.size, fun k hk hn hg => (Below.heap_setCell a p x k (by
    rintro rfl
    rcases hp with hp | hp | hp
    · exact hg hp
    · exact hn hp
    · omega)).trans (h.block k hk hn hg)⟩
theorem Kq.grown (h : Kq w a ok g) {row : Option Nat} (hg : a.grownBy b row) (hr : ∀ k, row = some k → ok k ∨ w.heap.size ≤ k) : Kq w b ok g :=
  ⟨hg.os.trans h.os, hg.tape.trans h.tape, hg.output.trans h.output, Nat.le_trans h.size hg.size, fun k hk hn hne => (hg.block k (Nat.lt_of_lt_of_le hk h.size) (fun he => by
    rcases hr k he.symm with h2 | h2
    · exact hn h2
    · omega)).trans (h.block k hk hn hne)⟩
/-- A state of the call's own: what was there ahead of the call is as it was. -/
theorem Kq.under (h : Kq a b ok g) (hB : Below w.heap.size w a) (hg : w.heap.size ≤ g) (hok : ∀ k, ok k → w.heap.size ≤ k) : Below w.heap.size w b :=
  ⟨h.os.trans hB.os, h.tape.trans hB.tape, h.output.trans hB.output, Nat.le_trans hB.size h.size, fun k hk => (h.block k (Nat.lt_of_lt_of_le hk hB.size) (fun h2 => by have := hok k h2; omega) (by omega)).trans (hB.block k hk)⟩
/-- The drive's cells. -/
theorem dv_cell (h : Dv T Tw W ok g v u d) : W.cell? ⟨g, 0, none⟩ = some v ∧ W.cell? ⟨g, 1, none⟩ = some u ∧ W.cell? ⟨g, 2, none⟩ = some (.bool d.lost) ∧ ∀ j, W.frozen? ⟨g, j, none⟩ = false :=
  ⟨(blk_cell h.blk 0).trans rfl, (blk_cell h.blk 1).trans rfl, (blk_cell h.blk 2).trans rfl, fun j => blk_frozen h.blk j⟩
/-- A slot. -/
theorem dv_slot (h : Dv T Tw W ok g v u d) (i : Int) (h0 : 0 ≤ i) (h1 : i < d.slots.length) :
    ∃ gv cap x, v = .slice (some ⟨gv, 0, none⟩) d.slots.length cap ∧ W.cell? ⟨gv, i.toNat, none⟩ = some x ∧ W.frozen? ⟨gv, i.toNat, none⟩ = false ∧ Vb W (fun k => (ok k ∧ some k ≠ u.ownBlock) ∧ k ≠ gv) x (d.slots.getD i.toNat []) := by
  obtain ⟨gv, cap, hv, _, _, _⟩ := Kd.N_form h.hv (by omega)
  have hN := h.hv
  rw [hv] at hN
  obtain ⟨c, hl, hF, hc, hf⟩ := Kd.N_elem hN [] i h0 (by omega)
  obtain ⟨x, rfl⟩ : ∃ x, c = [x] := List.length_eq_one_iff.1 hl
  refine ⟨gv, cap, x, hv, ?_, ?_, fk_vb hF⟩
  · simpa [By, Kd.slice] using hc 0 x rfl
  · simpa [By, Kd.slice] using hf 0
/-- A loose write. -/
theorem dv_loose (h : Dv T Tw W ok g v u d) (i : Int) (h0 : 0 ≤ i) (h1 : i < d.loose.length) :
    ∃ gu cap x, u = .slice (some ⟨gu, 0, none⟩) d.loose.length cap ∧ W.cell? ⟨gu, i.toNat * 2, none⟩ = some (.int .i64 (d.loose.getD i.toNat (0, [])).1) ∧ W.cell? ⟨gu, i.toNat * 2 + 1, none⟩ = some x ∧ Vb W (fun k => (ok k ∧ some k ≠ v.ownBlock) ∧ k ≠ gu) x (d.loose.getD i.toNat (0, [])).2 := by
  obtain ⟨gu, cap, hu, _, _, _⟩ := Kd.N_form h.hu (by omega)
  have hN := h.hu
  rw [hu] at hN
  obtain ⟨c, hl, hF, hc, hf⟩ := Kd.N_elem hN (0, []) i h0 (by omega)
  obtain ⟨x, rfl, hV⟩ := wr_vb hF
  refine ⟨gu, cap, x, hu, ?_, ?_, hV⟩
  · simpa [Wr, By, Kd.slice, Kd.pair, Kd.int, Kd.scalar] using hc 0 _ rfl
  · simpa [Wr, By, Kd.slice, Kd.pair, Kd.int, Kd.scalar] using hc 1 x rfl
end
end Go.Proofs.Ytemmhjghlmhheaa.Dr
