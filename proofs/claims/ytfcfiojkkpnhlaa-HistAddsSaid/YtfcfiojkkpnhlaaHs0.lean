/- Histories: the words for a history's state, and the contracts of the clones. -/
import Derived.Test.YtfcfiojkkpnhlaaProg
import Derived.Below
import Derived.Deep.Draws
import Derived.Deep.AppendLies
import Derived.Maps.AppendAt
import Derived.OwnWalk
import Derived.Laws.BytesArg
import Derived.Laws.MakeOwn
import Derived.Laws.OwnMore
import Derived.Deep.OwnRows
import Derived.Tactics
import Derived.Lib.ConvBytes
import Derived.Laws.Slices
import Derived.WalkKit
import Derived.KernelRfl
import Derived.RowKit3
import Derived.Deep.LoopGhost
import Derived.Deep.QuietTactic
import Derived.BigQuiet
import Derived.WideLaws
import Derived.Deep.DeepCutAuto
import Derived.Deep.CutBlock
import Derived.Deep.RegionHeld3
import Derived.Laws.Rows
import Derived.Lib.AppendStr
import Derived.ArgAppend
import Derived.Laws.IdiomCopy
import Derived.OrdersHeld
import Derived.Laws.BitsLemmas
import Derived.RowKit
import Derived.Test.YtfcfiojkkpnhlaaWWords
import Derived.Test.YtfcfiojkkpnhlaaWLast
import Derived.Test.YtfcfiojkkpnhlaaWTab
import Derived.Test.YtfcfiojkkpnhlaaWFour
import Derived.Test.YtfcfiojkkpnhlaaWQPut
import Derived.Test.YtfcfiojkkpnhlaaWApart
import Derived.Test.YtfcfiojkkpnhlaaWArr
import Derived.Test.YtfcfiojkkpnhlaaWZeros
import Derived.Test.YtfcfiojkkpnhlaaWFoot
import Derived.Test.YtfcfiojkkpnhlaaWKept
import Derived.Test.YtfcfiojkkpnhlaaWShare
import Derived.Test.YtfcfiojkkpnhlaaWN
import Derived.Test.YtfcfiojkkpnhlaaWFootNe
import Derived.Test.YtfcfiojkkpnhlaaWAt
import Derived.Test.YtfcfiojkkpnhlaaWEqStruct
import Derived.Test.YtfcfiojkkpnhlaaWRepsOne
import Derived.Test.YtfcfiojkkpnhlaaWInv
import Derived.Test.YtfcfiojkkpnhlaaWInvWords
import Derived.Test.YtfcfiojkkpnhlaaWGuard
import Derived.Test.YtfcfiojkkpnhlaaWNEv
import Derived.Test.YtfcfiojkkpnhlaaWMore
import Derived.Test.YtfcfiojkkpnhlaaMp
import Derived.Lib.SliceRun
import Derived.Outline
import Derived.StillTailTactics
import Derived.Lib.SlBytesConst
namespace Go.Proofs.Ytfcfiojkkpnhlaa.Hs
open Go.RowKit Go.Proofs.YtfcfiojkkpnhlaaW.PrintWords Go.Proofs.YtfcfiojkkpnhlaaW.PrintLast Go.Proofs.YtfcfiojkkpnhlaaW.PrintMore
attribute [local go_sem] max2_int min2_int max_two min_two max_three min_three max_four min_four
set_option linter.unusedVariables false
set_option linter.unusedSimpArgs false
abbrev U8 : Kd Int := Kd.int .u8
theorem info5 : (Try.prog.info? 5).map (fun i => (i.zero, i.size, i.bytes)) = some (some (.int .u8 0), 1, 1) := by kernel_rfl
set_option maxHeartbeats 8000000 in
set_option maxRecDepth 100000 in
theorem clone_calls (A0 : Option Addr) (n c0 : Nat) (l0 : List Int) (w : World) (hr0 : U8.C w A0 n l0) (hlt : n < 17592186044416) :
    Calls Try.prog 13 #[.slice A0 n c0] w fun e w' => ∃ v0_ : Value, e = .returned (v0_) ∧ U8.R 5 w' w.heap.size (fun _ => True) v0_ l0 ∧ Below w.heap.size w w' := by
  obtain rfl : l0.length = n := hr0.1
  cases A0 with
  | none =>
    have h0 : l0 = [] := by
      rcases Nat.eq_zero_or_pos l0.length with h0 | h0
      · exact List.length_eq_zero_iff.1 h0
      · obtain ⟨ad, e, _⟩ := hr0.2.2 h0
        cases e
    subst h0
    clear hr0 hlt
    have heql := fun (w : World) => Lib.run_eql_slice_nil (P := Try.prog) w 28 5 none 0 c0 0 0 Try.underlying28
    go_enter Try.func13, Try.ntmps13
    go_wp2
    go_ret
    exact ⟨_, rfl, Kd.R_nil _ _ _ _ _, Below.refl _ _⟩
  | some ad =>
    have LM := Aside0.mk hlt
    have HR0 := Aside0.mk hr0
    clear hr0 hlt
    have heql := fun (w : World) => Lib.run_eql_slice_nil (P := Try.prog) w 28 5 (some ad) l0.length c0 0 0 Try.underlying28
    have HM : Aside0 (U8.R 5 (w.alloc (.cells #[] 5)) w.heap.size (fun _ => True) (.slice (some ⟨w.heap.size, 0, none⟩) 0 0) []) :=
      ⟨⟨fun _ _ => trivial, [], World.ownsRow_made w #[] 0 (Nat.le_refl _) (Nat.zero_le _) rfl, Reps.none _ _⟩⟩
    have HB := Aside0.mk ((Below.refl w.heap.size w).alloc (Nat.le_refl _) (.cells #[] 5))
    go_enter Try.func13, Try.ntmps13
    go_wp2_with (at_builtin; refine Kd.R_append_rows U8 (w0 := w) (Rr := U8.K w) w.heap.size rfl (.tmp 5) (.tmp 6) 28 5 (.int .u8 0) 1 rfl Try.underlying28 info5 rfl (by decide) (by decide) (.slice (some ⟨w.heap.size, 0, none⟩) 0 0) [] l0 (some ad) l0.length c0 (fun _ => True) (fun _ => False) rfl rfl ?aO ?aR ?aM (fun _ hk => hk.elim) (fun _ _ => trivial) ?aB ?aS ?aL ?_; (case aO => exact HM.out); (case aR => exact ReadsRow.imp_ HR0.out ((Below.refl w.heap.size w).alloc (Nat.le_refl _) _) (fun _ _ h => h)); (case aM => exact fun _ _ h => h); (case aB => exact HB.out); (case aS => simp); (case aL => have := LM.out; simp only [List.length_nil]; omega); intro v1 w1 ho hb hg hat; have HO := Aside0.mk ho; have HB2 := Aside0.mk hb; clear ho hb hg hat HM HB)
    go_ret
    exact ⟨_, rfl, HO.out, HB2.out⟩
def zstr : Value := .string ⟨#[]⟩
theorem info9 : (Try.prog.info? 9).map (fun i => (i.zero, i.size, i.bytes)) = some (some zstr, 1, 16) := by kernel_rfl
set_option maxHeartbeats 8000000 in
set_option maxRecDepth 100000 in
theorem clones_calls (A0 : Option Addr) (n c0 : Nat) (l0 : List ByteArray) (w : World) (hr0 : Kd.string.C w A0 n l0) (hlt : n < 1099511627776) :
    Calls Try.prog 15 #[.slice A0 n c0] w fun e w' => ∃ v0_ : Value, e = .returned (v0_) ∧ Kd.string.R 9 w' w.heap.size (fun _ => True) v0_ l0 ∧ Below w.heap.size w w' := by
  obtain rfl : l0.length = n := hr0.1
  cases A0 with
  | none =>
    have h0 : l0 = [] := by
      rcases Nat.eq_zero_or_pos l0.length with h0 | h0
      · exact List.length_eq_zero_iff.1 h0
      · obtain ⟨ad, e, _⟩ := hr0.2.2 h0
        cases e
    subst h0
    clear hr0 hlt
    have heql := fun (w : World) => Lib.run_eql_slice_nil (P := Try.prog) w 33 9 none 0 c0 0 0 Try.underlying33
    go_enter Try.func15, Try.ntmps15
    go_wp2
    go_ret
    exact ⟨_, rfl, Kd.R_nil _ _ _ _ _, Below.refl _ _⟩
  | some ad =>
    have LM := Aside0.mk hlt
    have HR0 := Aside0.mk hr0
    clear hr0 hlt
    have heql := fun (w : World) => Lib.run_eql_slice_nil (P := Try.prog) w 33 9 (some ad) l0.length c0 0 0 Try.underlying33
    have HM : Aside0 (Kd.string.R 9 (w.alloc (.cells #[] 9)) w.heap.size (fun _ => True) (.slice (some ⟨w.heap.size, 0, none⟩) 0 0) []) :=
      ⟨⟨fun _ _ => trivial, [], World.ownsRow_made w #[] 0 (Nat.le_refl _) (Nat.zero_le _) rfl, Reps.none _ _⟩⟩
    have HB := Aside0.mk ((Below.refl w.heap.size w).alloc (Nat.le_refl _) (.cells #[] 9))
    go_enter Try.func15, Try.ntmps15
    go_wp2_with (at_builtin; refine Kd.R_append_rows Kd.string (w0 := w) (Rr := Kd.string.K w) w.heap.size rfl (.tmp 5) (.tmp 6) 33 9 zstr 16 rfl Try.underlying33 info9 rfl (by decide) (by decide) (.slice (some ⟨w.heap.size, 0, none⟩) 0 0) [] l0 (some ad) l0.length c0 (fun _ => True) (fun _ => False) rfl rfl ?aO ?aR ?aM (fun _ hk => hk.elim) (fun _ _ => trivial) ?aB ?aS ?aL ?_; (case aO => exact HM.out); (case aR => exact ReadsRow.imp_ HR0.out ((Below.refl w.heap.size w).alloc (Nat.le_refl _) _) (fun _ _ h => h)); (case aM => exact fun _ _ h => h); (case aB => exact HB.out); (case aS => simp); (case aL => have := LM.out; simp only [List.length_nil]; omega); intro v1 w1 ho hb hg hat; have HO := Aside0.mk ho; have HB2 := Aside0.mk hb; clear ho hb hg hat HM HB)
    go_ret
    exact ⟨_, rfl, HO.out, HB2.out⟩
/-- Bytes that are only read, told by their value; they lie in ok. -/
abbrev Vb (W : World) (ok : Nat → Prop) (v : Value) (xs : List Int) : Prop := Kd.V U8 5 W 0 ok v xs
theorem vb_new {W : World} {B : Nat} {v : Value} {xs : List Int} {ok : Nat → Prop} (h : U8.R 5 W B (fun _ => True) v xs) (hok : ∀ k, B ≤ k → ok k) : Vb W ok v xs :=
  Kd.R_V (Kd.R_mono (Kd.R_bound h) (fun k hk => hok k hk.2.1))

abbrev By : Kd (List Int) := Kd.slice 5 U8
abbrev Ks : Kd (List ByteArray) := Kd.slice 9 Kd.string
abbrev Vs (W : World) (ok : Nat → Prop) (v : Value) (xs : List ByteArray) : Prop := Kd.V Kd.string 9 W 0 ok v xs
theorem vs_new {W : World} {B : Nat} {v : Value} {xs : List ByteArray} {ok : Nat → Prop} (h : Kd.string.R 9 W B (fun _ => True) v xs) (hok : ∀ k, B ≤ k → ok k) : Vs W ok v xs :=
  Kd.R_V (Kd.R_mono (Kd.R_bound h) (fun k hk => hok k hk.2.1))
theorem w64 (n : Int) (h : -9223372036854775808 ≤ n) (h' : n < 9223372036854775808) : wrap64 n = n := by unfold wrap64; omega
/-- Bytes as an element's cells. -/
theorem vb_fk {W : World} {ok : Nat → Prop} {v : Value} {xs : List Int} (h : Vb W ok v xs) : Kd.FK By W ok xs [v] := by
  obtain ⟨A, c, rfl, hl, hF⟩ := h
  exact fun W' hW => ⟨A, c, rfl, hl, hF W' hW⟩
theorem fk_vb {W : World} {ok : Nat → Prop} {v : Value} {xs : List Int} (h : Kd.FK By W ok xs [v]) : Vb W ok v xs := by
  obtain ⟨A, c, e, hl, _⟩ := Kd.FK_now h
  injection e with e
  subst e
  refine ⟨A, c, rfl, hl, fun W' hW => ?_⟩
  obtain ⟨A', c', e', _, hC⟩ := h W' hW
  injection e' with e'
  injection e' with e1 e2 e3
  subst e1
  exact hC
theorem vs_fk {W : World} {ok : Nat → Prop} {v : Value} {xs : List ByteArray} (h : Vs W ok v xs) : Kd.FK Ks W ok xs [v] := by
  obtain ⟨A, c, rfl, hl, hF⟩ := h
  exact fun W' hW => ⟨A, c, rfl, hl, hF W' hW⟩
theorem fk_vs {W : World} {ok : Nat → Prop} {v : Value} {xs : List ByteArray} (h : Kd.FK Ks W ok xs [v]) : Vs W ok v xs := by
  obtain ⟨A, c, e, hl, _⟩ := Kd.FK_now h
  injection e with e
  subst e
  refine ⟨A, c, rfl, hl, fun W' hW => ?_⟩
  obtain ⟨A', c', e', _, hC⟩ := h W' hW
  injection e' with e'
  injection e' with e1 e2 e3
  subst e1
  exact hC
def putbW (W : World) (g : Nat) : World := { W with heap := W.heap.setIfInBounds g (.map #[] 0) }
theorem putbW_ne (W : World) (g k : Nat) (h : k ≠ g) : (putbW W g).heap[k]? = W.heap[k]? := by simp [putbW, Ne.symm h]
theorem putbW_same (W : World) (g : Nat) (h : g < W.heap.size) : (putbW W g).heap[g]? = some (.map #[] 0) := by simp [putbW, h]
/-- Bytes of a block that is all the program's own. -/
def Bo : Kd (List Int) where
  sz := 1
  E := []
  K := fun W xs cs => By.K W xs cs ∧ ∀ ad n c, cs = [.slice (some ad) n c] → ∃ g cells, ad = ⟨g, 0, none⟩ ∧ W.heap[g]? = some (.cells cells 5 (0, 0))
  M := fun _ _ _ _ _ => False
  K_len := fun h => By.K_len h.1
  K_one := fun h => By.K_one h.1
  K_below := fun hb h => ⟨By.K_below hb h.1, fun ad n c e => by
    obtain ⟨g, cells, hg, hc⟩ := h.2 ad n c e
    exact ⟨g, cells, hg, blk_below hc hb⟩⟩
  K_of_M := fun h => h.elim
  M_mono := fun _ h => h
  M_bound := fun h => h.elim
  M_move := fun _ h => h
  M_lower := fun _ h => h
abbrev Vo (W : World) (ok : Nat → Prop) (v : Value) (xs : List Int) : Prop := Kd.FK Bo W ok xs [v]
theorem vo_vb {W : World} {ok : Nat → Prop} {v : Value} {xs : List Int} (h : Vo W ok v xs) : Vb W ok v xs := fk_vb (fun W' hW => (h W' hW).1)
theorem vo_in {W : World} {ok : Nat → Prop} {ad : Addr} {n c : Nat} {xs : List Int} (h : Vo W ok (.slice (some ad) n c) xs) : ∃ g cells, ad = ⟨g, 0, none⟩ ∧ ok g ∧ W.heap[g]? = some (.cells cells 5 (0, 0)) := by
  obtain ⟨g, cells, hg, hc⟩ := (Kd.FK_now h).2 ad n c rfl
  refine ⟨g, cells, hg, Classical.byContradiction fun hn => ?_, hc⟩
  obtain ⟨g', cells', hg', hc'⟩ := (h (putbW W g) (fun k hk _ => putbW_ne W g k (fun e => hn (e ▸ hk)))).2 ad n c rfl
  have : g' = g := by rw [hg] at hg'; injection hg' with e; exact e.symm
  subst this
  rw [putbW_same W _ (blk_lt hc)] at hc'
  cases hc'
theorem vo_nil (W : World) (ok : Nat → Prop) : Vo W ok (.slice none 0 0) [] := fun W' _ => ⟨⟨none, 0, rfl, Nat.le_refl _, Kd.C_nil _ _⟩, fun ad n c e => by simp at e⟩
theorem vo_new {W : World} {B : Nat} {v : Value} {xs : List Int} {ok : Nat → Prop} (h : U8.R 5 W B (fun _ => True) v xs) (hok : ∀ k, B ≤ k → ok k) : Vo W ok v xs := fun W' hW => by
  refine ⟨vb_fk (vb_new h hok) W' hW, fun ad n c e => ?_⟩
  injection e with e
  subst e
  obtain ⟨_, rows, ho, _⟩ := h
  obtain ⟨_, ho2⟩ := ho
  rcases ho2 with ⟨h1, _⟩ | ⟨g, cap, cur, h1, hg, hh, r⟩
  · cases h1
  · injection h1 with h1
    injection h1 with h1
    subst h1
    exact ⟨g, cur, rfl, (hW g (hok g hg) (blk_lt hh)).trans hh⟩
/-- A call. -/
structure Cl where
  task : Int
  op : Int
  key : ByteArray
  data : List Int
  from_ : Int
  to_ : Int
  at_ : Int
  e : Int
  out : List Int
  keys : List ByteArray
def Cl.tup (c : Cl) : Int × Int × ByteArray × List Int × Int × Int × Int × Int × List Int × List ByteArray := (c.task, c.op, c.key, c.data, c.from_, c.to_, c.at_, c.e, c.out, c.keys)
abbrev CKt : Kd (Int × Int × ByteArray × List Int × Int × Int × Int × Int × List Int × List ByteArray) :=
  Kd.pair (Kd.int .i64) (Kd.pair (Kd.int .i64) (Kd.pair Kd.string (Kd.pair Bo (Kd.pair (Kd.int .i64) (Kd.pair (Kd.int .i64) (Kd.pair (Kd.int .i64) (Kd.pair (Kd.int .i64) (Kd.pair Bo Ks))))))))
abbrev CK : Kd Cl := Kd.iso CKt Cl.tup
/-- A call's cells. -/
def cc (c : Cl) (vd vo vk : Value) : List Value := [.int .i64 c.task, .int .i64 c.op, .string c.key, vd, .int .i64 c.from_, .int .i64 c.to_, .int .i64 c.at_, .int .i64 c.e, vo, vk]
theorem bo_one {W : World} {xs : List Int} {cs : List Value} (h : Bo.K W xs cs) : ∃ v, cs = [v] := by
  have := Bo.K_len h
  exact List.length_eq_one_iff.1 this
theorem ks_one {W : World} {xs : List ByteArray} {cs : List Value} (h : Ks.K W xs cs) : ∃ v, cs = [v] := by
  have := Ks.K_len h
  exact List.length_eq_one_iff.1 this
theorem cl_K {W : World} {c : Cl} {cs : List Value} (h : CK.K W c cs) : ∃ vd vo vk, cs = cc c vd vo vk ∧ Bo.K W c.data [vd] ∧ Bo.K W c.out [vo] ∧ Ks.K W c.keys [vk] := by
  obtain ⟨c0, r0, rfl, h0, c1, r1, rfl, h1, c2, r2, rfl, h2, c3, r3, rfl, h3, c4, r4, rfl, h4, c5, r5, rfl, h5, c6, r6, rfl, h6, c7, r7, rfl, h7, c8, c9, rfl, h8, h9⟩ := h
  have e0 : c0 = [.int .i64 c.task] := h0
  have e1 : c1 = [.int .i64 c.op] := h1
  have e2 : c2 = [.string c.key] := h2
  have e4 : c4 = [.int .i64 c.from_] := h4
  have e5 : c5 = [.int .i64 c.to_] := h5
  have e6 : c6 = [.int .i64 c.at_] := h6
  have e7 : c7 = [.int .i64 c.e] := h7
  obtain ⟨vd, rfl⟩ := bo_one h3
  obtain ⟨vo, rfl⟩ := bo_one h8
  obtain ⟨vk, rfl⟩ := ks_one h9
  subst e0 e1 e2 e4 e5 e6 e7
  exact ⟨vd, vo, vk, rfl, h3, h8, h9⟩
theorem cl_fk {W : World} {ok : Nat → Prop} {c : Cl} {vd vo vk : Value} (hd : Vo W ok vd c.data) (ho : Vo W ok vo c.out) (hk : Vs W ok vk c.keys) : Kd.FK CK W ok c (cc c vd vo vk) := fun W' hW =>
  ⟨[_], _, rfl, rfl, [_], _, rfl, rfl, [_], _, rfl, rfl, [_], _, rfl, hd W' hW, [_], _, rfl, rfl, [_], _, rfl, rfl, [_], _, rfl, rfl, [_], _, rfl, rfl, [_], [_], rfl, ho W' hW, vs_fk hk W' hW⟩
theorem fk_cl {W : World} {ok : Nat → Prop} {c : Cl} {cs : List Value} (h : Kd.FK CK W ok c cs) : ∃ vd vo vk, cs = cc c vd vo vk ∧ Vo W ok vd c.data ∧ Vo W ok vo c.out ∧ Vs W ok vk c.keys := by
  obtain ⟨vd, vo, vk, rfl, _, _, _⟩ := cl_K (Kd.FK_now h)
  have hh : ∀ W', (∀ k, ok k → k < W.heap.size → W'.heap[k]? = W.heap[k]?) → Bo.K W' c.data [vd] ∧ Bo.K W' c.out [vo] ∧ Ks.K W' c.keys [vk] := fun W' hW => by
    obtain ⟨vd', vo', vk', e, g1, g2, g3⟩ := cl_K (h W' hW)
    simp only [cc, List.cons.injEq, and_true, true_and] at e
    obtain ⟨rfl, rfl, rfl⟩ := e
    exact ⟨g1, g2, g3⟩
  exact ⟨vd, vo, vk, rfl, fun W' hW => (hh W' hW).1, fun W' hW => (hh W' hW).2.1, fk_vs (fun W' hW => (hh W' hW).2.2)⟩
section
variable {w a b : World} {ok ok' : Nat → Prop} {g : Nat}
/-- All is as it was but block g and what lies in ok. -/
structure Kq (w w' : World) (ok : Nat → Prop) (g : Nat) : Prop where
  os : w'.os = w.os
  tape : w'.tape = w.tape
  output : w'.output = w.output
  size : w.heap.size ≤ w'.heap.size
  block : ∀ k, k < w.heap.size → ¬ ok k → k ≠ g → w'.heap[k]? = w.heap[k]?
theorem Kq.refl (w : World) (ok : Nat → Prop) (g : Nat) : Kq w w ok g := ⟨rfl, rfl, rfl, Nat.le_refl _, fun _ _ _ _ => rfl⟩
theorem Kq.trans (h : Kq w a ok g) (k : Kq a b ok' g) (hok : ∀ k, k < w.heap.size → ok' k → ok k) : Kq w b ok g :=
  ⟨k.os.trans h.os, k.tape.trans h.tape, k.output.trans h.output, Nat.le_trans h.size k.size, fun i hi hn hg => (k.block i (Nat.lt_of_lt_of_le hi h.size) (fun h2 => hn (hok i hi h2)) hg).trans (h.block i hi hn hg)⟩
theorem Kq.then_ (h : Kq w a ok g) (k : Kq a b ok g) : Kq w b ok g := h.trans k (fun _ _ h => h)
theorem Kq.below (h : Kq w a ok g) (k : Below a.heap.size a b) : Kq w b ok g := h.then_ ⟨k.os, k.tape, k.output, k.size, fun i hi _ _ => k.block i hi⟩
theorem Kq.of_below (k : Below w.heap.size w b) : Kq w b ok g := (Kq.refl w ok g).below k
theorem Kq.drewN (h : Kq w a ok g) (n : Nat) : Kq w (a.drewN n) ok g := ⟨h.os, h.tape, h.output, h.size, h.block⟩
theorem Kq.alloc (h : Kq w a ok g) (o : Obj) : Kq w (a.alloc o) ok g := h.below ((Below.refl _ _).alloc (Nat.le_refl _) o)
theorem Kq.set (h : Kq w a ok g) {p : Addr} (hp : p.block = g ∨ ok p.block ∨ w.heap.size ≤ p.block) (x : Value) : Kq w (a.setCell p x) ok g :=
  ⟨h.os, h.tape, h.output, by simpa [World.setCell] using h.size, fun k hk hn hg => (Below.heap_setCell a p x k (by
    rintro rfl
    rcases hp with hp | hp | hp
    · exact hg hp
    · exact hn hp
    · omega)).trans (h.block k hk hn hg)⟩
theorem Kq.grown (h : Kq w a ok g) {row : Option Nat} (hg : a.grownBy b row) (hr : ∀ k, row = some k → ok k ∨ w.heap.size ≤ k) : Kq w b ok g :=
  ⟨hg.os.trans h.os, hg.tape.trans h.tape, hg.output.trans h.output, Nat.le_trans h.size hg.size, fun k hk hn hne => (hg.block k (Nat.lt_of_lt_of_le hk h.size) (fun he => by
    rcases hr k he.symm with h2 | h2
    · exact hn h2
    · omega)).trans (h.block k hk hn hne)⟩
/-- A state of the call's own: what was there ahead of the call is as it was. -/
theorem Kq.under (h : Kq a b ok g) (hB : Below w.heap.size w a) (hg : w.heap.size ≤ g) (hok : ∀ k, ok k → w.heap.size ≤ k) : Below w.heap.size w b :=
  ⟨h.os.trans hB.os, h.tape.trans hB.tape, h.output.trans hB.output, Nat.le_trans hB.size h.size, fun k hk => (h.block k (Nat.lt_of_lt_of_le hk hB.size) (fun h2 => by have := hok k h2; omega) (by omega)).trans (hB.block k hk)⟩
end
end Go.Proofs.Ytfcfiojkkpnhlaa.Hs
