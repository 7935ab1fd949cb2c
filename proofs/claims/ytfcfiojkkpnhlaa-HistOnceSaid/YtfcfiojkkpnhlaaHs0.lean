/- Histories: the words for a history's state, and the contracts of the clones. -/
import Derived.Test.YtfcfiojkkpnhlaaProg
import Derived.Below
import Derived.Deep.Draws
import Derived.Deep.AppendLies
import Derived.Maps.AppendAt
import Derived.OwnWalk
import Derived.Laws.BytesArg
import Derived.Laws.MakeOwn
import Derived.Laws.OwnMore
import Derived.Deep.OwnRows
import Derived.Tactics
import Derived.Lib.ConvBytes
import Derived.Laws.Slices
import Derived.WalkKit
import Derived.KernelRfl
import Derived.RowKit3
import Derived.Deep.LoopGhost
import Derived.Deep.QuietTactic
import Derived.BigQuiet
import Derived.WideLaws
import Derived.Deep.DeepCutAuto
import Derived.Deep.CutBlock
import Derived.Deep.RegionHeld3
import Derived.Laws.Rows
import Derived.Lib.AppendStr
import Derived.ArgAppend
import Derived.Laws.IdiomCopy
import Derived.OrdersHeld
import Derived.Laws.BitsLemmas
import Derived.RowKit
import Derived.Test.YtfcfiojkkpnhlaaWWords
import Derived.Test.YtfcfiojkkpnhlaaWLast
import Derived.Test.YtfcfiojkkpnhlaaWTab
import Derived.Test.YtfcfiojkkpnhlaaWFour
import Derived.Test.YtfcfiojkkpnhlaaWQPut
import Derived.Test.YtfcfiojkkpnhlaaWApart
import Derived.Test.YtfcfiojkkpnhlaaWArr
import Derived.Test.YtfcfiojkkpnhlaaWZeros
import Derived.Test.YtfcfiojkkpnhlaaWFoot
import Derived.Test.YtfcfiojkkpnhlaaWKept
import Derived.Test.YtfcfiojkkpnhlaaWShare
import Derived.Test.YtfcfiojkkpnhlaaWN
import Derived.Test.YtfcfiojkkpnhlaaWFootNe
import Derived.Test.YtfcfiojkkpnhlaaWAt
import Derived.Test.YtfcfiojkkpnhlaaWEqStruct
import Derived.Test.YtfcfiojkkpnhlaaWRepsOne
import Derived.Test.YtfcfiojkkpnhlaaWInv
import Derived.Test.YtfcfiojkkpnhlaaWInvWords
import Derived.Test.YtfcfiojkkpnhlaaWGuard
import Derived.Test.YtfcfiojkkpnhlaaWNEv
import Derived.Test.YtfcfiojkkpnhlaaWMore
import Derived.Test.YtfcfiojkkpnhlaaMp
import Derived.Lib.SliceRun
import Derived.Outline
import Derived.StillTailTactics
import Derived.Lib.SlBytesConst
namespace Go.Proofs.Ytfcfiojkkpnhlaa.Hs
open Go.RowKit Go.Proofs.YtfcfiojkkpnhlaaW.PrintWords Go.Proofs.YtfcfiojkkpnhlaaW.PrintLast Go.Proofs.YtfcfiojkkpnhlaaW.PrintMore
attribute [local go_sem] max2_int min2_int max_two min_two max_three min_three max_four min_four
set_option linter.unusedVariables false
set_option linter.unusedSimpArgs false
abbrev U8 : Kd Int := Kd.int .u8
theorem info5 : (Try.prog.info? 5).map (fun i => (i.zero, i.size, i.bytes)) = some (some (.int .u8 0), 1, 1) := by kernel_rfl
set_option maxHeartbeats 8000000 in
set_option maxRecDepth 100000 in
theorem clone_calls (A0 : Option Addr) (n c0 : Nat) (l0 : List Int) (w : World) (hr0 : U8.C w A0 n l0) (hlt : n < 17592186044416) :
    Calls Try.prog 13 #[.slice A0 n c0] w fun e w' => ∃ v0_ : Value, e = .returned (v0_) ∧ U8.R 5 w' w.heap.size (fun _ => True) v0_ l0 ∧ Below w.heap.size w w' := by
  obtain rfl : l0.length = n := hr0.1
  cases A0 with
  | none =>
    have h0 : l0 = [] := by
      rcases Nat.eq_zero_or_pos l0.length with h0 | h0
      · exact List.length_eq_zero_iff.1 h0
      · obtain ⟨ad, e, _⟩ := hr0.2.2 h0
        cases e
    subst h0
    clear hr0 hlt
    have heql := fun (w : World) => Lib.run_eql_slice_nil (P := Try.prog) w 28 5 none 0 c0 0 0 Try.underlying28
    go_enter Try.func13, Try.ntmps13
    go_wp2
    go_ret
    exact ⟨_, rfl, Kd.R_nil _ _ _ _ _, Below.refl _ _⟩
  | some ad =>
    have LM := Aside0.mk hlt
    have HR0 := Aside0.mk hr0
    clear hr0 hlt
    have heql := fun (w : World) => Lib.run_eql_slice_nil (P := Try.prog) w 28 5 (some ad) l0.length c0 0 0 Try.underlying28
    have HM : Aside0 (U8.R 5 (w.alloc (.cells #[] 5)) w.heap.size (fun _ => True) (.slice (some ⟨w.heap.size, 0, none⟩) 0 0) []) :=
      ⟨⟨fun _ _ => trivial, [], World.ownsRow_made w #[] 0 (Nat.le_refl _) (Nat.zero_le _) rfl, Reps.none _ _⟩⟩
    have HB := Aside0.mk ((Below.refl w.heap.size w).alloc (Nat.le_refl _) (.cells #[] 5))
    go_enter Try.func13, Try.ntmps13
    go_wp2_with (at_builtin; refine Kd.R_append_rows U8 (w0 := w) (Rr := U8.K w) w.heap.size rfl (.tmp 5) (.tmp 6) 28 5 (.int .u8 0) 1 rfl Try.underlying28 info5 rfl (by decide) (by decide) (.slice (some ⟨w.heap.size, 0, none⟩) 0 0) [] l0 (some ad) l0.length c0 (fun _ => True) (fun _ => False) rfl rfl ?aO ?aR ?aM (fun _ hk => hk.elim) (fun _ _ => trivial) ?aB ?aS ?aL ?_; (case aO => exact HM.out); (case aR => exact ReadsRow.imp_ HR0.out ((Below.refl w.heap.size w).alloc (Nat.le_refl _) _) (fun _ _ h => h)); (case aM => exact fun _ _ h => h); (case aB => exact HB.out); (case aS => simp); (case aL => have := LM.out; simp only [List.length_nil]; omega); intro v1 w1 ho hb hg hat; have HO := Aside0.mk ho; have HB2 := Aside0.mk hb; clear ho hb hg hat HM HB)
    go_ret
    exact ⟨_, rfl, HO.out, HB2.out⟩
def zstr : Value := .string ⟨#[]⟩
theorem info9 : (Try.prog.info? 9).map (fun i => (i.zero, i.size, i.bytes)) = some (some zstr, 1, 16) := by kernel_rfl
set_option maxHeartbeats 8000000 in
set_option maxRecDepth 100000 in
theorem clones_calls (A0 : Option Addr) (n c0 : Nat) (l0 : List ByteArray) (w : World) (hr0 : Kd.string.C w A0 n l0) (hlt : n < 1099511627776) :
    Calls Try.prog 15 #[.slice A0 n c0] w fun e w' => ∃ v0_ : Value, e = .returned (v0_) ∧ Kd.string.R 9 w' w.heap.size (fun _ => True) v0_ l0 ∧ Below w.heap.size w w' := by
  obtain rfl : l0.length = n := hr0.1
  cases A0 with
  | none =>
    have h0 : l0 = [] := by
      rcases Nat.eq_zero_or_pos l0.length with h0 | h0
      · exact List.length_eq_zero_iff.1 h0
      · obtain ⟨ad, e, _⟩ := hr0.2.2 h0
        cases e
    subst h0
    clear hr0 hlt
    have heql := fun (w : World) => Lib.run_eql_slice_nil (P := Try.prog) w 33 9 none 0 c0 0 0 Try.underlying33
    go_enter Try.func15, Try.ntmps15
    go_wp2
    go_ret
    exact ⟨_, rfl, Kd.R_nil _ _ _ _ _, Below.refl _ _⟩
  | some ad =>
    have LM := Aside0.mk hlt
    have HR0 := Aside0.mk hr0
    clear hr0 hlt
    have heql := fun (w : World) => Lib.run_eql_slice_nil (P := Try.prog) w 33 9 (some ad) l0.length c0 0 0 Try.underlying33
    have HM : Aside0 (Kd.string.R 9 (w.alloc (.cells #[] 9)) w.heap.size (fun _ => True) (.slice (some ⟨w.heap.size, 0, none⟩) 0 0) []) :=
      ⟨⟨fun _ _ => trivial, [], World.ownsRow_made w #[] 0 (Nat.le_refl _) (Nat.zero_le _) rfl, Reps.none _ _⟩⟩
    have HB := Aside0.mk ((Below.refl w.heap.size w).alloc (Nat.le_refl _) (.cells #[] 9))
    go_enter Try.func15, Try.ntmps15
    go_wp2_with (at_builtin; refine Kd.R_append_rows Kd.string (w0 := w) (Rr := Kd.string.K w) w.heap.size rfl (.tmp 5) (.tmp 6) 33 9 zstr 16 rfl Try.underlying33 info9 rfl (by decide) (by decide) (.slice (some ⟨w.heap.size, 0, none⟩) 0 0) [] l0 (some ad) l0.length c0 (fun _ => True) (fun _ => False) rfl rfl ?aO ?aR ?aM (fun _ hk => hk.elim) (fun _ _ => trivial) ?aB ?aS ?aL ?_; (case aO => exact HM.out); (case aR => exact ReadsRow.imp_ HR0.out ((Below.refl w.heap.size w).alloc (Nat.le_refl _) _) (fun _ _ h => h)); (case aM => exact fun _ _ h => h); (case aB => exact HB.out); (case aS => simp); (case aL => have := LM.out; simp only [List.length_nil]; omega); intro v1 w1 ho hb hg hat; have HO := Aside0.mk ho; have HB2 := Aside0.mk hb; clear ho hb hg hat HM HB)
    go_ret
    exact ⟨_, rfl, HO.out, HB2.out⟩
/-- Bytes that are only read, told by their value; they lie in ok. -/
abbrev Vb (W : World) (ok : Nat → Prop) (v : Value) (xs : List Int) : Prop := Kd.V U8 5 W 0 ok v xs
theorem vb_new {W : World} {B : Nat} {v : Value} {xs : List Int} {ok : Nat → Prop} (h : U8.R 5 W B (fun _ => True) v xs) (hok : ∀ k, B ≤ k → ok k) : Vb W ok v xs :=
  Kd.R_V (Kd.R_mono (Kd.R_bound h) (fun k hk => hok k hk.2.1))

abbrev By : Kd (List Int) := Kd.slice 5 U8
abbrev Ks : Kd (List ByteArray) := Kd.slice 9 Kd.string
abbrev Vs (W : World) (ok : Nat → Prop) (v : Value) (xs : List ByteArray) : Prop := Kd.V Kd.string 9 W 0 ok v xs
theorem vs_new {W : World} {B : Nat} {v : Value} {xs : List ByteArray} {ok : Nat → Prop} (h : Kd.string.R 9 W B (fun _ => True) v xs) (hok : ∀ k, B ≤ k → ok k) : Vs W ok v xs :=
  Kd.R_V (Kd.R_mono (Kd.R_bound h) (fun k hk => hok k hk.2.1))
theorem w64 (n : Int) (h : -9223372036854775808 ≤ n) (h' : n < 9223372036854775808) : wrap64 n = n := by unfold wrap64; omega
/-- Bytes as an element's cells. -/
theorem vb_fk {W : World} {ok : Nat → Prop} {v : Value} {xs : List Int} (h : Vb W ok v xs) : Kd.FK By W ok xs [v] := by
  obtain ⟨A, c, rfl, hl, hF⟩ := h
  exact fun W' hW => ⟨A, c, rfl, hl, hF W' hW⟩
theorem fk_vb {W : World} {ok : Nat → Prop} {v : Value} {xs : List Int} (h : Kd.FK By W ok xs [v]) : Vb W ok v xs := by
  obtain ⟨A, c, e, hl, _⟩ := Kd.FK_now h
  injection e with e
  subst e
  refine ⟨A, c, rfl, hl, fun W' hW => ?_⟩
  obtain ⟨A', c', e', _, hC⟩ := h W' hW
  injection e' with e'
  injection e' with e1 e2 e3
  subst e1
  exact hC
theorem vs_fk {W : World} {ok : Nat → Prop} {v : Value} {xs : List ByteArray} (h : Vs W ok v xs) : Kd.FK Ks W ok xs [v] := by
  obtain ⟨A, c, rfl, hl, hF⟩ := h
  exact fun W' hW => ⟨A, c, rfl, hl, hF W' hW⟩
theorem fk_vs {W : World} {ok : Nat → Prop} {v : Value} {xs : List ByteArray} (h : Kd.FK Ks W ok xs [v]) : Vs W ok v xs := by
  obtain ⟨A, c, e, hl, _⟩ := Kd.FK_now h
  injection e with e
  subst e
  refine ⟨A, c, rfl, hl, fun W' hW => ?_⟩
  obtain ⟨A', c', e', _, hC⟩ := h W' hW
  injection e' with e'
  injection e' with e1 e2 e3
  subst e1
  exact hC
/-- A call. -/
structure Cl where
  task : Int
  op : Int
  key : ByteArray
  data : List Int
  from_ : Int
  to_ : Int
  at_ : Int
  e : Int
  out : List Int
  keys : List ByteArray
def Cl.tup (c : Cl) : Int × Int × ByteArray × List Int × Int × Int × Int × Int × List Int × List ByteArray := (c.task, c.op, c.key, c.data, c.from_, c.to_, c.at_, c.e, c.out, c.keys)
abbrev CKt : Kd (Int × Int × ByteArray × List Int × Int × Int × Int × Int × List Int × List ByteArray) :=
  Kd.pair (Kd.int .i64) (Kd.pair (Kd.int .i64) (Kd.pair Kd.string (Kd.pair By (Kd.pair (Kd.int .i64) (Kd.pair (Kd.int .i64) (Kd.pair (Kd.int .i64) (Kd.pair (Kd.int .i64) (Kd.pair By Ks))))))))
abbrev CK : Kd Cl := Kd.iso CKt Cl.tup
/-- A call's cells. -/
def cc (c : Cl) (vd vo vk : Value) : List Value := [.int .i64 c.task, .int .i64 c.op, .string c.key, vd, .int .i64 c.from_, .int .i64 c.to_, .int .i64 c.at_, .int .i64 c.e, vo, vk]
theorem cl_K {W : World} {c : Cl} {cs : List Value} (h : CK.K W c cs) : ∃ D dc O oc S sc, cs = cc c (.slice D c.data.length dc) (.slice O c.out.length oc) (.slice S c.keys.length sc) ∧ c.data.length ≤ dc ∧ U8.C W D c.data.length c.data ∧ c.out.length ≤ oc ∧ U8.C W O c.out.length c.out ∧ c.keys.length ≤ sc ∧ Kd.string.C W S c.keys.length c.keys := by
  obtain ⟨c0, r0, rfl, h0, c1, r1, rfl, h1, c2, r2, rfl, h2, c3, r3, rfl, ⟨D, dc, h3, hD, hDC⟩, c4, r4, rfl, h4, c5, r5, rfl, h5, c6, r6, rfl, h6, c7, r7, rfl, h7, c8, c9, rfl, ⟨O, oc, h8, hO, hOC⟩, ⟨S, sc, h9, hS, hSC⟩⟩ := h
  have e0 : c0 = [.int .i64 c.task] := h0
  have e1 : c1 = [.int .i64 c.op] := h1
  have e2 : c2 = [.string c.key] := h2
  have e3 : c3 = [.slice D c.data.length dc] := h3
  have e4 : c4 = [.int .i64 c.from_] := h4
  have e5 : c5 = [.int .i64 c.to_] := h5
  have e6 : c6 = [.int .i64 c.at_] := h6
  have e7 : c7 = [.int .i64 c.e] := h7
  have e8 : c8 = [.slice O c.out.length oc] := h8
  have e9 : c9 = [.slice S c.keys.length sc] := h9
  subst e0 e1 e2 e3 e4 e5 e6 e7 e8 e9
  exact ⟨D, dc, O, oc, S, sc, rfl, hD, hDC, hO, hOC, hS, hSC⟩
theorem cl_mk {W : World} {c : Cl} {D O S : Option Addr} {dc oc sc : Nat} (hD : c.data.length ≤ dc) (hDC : U8.C W D c.data.length c.data) (hO : c.out.length ≤ oc) (hOC : U8.C W O c.out.length c.out) (hS : c.keys.length ≤ sc) (hSC : Kd.string.C W S c.keys.length c.keys) :
    CK.K W c (cc c (.slice D c.data.length dc) (.slice O c.out.length oc) (.slice S c.keys.length sc)) :=
  ⟨[_], _, rfl, rfl, [_], _, rfl, rfl, [_], _, rfl, rfl, [_], _, rfl, ⟨D, dc, rfl, hD, hDC⟩, [_], _, rfl, rfl, [_], _, rfl, rfl, [_], _, rfl, rfl, [_], _, rfl, rfl, [_], [_], rfl, ⟨O, oc, rfl, hO, hOC⟩, ⟨S, sc, rfl, hS, hSC⟩⟩
theorem cl_fk {W : World} {ok : Nat → Prop} {c : Cl} {vd vo vk : Value} (hd : Vb W ok vd c.data) (ho : Vb W ok vo c.out) (hk : Vs W ok vk c.keys) : Kd.FK CK W ok c (cc c vd vo vk) := by
  obtain ⟨D, dc, rfl, h1, h2⟩ := hd
  obtain ⟨O, oc, rfl, h3, h4⟩ := ho
  obtain ⟨S, sc, rfl, h5, h6⟩ := hk
  exact fun W' hW => cl_mk h1 (h2 W' hW) h3 (h4 W' hW) h5 (h6 W' hW)
theorem fk_cl {W : World} {ok : Nat → Prop} {c : Cl} {cs : List Value} (h : Kd.FK CK W ok c cs) : ∃ vd vo vk, cs = cc c vd vo vk ∧ Vb W ok vd c.data ∧ Vb W ok vo c.out ∧ Vs W ok vk c.keys := by
  obtain ⟨D, dc, O, oc, S, sc, rfl, h1, _, h3, _, h5, _⟩ := cl_K (Kd.FK_now h)
  refine ⟨_, _, _, rfl, ⟨D, dc, rfl, h1, fun W' hW => ?_⟩, ⟨O, oc, rfl, h3, fun W' hW => ?_⟩, ⟨S, sc, rfl, h5, fun W' hW => ?_⟩⟩
  all_goals
    obtain ⟨D', dc', O', oc', S', sc', e, _, g2, _, g4, _, g6⟩ := cl_K (h W' hW)
    simp only [cc, List.cons.injEq, Value.slice.injEq, and_true, true_and] at e
    obtain ⟨⟨rfl, _⟩, ⟨rfl, _⟩, ⟨rfl, _⟩⟩ := e
    assumption
section
variable {w a b : World} {ok ok' : Nat → Prop} {g : Nat}
/-- All is as it was but block g and what lies in ok. -/
structure Kq (w w' : World) (ok : Nat → Prop) (g : Nat) : Prop where
  os : w'.os = w.os
  tape : w'.tape = w.tape
  output : w'.output = w.output
  size : w.heap.size ≤ w'.heap.size
  block : ∀ k, k < w.heap.size → ¬ ok k → k ≠ g → w'.heap[k]? = w.heap[k]?
theorem Kq.refl (w : World) (ok : Nat → Prop) (g : Nat) : Kq w w ok g := ⟨rfl, rfl, rfl, Nat.le_refl _, fun _ _ _ _ => rfl⟩
theorem Kq.trans (h : Kq w a ok g) (k : Kq a b ok' g) (hok : ∀ k, k < w.heap.size → ok' k → ok k) : Kq w b ok g :=
  ⟨k.os.trans h.os, k.tape.trans h.tape, k.output.trans h.output, Nat.le_trans h.size k.size, fun i hi hn hg => (k.block i (Nat.lt_of_lt_of_le hi h.size) (fun h2 => hn (hok i hi h2)) hg).trans (h.block i hi hn hg)⟩
theorem Kq.then_ (h : Kq w a ok g) (k : Kq a b ok g) : Kq w b ok g := h.trans k (fun _ _ h => h)
theorem Kq.below (h : Kq w a ok g) (k : Below a.heap.size a b) : Kq w b ok g := h.then_ ⟨k.os, k.tape, k.output, k.size, fun i hi _ _ => k.block i hi⟩
theorem Kq.of_below (k : Below w.heap.size w b) : Kq w b ok g := (Kq.refl w ok g).below k
theorem Kq.drewN (h : Kq w a ok g) (n : Nat) : Kq w (a.drewN n) ok g := ⟨h.os, h.tape, h.output, h.size, h.block⟩
theorem Kq.alloc (h : Kq w a ok g) (o : Obj) : Kq w (a.alloc o) ok g := h.below ((Below.refl _ _).alloc (Nat.le_refl _) o)
theorem Kq.set (h : Kq w a ok g) {p : Addr} (hp : p.block = g ∨ ok p.block ∨ w.heap.size ≤ p.block) (x : Value) : Kq w (a.setCell p x) ok g :=
  ⟨h.os, h.tape, h.output, by simpa [World.setCell] using h.size, fun k hk hn hg => (Below.heap_setCell a p x k (by
    rintro rfl
    rcases hp with hp | hp | hp
    · exact hg hp
    · exact hn hp
    · omega)).trans (h.block k hk hn hg)⟩
theorem Kq.grown (h : Kq w a ok g) {row : Option Nat} (hg : a.grownBy b row) (hr : ∀ k, row = some k → ok k ∨ w.heap.size ≤ k) : Kq w b ok g :=
  ⟨hg.os.trans h.os, hg.tape.trans h.tape, hg.output.trans h.output, Nat.le_trans h.size hg.size, fun k hk hn hne => (hg.block k (Nat.lt_of_lt_of_le hk h.size) (fun he => by
    rcases hr k he.symm with h2 | h2
    · exact hn h2
    · omega)).trans (h.block k hk hn hne)⟩
/-- A state of the call's own: what was there ahead of the call is as it was. -/
theorem Kq.under (h : Kq a b ok g) (hB : Below w.heap.size w a) (hg : w.heap.size ≤ g) (hok : ∀ k, ok k → w.heap.size ≤ k) : Below w.heap.size w b :=
  ⟨h.os.trans hB.os, h.tape.trans hB.tape, h.output.trans hB.output, Nat.le_trans hB.size h.size, fun k hk => (h.block k (Nat.lt_of_lt_of_le hk hB.size) (fun h2 => by have := hok k h2; omega) (by omega)).trans (hB.block k hk)⟩
end
end Go.Proofs.Ytfcfiojkkpnhlaa.Hs
