/- Histories: no history; the laws' arguments. -/
import Derived.Test.YtfcfiojkkpnhlaaProg
import Derived.Below
import Derived.Deep.Draws
import Derived.Deep.AppendLies
import Derived.Maps.AppendAt
import Derived.OwnWalk
import Derived.Laws.BytesArg
import Derived.Laws.MakeOwn
import Derived.Laws.OwnMore
import Derived.Deep.OwnRows
import Derived.Tactics
import Derived.Lib.ConvBytes
import Derived.Laws.Slices
import Derived.WalkKit
import Derived.KernelRfl
import Derived.RowKit3
import Derived.Deep.LoopGhost
import Derived.Deep.QuietTactic
import Derived.BigQuiet
import Derived.WideLaws
import Derived.Deep.DeepCutAuto
import Derived.Deep.CutBlock
import Derived.Deep.RegionHeld3
import Derived.Laws.Rows
import Derived.Lib.AppendStr
import Derived.ArgAppend
import Derived.Laws.IdiomCopy
import Derived.OrdersHeld
import Derived.Laws.BitsLemmas
import Derived.RowKit
import Derived.Test.YtfcfiojkkpnhlaaWWords
import Derived.Test.YtfcfiojkkpnhlaaWLast
import Derived.Test.YtfcfiojkkpnhlaaWTab
import Derived.Test.YtfcfiojkkpnhlaaWFour
import Derived.Test.YtfcfiojkkpnhlaaWQPut
import Derived.Test.YtfcfiojkkpnhlaaWApart
import Derived.Test.YtfcfiojkkpnhlaaWArr
import Derived.Test.YtfcfiojkkpnhlaaWZeros
import Derived.Test.YtfcfiojkkpnhlaaWFoot
import Derived.Test.YtfcfiojkkpnhlaaWKept
import Derived.Test.YtfcfiojkkpnhlaaWShare
import Derived.Test.YtfcfiojkkpnhlaaWN
import Derived.Test.YtfcfiojkkpnhlaaWFootNe
import Derived.Test.YtfcfiojkkpnhlaaWAt
import Derived.Test.YtfcfiojkkpnhlaaWEqStruct
import Derived.Test.YtfcfiojkkpnhlaaWRepsOne
import Derived.Test.YtfcfiojkkpnhlaaWInv
import Derived.Test.YtfcfiojkkpnhlaaWInvWords
import Derived.Test.YtfcfiojkkpnhlaaWGuard
import Derived.Test.YtfcfiojkkpnhlaaWNEv
import Derived.Test.YtfcfiojkkpnhlaaWMore
import Derived.Test.YtfcfiojkkpnhlaaHs4
namespace Go.Proofs.Ytfcfiojkkpnhlaa.Hs
open Go.RowKit Go.Proofs.YtfcfiojkkpnhlaaW.PrintWords Go.Proofs.YtfcfiojkkpnhlaaW.PrintLast Go.Proofs.YtfcfiojkkpnhlaaW.PrintMore
attribute [local go_sem] max2_int min2_int max_two min_two max_three min_three max_four min_four
set_option linter.unusedVariables false
set_option linter.unusedSimpArgs false
open Go.Proofs.Ytfcfiojkkpnhlaa.Mp
set_option maxRecDepth 100000 in
set_option maxHeartbeats 4000000 in
theorem add_nil (w : World) (v1 v2 v3 v4 v5 u1 u2 u3 u4 u5 u6 : Value) : Calls Try.prog 9 #[.pointer none, .agg #[v1, v2, v3, v4, v5], .agg #[u1, u2, u3, u4, u5, u6]] w fun e w' => e = .returned (.tuple #[]) ∧ Below w.heap.size w w' := by
  have HB : Aside0 (Below w.heap.size w ((w.alloc (.cells #[v1, v2, v3, v4, v5] 31)).alloc (.cells #[u1, u2, u3, u4, u5, u6] 35))) := ⟨((Below.refl _ _).alloc (Nat.le_refl _) _).alloc (by simp) _⟩
  go_enter Try.func9, Try.ntmps9
  go_wp2
  refine bodyPost_ret (results_none rfl _ _ _) rfl ?_
  exact ⟨rfl, HB.out⟩
set_option maxRecDepth 100000 in
set_option maxHeartbeats 4000000 in
theorem calls_nil (w : World) : Calls Try.prog 11 #[.pointer none] w fun e w' => e = .returned (.slice none 0 0) ∧ w' = w := by
  go_enter Try.func11, Try.ntmps11
  go_wp2
  go_ret
  exact ⟨rfl, rfl⟩
abbrev SK : Kd (Int × Int × ByteArray × List Int × Int) := Kd.pair (Kd.int .i64) (Kd.pair (Kd.int .i64) (Kd.pair Kd.string (Kd.pair By (Kd.int .u64))))
abbrev AK : Kd (Int × Int × Bool × Int × List Int × List ByteArray) := Kd.pair (Kd.int .i64) (Kd.pair (Kd.int .i64) (Kd.pair Kd.bool (Kd.pair (Kd.int .i64) (Kd.pair By Ks))))
def toStp (x : Int × Int × ByteArray × List Int × Int) : Stp := ⟨x.1, x.2.1, x.2.2.1, x.2.2.2.1, x.2.2.2.2⟩
def toAns (x : Int × Int × Bool × Int × List Int × List ByteArray) : Ans := ⟨x.1, x.2.1, x.2.2.1, x.2.2.2.1, x.2.2.2.2.1, x.2.2.2.2.2⟩
theorem stp_K {W : World} {x : Int × Int × ByteArray × List Int × Int} {cs : List Value} (h : SK.K W x cs) : ∃ D dc, cs = [.int .i64 (toStp x).kind, .int .i64 (toStp x).a, .string (toStp x).key, .slice D (toStp x).data.length dc, .int .u64 (toStp x).keep] ∧ (toStp x).data.length ≤ dc ∧ U8.C W D (toStp x).data.length (toStp x).data := by
  obtain ⟨c0, r0, rfl, h0, c1, r1, rfl, h1, c2, r2, rfl, h2, c3, r3, rfl, ⟨D, dc, h3, hD, hDC⟩, h4⟩ := h
  have e0 : c0 = [.int .i64 x.1] := h0
  have e1 : c1 = [.int .i64 x.2.1] := h1
  have e2 : c2 = [.string x.2.2.1] := h2
  have e3 : c3 = [.slice D x.2.2.2.1.length dc] := h3
  have e4 : r3 = [.int .u64 x.2.2.2.2] := h4
  subst e0 e1 e2 e3 e4
  exact ⟨D, dc, rfl, hD, hDC⟩
theorem ans_K {W : World} {x : Int × Int × Bool × Int × List Int × List ByteArray} {cs : List Value} (h : AK.K W x cs) : ∃ D dc S sc, cs = [.int .i64 (toAns x).e, .int .i64 (toAns x).task, .bool (toAns x).done, .int .i64 (toAns x).mark, .slice D (toAns x).data.length dc, .slice S (toAns x).keys.length sc] ∧ (toAns x).data.length ≤ dc ∧ U8.C W D (toAns x).data.length (toAns x).data ∧ (toAns x).keys.length ≤ sc ∧ Kd.string.C W S (toAns x).keys.length (toAns x).keys := by
  obtain ⟨c0, r0, rfl, h0, c1, r1, rfl, h1, c2, r2, rfl, h2, c3, r3, rfl, h3, c8, c9, rfl, ⟨O, oc, h8, hO, hOC⟩, ⟨S, sc, h9, hS, hSC⟩⟩ := h
  have e0 : c0 = [.int .i64 x.1] := h0
  have e1 : c1 = [.int .i64 x.2.1] := h1
  have e2 : c2 = [.bool x.2.2.1] := h2
  have e3 : c3 = [.int .i64 x.2.2.2.1] := h3
  have e8 : c8 = [.slice O x.2.2.2.2.1.length oc] := h8
  have e9 : c9 = [.slice S x.2.2.2.2.2.length sc] := h9
  subst e0 e1 e2 e3 e8 e9
  exact ⟨O, oc, S, sc, rfl, hO, hOC, hS, hSC⟩
def rd (task : Int) (h : Hst) : Hst := ((h.add ⟨1, 2, ⟨#[107]⟩, [], 0⟩ ⟨0, task, false, 0, [], []⟩).add ⟨2, task, ⟨#[]⟩, [], 0⟩ ⟨0, task, true, 1, [], []⟩).add ⟨2, task, ⟨#[]⟩, [], 0⟩ ⟨7, 0, true, 2, [], []⟩
def onceH (task : Int) : Nat → Hst | 0 => h0 | i + 1 => rd task (onceH task i)
def onceC (task : Int) (i : Nat) : Cl := ⟨task, 2, ⟨#[107]⟩, [], 3 * (i : Int) + 1, 3 * (i : Int) + 2, 3 * (i : Int) + 2, 0, [], []⟩
theorem rd_eq (task : Int) (i : Nat) (l : List Cl) : rd task ⟨3 * (i : Int), l, fun _ => none⟩ = ⟨3 * (((i + 1 : Nat)) : Int), l ++ [onceC task i], fun _ => none⟩ := by
  have hu : upd (upd (fun _ => none) task (some l.length)) task none = fun _ => none := by
    funext a
    unfold upd
    split <;> rfl
  simp only [rd, Hst.add, Hst.tick, Hst.run, Hst.call, Hst.ended, Hst.marked]
  simp [upd, List.getD_eq_getElem?_getD]
  refine ⟨by omega, ?_, ?_⟩
  · unfold onceC
    simp
    omega
  · exact hu
theorem onceH_eq (task : Int) : ∀ i, onceH task i = ⟨3 * (i : Int), (List.range i).map (onceC task), fun _ => none⟩
  | 0 => rfl
  | i + 1 => by
    rw [onceH, onceH_eq task i, rd_eq, List.range_succ, List.map_append]
    rfl
end Go.Proofs.Ytfcfiojkkpnhlaa.Hs
