/- Scripts: what comes in. -/
import Derived.Test.YtganhhhkmcmngaaDoorProg
import Derived.Below
import Derived.Deep.Draws
import Derived.Deep.AppendLies
import Derived.Maps.AppendAt
import Derived.OwnWalk
import Derived.Laws.BytesArg
import Derived.Laws.MakeOwn
import Derived.Laws.OwnMore
import Derived.Deep.OwnRows
import Derived.Tactics
import Derived.Lib.ConvBytes
import Derived.Laws.Slices
import Derived.WalkKit
import Derived.KernelRfl
import Derived.RowKit3
import Derived.Deep.LoopGhost
import Derived.Deep.QuietTactic
import Derived.BigQuiet
import Derived.WideLaws
import Derived.Deep.DeepCutAuto
import Derived.Deep.CutBlock
import Derived.Deep.RegionHeld3
import Derived.Laws.Rows
import Derived.Lib.AppendStr
import Derived.ArgAppend
import Derived.Laws.IdiomCopy
import Derived.OrdersHeld
import Derived.Laws.BitsLemmas
import Derived.RowKit
import Derived.Test.YtganhhhkmcmngaaDoorWWords
import Derived.Test.YtganhhhkmcmngaaDoorWLast
import Derived.Test.YtganhhhkmcmngaaDoorWTab
import Derived.Test.YtganhhhkmcmngaaDoorWFour
import Derived.Test.YtganhhhkmcmngaaDoorWQPut
import Derived.Test.YtganhhhkmcmngaaDoorWApart
import Derived.Test.YtganhhhkmcmngaaDoorWArr
import Derived.Test.YtganhhhkmcmngaaDoorWZeros
import Derived.Test.YtganhhhkmcmngaaDoorWFoot
import Derived.Test.YtganhhhkmcmngaaDoorWKept
import Derived.Test.YtganhhhkmcmngaaDoorWShare
import Derived.Test.YtganhhhkmcmngaaDoorWN
import Derived.Test.YtganhhhkmcmngaaDoorWFootNe
import Derived.Test.YtganhhhkmcmngaaDoorWAt
import Derived.Test.YtganhhhkmcmngaaDoorWEqStruct
import Derived.Test.YtganhhhkmcmngaaDoorWRepsOne
import Derived.Test.YtganhhhkmcmngaaDoorWInv
import Derived.Test.YtganhhhkmcmngaaDoorWInvWords
import Derived.Test.YtganhhhkmcmngaaDoorWGuard
import Derived.Test.YtganhhhkmcmngaaDoorWNEv
import Derived.Test.YtganhhhkmcmngaaDoorWMore
import Derived.Test.YtganhhhkmcmngaaDoorSc13
import Derived.Test.YtganhhhkmcmngaaDoorOp
namespace Go.Proofs.YtganhhhkmcmngaaDoor.Sc
open Go.RowKit Go.Proofs.YtganhhhkmcmngaaDoorW.PrintWords Go.Proofs.YtganhhhkmcmngaaDoorW.PrintLast Go.Proofs.YtganhhhkmcmngaaDoorW.PrintMore
attribute [local go_sem] max2_int min2_int max_two min_two max_three min_three max_four min_four
set_option linter.unusedVariables false
set_option linter.unusedSimpArgs false
open Go.ChangeShapes Go.WideShapes Go.Proofs.YtganhhhkmcmngaaDoor.Op
theorem i64_b {n : Int} (h : (Lit.int .i64 n).wf = true) : -9223372036854775808 ≤ n ∧ n ≤ 9223372036854775807 := by
  simp [Lit.wf, IntKind.min, IntKind.max, IntKind.signed, IntKind.bits] at h
  omega
theorem u64_b {n : Int} (h : (Lit.int .u64 n).wf = true) : 0 ≤ n ∧ n < 18446744073709551616 := by
  simp [Lit.wf, IntKind.min, IntKind.max, IntKind.signed, IntKind.bits] at h
  omega
theorem u8_b {n : Int} (h : (Lit.int .u8 n).wf = true) : 0 ≤ n ∧ n < 256 := by
  simp [Lit.wf, IntKind.min, IntKind.max, IntKind.signed, IntKind.bits] at h
  omega
def SG (x : Int × Int × ByteArray × List Int × Int) : Prop := (Lit.int .i64 x.1).wf = true ∧ (Lit.int .i64 x.2.1).wf = true ∧ x.2.2.1.size ≤ 140737488351232 ∧ Row 1 (fun n => (Lit.int .u8 n).wf = true) x.2.2.2.1 ∧ (Lit.int .u64 x.2.2.2.2).wf = true
theorem wfB_of {x : Int × Int × ByteArray × List Int × Int} (h : SG x) : WfB (toS x) :=
  ⟨(i64_b h.1).1, (i64_b h.1).2, (i64_b h.2.1).1, (i64_b h.2.1).2, (u64_b h.2.2.2.2).1, (u64_b h.2.2.2.2).2, h.2.2.1, by have := h.2.2.2.1.len; show x.2.2.2.1.length ≤ _; omega, fun y hy => u8_b (h.2.2.2.1.all y hy)⟩
theorem wfB_all {l : List (Int × Int × ByteArray × List Int × Int)} (h : Row 64 SG l) : (∀ x, x ∈ l.map toS → WfB x) ∧ l.length ≤ 9223372036854775000 := ⟨fun x hx => by
  obtain ⟨y, hy, rfl⟩ := List.mem_map.mp hx
  exact wfB_of (h.all y hy), by have := h.len; omega⟩
end Go.Proofs.YtganhhhkmcmngaaDoor.Sc
