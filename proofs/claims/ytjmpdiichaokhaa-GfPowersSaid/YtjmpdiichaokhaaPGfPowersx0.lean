-- Written by myprint.py (this session's own driver of the kit's print, with contracts of its own handed in).
import Derived.Test.YtjmpdiichaokhaaProg
import Derived.Below
import Derived.Deep.Draws
import Derived.Deep.AppendLies
import Derived.Maps.AppendAt
import Derived.OwnWalk
import Derived.Laws.BytesArg
import Derived.Laws.MakeOwn
import Derived.Laws.OwnMore
import Derived.Deep.OwnRows
import Derived.Tactics
import Derived.Lib.ConvBytes
import Derived.Laws.Slices
import Derived.WalkKit
import Derived.KernelRfl
import Derived.RowKit3
import Derived.Deep.LoopGhost
import Derived.Deep.QuietTactic
import Derived.BigQuiet
import Derived.WideLaws
import Derived.Deep.DeepCutAuto
import Derived.Deep.CutBlock
import Derived.Deep.RegionHeld3
import Derived.Laws.Rows
import Derived.Lib.AppendStr
import Derived.ArgAppend
import Derived.Laws.IdiomCopy
import Derived.OrdersHeld
import Derived.Laws.BitsLemmas
import Derived.RowKit
import Derived.Lib.SliceRun
import Derived.Outline
import Derived.Test.YtjmpdiichaokhaaGf
import Derived.Laws.Bits128
import Derived.Test.YtjmpdiichaokhaaWWords
import Derived.Test.YtjmpdiichaokhaaWLast
import Derived.Test.YtjmpdiichaokhaaWTab
import Derived.Test.YtjmpdiichaokhaaWFour
import Derived.Test.YtjmpdiichaokhaaWQPut
import Derived.Test.YtjmpdiichaokhaaWApart
import Derived.Test.YtjmpdiichaokhaaWArr
import Derived.Test.YtjmpdiichaokhaaWZeros
import Derived.Test.YtjmpdiichaokhaaWFoot
import Derived.Test.YtjmpdiichaokhaaWKept
import Derived.Test.YtjmpdiichaokhaaWShare
import Derived.Test.YtjmpdiichaokhaaWN
import Derived.Test.YtjmpdiichaokhaaWFootNe
import Derived.Test.YtjmpdiichaokhaaWAt
import Derived.Test.YtjmpdiichaokhaaWEqStruct
import Derived.Test.YtjmpdiichaokhaaWRepsOne
import Derived.Test.YtjmpdiichaokhaaWInv
import Derived.Test.YtjmpdiichaokhaaWInvWords
import Derived.Test.YtjmpdiichaokhaaWGuard
import Derived.Test.YtjmpdiichaokhaaWNEv
import Derived.Test.YtjmpdiichaokhaaWMore
namespace Go.Proofs.Ytjmpdiichaokhaa.PGfPowers
open Go.RowKit Go.Proofs.YtjmpdiichaokhaaW.PrintWords Go.Proofs.YtjmpdiichaokhaaW.PrintLast Go.Proofs.YtjmpdiichaokhaaW.PrintMore
attribute [local go_sem] max2_int min2_int max_two min_two max_three min_three max_four min_four   -- for this text's walks alone
set_option linter.unusedVariables false
set_option linter.unusedSimpArgs false



def errW : Option Int → Value
  | none => .nilIface
  | some c => .iface 0 (.int .i64 c)
theorem errW_none : errW none = .nilIface := rfl
theorem errW_some (c : Int) : errW (some c) = .iface 0 (.int .i64 c) := rfl

-- the values' own types

end Go.Proofs.Ytjmpdiichaokhaa.PGfPowers
