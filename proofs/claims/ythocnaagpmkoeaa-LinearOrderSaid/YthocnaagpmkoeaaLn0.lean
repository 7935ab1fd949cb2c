/- Calls, one after the other: the words, and the contracts of the comparison and of the sort. -/
import Derived.Test.YthocnaagpmkoeaaProg
import Derived.Below
import Derived.Deep.Draws
import Derived.Deep.AppendLies
import Derived.Maps.AppendAt
import Derived.OwnWalk
import Derived.Laws.BytesArg
import Derived.Laws.MakeOwn
import Derived.Laws.OwnMore
import Derived.Deep.OwnRows
import Derived.Tactics
import Derived.Lib.ConvBytes
import Derived.Laws.Slices
import Derived.WalkKit
import Derived.KernelRfl
import Derived.RowKit3
import Derived.Deep.LoopGhost
import Derived.Deep.QuietTactic
import Derived.BigQuiet
import Derived.WideLaws
import Derived.Deep.DeepCutAuto
import Derived.Deep.CutBlock
import Derived.Deep.RegionHeld3
import Derived.Laws.Rows
import Derived.Lib.AppendStr
import Derived.ArgAppend
import Derived.Laws.IdiomCopy
import Derived.OrdersHeld
import Derived.Laws.BitsLemmas
import Derived.RowKit
import Derived.Test.YthocnaagpmkoeaaWWords
import Derived.Test.YthocnaagpmkoeaaWLast
import Derived.Test.YthocnaagpmkoeaaWTab
import Derived.Test.YthocnaagpmkoeaaWFour
import Derived.Test.YthocnaagpmkoeaaWQPut
import Derived.Test.YthocnaagpmkoeaaWApart
import Derived.Test.YthocnaagpmkoeaaWArr
import Derived.Test.YthocnaagpmkoeaaWZeros
import Derived.Test.YthocnaagpmkoeaaWFoot
import Derived.Test.YthocnaagpmkoeaaWKept
import Derived.Test.YthocnaagpmkoeaaWShare
import Derived.Test.YthocnaagpmkoeaaWN
import Derived.Test.YthocnaagpmkoeaaWFootNe
import Derived.Test.YthocnaagpmkoeaaWAt
import Derived.Test.YthocnaagpmkoeaaWEqStruct
import Derived.Test.YthocnaagpmkoeaaWRepsOne
import Derived.Test.YthocnaagpmkoeaaWInv
import Derived.Test.YthocnaagpmkoeaaWInvWords
import Derived.Test.YthocnaagpmkoeaaWGuard
import Derived.Test.YthocnaagpmkoeaaWNEv
import Derived.Test.YthocnaagpmkoeaaWMore
import Derived.Test.YthocnaagpmkoeaaLa0
import Derived.Test.YthocnaagpmkoeaaLa1
import Derived.Test.YthocnaagpmkoeaaLa8
import Derived.Lib.SliceRun
import Derived.Outline
import Derived.StillTailTactics
import Derived.Lib.SlBytesConst
import Derived.Deep.DeepCutAuto
import Derived.Deep.CutBlock
namespace Go.Proofs.Ythocnaagpmkoeaa.Ln
open Go.RowKit Go.Proofs.YthocnaagpmkoeaaW.PrintWords Go.Proofs.YthocnaagpmkoeaaW.PrintLast Go.Proofs.YthocnaagpmkoeaaW.PrintMore
attribute [local go_sem] max2_int min2_int max_two min_two max_three min_three max_four min_four
set_option linter.unusedVariables false
set_option linter.unusedSimpArgs false
abbrev U8 : Kd Int := Kd.int .u8
/-- Bytes: where they lie, and what they are. -/
structure Ds where
  a : Option Addr
  c : Nat
  bs : List Int
instance : Inhabited Ds := ⟨⟨none, 0, []⟩⟩
abbrev Ds.v (d : Ds) : Value := .slice d.a d.bs.length d.c
structure Ds.ok (w : World) (d : Ds) : Prop where
  cap : d.bs.length ≤ d.c
  row : U8.C w d.a d.bs.length d.bs
theorem Ds.ok.below {w w' : World} {d : Ds} (h : d.ok w) (hb : Below w.heap.size w w') : d.ok w' := ⟨h.cap, Kd.C_below h.row hb⟩
/-- A call, as it lies in a row. -/
structure Fc where
  task : Int
  op : Int
  key : ByteArray
  data : Ds
  fr : Int
  to_ : Int
  at_ : Int
  e : Int
  out : Ds
  ka : Option Addr
  kl : Nat
  kc : Nat
instance : Inhabited Fc := ⟨⟨0, 0, ⟨#[]⟩, default, 0, 0, 0, 0, default, none, 0, 0⟩⟩
def encF (x : Fc) : List Value := [.int .i64 x.task, .int .i64 x.op, .string x.key, x.data.v, .int .i64 x.fr, .int .i64 x.to_, .int .i64 x.at_, .int .i64 x.e, x.out.v, .slice x.ka x.kl x.kc]
theorem encF_len (x : Fc) : (encF x).length = 10 := rfl
theorem encF_one (x : Fc) : ∀ v ∈ encF x, v.oneCell' = true := fun v hv => by
  simp only [encF, List.mem_cons, List.not_mem_nil, or_false] at hv
  rcases hv with rfl | rfl | rfl | rfl | rfl | rfl | rfl | rfl | rfl | rfl <;> rfl
structure Fc.ok (w : World) (x : Fc) : Prop where
  data : x.data.ok w
  out : x.out.ok w
theorem Fc.ok.below {w w' : World} {x : Fc} (h : x.ok w) (hb : Below w.heap.size w w') : x.ok w' := ⟨h.data.below hb, h.out.below hb⟩
def cmpI (a b : Int) : Int := if a < b then -1 else if b < a then 1 else 0
def atC (x y : Fc) : Int := cmpI x.at_ y.at_
theorem cmp_calls (a b : Int) (w : World) : Calls Try.prog 11 #[.int .i64 a, .int .i64 b] w fun e w' => e = .returned (.int .i64 (cmpI a b)) ∧ w' = w := by
  by_cases h1 : a < b
  · have d1 : decide (a < b) = true := decide_eq_true h1
    have e : cmpI a b = -1 := if_pos h1
    rw [e]
    go_enter Try.func11, Try.ntmps11
    go_wp2
    go_ret
    exact ⟨rfl, rfl⟩
  · have d1 : decide (a < b) = false := decide_eq_false h1
    by_cases h2 : b < a
    · have d2 : decide (b < a) = true := decide_eq_true h2
      have e : cmpI a b = 1 := by simp [cmpI, h1, h2]
      rw [e]
      go_enter Try.func11, Try.ntmps11
      go_wp2
      go_ret
      exact ⟨rfl, rfl⟩
    · have d2 : decide (b < a) = false := decide_eq_false h2
      have e : cmpI a b = 0 := by simp [cmpI, h1, h2]
      rw [e]
      go_enter Try.func11, Try.ntmps11
      go_wp2
      go_ret
      exact ⟨rfl, rfl⟩
theorem at_grown (x y : Fc) (w : World) : Calls Try.prog 10 #[.agg (encF x).toArray, .agg (encF y).toArray] w fun e w' => e = .returned (.int .i64 (atC x y)) ∧ w' = (w.alloc (.cells (encF x).toArray 29)).alloc (.cells (encF y).toArray 29) := by
  unfold encF
  go_enter Try.func10, Try.ntmps10
  go_wp2_with (go_at_call 11; refine (cmp_calls _ _ _).mono ?_; rintro e w' ⟨rfl, rfl⟩)
  go_ret
  exact ⟨rfl, rfl⟩
end Go.Proofs.Ythocnaagpmkoeaa.Ln
