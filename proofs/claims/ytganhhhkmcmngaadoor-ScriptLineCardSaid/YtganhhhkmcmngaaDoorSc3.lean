/- Scripts: the law's own numbers. -/
import Derived.Test.YtganhhhkmcmngaaDoorProg
import Derived.Below
import Derived.Deep.Draws
import Derived.Deep.AppendLies
import Derived.Maps.AppendAt
import Derived.OwnWalk
import Derived.Laws.BytesArg
import Derived.Laws.MakeOwn
import Derived.Laws.OwnMore
import Derived.Deep.OwnRows
import Derived.Tactics
import Derived.Lib.ConvBytes
import Derived.Laws.Slices
import Derived.WalkKit
import Derived.KernelRfl
import Derived.RowKit3
import Derived.Deep.LoopGhost
import Derived.Deep.QuietTactic
import Derived.BigQuiet
import Derived.WideLaws
import Derived.Deep.DeepCutAuto
import Derived.Deep.CutBlock
import Derived.Deep.RegionHeld3
import Derived.Laws.Rows
import Derived.Lib.AppendStr
import Derived.ArgAppend
import Derived.Laws.IdiomCopy
import Derived.OrdersHeld
import Derived.Laws.BitsLemmas
import Derived.RowKit
import Derived.Test.YtganhhhkmcmngaaDoorWWords
import Derived.Test.YtganhhhkmcmngaaDoorWLast
import Derived.Test.YtganhhhkmcmngaaDoorWTab
import Derived.Test.YtganhhhkmcmngaaDoorWFour
import Derived.Test.YtganhhhkmcmngaaDoorWQPut
import Derived.Test.YtganhhhkmcmngaaDoorWApart
import Derived.Test.YtganhhhkmcmngaaDoorWArr
import Derived.Test.YtganhhhkmcmngaaDoorWZeros
import Derived.Test.YtganhhhkmcmngaaDoorWFoot
import Derived.Test.YtganhhhkmcmngaaDoorWKept
import Derived.Test.YtganhhhkmcmngaaDoorWShare
import Derived.Test.YtganhhhkmcmngaaDoorWN
import Derived.Test.YtganhhhkmcmngaaDoorWFootNe
import Derived.Test.YtganhhhkmcmngaaDoorWAt
import Derived.Test.YtganhhhkmcmngaaDoorWEqStruct
import Derived.Test.YtganhhhkmcmngaaDoorWRepsOne
import Derived.Test.YtganhhhkmcmngaaDoorWInv
import Derived.Test.YtganhhhkmcmngaaDoorWInvWords
import Derived.Test.YtganhhhkmcmngaaDoorWGuard
import Derived.Test.YtganhhhkmcmngaaDoorWNEv
import Derived.Test.YtganhhhkmcmngaaDoorWMore
import Derived.Test.YtganhhhkmcmngaaDoorSc2
namespace Go.Proofs.YtganhhhkmcmngaaDoor.Sc
open Go.RowKit Go.Proofs.YtganhhhkmcmngaaDoorW.PrintWords Go.Proofs.YtganhhhkmcmngaaDoorW.PrintLast Go.Proofs.YtganhhhkmcmngaaDoorW.PrintMore
attribute [local go_sem] max2_int min2_int max_two min_two max_three min_three max_four min_four
set_option linter.unusedVariables false
set_option linter.unusedSimpArgs false
open Go.Shelf
theorem itoa_neg' (n : Int) (h : n < 0) : (⟨(Lib.itoa n).toArray⟩ : ByteArray) = ⟨#[45]⟩ ++ ⟨(Lib.decDigits n.natAbs).toArray⟩ := by
  unfold Lib.itoa
  rw [if_pos h]
  apply Go.WideShapes.bytes_inj
  simp
set_option maxHeartbeats 2000000 in
set_option maxRecDepth 100000 in
theorem num_calls (n : Int) (h0 : -9223372036854775808 ≤ n) (h1 : n ≤ 9223372036854775807) (w : World) : Calls Tryd.prog 13 #[.int .i64 n] w fun e w' => e = .returned (.string ⟨(Lib.itoa n).toArray⟩) ∧ Below w.heap.size w w' := by
  by_cases h : n < 0
  · have d1 : decide (n < 0) = true := decide_eq_true h
    have HI : Aside0 (∀ w, Calls Tryd.prog 14 #[.int .u64 (-(n + 1) + 1)] w fun e w' => e = .returned (.string ⟨(Lib.decDigits n.natAbs).toArray⟩) ∧ Below w.heap.size w w') := ⟨fun w => by
      have h2 := dec_calls n.natAbs w (by omega)
      rwa [show ((n.natAbs : Nat) : Int) = -(n + 1) + 1 by omega] at h2⟩
    have HE := Aside0.mk (itoa_neg' n h)
    have hlen := dec_short n.natAbs (by omega)
    generalize hds : (⟨(Lib.decDigits n.natAbs).toArray⟩ : ByteArray) = ds at HI HE
    have hsz : ds.size ≤ 20 := by rw [← hds]; show (Lib.decDigits n.natAbs).toArray.size ≤ 20; simpa using hlen
    have hsz2 : (9223372036854775807 < (⟨#[45]⟩ : ByteArray).size + ds.size) = False := eq_false (by show ¬ (9223372036854775807 < 1 + ds.size); omega)
    clear hds hlen
    go_enter Tryd.func13, Tryd.ntmps13
    go_wp2_with fail
    refine (HI.out _).mono ?_
    rintro e w1 ⟨rfl, hb⟩
    go_wp2_with fail
    go_ret
    exact ⟨by rw [HE.out]; rfl, hb⟩
  · have d1 : decide (n < 0) = false := decide_eq_false h
    have HI : Aside0 (∀ w, Calls Tryd.prog 14 #[.int .u64 n] w fun e w' => e = .returned (.string ⟨(Lib.itoa n).toArray⟩) ∧ Below w.heap.size w w') := ⟨fun w => by
      have h2 := dec_calls n.toNat w (by omega)
      rw [show ((n.toNat : Nat) : Int) = n by omega] at h2
      unfold Lib.itoa
      rwa [if_neg h]⟩
    go_enter Tryd.func13, Tryd.ntmps13
    go_wp2_with fail
    refine (HI.out _).mono ?_
    rintro e w1 ⟨rfl, hb⟩
    go_wp2_with fail
    go_ret
    exact ⟨rfl, hb⟩
/-! ### Digits of bytes. -/
def hexD (n : Nat) : UInt8 := UInt8.ofNat (if n < 10 then 48 + n else 87 + n)
def hexU (l : List Int) : List UInt8 := l.flatMap fun b => [hexD (b.toNat / 16), hexD (b.toNat % 16)]
def hexI (l : List Int) : List Int := l.flatMap fun b => [((hexD (b.toNat / 16)).toNat : Int), ((hexD (b.toNat % 16)).toNat : Int)]
theorem hexI_str (l : List Int) : (strOfNums (hexI l)).data.toList = hexU l := by
  rw [strOfNums_data]
  unfold hexI hexU
  rw [List.map_flatMap]
  simp
theorem hexI_len (l : List Int) : (hexI l).length = 2 * l.length := by
  unfold hexI
  induction l with
  | nil => rfl
  | cons x l ih => rw [List.flatMap_cons, List.length_append, ih, List.length_cons]; simp; omega
theorem hexU_len (l : List Int) : (hexU l).length = 2 * l.length := by
  unfold hexU
  induction l with
  | nil => rfl
  | cons x l ih => rw [List.flatMap_cons, List.length_append, ih, List.length_cons]; simp; omega
def digs : ByteArray := ⟨#[48, 49, 50, 51, 52, 53, 54, 55, 56, 57, 97, 98, 99, 100, 101, 102]⟩
theorem digs_at : ∀ n : Nat, n < 16 → ∀ (h : n < digs.size), (digs[n]).toNat = (hexD n).toNat := by decide
end Go.Proofs.YtganhhhkmcmngaaDoor.Sc
