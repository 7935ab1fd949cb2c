/- Calls, one after the other: bytes that are the same. -/
import Derived.Test.YthocnaagpmkoeaaProg
import Derived.Below
import Derived.Deep.Draws
import Derived.Deep.AppendLies
import Derived.Maps.AppendAt
import Derived.OwnWalk
import Derived.Laws.BytesArg
import Derived.Laws.MakeOwn
import Derived.Laws.OwnMore
import Derived.Deep.OwnRows
import Derived.Tactics
import Derived.Lib.ConvBytes
import Derived.Laws.Slices
import Derived.WalkKit
import Derived.KernelRfl
import Derived.RowKit3
import Derived.Deep.LoopGhost
import Derived.Deep.QuietTactic
import Derived.BigQuiet
import Derived.WideLaws
import Derived.Deep.DeepCutAuto
import Derived.Deep.CutBlock
import Derived.Deep.RegionHeld3
import Derived.Laws.Rows
import Derived.Lib.AppendStr
import Derived.ArgAppend
import Derived.Laws.IdiomCopy
import Derived.OrdersHeld
import Derived.Laws.BitsLemmas
import Derived.RowKit
import Derived.Test.YthocnaagpmkoeaaWWords
import Derived.Test.YthocnaagpmkoeaaWLast
import Derived.Test.YthocnaagpmkoeaaWTab
import Derived.Test.YthocnaagpmkoeaaWFour
import Derived.Test.YthocnaagpmkoeaaWQPut
import Derived.Test.YthocnaagpmkoeaaWApart
import Derived.Test.YthocnaagpmkoeaaWArr
import Derived.Test.YthocnaagpmkoeaaWZeros
import Derived.Test.YthocnaagpmkoeaaWFoot
import Derived.Test.YthocnaagpmkoeaaWKept
import Derived.Test.YthocnaagpmkoeaaWShare
import Derived.Test.YthocnaagpmkoeaaWN
import Derived.Test.YthocnaagpmkoeaaWFootNe
import Derived.Test.YthocnaagpmkoeaaWAt
import Derived.Test.YthocnaagpmkoeaaWEqStruct
import Derived.Test.YthocnaagpmkoeaaWRepsOne
import Derived.Test.YthocnaagpmkoeaaWInv
import Derived.Test.YthocnaagpmkoeaaWInvWords
import Derived.Test.YthocnaagpmkoeaaWGuard
import Derived.Test.YthocnaagpmkoeaaWNEv
import Derived.Test.YthocnaagpmkoeaaWMore
import Derived.Test.YthocnaagpmkoeaaLn7
namespace Go.Proofs.Ythocnaagpmkoeaa.Ln
open Go.RowKit Go.Proofs.YthocnaagpmkoeaaW.PrintWords Go.Proofs.YthocnaagpmkoeaaW.PrintLast Go.Proofs.YthocnaagpmkoeaaW.PrintMore
attribute [local go_sem] max2_int min2_int max_two min_two max_three min_three max_four min_four
set_option linter.unusedVariables false
set_option linter.unusedSimpArgs false
theorem same_all (n : Nat) : ∀ (k i : Nat) (a b : List Int), a.length = b.length → n + i = a.length → n < k → a.length < 1000000000000000 → flittingref01_Same.l0 k a b (i : Int) = some (decide (a.drop i = b.drop i)) := by
  induction n with
  | zero =>
    intro k i a b he hd hk _
    obtain ⟨k, rfl⟩ : ∃ m, k = m + 1 := ⟨k - 1, by omega⟩
    simp only [flittingref01_Same.l0]
    rw [if_neg (by omega), List.drop_eq_nil_of_le (by omega), List.drop_eq_nil_of_le (by omega)]
    rfl
  | succ n ih =>
    intro k i a b he hd hk hm
    obtain ⟨k, rfl⟩ : ∃ m, k = m + 1 := ⟨k - 1, by omega⟩
    simp only [flittingref01_Same.l0]
    have hia : i < a.length := by omega
    have hib : i < b.length := by omega
    have e1 : rd a (i : Int) = a[i] := by simp [rd, hia]
    have e2 : rd b (i : Int) = b[i] := by simp [rd, hib]
    rw [if_pos (by omega), if_pos (by omega), if_pos (by omega), show wrap64 ((i : Int) + 1) = ((i + 1 : Nat) : Int) from by unfold wrap64; omega, e1, e2]
    have g1 : a.drop i = a[i] :: a.drop (i + 1) := List.drop_eq_getElem_cons hia
    have g2 : b.drop i = b[i] :: b.drop (i + 1) := List.drop_eq_getElem_cons hib
    by_cases h : a[i] = b[i]
    · rw [if_pos h, ih k (i + 1) a b he (by omega) (by omega) hm, g1, g2]
      simp only [List.cons.injEq, h, true_and]
    · rw [if_neg h, g1, g2]
      simp only [List.cons.injEq, h, false_and, decide_false]
theorem same_f (a b : List Int) (hm : a.length < 1000000000000000) : flittingref01_Same.f (a.length + 1) a b = some (decide (a = b)) := by
  unfold flittingref01_Same.f
  by_cases h : (a.length : Int) = (b.length : Int)
  · rw [if_pos h]
    have := same_all a.length (a.length + 1) 0 a b (by omega) (by omega) (by omega) hm
    simpa using this
  · rw [if_neg h]
    have : a ≠ b := fun e => h (by rw [e])
    simp [this]
theorem sameB_refl (a : List Int) : sameB a a = true := by simp [sameB]
abbrev Byt (l : List Int) : Prop := ∀ x, x ∈ l → 0 ≤ x ∧ x < 256
theorem back8 (x : Int) (h0 : 0 ≤ x) (h1 : x < 256) : ((UInt8.ofNat x.toNat).toNat : Int) = x := by
  have : x.toNat < 256 := by omega
  rw [UInt8.toNat_ofNat', Nat.mod_eq_of_lt (by simpa using this)]
  omega
theorem sameB_eq (a b : List Int) (ha : Byt a) (hb : Byt b) (h : sameB a b = true) : a = b := by
  have h1 : (strOfNums a).toList = (strOfNums b).toList := by simpa [sameB] using h
  rw [ByteArray.toList_eq, ByteArray.toList_eq, strOfNums_data, strOfNums_data] at h1
  have h2 := congrArg (List.map (fun u : UInt8 => (u.toNat : Int))) h1
  rw [List.map_map, List.map_map] at h2
  have e : ∀ l, Byt l → List.map ((fun u : UInt8 => (u.toNat : Int)) ∘ fun n : Int => UInt8.ofNat n.toNat) l = l := fun l hl => by
    have : List.map ((fun u : UInt8 => (u.toNat : Int)) ∘ fun n : Int => UInt8.ofNat n.toNat) l = List.map id l := List.map_congr_left (fun x hx => back8 x (hl x hx).1 (hl x hx).2)
    rw [this, List.map_id]
  rwa [e a ha, e b hb] at h2
/-- The calls of LinearStale. -/
def fX (a : Ds) : Fc := ⟨0, 1, ⟨#[107]⟩, a, 1, 2, 2, 0, ⟨none, 0, []⟩, none, 0, 0⟩
def fY (b : Ds) : Fc := ⟨0, 1, ⟨#[107]⟩, b, 3, 4, 4, 0, ⟨none, 0, []⟩, none, 0, 0⟩
def fZ (n : Int) (a : Ds) : Fc := ⟨0, 2, ⟨#[107]⟩, ⟨none, 0, []⟩, n, n + 1, n, 0, a, none, 0, 0⟩
def fV (n : Int) (a : Ds) : Fc := ⟨0, 2, ⟨#[107]⟩, ⟨none, 0, []⟩, 2, n + 1, 3, 0, a, none, 0, 0⟩
theorem stale1 (a b : Ds) (n : Int) (hn : 5 ≤ n) (ha : Byt a.bs) (hb : Byt b.bs) (hne : a.bs ≠ b.bs) : runF (fun _ => none) (sortF (filt [fX a, fY b, fZ n a])) = false := by
  have h1 : 0 < n := by omega
  have h2 : 4 < n := by omega
  rw [sort_eq _ [fX a, fY b, fZ n a] (by simp [filt, fX, fY, fZ, h1]) (by simp [fX, fY, fZ]; omega)]
  have h3 : sameB b.bs a.bs = false := by
    cases h : sameB b.bs a.bs with
    | false => rfl
    | true => exact absurd (sameB_eq _ _ hb ha h).symm hne
  have h4 : ¬ n + 1 = 0 := by omega
  simp [runF, fX, fY, fZ, doF, getF, updK, h3, h4]
theorem stale2 (a b : Ds) (n : Int) (hn : 5 ≤ n) : runF (fun _ => none) (sortF (filt [fX a, fY b, fZ n b])) = true := by
  have h1 : 0 < n := by omega
  have h2 : 4 < n := by omega
  rw [sort_eq _ [fX a, fY b, fZ n b] (by simp [filt, fX, fY, fZ, h1]) (by simp [fX, fY, fZ]; omega)]
  have h5 : ¬ (n + 1 < n) := by omega
  simp [runF, fX, fY, fZ, doF, getF, updK, sameB_refl, h5]
theorem stale3 (a b : Ds) (n : Int) (hn : 5 ≤ n) : runF (fun _ => none) (sortF (filt [fX a, fY b, fV n a])) = true := by
  have h1 : 0 < n := by omega
  have h2 : 4 < n := by omega
  rw [sort_eq _ [fX a, fV n a, fY b] (by simp [filt, fX, fY, fV]; exact List.Perm.swap _ _ _) (by simp [fX, fY, fV])]
  have h5 : ¬ (n + 1 < 3) := by omega
  simp [runF, fX, fY, fV, doF, getF, updK, sameB_refl, h5]
end Go.Proofs.Ythocnaagpmkoeaa.Ln
