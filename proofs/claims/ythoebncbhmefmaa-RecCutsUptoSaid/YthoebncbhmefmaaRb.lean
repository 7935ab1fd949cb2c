/- Records: what is written, by plain functions; what a number in so many bytes is. -/
import Derived.Test.YthoebncbhmefmaaProg
import Derived.Below
import Derived.Deep.Draws
import Derived.Deep.AppendLies
import Derived.Maps.AppendAt
import Derived.OwnWalk
import Derived.Laws.BytesArg
import Derived.Laws.MakeOwn
import Derived.Laws.OwnMore
import Derived.Deep.OwnRows
import Derived.Tactics
import Derived.Lib.ConvBytes
import Derived.Laws.Slices
import Derived.WalkKit
import Derived.KernelRfl
import Derived.RowKit3
import Derived.Deep.LoopGhost
import Derived.Deep.QuietTactic
import Derived.BigQuiet
import Derived.WideLaws
import Derived.Deep.DeepCutAuto
import Derived.Deep.CutBlock
import Derived.Deep.RegionHeld3
import Derived.Laws.Rows
import Derived.Lib.AppendStr
import Derived.ArgAppend
import Derived.Laws.IdiomCopy
import Derived.OrdersHeld
import Derived.Laws.BitsLemmas
import Derived.RowKit
import Derived.Test.YthoebncbhmefmaaWWords
import Derived.Test.YthoebncbhmefmaaWLast
import Derived.Test.YthoebncbhmefmaaWTab
import Derived.Test.YthoebncbhmefmaaWFour
import Derived.Test.YthoebncbhmefmaaWQPut
import Derived.Test.YthoebncbhmefmaaWApart
import Derived.Test.YthoebncbhmefmaaWArr
import Derived.Test.YthoebncbhmefmaaWZeros
import Derived.Test.YthoebncbhmefmaaWFoot
import Derived.Test.YthoebncbhmefmaaWKept
import Derived.Test.YthoebncbhmefmaaWShare
import Derived.Test.YthoebncbhmefmaaWN
import Derived.Test.YthoebncbhmefmaaWFootNe
import Derived.Test.YthoebncbhmefmaaWAt
import Derived.Test.YthoebncbhmefmaaWEqStruct
import Derived.Test.YthoebncbhmefmaaWRepsOne
import Derived.Test.YthoebncbhmefmaaWInv
import Derived.Test.YthoebncbhmefmaaWInvWords
import Derived.Test.YthoebncbhmefmaaWGuard
import Derived.Test.YthoebncbhmefmaaWNEv
import Derived.Test.YthoebncbhmefmaaWMore
import Derived.Test.YthoebncbhmefmaaRa2
import Derived.Test.YthoebncbhmefmaaRa6
namespace Go.Proofs.Ythoebncbhmefmaa.Rc
open Go.RowKit Go.Proofs.YthoebncbhmefmaaW.PrintWords Go.Proofs.YthoebncbhmefmaaW.PrintLast Go.Proofs.YthoebncbhmefmaaW.PrintMore
attribute [local go_sem] max2_int min2_int max_two min_two max_three min_three max_four min_four
set_option linter.unusedVariables false
set_option linter.unusedSimpArgs false
/-- A number's lowest n bytes, the highest one first. -/
def numB (v : Int) : Nat → List Int
  | 0 => []
  | n + 1 => numB (v / 256) n ++ [v % 256]
abbrev St := List Int × Bool
abbrev u64 (v : Int) : Int := v % 18446744073709551616
def wN (v : Int) (n : Nat) (most : Int) (s : St) : St := (s.1 ++ numB (u64 v) n, s.2 || (decide (v < 0) || decide (most < v)))
def wInts (l : List Int) (s : St) : St := l.foldl (fun s v => wN v 4 1073741824 s) (wN l.length 1 255 s)
def wKey (k : ByteArray) (s : St) : St := ((wN k.size 1 16 s).1 ++ bytesOf k, (wN k.size 1 16 s).2)
def wStripe (x : S41) (s : St) : St := wInts x.f2 (wN x.f1 4 1073741824 (wN x.f0 4 1073741824 s))
def wStripes (l : List S41) (s : St) : St := l.foldl (fun s x => wStripe x s) (wN l.length 1 255 s)
def wObject (o : S44) (s : St) : St := wStripes o.f3 (wN o.f2 4 1073741824 (wN o.f1 4 1073741824 (wKey o.f0 s)))
/-- A record. -/
structure Rc where
  kind : Int
  id : Int
  size : Int
  key : ByteArray
  strs : List S41
  objs : List S44
  drv : List Int
def wHead (r : Rc) : St := (fun s : St => (s.1, s.2 || decide (r.kind < 1))) (wN r.kind 1 5 ([], false))
def wObjs (l : List S44) (s : St) : St := l.foldl (fun s o => wObject o s) (wN l.length 2 65535 s)
def wRec (r : Rc) : St := wInts r.drv (wObjs r.objs (wStripes r.strs (wKey r.key (wN r.size 4 1073741824 (wN r.id 4 1073741824 (wHead r))))))
theorem numB_len (v : Int) (n : Nat) : (numB v n).length = n := by
  induction n generalizing v with
  | zero => rfl
  | succ n ih => simp [numB, ih]
theorem bits_step (x : Int) (n : Nat) (j : Nat) (hj : j < n) : shr .u64 x (8 * (j : Int)) = x / 256 ^ j ∨ 8 < n := by
  by_cases h : 8 < n
  · exact .inr h
  · left
    show x / 2 ^ min ((8 * (j : Int)).toNat) 64 = _
    have e : (8 * (j : Int)).toNat = 8 * j := by omega
    rw [e, Nat.min_eq_left (by omega), Int.pow_mul]
    rfl
theorem put_step (k : Nat) (l : List Int) (x : Int) (j : Nat) (hj : j < 8) (hl : l.length < 140737488355328) : hash_Put.l0 (k + 1) l x (j : Int) = hash_Put.l0 k (l ++ [x / 256 ^ j % 256]) x ((j : Int) - 1) := by
  have e1 : wrap64 (8 * (j : Int)) = 8 * (j : Int) := by unfold wrap64; omega
  have e2 : wrap64 ((j : Int) - 1) = (j : Int) - 1 := by unfold wrap64; omega
  simp only [hash_Put.l0]
  rw [if_pos (by omega), e1, e2, if_pos (by omega), if_pos hl]
  rcases bits_step x 8 j hj with h | h
  · rw [h]
  · omega
theorem put_end (k : Nat) (l : List Int) (x : Int) : hash_Put.l0 (k + 1) l x (-1) = some l := by
  simp only [hash_Put.l0]
  rw [if_neg (by decide)]
theorem put_l0 (x : Int) (n : Nat) (hn : n ≤ 8) : ∀ (k : Nat) (l : List Int), n < k → l.length + n < 140737488355328 → hash_Put.l0 k l x ((n : Int) - 1) = some (l ++ (List.range n).reverse.map (fun j => x / 256 ^ j % 256)) := by
  induction n with
  | zero =>
    intro k l hk hl
    obtain ⟨k, rfl⟩ : ∃ m, k = m + 1 := ⟨k - 1, by omega⟩
    show hash_Put.l0 (k + 1) l x (-1) = _
    rw [put_end]; simp
  | succ n ih =>
    intro k l hk hl
    obtain ⟨k, rfl⟩ : ∃ m, k = m + 1 := ⟨k - 1, by omega⟩
    rw [show ((n + 1 : Nat) : Int) - 1 = (n : Int) by omega, put_step k l x n (by omega) (by omega), ih (by omega) k _ (by omega) (by simp; omega)]
    rw [List.range_succ, List.reverse_append]
    simp
theorem numB_map (x : Int) (n : Nat) : numB x n = (List.range n).reverse.map (fun j => x / 256 ^ j % 256) := by
  induction n generalizing x with
  | zero => rfl
  | succ n ih =>
    rw [numB, ih, List.range_succ_eq_map, List.reverse_cons, List.map_append, ← List.map_reverse, List.map_map]
    congr 1
    · apply List.map_congr_left
      intro j _
      show x / 256 / 256 ^ j % 256 = x / 256 ^ (j + 1) % 256
      rw [Int.pow_succ, Int.mul_comm, Int.ediv_ediv_of_nonneg (by decide)]
    · simp
theorem put_f (k : Nat) (l : List Int) (x : Int) (n : Nat) (hn : n ≤ 8) (hk : n < k) (hl : l.length + n < 140737488355328) : hash_Put.f k l x (n : Int) = some (l ++ numB x n) := by
  unfold hash_Put.f
  rw [show wrap64 ((n : Int) - 1) = (n : Int) - 1 by unfold wrap64; omega, put_l0 x n hn k l hk hl, numB_map]
/-- A state only grows; a state that is bad stays so. -/
structure Grows (s t : St) : Prop where
  len : s.1.length ≤ t.1.length
  bad : s.2 = true → t.2 = true
theorem Grows.refl (s : St) : Grows s s := ⟨Nat.le_refl _, fun h => h⟩
theorem Grows.trans {s t u : St} (h : Grows s t) (k : Grows t u) : Grows s u := ⟨Nat.le_trans h.len k.len, fun h1 => k.bad (h.bad h1)⟩
theorem grows_N (v : Int) (n : Nat) (m : Int) (s : St) : Grows s (wN v n m s) := ⟨by simp [wN], fun h => by simp [wN, h]⟩
theorem grows_fold {α : Type} (f : St → α → St) (hf : ∀ s x, Grows s (f s x)) (l : List α) : ∀ s, Grows s (l.foldl f s) := by
  induction l with
  | nil => exact fun s => Grows.refl s
  | cons x l ih => exact fun s => (hf s x).trans (ih _)
theorem grows_ints (l : List Int) (s : St) : Grows s (wInts l s) := (grows_N _ _ _ _).trans (grows_fold _ (fun _ _ => grows_N _ _ _ _) _ _)
theorem grows_key (k : ByteArray) (s : St) : Grows s (wKey k s) := ⟨by simp only [wKey, List.length_append]; have := (grows_N k.size 1 16 s).len; omega, (grows_N k.size 1 16 s).bad⟩
theorem grows_stripe (x : S41) (s : St) : Grows s (wStripe x s) := (grows_N _ _ _ _).trans ((grows_N _ _ _ _).trans (grows_ints _ _))
theorem grows_stripes (l : List S41) (s : St) : Grows s (wStripes l s) := (grows_N _ _ _ _).trans (grows_fold _ (fun _ _ => grows_stripe _ _) _ _)
theorem grows_object (o : S44) (s : St) : Grows s (wObject o s) := (grows_key _ _).trans ((grows_N _ _ _ _).trans ((grows_N _ _ _ _).trans (grows_stripes _ _)))
theorem grows_objs (l : List S44) (s : St) : Grows s (wObjs l s) := (grows_N _ _ _ _).trans (grows_fold _ (fun _ _ => grows_object _ _) _ _)
end Go.Proofs.Ythoebncbhmefmaa.Rc
