/- Calls, one after the other: the sort. -/
import Derived.Test.YthocnaagpmkoeaaProg
import Derived.Below
import Derived.Deep.Draws
import Derived.Deep.AppendLies
import Derived.Maps.AppendAt
import Derived.OwnWalk
import Derived.Laws.BytesArg
import Derived.Laws.MakeOwn
import Derived.Laws.OwnMore
import Derived.Deep.OwnRows
import Derived.Tactics
import Derived.Lib.ConvBytes
import Derived.Laws.Slices
import Derived.WalkKit
import Derived.KernelRfl
import Derived.RowKit3
import Derived.Deep.LoopGhost
import Derived.Deep.QuietTactic
import Derived.BigQuiet
import Derived.WideLaws
import Derived.Deep.DeepCutAuto
import Derived.Deep.CutBlock
import Derived.Deep.RegionHeld3
import Derived.Laws.Rows
import Derived.Lib.AppendStr
import Derived.ArgAppend
import Derived.Laws.IdiomCopy
import Derived.OrdersHeld
import Derived.Laws.BitsLemmas
import Derived.RowKit
import Derived.Test.YthocnaagpmkoeaaWWords
import Derived.Test.YthocnaagpmkoeaaWLast
import Derived.Test.YthocnaagpmkoeaaWTab
import Derived.Test.YthocnaagpmkoeaaWFour
import Derived.Test.YthocnaagpmkoeaaWQPut
import Derived.Test.YthocnaagpmkoeaaWApart
import Derived.Test.YthocnaagpmkoeaaWArr
import Derived.Test.YthocnaagpmkoeaaWZeros
import Derived.Test.YthocnaagpmkoeaaWFoot
import Derived.Test.YthocnaagpmkoeaaWKept
import Derived.Test.YthocnaagpmkoeaaWShare
import Derived.Test.YthocnaagpmkoeaaWN
import Derived.Test.YthocnaagpmkoeaaWFootNe
import Derived.Test.YthocnaagpmkoeaaWAt
import Derived.Test.YthocnaagpmkoeaaWEqStruct
import Derived.Test.YthocnaagpmkoeaaWRepsOne
import Derived.Test.YthocnaagpmkoeaaWInv
import Derived.Test.YthocnaagpmkoeaaWInvWords
import Derived.Test.YthocnaagpmkoeaaWGuard
import Derived.Test.YthocnaagpmkoeaaWNEv
import Derived.Test.YthocnaagpmkoeaaWMore
import Derived.Test.YthocnaagpmkoeaaLn2
import Derived.Shelf.SlSortCmp.InsertionK
namespace Go.Proofs.Ythocnaagpmkoeaa.Ln
open Go.RowKit Go.Proofs.YthocnaagpmkoeaaW.PrintWords Go.Proofs.YthocnaagpmkoeaaW.PrintLast Go.Proofs.YthocnaagpmkoeaaW.PrintMore
attribute [local go_sem] max2_int min2_int max_two min_two max_three min_three max_four min_four
set_option linter.unusedVariables false
set_option linter.unusedSimpArgs false
theorem at_calls (x y : Fc) (W : World) : Calls Try.prog 10 #[.agg (encF x).toArray, .agg (encF y).toArray] W fun e w' => e = .returned (.int .i64 (atC x y)) ∧ ∃ q os', w' = Go.Sort.grow (W.drewN q) os' :=
  (at_grown x y W).mono fun e w' h => ⟨h.1, 0, #[.cells (encF x).toArray 29, .cells (encF y).toArray 29], by rw [h.2, Go.Sort.alloc_eq_grow, Go.Sort.alloc_eq_grow, Go.Sort.grow_grow]; simp [World.drewN]⟩
theorem ltA (x y : Fc) : Go.Proofs.ltOf atC x y = decide (x.at_ < y.at_) := by
  unfold Go.Proofs.ltOf atC cmpI
  by_cases h1 : x.at_ < y.at_
  · simp [h1]
  · by_cases h2 : y.at_ < x.at_ <;> simp [h1, h2]
def renS : Go.Shelf.Ren := ⟨fun | 20 => 20 | x => x, fun | 22 => 24 | 24 => 29 | 25 => 37 | x => x, fun x => x⟩
theorem sortL : Go.Proofs.SlLaysF0.n20 Try.prog renS := by
  constructor
  case f20 => exact ⟨"slices.insertionSortCmpFunc[flitting/hist.Call]", by decide, by kernel_rfl⟩
  all_goals first | kernel_rfl | (intro w; kernel_rfl)
theorem aggF : ∀ w, (isAgg (renS.t 24)).run Try.prog w = .ok true w := fun w => by kernel_rfl
theorem sizeF : ∀ w, (Go.sizeOf (renS.t 24)).run Try.prog w = .ok 10 w := fun w => by kernel_rfl
def sortA (xs : List Fc) : Array Fc := Go.Sort.insertionSort (Go.Proofs.ltOf atC) xs.toArray 0 xs.length
def sortF (xs : List Fc) : List Fc := (sortA xs).toList
theorem swoF : Go.Sort.SWO (Go.Proofs.ltOf atC) where
  irrefl x := by rw [ltA]; simp
  trans x y z h1 h2 := by rw [ltA] at *; simp at *; omega
  ntrans x y z h1 h2 := by rw [ltA] at *; simp at *; omega
theorem sortA_size (xs : List Fc) : (sortA xs).size = xs.length := by
  have h := (Go.Sort.insertionSort_holds swoF xs.toArray 0 xs.length (Nat.zero_le _) (by simp)).1.1
  simpa [sortA] using h
theorem sortF_length (xs : List Fc) : (sortF xs).length = xs.length := by simp [sortF, sortA_size]
theorem below_sorted {B g m : Nat} {w0 W : World} {ys : Array Fc} {os : Array Obj} (h : Below B w0 W) (hB : B ≤ g) (hg : g < W.heap.size) : Below B w0 (Go.Proofs.sortWorldK encF 10 W g 0 m ys os) := by
  have hsz : (Go.Sort.putRowK encF 10 (Go.Sort.ahead W m) g 0 ys).heap.size = W.heap.size := by rw [Go.Sort.size_putRowK]; rfl
  refine h.trans ⟨rfl, rfl, rfl, ?_, fun k hk => ?_⟩
  · show W.heap.size ≤ (Go.Sort.grow (Go.Sort.putRowK encF 10 (Go.Sort.ahead W m) g 0 ys) os).heap.size
    rw [Go.Sort.size_grow, hsz]
    exact Nat.le_add_right _ _
  · show ((Go.Sort.putRowK encF 10 (Go.Sort.ahead W m) g 0 ys).heap ++ os)[k]? = W.heap[k]?
    rw [Array.getElem?_append_left (by rw [hsz]; omega)]
    show (W.heap.modify g _)[k]? = W.heap[k]?
    rw [Array.getElem?_modify, if_neg (by omega)]
/-- The row of a sort. -/
def Srt (g : Nat) (W w' : World) (ys : Array Fc) : Prop := Go.Sort.HoldsK encF 10 w' g 0 ys ∧ g < w'.heap.size ∧ ∀ B w0, B ≤ g → Below B w0 W → Below B w0 w'
theorem ins_calls (g c : Nat) (ys : Array Fc) (a b : Nat) (W : World) (hlt : g < W.heap.size) (hsz : ys.size ≤ 20) (hH : Go.Sort.HoldsK encF 10 W g 0 ys) (hab : a ≤ b) (hb : b ≤ ys.size) :
    Calls Try.prog 20 #[.slice (some ⟨g, 0, none⟩) ys.size c, .int .i64 a, .int .i64 b, .func (.func 10) #[] #[]] W fun e w' => e = .returned (.tuple #[]) ∧ Srt g W w' (Go.Sort.insertionSort (Go.Proofs.ltOf atC) ys a b) := by
  have eg : ∀ args w, (callFunc 10 args).run Try.prog w = .ok (.enter 10 args) w := enters_of Try.func10 (by kernel_rfl) rfl
  have h := Go.Proofs.AnyQ.insertionSortCmpFunc sortL 10 aggF sizeF encF encF_len encF_one atC 10 #[] g 0 c a b ys W eg (fun _ _ _ _ x y => at_calls x y _) hH hlt hab hb (by omega)
  have hs := (Go.Sort.insertionSort_holds swoF ys a b hab hb).1.1
  refine Calls.mono h ?_
  rintro e w' ⟨rfl, n, os, rfl⟩
  refine ⟨rfl, ?_, ?_, fun B w0 hB hb => below_sorted hb hB hlt⟩
  · exact Go.Sort.holdsK_grow encF 10 _ os g 0 _ (by rw [Go.Sort.size_putRowK]; exact hlt) (Go.Sort.holdsK_putRowK encF 10 _ g 0 _ _ (Go.Sort.holdsK_ahead encF 10 _ n g 0 _ hH) hs)
  · show g < (Go.Sort.grow (Go.Sort.putRowK encF 10 (Go.Sort.ahead W n) g 0 _) os).heap.size
    rw [Go.Sort.size_grow, Go.Sort.size_putRowK]
    exact Nat.lt_of_lt_of_le hlt (Nat.le_add_right _ _)
theorem sort_idle (ys : Array Fc) : Go.Sort.insertionSort (Go.Proofs.ltOf atC) ys 20 20 = ys := by
  unfold Go.Sort.insertionSort
  rw [Go.Sort.insOuter]
  rw [if_neg (by omega)]
theorem Srt.trans {g : Nat} {W w1 w2 : World} {ys zs : Array Fc} (h : Srt g W w1 ys) (k : Srt g w1 w2 zs) : Srt g W w2 zs := ⟨k.1, k.2.1, fun B w0 hB hb => k.2.2 B w0 hB (h.2.2 B w0 hB hb)⟩
set_option maxHeartbeats 2000000 in
set_option maxRecDepth 100000 in
theorem stable_less (g c : Nat) (xs : List Fc) (W : World) (hlt : g < W.heap.size) (hsz : xs.length < 20) (hH : Go.Sort.HoldsK encF 10 W g 0 xs.toArray) :
    Calls Try.prog 13 #[.slice (some ⟨g, 0, none⟩) xs.length c, .int .i64 xs.length, .func (.func 10) #[] #[]] W fun e w' => e = .returned (.tuple #[]) ∧ Srt g W w' (sortA xs) := by
  have HI : Aside0 _ := ⟨ins_calls g c xs.toArray 0 xs.length W hlt (by simp; omega) hH (Nat.zero_le _) (by simp)⟩
  have HL := Aside0.mk hsz
  have d1 : decide ((20 : Int) ≤ (xs.length : Int)) = false := decide_eq_false (by omega)
  have d2 : decide ((20 : Int) < (xs.length : Int)) = false := decide_eq_false (by omega)
  clear hlt hsz hH
  simp only [List.size_toArray] at HI
  go_enter Try.func13, Try.ntmps13
  go_wp2
  go_loopw [7, 8] (fun a b wr => a = .int .i64 0 ∧ b = .int .i64 20 ∧ wr = W) (fun _ _ _ => 0)
  case atStart => exact ⟨rfl, rfl, rfl⟩
  case round =>
    obtain ⟨rfl, rfl, rfl⟩ := hrel
    go_wp2_with (go_at_call 20; refine HI.out.mono ?_; rintro e w1 ⟨rfl, hS⟩; have HS := Aside0.mk hS; clear hS)
    go_loopw [6] (fun a wr => a = .int .i64 20 ∧ wr = w1) (fun _ _ => 0)
    case atStart => exact ⟨rfl, rfl⟩
    case round =>
      obtain ⟨rfl, rfl⟩ := hrel
      go_wp2
      go_end0
      exact ⟨rfl, HS.out⟩
set_option maxHeartbeats 2000000 in
set_option maxRecDepth 100000 in
theorem stable_20 (g c : Nat) (xs : List Fc) (W : World) (hlt : g < W.heap.size) (hsz : xs.length = 20) (hH : Go.Sort.HoldsK encF 10 W g 0 xs.toArray) :
    Calls Try.prog 13 #[.slice (some ⟨g, 0, none⟩) 20 c, .int .i64 20, .func (.func 10) #[] #[]] W fun e w' => e = .returned (.tuple #[]) ∧ Srt g W w' (sortA xs) := by
  have hz := sortA_size xs
  rw [hsz] at hz
  have HI : Aside0 (Calls Try.prog 20 #[.slice (some ⟨g, 0, none⟩) 20 c, .int .i64 0, .int .i64 20, .func (.func 10) #[] #[]] W fun e w' => e = .returned (.tuple #[]) ∧ Srt g W w' (sortA xs)) := ⟨by
    have h := ins_calls g c xs.toArray 0 20 W hlt (by simp; omega) hH (Nat.zero_le _) (by simp; omega)
    simp only [List.size_toArray, hsz] at h
    unfold sortA
    rw [hsz]
    exact h⟩
  have HI2 : Aside0 (∀ w1, Srt g W w1 (sortA xs) → Calls Try.prog 20 #[.slice (some ⟨g, 0, none⟩) 20 c, .int .i64 20, .int .i64 20, .func (.func 10) #[] #[]] w1 fun e w' => e = .returned (.tuple #[]) ∧ Srt g W w' (sortA xs)) := ⟨fun w1 h1 => by
    have h := ins_calls g c (sortA xs) 20 20 w1 h1.2.1 (by omega) h1.1 (Nat.le_refl _) (by omega)
    rw [sort_idle, hz] at h
    exact h.mono fun e w' h => ⟨h.1, h1.trans h.2⟩⟩
  clear hlt hsz hH hz
  go_enter Try.func13, Try.ntmps13
  go_wp2
  go_loopw [7, 8] (fun a b wr => (a = .int .i64 0 ∧ b = .int .i64 20 ∧ wr = W) ∨ (a = .int .i64 20 ∧ b = .int .i64 40 ∧ Srt g W wr (sortA xs))) (fun _ b _ => 40 - (intOf b).toNat)
  case atStart => exact .inl ⟨rfl, rfl, rfl⟩
  case round =>
    rcases hrel with ⟨rfl, rfl, rfl⟩ | ⟨rfl, rfl, hS⟩
    · go_wp2_with (go_at_call 20; refine HI.out.mono ?_; rintro e w1 ⟨rfl, hS⟩; have HS := Aside0.mk hS; clear hS)
      go_roundw
      case rel => exact .inr ⟨rfl, rfl, HS.out⟩
      case measure => decide
    · have HS := Aside0.mk (HI2.out wr hS)
      clear hS
      go_wp2_with (go_at_call 20; refine HS.out.mono ?_; rintro e w1 ⟨rfl, hS⟩; have HS1 := Aside0.mk hS; clear hS)
      go_loopw [6] (fun a wr => a = .int .i64 20 ∧ wr = w1) (fun _ _ => 0)
      case atStart => exact ⟨rfl, rfl⟩
      case round =>
        obtain ⟨rfl, rfl⟩ := hrel
        go_wp2
        go_end0
        exact ⟨rfl, HS1.out⟩
set_option maxHeartbeats 2000000 in
set_option maxRecDepth 100000 in
theorem sort_calls (g c : Nat) (xs : List Fc) (W : World) (hlt : g < W.heap.size) (hsz : xs.length ≤ 20) (hH : Go.Sort.HoldsK encF 10 W g 0 xs.toArray) :
    Calls Try.prog 9 #[.slice (some ⟨g, 0, none⟩) xs.length c, .func (.func 10) #[] #[]] W fun e w' => e = .returned (.tuple #[]) ∧ Srt g W w' (sortA xs) := by
  have HI : Aside0 (Calls Try.prog 13 #[.slice (some ⟨g, 0, none⟩) xs.length c, .int .i64 xs.length, .func (.func 10) #[] #[]] W fun e w' => e = .returned (.tuple #[]) ∧ Srt g W w' (sortA xs)) := ⟨by
    rcases Nat.lt_or_ge xs.length 20 with h | h
    · exact stable_less g c xs W hlt h hH
    · have e : xs.length = 20 := by omega
      have h := stable_20 g c xs W hlt e hH
      rw [e]
      exact h⟩
  clear hlt hsz hH
  go_enter Try.func9, Try.ntmps9
  go_wp2_with (go_at_call 13; refine HI.out.mono ?_; rintro e w1 ⟨rfl, hS⟩)
  go_end0
  exact ⟨rfl, hS⟩
theorem ins_nil (W : World) :
    Calls Try.prog 20 #[.slice none 0 0, .int .i64 0, .int .i64 0, .func (.func 10) #[] #[]] W fun e w' => e = .returned (.tuple #[]) ∧ w' = W := by
  go_enter Try.func20, Try.ntmps20
  go_wp2
  go_loopw [8] (fun a wr => a = .int .i64 1 ∧ wr = W) (fun _ _ => 0)
  case atStart => exact ⟨rfl, rfl⟩
  case round =>
    obtain ⟨rfl, rfl⟩ := hrel
    go_wp2
    go_end0
    exact ⟨rfl, rfl⟩
theorem stable_nil (W : World) :
    Calls Try.prog 13 #[.slice none 0 0, .int .i64 0, .func (.func 10) #[] #[]] W fun e w' => e = .returned (.tuple #[]) ∧ w' = W := by
  go_enter Try.func13, Try.ntmps13
  go_wp2
  go_loopw [7, 8] (fun a b wr => a = .int .i64 0 ∧ b = .int .i64 20 ∧ W = wr) (fun _ _ _ => 0)
  case atStart => exact ⟨rfl, rfl, rfl⟩
  case round =>
    obtain ⟨rfl, rfl, hw⟩ := hrel
    subst hw
    go_wp2_with (go_at_call 20; refine (ins_nil _).mono ?_; rintro e w1 ⟨rfl, rfl⟩)
    go_loopw [6] (fun a wr1 => a = .int .i64 20 ∧ wr1 = w1) (fun _ _ => 0)
    case atStart => exact ⟨rfl, rfl⟩
    case round =>
      obtain ⟨rfl, rfl⟩ := hrel
      go_wp2
      go_end0
      exact ⟨rfl, rfl⟩
theorem sort_nil (W : World) :
    Calls Try.prog 9 #[.slice none 0 0, .func (.func 10) #[] #[]] W fun e w' => e = .returned (.tuple #[]) ∧ w' = W := by
  go_enter Try.func9, Try.ntmps9
  go_wp2_with (go_at_call 13; refine (stable_nil _).mono ?_; rintro e w1 ⟨rfl, rfl⟩)
  go_end0
  exact ⟨rfl, rfl⟩
end Go.Proofs.Ythocnaagpmkoeaa.Ln
