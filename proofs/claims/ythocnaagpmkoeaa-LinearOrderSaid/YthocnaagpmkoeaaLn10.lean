/- Calls, one after the other: calls that a map would answer. -/
import Derived.Test.YthocnaagpmkoeaaProg
import Derived.Below
import Derived.Deep.Draws
import Derived.Deep.AppendLies
import Derived.Maps.AppendAt
import Derived.OwnWalk
import Derived.Laws.BytesArg
import Derived.Laws.MakeOwn
import Derived.Laws.OwnMore
import Derived.Deep.OwnRows
import Derived.Tactics
import Derived.Lib.ConvBytes
import Derived.Laws.Slices
import Derived.WalkKit
import Derived.KernelRfl
import Derived.RowKit3
import Derived.Deep.LoopGhost
import Derived.Deep.QuietTactic
import Derived.BigQuiet
import Derived.WideLaws
import Derived.Deep.DeepCutAuto
import Derived.Deep.CutBlock
import Derived.Deep.RegionHeld3
import Derived.Laws.Rows
import Derived.Lib.AppendStr
import Derived.ArgAppend
import Derived.Laws.IdiomCopy
import Derived.OrdersHeld
import Derived.Laws.BitsLemmas
import Derived.RowKit
import Derived.Test.YthocnaagpmkoeaaWWords
import Derived.Test.YthocnaagpmkoeaaWLast
import Derived.Test.YthocnaagpmkoeaaWTab
import Derived.Test.YthocnaagpmkoeaaWFour
import Derived.Test.YthocnaagpmkoeaaWQPut
import Derived.Test.YthocnaagpmkoeaaWApart
import Derived.Test.YthocnaagpmkoeaaWArr
import Derived.Test.YthocnaagpmkoeaaWZeros
import Derived.Test.YthocnaagpmkoeaaWFoot
import Derived.Test.YthocnaagpmkoeaaWKept
import Derived.Test.YthocnaagpmkoeaaWShare
import Derived.Test.YthocnaagpmkoeaaWN
import Derived.Test.YthocnaagpmkoeaaWFootNe
import Derived.Test.YthocnaagpmkoeaaWAt
import Derived.Test.YthocnaagpmkoeaaWEqStruct
import Derived.Test.YthocnaagpmkoeaaWRepsOne
import Derived.Test.YthocnaagpmkoeaaWInv
import Derived.Test.YthocnaagpmkoeaaWInvWords
import Derived.Test.YthocnaagpmkoeaaWGuard
import Derived.Test.YthocnaagpmkoeaaWNEv
import Derived.Test.YthocnaagpmkoeaaWMore
import Derived.Test.YthocnaagpmkoeaaLn9
namespace Go.Proofs.Ythocnaagpmkoeaa.Ln
open Go.RowKit Go.Proofs.YthocnaagpmkoeaaW.PrintWords Go.Proofs.YthocnaagpmkoeaaW.PrintLast Go.Proofs.YthocnaagpmkoeaaW.PrintMore
attribute [local go_sem] max2_int min2_int max_two min_two max_three min_three max_four min_four
set_option linter.unusedVariables false
set_option linter.unusedSimpArgs false
open Go.Proofs.Ythocnaagpmkoeaa.Mp
def kB (x : Int) : List Int := [97 + x % 3]
def vB (i : Nat) : List Int := [48 + (i : Int)]
/-- The i-th call: when it was. -/
structure Sp (i : Nat) (f : Fc) : Prop where
  fr : f.fr = 3 * (i : Int) + 1
  at_ : f.at_ = 3 * (i : Int) + 2
  to_ : f.to_ = 3 * (i : Int) + 3
  op : f.op = 1 ∨ f.op = 2
  key : f.key.size ≤ 1000
def stepM (m : ByteArray → Option Ds) (x : Fc) : Option (ByteArray → Option Ds) := if x.at_ < x.fr ∨ (0 < x.to_ ∧ x.to_ < x.at_) then none else if (doF m x).1 = true then some (doF m x).2 else none
def runM (m : ByteArray → Option Ds) : List Fc → Option (ByteArray → Option Ds)
  | [] => some m
  | x :: xs => (stepM m x).bind (fun m' => runM m' xs)
theorem runF_M : ∀ (xs : List Fc) (m : ByteArray → Option Ds), runF m xs = (runM m xs).isSome
  | [], _ => rfl
  | x :: xs, m => by
    unfold runF runM stepM
    by_cases h : x.at_ < x.fr ∨ (0 < x.to_ ∧ x.to_ < x.at_)
    · rw [if_pos h, if_pos h]; rfl
    · rw [if_neg h, if_neg h]
      by_cases h2 : (doF m x).1 = true
      · rw [if_pos h2, if_pos h2]
        exact runF_M xs _
      · rw [if_neg h2, if_neg h2]; rfl
theorem runM_app : ∀ (xs : List Fc) (m : ByteArray → Option Ds) (x : Fc), runM m (xs ++ [x]) = (runM m xs).bind (fun m' => stepM m' x)
  | [], m, x => by
    simp only [List.nil_append, runM, Option.bind_some]
    cases stepM m x <;> rfl
  | y :: xs, m, x => by
    simp only [List.cons_append, runM]
    cases h : stepM m y with
    | none => rfl
    | some m' => exact runM_app xs m' x
theorem runF_odd : ∀ (xs : List Fc) (m : ByteArray → Option Ds), (∃ x ∈ xs, x.at_ < x.fr) → runF m xs = false
  | [], _, h => by obtain ⟨x, hx, _⟩ := h; cases hx
  | x :: xs, m, h => by
    unfold runF
    by_cases h1 : x.at_ < x.fr ∨ (0 < x.to_ ∧ x.to_ < x.at_)
    · rw [if_pos h1]
    · rw [if_neg h1]
      obtain ⟨y, hy, hlt⟩ := h
      rcases List.mem_cons.1 hy with rfl | hy
      · exact absurd (.inl hlt) h1
      · split
        · exact runF_odd xs _ ⟨y, hy, hlt⟩
        · rfl
/-- Calls, and what the map that answered them has. -/
structure Inv (fs : List Fc) (last : ByteArray → Option (List Int)) : Prop where
  sp : ∀ i f, fs[i]? = some f → Sp i f
  run : ∃ M, runM (fun _ => none) fs = some M ∧ ∀ k, (M k).map Ds.bs = last k
theorem Inv.nil : Inv [] (fun _ => none) := ⟨fun i f h => by simp at h, _, rfl, fun k => rfl⟩
def updL (last : ByteArray → Option (List Int)) (k : ByteArray) (b : List Int) : ByteArray → Option (List Int) := fun s => if s = k then some b else last s
theorem Inv.step {fs : List Fc} {last last' : ByteArray → Option (List Int)} (h : Inv fs last) (f : Fc) (hf : Sp fs.length f) (hd : ∀ M : ByteArray → Option Ds, (∀ k, (M k).map Ds.bs = last k) → (doF M f).1 = true ∧ ∀ k, ((doF M f).2 k).map Ds.bs = last' k) : Inv (fs ++ [f]) last' := by
  refine ⟨fun i g hg => ?_, ?_⟩
  · rcases Nat.lt_or_ge i fs.length with h1 | h1
    · rw [List.getElem?_append_left h1] at hg
      exact h.sp i g hg
    · rw [List.getElem?_append_right h1] at hg
      have h2 : i - fs.length = 0 := by
        have := (List.getElem?_eq_some_iff.1 hg).1
        simp at this
        omega
      rw [h2] at hg
      obtain rfl : f = g := by simpa using hg
      have : i = fs.length := by omega
      subst this
      exact hf
  · obtain ⟨M, hM, hl⟩ := h.run
    obtain ⟨h1, h2⟩ := hd M hl
    refine ⟨(doF M f).2, ?_, h2⟩
    rw [runM_app, hM]
    show stepM M f = _
    unfold stepM
    have := hf.fr
    have := hf.at_
    have := hf.to_
    rw [if_neg (by omega), if_pos h1]
theorem Inv.put {fs : List Fc} {last : ByteArray → Option (List Int)} (h : Inv fs last) (k : ByteArray) (hk : k.size ≤ 1000) (d : Ds) (q : Nat) (hq : fs.length = q) (o : Ds) (a : Option Addr) (n c : Nat) : Inv (fs ++ [⟨0, 1, k, d, 3 * q + 1, 3 * q + 3, 3 * q + 2, 0, o, a, n, c⟩]) (updL last k d.bs) := by
  subst hq
  refine h.step _ ⟨rfl, rfl, rfl, .inl rfl, hk⟩ (fun M hM => ⟨by simp [doF], fun s => ?_⟩)
  simp only [doF, if_true, updK, updL]
  by_cases hs : s = k
  · simp [hs]
  · simp [hs, hM]
theorem Inv.got {fs : List Fc} {last : ByteArray → Option (List Int)} (h : Inv fs last) (k : ByteArray) (hk : k.size ≤ 1000) (d : Ds) (q : Nat) (hq : fs.length = q) (o : Ds) (a : Option Addr) (n c : Nat) (hb : last k = some o.bs) : Inv (fs ++ [⟨0, 2, k, d, 3 * q + 1, 3 * q + 3, 3 * q + 2, 0, o, a, n, c⟩]) last := by
  subst hq
  refine h.step _ ⟨rfl, rfl, rfl, .inr rfl, hk⟩ (fun M hM => ?_)
  have hm := hM k
  rw [hb] at hm
  obtain ⟨x, hx, hxb⟩ := Option.map_eq_some_iff.1 hm
  simp [doF, getF, hx, hxb, sameB_refl, hM]
theorem Inv.miss {fs : List Fc} {last : ByteArray → Option (List Int)} (h : Inv fs last) (k : ByteArray) (hk : k.size ≤ 1000) (d : Ds) (q : Nat) (hq : fs.length = q) (o : Ds) (a : Option Addr) (n c : Nat) (hb : last k = none) : Inv (fs ++ [⟨0, 2, k, d, 3 * q + 1, 3 * q + 3, 3 * q + 2, 7, o, a, n, c⟩]) last := by
  subst hq
  refine h.step _ ⟨rfl, rfl, rfl, .inr rfl, hk⟩ (fun M hM => ?_)
  have hm := hM k
  rw [hb] at hm
  have hx := Option.map_eq_none_iff.1 hm
  simp [doF, getF, hx, hM]
theorem Inv.runs {fs : List Fc} {last : ByteArray → Option (List Int)} (h : Inv fs last) : runF (fun _ => none) fs = true := by
  obtain ⟨M, hM, _⟩ := h.run
  rw [runF_M, hM]; rfl
theorem Inv.sorted {fs : List Fc} {last : ByteArray → Option (List Int)} (h : Inv fs last) : fs.Pairwise (fun x y => x.at_ < y.at_) := by
  rw [List.pairwise_iff_getElem]
  intro i j hi hj hij
  have h1 := (h.sp i _ (List.getElem?_eq_getElem hi)).at_
  have h2 := (h.sp j _ (List.getElem?_eq_getElem hj)).at_
  omega
theorem Inv.filt_all {fs : List Fc} {last : ByteArray → Option (List Int)} (h : Inv fs last) (ys : List Fc) (hp : ∀ y ∈ ys, ∃ x ∈ fs, y.at_ = x.at_) : filt ys = ys := by
  unfold filt
  rw [List.filter_eq_self]
  intro y hy
  obtain ⟨x, hx, he⟩ := hp y hy
  obtain ⟨i, hi⟩ := List.getElem?_of_mem hx
  have := (h.sp i x hi).at_
  simp
  omega
theorem Inv.list {fs : List Fc} {last : ByteArray → Option (List Int)} (h : Inv fs last) : runF (fun _ => none) (sortF (filt fs)) = true := by
  rw [h.filt_all fs (fun y hy => ⟨y, hy, rfl⟩), sort_eq fs fs (List.Perm.refl _) h.sorted, h.runs]
theorem Inv.round {fs : List Fc} {last : ByteArray → Option (List Int)} (h : Inv fs last) (n : Nat) : runF (fun _ => none) (sortF (filt (fs.drop n ++ fs.take n))) = true := by
  have hp : (fs.drop n ++ fs.take n).Perm fs := List.perm_append_comm.trans (List.Perm.of_eq (List.take_append_drop n fs))
  rw [h.filt_all _ (fun y hy => ⟨y, hp.mem_iff.1 hy, rfl⟩), sort_eq _ fs hp h.sorted, h.runs]
/-- The j-th call begins behind itself. -/
def odd4 (fs : List Fc) (j : Nat) : List Fc := fs.set j { fs.getD j default with fr := (fs.getD j default).at_ + 1 }
theorem Inv.odd {fs : List Fc} {last : ByteArray → Option (List Int)} (h : Inv fs last) (j : Nat) (hj : j < fs.length) : runF (fun _ => none) (sortF (filt (odd4 fs j))) = false := by
  have hat : ∀ i, ((odd4 fs j).getD i default).at_ = (fs.getD i default).at_ := fun i => by
    unfold odd4
    by_cases hi : i = j
    · subst hi
      simp [List.getD_eq_getElem?_getD, hj]
    · simp [List.getD_eq_getElem?_getD, List.getElem?_set_ne (Ne.symm hi)]
  have hl : (odd4 fs j).length = fs.length := by simp [odd4]
  have hs : (odd4 fs j).Pairwise (fun x y => x.at_ < y.at_) := by
    rw [List.pairwise_iff_getElem]
    intro a b ha hb hab
    have h1 := List.pairwise_iff_getElem.1 h.sorted a b (by omega) (by omega) hab
    have e1 := hat a
    have e2 := hat b
    simp only [List.getD_eq_getElem?_getD, List.getElem?_eq_getElem ha, List.getElem?_eq_getElem hb, List.getElem?_eq_getElem (show a < fs.length by omega), List.getElem?_eq_getElem (show b < fs.length by omega), Option.getD_some] at e1 e2
    omega
  have hf : filt (odd4 fs j) = odd4 fs j := h.filt_all _ (fun y hy => by
    obtain ⟨i, hi⟩ := List.getElem?_of_mem hy
    have hil := (List.getElem?_eq_some_iff.1 hi).1
    have e1 := hat i
    simp only [List.getD_eq_getElem?_getD, hi, List.getElem?_eq_getElem (show i < fs.length by omega), Option.getD_some] at e1
    exact ⟨_, List.getElem_mem (show i < fs.length by omega), e1⟩)
  rw [hf, sort_eq _ _ (List.Perm.refl _) hs]
  refine runF_odd _ _ ⟨{ fs.getD j default with fr := (fs.getD j default).at_ + 1 }, ?_, ?_⟩
  · unfold odd4
    exact List.mem_of_getElem? (List.getElem?_set_self hj)
  · show (fs.getD j default).at_ < (fs.getD j default).at_ + 1
    omega
end Go.Proofs.Ythocnaagpmkoeaa.Ln
