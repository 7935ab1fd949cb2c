/- Calls, one after the other: rows that come in, and rows that are written. -/
import Derived.Test.YthocnaagpmkoeaaProg
import Derived.Below
import Derived.Deep.Draws
import Derived.Deep.AppendLies
import Derived.Maps.AppendAt
import Derived.OwnWalk
import Derived.Laws.BytesArg
import Derived.Laws.MakeOwn
import Derived.Laws.OwnMore
import Derived.Deep.OwnRows
import Derived.Tactics
import Derived.Lib.ConvBytes
import Derived.Laws.Slices
import Derived.WalkKit
import Derived.KernelRfl
import Derived.RowKit3
import Derived.Deep.LoopGhost
import Derived.Deep.QuietTactic
import Derived.BigQuiet
import Derived.WideLaws
import Derived.Deep.DeepCutAuto
import Derived.Deep.CutBlock
import Derived.Deep.RegionHeld3
import Derived.Laws.Rows
import Derived.Lib.AppendStr
import Derived.ArgAppend
import Derived.Laws.IdiomCopy
import Derived.OrdersHeld
import Derived.Laws.BitsLemmas
import Derived.RowKit
import Derived.Test.YthocnaagpmkoeaaWWords
import Derived.Test.YthocnaagpmkoeaaWLast
import Derived.Test.YthocnaagpmkoeaaWTab
import Derived.Test.YthocnaagpmkoeaaWFour
import Derived.Test.YthocnaagpmkoeaaWQPut
import Derived.Test.YthocnaagpmkoeaaWApart
import Derived.Test.YthocnaagpmkoeaaWArr
import Derived.Test.YthocnaagpmkoeaaWZeros
import Derived.Test.YthocnaagpmkoeaaWFoot
import Derived.Test.YthocnaagpmkoeaaWKept
import Derived.Test.YthocnaagpmkoeaaWShare
import Derived.Test.YthocnaagpmkoeaaWN
import Derived.Test.YthocnaagpmkoeaaWFootNe
import Derived.Test.YthocnaagpmkoeaaWAt
import Derived.Test.YthocnaagpmkoeaaWEqStruct
import Derived.Test.YthocnaagpmkoeaaWRepsOne
import Derived.Test.YthocnaagpmkoeaaWInv
import Derived.Test.YthocnaagpmkoeaaWInvWords
import Derived.Test.YthocnaagpmkoeaaWGuard
import Derived.Test.YthocnaagpmkoeaaWNEv
import Derived.Test.YthocnaagpmkoeaaWMore
import Derived.Test.YthocnaagpmkoeaaLn8
import Derived.Test.YthocnaagpmkoeaaOp
namespace Go.Proofs.Ythocnaagpmkoeaa.Ln
open Go.RowKit Go.Proofs.YthocnaagpmkoeaaW.PrintWords Go.Proofs.YthocnaagpmkoeaaW.PrintLast Go.Proofs.YthocnaagpmkoeaaW.PrintMore
attribute [local go_sem] max2_int min2_int max_two min_two max_three min_three max_four min_four
set_option linter.unusedVariables false
set_option linter.unusedSimpArgs false
open Go.Proofs.Ythocnaagpmkoeaa.Op
abbrev CT := Int × Int × ByteArray × List Int × Int × Int × Int × Int × List Int × List ByteArray
abbrev CKt : Kd CT :=
  Kd.pair (Kd.int .i64) (Kd.pair (Kd.int .i64) (Kd.pair Kd.string (Kd.pair (Kd.slice 5 U8) (Kd.pair (Kd.int .i64) (Kd.pair (Kd.int .i64) (Kd.pair (Kd.int .i64) (Kd.pair (Kd.int .i64) (Kd.pair (Kd.slice 5 U8) (Kd.slice 9 Kd.string)))))))))
theorem ck_flat {w : World} {x : CT} {cs : List Value} (h : CKt.K w x cs) : ∃ f : Fc, cs = encF f := by
  obtain ⟨_, _, rfl, rfl, ⟨_, _, rfl, rfl, ⟨_, _, rfl, rfl, ⟨_, _, rfl, ⟨A3, c3, rfl, l3, g3⟩, ⟨_, _, rfl, rfl, ⟨_, _, rfl, rfl, ⟨_, _, rfl, rfl, ⟨_, _, rfl, rfl, ⟨_, _, rfl, ⟨A8, c8, rfl, l8, g8⟩, ⟨A9, c9, rfl, l9, g9⟩⟩⟩⟩⟩⟩⟩⟩⟩⟩ := h
  exact ⟨⟨x.1, x.2.1, x.2.2.1, ⟨A3, c3, x.2.2.2.1⟩, x.2.2.2.2.1, x.2.2.2.2.2.1, x.2.2.2.2.2.2.1, x.2.2.2.2.2.2.2.1, ⟨A8, c8, x.2.2.2.2.2.2.2.2.1⟩, A9, x.2.2.2.2.2.2.2.2.2.length, c9⟩, rfl⟩
/-- The cells of a row that comes in. -/
theorem flats_of {w : World} {ad : Addr} {n : Nat} {l : List CT} (h : CKt.C w (some ad) n l) : ∃ fs : List Fc, fs.length = n ∧ ∀ j u, (fs.flatMap encF)[j]? = some u → w.cell? (ad.add j) = some u := by
  obtain ⟨hn, _, hc⟩ := h
  have hq : ∀ i, i < n → ∃ f : Fc, ∀ j u, (encF f)[j]? = some u → w.cell? (ad.add (i * 10 + j)) = some u := fun i hi => by
    obtain ⟨ad', e, hc'⟩ := hc (by omega)
    injection e with e
    subst e
    obtain ⟨c, _, hK, hcell⟩ := hc' i (l[i]'(by omega)) (by simp)
    obtain ⟨f, rfl⟩ := ck_flat hK
    exact ⟨f, hcell⟩
  obtain ⟨fs, hl, hfs⟩ := list_of hq
  refine ⟨fs, hl, fun j u hu => ?_⟩
  have hj : j < fs.length * 10 := by
    have := (List.getElem?_eq_some_iff.1 hu).1
    have e : ∀ l : List Fc, (l.flatMap encF).length = l.length * 10 := fun l => by
      induction l with
      | nil => rfl
      | cons x l ih => rw [List.flatMap_cons, List.length_append, ih, encF_len, List.length_cons]; omega
    rwa [e] at this
  have h2 := flatF fs j hj
  rw [hu] at h2
  have hjl : j / 10 < fs.length := by omega
  have h3 := hfs (j / 10) (fs[j / 10]) (by simp [hjl]) (j % 10) u (by
    have e : fs.toArray[j / 10]! = fs[j / 10] := by simp [hjl]
    rw [e] at h2
    have hlt : j % 10 < (encF fs[j / 10]).length := by rw [encF_len]; omega
    rw [h2]
    simp [hlt])
  rw [show j / 10 * 10 + j % 10 = j by omega] at h3
  exact h3
/-- A row of the call's own, that is written. -/
def Rw (B : Nat) (w : World) (A : Option Addr) (ys : List Fc) : Prop := ∀ q, q < ys.length → ∃ g, A = some ⟨g, 0, none⟩ ∧ B ≤ g ∧ ∀ j, j < 10 → w.cell? ⟨g, q * 10 + j, none⟩ = some ((encF (ys.getD q default))[j]!) ∧ w.frozen? ⟨g, q * 10 + j, none⟩ = false
theorem Rw.rd {B : Nat} {w : World} {A : Option Addr} {ys : List Fc} (h : Rw B w A ys) : Rd w A ys := fun q hq => by
  obtain ⟨g, hA, _, hc⟩ := h q hq
  exact ⟨g, hA, fun j hj => (hc j hj).1⟩
theorem rw_of_own {W : World} {B : Nat} {A : Option Addr} {n c : Nat} {xs : List Fc} (hn : xs.length = n) (h : W.ownsRow B 29 10 (.slice A n c) n (xs.flatMap encF)) : Rw B W A xs := fun q hq => by
  subst hn
  obtain ⟨g, c', e, hB, _, _, hH⟩ := holdsF (by omega) h
  injection e with e
  subst e
  refine ⟨g, rfl, hB, fun j hj => ⟨getF_ hH hq j hj, ?_⟩⟩
  have := (hH (q * 10 + j) (by simp [Go.Sort.size_flatK]; omega)).2
  rwa [Nat.zero_add] at this
/-- A call that did nothing yet. -/
def z0 (x : Fc) : Fc := { x with at_ := 0 }
theorem z0_enc (x : Fc) (j : Nat) (hj : j < 10) (h6 : j ≠ 6) : (encF (z0 x))[j]! = (encF x)[j]! := by
  match j, hj with
  | 0, _ => rfl
  | 1, _ => rfl
  | 2, _ => rfl
  | 3, _ => rfl
  | 4, _ => rfl
  | 5, _ => rfl
  | 6, _ => exact absurd rfl h6
  | 7, _ => rfl
  | 8, _ => rfl
  | 9, _ => rfl
def zf (fs : List Fc) (q : Nat) : List Fc := (fs.take q).map z0 ++ fs.drop q
theorem zf_len (fs : List Fc) (q : Nat) : (zf fs q).length = fs.length := by simp [zf]; omega
theorem zf_at (fs : List Fc) (q i : Nat) : (zf fs q).getD i default = if i < q then (if i < fs.length then z0 (fs.getD i default) else default) else fs.getD i default := by
  unfold zf
  by_cases h : i < q
  · rw [if_pos h]
    by_cases h2 : i < fs.length
    · rw [if_pos h2]
      have h3 : i < ((fs.take q).map z0).length := by simp; omega
      have h4 : i < (fs.take q).length := by simp; omega
      simp only [List.getD_eq_getElem?_getD]
      rw [List.getElem?_append_left h3, List.getElem?_map, List.getElem?_take, if_pos h, List.getElem?_eq_getElem h2]
      rfl
    · rw [if_neg h2]
      have h3 : ((fs.take q).map z0 ++ fs.drop q).length ≤ i := by simp; omega
      simp only [List.getD_eq_getElem?_getD, List.getElem?_eq_none h3, Option.getD_none]
  · rw [if_neg h]
    by_cases h2 : i < fs.length
    · have h3 : ((fs.take q).map z0).length ≤ i := by simp; omega
      simp only [List.getD_eq_getElem?_getD]
      rw [List.getElem?_append_right h3, List.getElem?_drop]
      congr 2
      simp
      omega
    · have h3 : ((fs.take q).map z0 ++ fs.drop q).length ≤ i := by simp; omega
      simp only [List.getD_eq_getElem?_getD, List.getElem?_eq_none h3, List.getElem?_eq_none (show fs.length ≤ i by omega)]
theorem rw_zero {B : Nat} {w : World} {g : Nat} {fs : List Fc} {q : Nat} (hq : q < fs.length) (h : Rw B w (some ⟨g, 0, none⟩) (zf fs q)) : Rw B (w.setCell ⟨g, q * 10 + 6, none⟩ (.int .i64 0)) (some ⟨g, 0, none⟩) (zf fs (q + 1)) := fun i hi => by
  rw [zf_len] at hi
  obtain ⟨g', e, hB, hc⟩ := h i (by rw [zf_len]; exact hi)
  injection e with e
  injection e with e
  subst e
  refine ⟨g, rfl, hB, fun j hj => ?_⟩
  obtain ⟨h1, h2⟩ := hc j hj
  have h6 := (hc 6 (by decide)).1
  refine ⟨?_, by rw [World.frozen?_setCell]; exact h2⟩
  rw [zf_at] at h1 ⊢
  by_cases hiq : i = q
  · subst hiq
    rw [if_neg (Nat.lt_irrefl i)] at h1
    rw [if_pos (Nat.lt_succ_self i), if_pos hi]
    by_cases hj6 : j = 6
    · subst hj6
      rw [World.cell?_setCell_same (h := h1)]
      rfl
    · rw [World.cell?_setCell_other (h := fun e : (⟨g, i * 10 + 6, none⟩ : Addr) = ⟨g, i * 10 + j, none⟩ => hj6 (by injection e with _ e; omega)), h1, z0_enc _ j hj hj6]
  · rw [World.cell?_setCell_other (h := fun e : (⟨g, q * 10 + 6, none⟩ : Addr) = ⟨g, i * 10 + j, none⟩ => by injection e with _ e; omega), h1]
    by_cases h7 : i < q
    · rw [if_pos h7, if_pos hi, if_pos (show i < q + 1 by omega)]
    · rw [if_neg h7, if_neg (show ¬ i < q + 1 by omega)]
theorem filt_zf (fs : List Fc) : filt (zf fs fs.length) = [] := by
  unfold filt zf
  rw [List.filter_eq_nil_iff]
  intro x hx
  simp at hx
  obtain ⟨y, _, rfl⟩ := hx
  simp [z0]
end Go.Proofs.Ythocnaagpmkoeaa.Ln
