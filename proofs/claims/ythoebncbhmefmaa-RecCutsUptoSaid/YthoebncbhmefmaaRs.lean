/- Records: which are the same. -/
import Derived.Test.YthoebncbhmefmaaProg
import Derived.Below
import Derived.Deep.Draws
import Derived.Deep.AppendLies
import Derived.Maps.AppendAt
import Derived.OwnWalk
import Derived.Laws.BytesArg
import Derived.Laws.MakeOwn
import Derived.Laws.OwnMore
import Derived.Deep.OwnRows
import Derived.Tactics
import Derived.Lib.ConvBytes
import Derived.Laws.Slices
import Derived.WalkKit
import Derived.KernelRfl
import Derived.RowKit3
import Derived.Deep.LoopGhost
import Derived.Deep.QuietTactic
import Derived.BigQuiet
import Derived.WideLaws
import Derived.Deep.DeepCutAuto
import Derived.Deep.CutBlock
import Derived.Deep.RegionHeld3
import Derived.Laws.Rows
import Derived.Lib.AppendStr
import Derived.ArgAppend
import Derived.Laws.IdiomCopy
import Derived.OrdersHeld
import Derived.Laws.BitsLemmas
import Derived.RowKit
import Derived.Test.YthoebncbhmefmaaWWords
import Derived.Test.YthoebncbhmefmaaWLast
import Derived.Test.YthoebncbhmefmaaWTab
import Derived.Test.YthoebncbhmefmaaWFour
import Derived.Test.YthoebncbhmefmaaWQPut
import Derived.Test.YthoebncbhmefmaaWApart
import Derived.Test.YthoebncbhmefmaaWArr
import Derived.Test.YthoebncbhmefmaaWZeros
import Derived.Test.YthoebncbhmefmaaWFoot
import Derived.Test.YthoebncbhmefmaaWKept
import Derived.Test.YthoebncbhmefmaaWShare
import Derived.Test.YthoebncbhmefmaaWN
import Derived.Test.YthoebncbhmefmaaWFootNe
import Derived.Test.YthoebncbhmefmaaWAt
import Derived.Test.YthoebncbhmefmaaWEqStruct
import Derived.Test.YthoebncbhmefmaaWRepsOne
import Derived.Test.YthoebncbhmefmaaWInv
import Derived.Test.YthoebncbhmefmaaWInvWords
import Derived.Test.YthoebncbhmefmaaWGuard
import Derived.Test.YthoebncbhmefmaaWNEv
import Derived.Test.YthoebncbhmefmaaWMore
import Derived.Test.YthoebncbhmefmaaRdd
namespace Go.Proofs.Ythoebncbhmefmaa.Rc
open Go.RowKit Go.Proofs.YthoebncbhmefmaaW.PrintWords Go.Proofs.YthoebncbhmefmaaW.PrintLast Go.Proofs.YthoebncbhmefmaaW.PrintMore
attribute [local go_sem] max2_int min2_int max_two min_two max_three min_three max_four min_four
set_option linter.unusedVariables false
set_option linter.unusedSimpArgs false
def eqS (a b : S41) : Bool := decide (a.f0 = b.f0) && (decide (a.f1 = b.f1) && decide (a.f2 = b.f2))
def eqSs : List S41 → List S41 → Bool
  | [], [] => true
  | a :: l, b :: m => eqS a b && eqSs l m
  | _, _ => false
def eqO (a b : S44) : Bool := decide (a.f0.toList = b.f0.toList) && (decide (a.f1 = b.f1) && (decide (a.f2 = b.f2) && eqSs a.f3 b.f3))
def eqOs : List S44 → List S44 → Bool
  | [], [] => true
  | a :: l, b :: m => eqO a b && eqOs l m
  | _, _ => false
def eqR (a b : Rc) : Bool := decide (a.kind = b.kind) && (decide (a.id = b.id) && (decide (a.size = b.size) && (decide (a.key.toList = b.key.toList) && (eqSs a.strs b.strs && (eqOs a.objs b.objs && decide (a.drv = b.drv))))))
theorem eqS_refl (a : S41) : eqS a a = true := by simp [eqS]
theorem eqSs_refl (l : List S41) : eqSs l l = true := by induction l with
  | nil => rfl
  | cons a l ih => simp [eqSs, eqS_refl, ih]
theorem eqO_refl (a : S44) : eqO a a = true := by simp [eqO, eqSs_refl]
theorem eqOs_refl (l : List S44) : eqOs l l = true := by induction l with
  | nil => rfl
  | cons a l ih => simp [eqOs, eqO_refl, ih]
theorem eqR_refl (a : Rc) : eqR a a = true := by simp [eqR, eqSs_refl, eqOs_refl]
theorem eqSs_len (l m : List S41) (h : l.length ≠ m.length) : eqSs l m = false := by
  induction l generalizing m with
  | nil => cases m with
    | nil => exact absurd rfl h
    | cons b m => rfl
  | cons a l ih => cases m with
    | nil => rfl
    | cons b m => simp only [eqSs]; rw [ih m (by simpa using h)]; simp
theorem eqOs_len (l m : List S44) (h : l.length ≠ m.length) : eqOs l m = false := by
  induction l generalizing m with
  | nil => cases m with
    | nil => exact absurd rfl h
    | cons b m => rfl
  | cons a l ih => cases m with
    | nil => rfl
    | cons b m => simp only [eqOs]; rw [ih m (by simpa using h)]; simp
theorem eqSs_drop (l m : List S41) (i : Nat) (h1 : i < l.length) (h2 : i < m.length) : eqSs (l.drop i) (m.drop i) = (eqS (l.getD i z41) (m.getD i z41) && eqSs (l.drop (i + 1)) (m.drop (i + 1))) := by
  rw [List.drop_eq_getElem_cons h1, List.drop_eq_getElem_cons h2, List.getD_eq_getElem?_getD, List.getD_eq_getElem?_getD, List.getElem?_eq_getElem h1, List.getElem?_eq_getElem h2]; rfl
theorem eqOs_drop (l m : List S44) (i : Nat) (h1 : i < l.length) (h2 : i < m.length) : eqOs (l.drop i) (m.drop i) = (eqO (l.getD i z44) (m.getD i z44) && eqOs (l.drop (i + 1)) (m.drop (i + 1))) := by
  rw [List.drop_eq_getElem_cons h1, List.drop_eq_getElem_cons h2, List.getD_eq_getElem?_getD, List.getD_eq_getElem?_getD, List.getElem?_eq_getElem h1, List.getElem?_eq_getElem h2]; rfl
theorem eqI_drop (l m : List Int) (i : Nat) (h1 : i < l.length) (h2 : i < m.length) : decide (l.drop i = m.drop i) = (decide (rd l (i : Int) = rd m (i : Int)) && decide (l.drop (i + 1) = m.drop (i + 1))) := by
  have e1 : rd l (i : Int) = l[i] := by unfold rd; rw [Int.toNat_natCast, List.getD_eq_getElem?_getD, List.getElem?_eq_getElem h1]; rfl
  have e2 : rd m (i : Int) = m[i] := by unfold rd; rw [Int.toNat_natCast, List.getD_eq_getElem?_getD, List.getElem?_eq_getElem h2]; rfl
  rw [e1, e2, Bool.eq_iff_iff]
  simp only [decide_eq_true_eq, Bool.and_eq_true]
  rw [List.drop_eq_getElem_cons h1, List.drop_eq_getElem_cons h2, List.cons.injEq]
theorem bsame_l0 (l m : List Int) (hlm : l.length = m.length) (hl : l.length < 140737488350000) : ∀ (d i k : Nat), d + i = l.length → d < k → flittingref01_Same.l0 k l m (i : Int) = some (decide (l.drop i = m.drop i))
  | 0, i, k, hd, hk => by
    obtain ⟨k, rfl⟩ : ∃ j, k = j + 1 := ⟨k - 1, by omega⟩
    simp only [flittingref01_Same.l0]
    rw [if_neg (by omega), List.drop_of_length_le (by omega), List.drop_of_length_le (by omega)]; rfl
  | d + 1, i, k, hd, hk => by
    obtain ⟨k, rfl⟩ : ∃ j, k = j + 1 := ⟨k - 1, by omega⟩
    simp only [flittingref01_Same.l0]
    rw [if_pos (by omega), if_pos (by omega), if_pos (by omega), eqI_drop l m i (by omega) (by omega)]
    by_cases h : rd l (i : Int) = rd m (i : Int)
    · rw [if_pos h, show wrap64 ((i : Int) + 1) = ((i + 1 : Nat) : Int) from by unfold wrap64; omega, bsame_l0 l m hlm hl d (i + 1) k (by omega) (by omega)]
      simp [h]
    · rw [if_neg h]
      simp [h]
theorem bsame_f (l m : List Int) (hl : l.length < 140737488350000) (k : Nat) (hk : l.length < k) : flittingref01_Same.f k l m = some (decide (l = m)) := by
  unfold flittingref01_Same.f
  by_cases h : l.length = m.length
  · rw [if_pos (by omega)]
    have := bsame_l0 l m h hl l.length 0 k (by omega) hk
    simpa using this
  · rw [if_neg (by omega)]
    have : ¬ l = m := fun e => h (by rw [e])
    simp [this]
theorem isame_l0 (l m : List Int) (hlm : l.length = m.length) (hl : l.length < 140737488350000) : ∀ (d i k : Nat), d + i = l.length → d < k → flittingref09_Ints.l0 k l m (i : Int) = some (decide (l.drop i = m.drop i))
  | 0, i, k, hd, hk => by
    obtain ⟨k, rfl⟩ : ∃ j, k = j + 1 := ⟨k - 1, by omega⟩
    simp only [flittingref09_Ints.l0]
    rw [if_neg (by omega), List.drop_of_length_le (by omega), List.drop_of_length_le (by omega)]; rfl
  | d + 1, i, k, hd, hk => by
    obtain ⟨k, rfl⟩ : ∃ j, k = j + 1 := ⟨k - 1, by omega⟩
    simp only [flittingref09_Ints.l0]
    rw [if_pos (by omega), if_pos (by omega), if_pos (by omega), eqI_drop l m i (by omega) (by omega)]
    by_cases h : rd l (i : Int) = rd m (i : Int)
    · rw [if_pos h, show wrap64 ((i : Int) + 1) = ((i + 1 : Nat) : Int) from by unfold wrap64; omega, isame_l0 l m hlm hl d (i + 1) k (by omega) (by omega)]
      simp [h]
    · rw [if_neg h]
      simp [h]
theorem isame_f (l m : List Int) (hl : l.length < 140737488350000) (k : Nat) (hk : l.length < k) : flittingref09_Ints.f k l m = some (decide (l = m)) := by
  unfold flittingref09_Ints.f
  by_cases h : l.length = m.length
  · rw [if_pos (by omega)]
    have := isame_l0 l m h hl l.length 0 k (by omega) hk
    simpa using this
  · rw [if_neg (by omega)]
    have : ¬ l = m := fun e => h (by rw [e])
    simp [this]
theorem esame_l0 (l m : List Int) (hlm : l.length = m.length) (hl : l.length < 140737488350000) : ∀ (d i k : Nat), d + i = l.length → d < k → slices_Equal_int_int.l0 k l m (l.length : Int) (i : Int) = some (decide (l.drop i = m.drop i))
  | 0, i, k, hd, hk => by
    obtain ⟨k, rfl⟩ : ∃ j, k = j + 1 := ⟨k - 1, by omega⟩
    simp only [slices_Equal_int_int.l0]
    rw [if_neg (by omega), List.drop_of_length_le (by omega), List.drop_of_length_le (by omega)]; rfl
  | d + 1, i, k, hd, hk => by
    obtain ⟨k, rfl⟩ : ∃ j, k = j + 1 := ⟨k - 1, by omega⟩
    simp only [slices_Equal_int_int.l0]
    rw [if_pos (by omega), if_pos (by omega), if_pos (by omega), if_pos (by omega), eqI_drop l m i (by omega) (by omega)]
    by_cases h : rd l (i : Int) = rd m (i : Int)
    · rw [if_pos h, show wrap64 ((i : Int) + 1) = ((i + 1 : Nat) : Int) from by unfold wrap64; omega, esame_l0 l m hlm hl d (i + 1) k (by omega) (by omega)]
      simp [h]
    · rw [if_neg h]
      simp [h]
theorem esame_f (l m : List Int) (hl : l.length < 140737488350000) (k : Nat) (hk : l.length < k) : slices_Equal_int_int.f k l m = some (decide (l = m)) := by
  unfold slices_Equal_int_int.f
  by_cases h : l.length = m.length
  · rw [if_pos (by omega)]
    have := esame_l0 l m h hl l.length 0 k (by omega) hk
    simpa using this
  · rw [if_neg (by omega)]
    have : ¬ l = m := fun e => h (by rw [e])
    simp [this]
theorem rstripe_f (a b : S41) (hl : a.f2.length < 140737488350000) (k : Nat) (hk : a.f2.length < k) : rec_Stripe.f k a.f0 a.f1 a.f2 b.f0 b.f1 b.f2 = some (eqS a b) := by
  unfold rec_Stripe.f eqS
  by_cases h0 : a.f0 = b.f0
  · rw [if_pos h0]
    by_cases h1 : a.f1 = b.f1
    · rw [if_pos h1, esame_f a.f2 b.f2 hl k hk]; simp [h0, h1]
    · rw [if_neg h1]; simp [h0, h1]
  · rw [if_neg h0]; simp [h0]
/-- Few of each. -/
def FewS (N : Nat) (l : List S41) : Prop := l.length ≤ N ∧ ∀ x, x ∈ l → x.f2.length ≤ N
def FewO (N : Nat) (l : List S44) : Prop := l.length ≤ N ∧ ∀ x, x ∈ l → FewS N x.f3
structure FewR (N : Nat) (r : Rc) : Prop where
  s : FewS N r.strs
  o : FewO N r.objs
  d : r.drv.length ≤ N
theorem getD_mem {α : Type} (l : List α) (i : Nat) (d : α) (h : i < l.length) : l.getD i d ∈ l := by
  rw [List.getD_eq_getElem?_getD, List.getElem?_eq_getElem h]; exact List.getElem_mem h
theorem stripes_l0 (N : Nat) (hN : N < 140737488350000) (l m : List S41) (hlm : l.length = m.length) (hl : FewS N l) : ∀ (d i k : Nat), d + i = l.length → d + N < k → flittingref09_Stripes.l0 k l m (i : Int) = some (eqSs (l.drop i) (m.drop i))
  | 0, i, k, hd, hk => by
    obtain ⟨k, rfl⟩ : ∃ j, k = j + 1 := ⟨k - 1, by omega⟩
    simp only [flittingref09_Stripes.l0]
    rw [if_neg (by omega), List.drop_of_length_le (by omega), List.drop_of_length_le (by omega)]; rfl
  | d + 1, i, k, hd, hk => by
    obtain ⟨k, rfl⟩ : ∃ j, k = j + 1 := ⟨k - 1, by omega⟩
    have := hl.1
    have h2 := hl.2 _ (getD_mem l i z41 (by omega))
    have e1 : rd_T41 l (i : Int) = l.getD i z41 := by unfold rd_T41; rw [Int.toNat_natCast]
    have e2 : rd_T41 m (i : Int) = m.getD i z41 := by unfold rd_T41; rw [Int.toNat_natCast]
    simp only [flittingref09_Stripes.l0]
    rw [e1, e2, if_pos (by omega), if_pos (by omega), if_pos (by omega), eqSs_drop l m i (by omega) (by omega)]
    unfold eqS
    by_cases h0 : (l.getD i z41).f0 = (m.getD i z41).f0
    · rw [if_pos h0]
      by_cases h1 : (l.getD i z41).f1 = (m.getD i z41).f1
      · rw [if_pos h1, isame_f _ _ (by omega) k (by omega), show wrap64 ((i : Int) + 1) = ((i + 1 : Nat) : Int) from by unfold wrap64; omega]
        show (if decide _ = true then _ else _) = _
        by_cases h3 : (l.getD i z41).f2 = (m.getD i z41).f2
        · rw [if_pos (by simpa using h3), stripes_l0 N hN l m hlm hl d (i + 1) k (by omega) (by omega)]; simp only [h0, h1, h3, decide_true, Bool.true_and]
        · rw [if_neg (by simpa using h3)]; simp only [h3, decide_false, Bool.and_false, Bool.false_and]
      · rw [if_neg h1]; simp only [h1, decide_false, Bool.and_false, Bool.false_and]
    · rw [if_neg h0]; simp only [h0, decide_false, Bool.false_and]
theorem stripes_f (N : Nat) (hN : N < 140737488350000) (l m : List S41) (hl : FewS N l) (k : Nat) (hk : 2 * N < k) : flittingref09_Stripes.f k l m = some (eqSs l m) := by
  unfold flittingref09_Stripes.f
  by_cases h : l.length = m.length
  · rw [if_pos (by omega)]
    have := stripes_l0 N hN l m h hl l.length 0 k (by omega) (by have := hl.1; omega)
    simpa using this
  · rw [if_neg (by omega), eqSs_len l m h]
theorem objects_l0 (N : Nat) (hN : N < 140737488350000) (l m : List S44) (hlm : l.length = m.length) (hl : FewO N l) : ∀ (d i k : Nat), d + i = l.length → d + 2 * N < k → flittingref09_Objects.l0 k l m (i : Int) = some (eqOs (l.drop i) (m.drop i))
  | 0, i, k, hd, hk => by
    obtain ⟨k, rfl⟩ : ∃ j, k = j + 1 := ⟨k - 1, by omega⟩
    simp only [flittingref09_Objects.l0]
    rw [if_neg (by omega), List.drop_of_length_le (by omega), List.drop_of_length_le (by omega)]; rfl
  | d + 1, i, k, hd, hk => by
    obtain ⟨k, rfl⟩ : ∃ j, k = j + 1 := ⟨k - 1, by omega⟩
    have := hl.1
    have h2 := hl.2 _ (getD_mem l i z44 (by omega))
    have e1 : rd_T44 l (i : Int) = l.getD i z44 := by unfold rd_T44; rw [Int.toNat_natCast]
    have e2 : rd_T44 m (i : Int) = m.getD i z44 := by unfold rd_T44; rw [Int.toNat_natCast]
    simp only [flittingref09_Objects.l0]
    rw [e1, e2, if_pos (by omega), if_pos (by omega), if_pos (by omega), eqOs_drop l m i (by omega) (by omega)]
    unfold eqO
    by_cases h0 : (l.getD i z44).f0.toList = (m.getD i z44).f0.toList
    · rw [if_pos h0]
      by_cases h1 : (l.getD i z44).f1 = (m.getD i z44).f1
      · rw [if_pos h1]
        by_cases h3 : (l.getD i z44).f2 = (m.getD i z44).f2
        · rw [if_pos h3, stripes_f N hN _ _ h2 k (by omega), show wrap64 ((i : Int) + 1) = ((i + 1 : Nat) : Int) from by unfold wrap64; omega]
          show (if eqSs _ _ = true then _ else _) = _
          by_cases h4 : eqSs (l.getD i z44).f3 (m.getD i z44).f3 = true
          · rw [if_pos h4, objects_l0 N hN l m hlm hl d (i + 1) k (by omega) (by omega)]; simp only [h0, h1, h3, h4, decide_true, Bool.true_and]
          · rw [if_neg h4]; simp only [Bool.not_eq_true] at h4; simp only [h4, Bool.and_false, Bool.false_and]
        · rw [if_neg h3]; simp only [h3, decide_false, Bool.and_false, Bool.false_and]
      · rw [if_neg h1]; simp only [h1, decide_false, Bool.and_false, Bool.false_and]
    · rw [if_neg h0]; simp only [h0, decide_false, Bool.false_and]
theorem objects_f (N : Nat) (hN : N < 140737488350000) (l m : List S44) (hl : FewO N l) (k : Nat) (hk : 3 * N < k) : flittingref09_Objects.f k l m = some (eqOs l m) := by
  unfold flittingref09_Objects.f
  by_cases h : l.length = m.length
  · rw [if_pos (by omega)]
    have := objects_l0 N hN l m h hl l.length 0 k (by omega) (by have := hl.1; omega)
    simpa using this
  · rw [if_neg (by omega), eqOs_len l m h]
theorem same_f (N : Nat) (hN : N < 140737488350000) (a b : Rc) (h : FewR N a) (k : Nat) (hk : 3 * N < k) : flittingref09_Same.f k a.kind a.id a.size a.key a.strs a.objs a.drv b.kind b.id b.size b.key b.strs b.objs b.drv = some (eqR a b) := by
  unfold flittingref09_Same.f eqR
  by_cases h0 : a.kind = b.kind
  · rw [if_pos h0]
    by_cases h1 : a.id = b.id
    · rw [if_pos h1]
      by_cases h2 : a.size = b.size
      · rw [if_pos h2]
        by_cases h3 : a.key.toList = b.key.toList
        · rw [if_pos h3, stripes_f N hN _ _ h.s k (by omega), objects_f N hN _ _ h.o k (by omega), isame_f _ _ (by have := h.d; omega) k (by have := h.d; omega)]
          simp only [h0, h1, h2, h3, decide_true, Bool.true_and, Option.bind_some]
          cases eqSs a.strs b.strs
          · rfl
          · cases eqOs a.objs b.objs
            · rfl
            · rfl
        · rw [if_neg h3]; simp only [h3, decide_false, Bool.and_false, Bool.false_and]
      · rw [if_neg h2]; simp only [h2, decide_false, Bool.and_false, Bool.false_and]
    · rw [if_neg h1]; simp only [h1, decide_false, Bool.and_false, Bool.false_and]
  · rw [if_neg h0]; simp only [h0, decide_false, Bool.false_and]
end Go.Proofs.Ythoebncbhmefmaa.Rc
