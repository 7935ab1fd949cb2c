/- Records: Decode. -/
import Derived.Test.YthoebncbhmefmaaProg
import Derived.Below
import Derived.Deep.Draws
import Derived.Deep.AppendLies
import Derived.Maps.AppendAt
import Derived.OwnWalk
import Derived.Laws.BytesArg
import Derived.Laws.MakeOwn
import Derived.Laws.OwnMore
import Derived.Deep.OwnRows
import Derived.Tactics
import Derived.Lib.ConvBytes
import Derived.Laws.Slices
import Derived.WalkKit
import Derived.KernelRfl
import Derived.RowKit3
import Derived.Deep.LoopGhost
import Derived.Deep.QuietTactic
import Derived.BigQuiet
import Derived.WideLaws
import Derived.Deep.DeepCutAuto
import Derived.Deep.CutBlock
import Derived.Deep.RegionHeld3
import Derived.Laws.Rows
import Derived.Lib.AppendStr
import Derived.ArgAppend
import Derived.Laws.IdiomCopy
import Derived.OrdersHeld
import Derived.Laws.BitsLemmas
import Derived.RowKit
import Derived.Test.YthoebncbhmefmaaWWords
import Derived.Test.YthoebncbhmefmaaWLast
import Derived.Test.YthoebncbhmefmaaWTab
import Derived.Test.YthoebncbhmefmaaWFour
import Derived.Test.YthoebncbhmefmaaWQPut
import Derived.Test.YthoebncbhmefmaaWApart
import Derived.Test.YthoebncbhmefmaaWArr
import Derived.Test.YthoebncbhmefmaaWZeros
import Derived.Test.YthoebncbhmefmaaWFoot
import Derived.Test.YthoebncbhmefmaaWKept
import Derived.Test.YthoebncbhmefmaaWShare
import Derived.Test.YthoebncbhmefmaaWN
import Derived.Test.YthoebncbhmefmaaWFootNe
import Derived.Test.YthoebncbhmefmaaWAt
import Derived.Test.YthoebncbhmefmaaWEqStruct
import Derived.Test.YthoebncbhmefmaaWRepsOne
import Derived.Test.YthoebncbhmefmaaWInv
import Derived.Test.YthoebncbhmefmaaWInvWords
import Derived.Test.YthoebncbhmefmaaWGuard
import Derived.Test.YthoebncbhmefmaaWNEv
import Derived.Test.YthoebncbhmefmaaWMore
import Derived.Test.YthoebncbhmefmaaRr
namespace Go.Proofs.Ythoebncbhmefmaa.Rc
open Go.RowKit Go.Proofs.YthoebncbhmefmaaW.PrintWords Go.Proofs.YthoebncbhmefmaaW.PrintLast Go.Proofs.YthoebncbhmefmaaW.PrintMore
attribute [local go_sem] max2_int min2_int max_two min_two max_three min_three max_four min_four
set_option linter.unusedVariables false
set_option linter.unusedSimpArgs false
theorem wN_len (v : Int) (n : Nat) (m : Int) (s : St) : (wN v n m s).1.length = s.1.length + n := by simp [wN, numB_len]
theorem fold_bound {α : Type} (f : St → α → St) (c : Nat) (P : α → Prop) (hf : ∀ s x, P x → (f s x).1.length ≤ s.1.length + c) (l : List α) : ∀ s, (∀ x, x ∈ l → P x) → (l.foldl f s).1.length ≤ s.1.length + c * l.length := by
  induction l with
  | nil => intro s _; simp
  | cons x l ih =>
    intro s hl
    have h1 := hf s x (hl x (by simp))
    have h2 := ih (f s x) (fun y hy => hl y (by simp [hy]))
    simp only [List.foldl_cons, List.length_cons, Nat.mul_succ] at h2 ⊢
    omega
theorem ints_bound (l : List Int) (s : St) (h : l.length ≤ 255) : (wInts l s).1.length ≤ s.1.length + 1021 := by
  have h1 := fold_bound (fun s v => wN v 4 1073741824 s) 4 (fun _ => True) (fun s v _ => by rw [wN_len]; exact Nat.le_refl _) l (wN l.length 1 255 s) (fun _ _ => trivial)
  rw [wN_len] at h1
  unfold wInts; omega
theorem stripe_bound (s : St) (x : S41) (h : x.f2.length ≤ 255) : (wStripe x s).1.length ≤ s.1.length + 1029 := by
  have h1 := ints_bound x.f2 (wN x.f1 4 1073741824 (wN x.f0 4 1073741824 s)) h
  rw [wN_len, wN_len] at h1
  unfold wStripe; omega
theorem stripes_bound (l : List S41) (s : St) (h : l.length ≤ 255) (hx : ∀ x, x ∈ l → x.f2.length ≤ 255) : (wStripes l s).1.length ≤ s.1.length + 262396 := by
  have h1 := fold_bound (fun s x => wStripe x s) 1029 (fun x => x.f2.length ≤ 255) stripe_bound l (wN l.length 1 255 s) hx
  rw [wN_len] at h1
  unfold wStripes
  have : 1029 * l.length ≤ 1029 * 255 := Nat.mul_le_mul_left _ h
  omega
theorem key_bound (k : ByteArray) (s : St) : (wKey k s).1.length = s.1.length + 1 + k.size := by
  show ((wN k.size 1 16 s).1 ++ bytesOf k).length = _
  rw [List.length_append, bytesOf_length, wN_len]
/-- An object with few parts. -/
structure Sml (x : S44) : Prop where
  k : x.f0.size ≤ 255
  l : x.f3.length ≤ 255
  x : ∀ y, y ∈ x.f3 → y.f2.length ≤ 255
theorem object_bound (s : St) (x : S44) (h : Sml x) : (wObject x s).1.length ≤ s.1.length + 262660 := by
  have h1 := stripes_bound x.f3 (wN x.f2 4 1073741824 (wN x.f1 4 1073741824 (wKey x.f0 s))) h.l h.x
  rw [wN_len, wN_len, key_bound] at h1
  have := h.k
  unfold wObject; omega
theorem objs_bound (l : List S44) (s : St) (h : l.length ≤ 65535) (hx : ∀ x, x ∈ l → Sml x) : (wObjs l s).1.length ≤ s.1.length + 17213423102 := by
  have h1 := fold_bound (fun s x => wObject x s) 262660 Sml object_bound l (wN l.length 2 65535 s) hx
  rw [wN_len] at h1
  unfold wObjs
  have : 262660 * l.length ≤ 262660 * 65535 := Nat.mul_le_mul_left _ h
  omega
structure SmlR (r : Rc) : Prop where
  k : r.key.size ≤ 255
  s : r.strs.length ≤ 255
  sx : ∀ y, y ∈ r.strs → y.f2.length ≤ 255
  o : r.objs.length ≤ 65535
  ox : ∀ y, y ∈ r.objs → Sml y
  d : r.drv.length ≤ 255
theorem rec_bound (r : Rc) (h : SmlR r) : (wRec r).1.length < 140737488350000 := by
  have h0 : (wHead r).1.length = 1 := by show (wN r.kind 1 5 ([], false)).1.length = 1; rw [wN_len]; rfl
  have h1 := key_bound r.key (wN r.size 4 1073741824 (wN r.id 4 1073741824 (wHead r)))
  rw [wN_len, wN_len, h0] at h1
  have h2 := stripes_bound r.strs (wKey r.key (wN r.size 4 1073741824 (wN r.id 4 1073741824 (wHead r)))) h.s h.sx
  have h3 := objs_bound r.objs (wStripes r.strs (wKey r.key (wN r.size 4 1073741824 (wN r.id 4 1073741824 (wHead r))))) h.o h.ox
  have h4 := ints_bound r.drv (wObjs r.objs (wStripes r.strs (wKey r.key (wN r.size 4 1073741824 (wN r.id 4 1073741824 (wHead r)))))) h.d
  have := h.k
  unfold wRec; omega
-- what is read
theorem byt_rest {s : St} (h : Byt s.1) (n : Nat) : Byt (rtake s n).2.1 := by
  unfold rtake
  split
  · exact h
  · exact byt_drop h n
theorem byt_num {s : St} (h : Byt s.1) (n : Nat) : Byt (rnum s n).2.1 := byt_rest h n
theorem num_bound {s : St} (h : Byt s.1) (n : Nat) (N : Int) (hN : ∀ j, j ≤ n → (256 : Int) ^ j ≤ N) : 0 ≤ (rnum s n).1 ∧ (rnum s n).1 < N := by
  obtain ⟨h1, h2⟩ := getB_bound _ _ rfl (byt_rtake h n)
  exact ⟨h1, Int.lt_of_lt_of_le h2 (hN _ (rtake_len s n))⟩
theorem num1_bound {s : St} (h : Byt s.1) : 0 ≤ (rnum s 1).1 ∧ (rnum s 1).1 < 256 := num_bound h 1 256 (fun j hj => by have : j = 0 ∨ j = 1 := (by omega); rcases this with rfl | rfl <;> decide)
theorem num2_bound {s : St} (h : Byt s.1) : 0 ≤ (rnum s 2).1 ∧ (rnum s 2).1 < 65536 := num_bound h 2 65536 (fun j hj => by have : j = 0 ∨ j = 1 ∨ j = 2 := (by omega); rcases this with rfl | rfl | rfl <;> decide)
theorem num4_bound {s : St} (h : Byt s.1) : 0 ≤ (rword s).1 ∧ (rword s).1 < 4294967296 := num_bound h 4 4294967296 (fun j hj => by have : j = 0 ∨ j = 1 ∨ j = 2 ∨ j = 3 ∨ j = 4 := (by omega); rcases this with rfl | rfl | rfl | rfl | rfl <;> decide)
theorem loop_all {α : Type} (one : St → α × St) (P : α → Prop) (ho : ∀ s, Byt s.1 → P (one s).1 ∧ Byt (one s).2.1) : ∀ (n : Nat) (s : St) (acc : List α), Byt s.1 → (∀ x, x ∈ acc → P x) →
    (rloop one n s acc).1.length ≤ acc.length + n ∧ (∀ x, x ∈ (rloop one n s acc).1 → P x) ∧ Byt (rloop one n s acc).2.1
  | 0, s, acc, hs, ha => ⟨Nat.le_refl _, ha, hs⟩
  | n + 1, s, acc, hs, ha => by
    unfold rloop
    split
    · exact ⟨by show acc.length ≤ _; omega, ha, hs⟩
    · have h1 := ho s hs
      have h2 := loop_all one P ho n (one s).2 (acc ++ [(one s).1]) h1.2 (fun x hx => by
        rcases List.mem_append.1 hx with h | h
        · exact ha x h
        · rw [List.mem_singleton.1 h]; exact h1.1)
      rw [List.length_append, List.length_singleton] at h2
      exact ⟨by omega, h2.2⟩
theorem row_all {α : Type} (one : St → α × St) (P : α → Prop) (ho : ∀ s, Byt s.1 → P (one s).1 ∧ Byt (one s).2.1) (s : St) (n N : Nat) (hs : Byt s.1) (hN : (rnum s n).1.toNat ≤ N) :
    (rrow one s n).1.length ≤ N ∧ (∀ x, x ∈ (rrow one s n).1 → P x) ∧ Byt (rrow one s n).2.1 := by
  have h := loop_all one P ho (rnum s n).1.toNat (rnum s n).2 [] (byt_num hs n) (fun x hx => by cases hx)
  exact ⟨by have := h.1; simp only [List.length_nil] at this; show (rloop one _ _ []).1.length ≤ N; omega, h.2⟩
theorem word_all (s : St) (h : Byt s.1) : True ∧ Byt (rword s).2.1 := ⟨trivial, byt_num h 4⟩
theorem stripe_all (s : St) (h : Byt s.1) : (rstripe s).1.f2.length ≤ 255 ∧ Byt (rstripe s).2.1 := by
  have h1 : Byt (rword (rword s).2).2.1 := byt_num (byt_num h 4) 4
  have h2 := row_all rword (fun _ => True) word_all (rword (rword s).2).2 1 255 h1 (by have := num1_bound h1; omega)
  exact ⟨h2.1, h2.2.2⟩
theorem key_all (s : St) (h : Byt s.1) : (rkey s).1.size ≤ 255 ∧ Byt (rkey s).2.1 := by
  have h1 := byt_num h 1
  have h2 := num1_bound h
  have h3 := rtake_len (rnum s 1).2 (rnum s 1).1.toNat
  exact ⟨by show (strOfNums (rtake (rnum s 1).2 (rnum s 1).1.toNat).1).size ≤ 255; rw [strOfNums_size]; omega, byt_rest h1 _⟩
theorem object_all (s : St) (h : Byt s.1) : Sml (robject s).1 ∧ Byt (robject s).2.1 := by
  have h0 := key_all s h
  have h1 : Byt (rword (rword (rkey s).2).2).2.1 := byt_num (byt_num h0.2 4) 4
  have h2 := row_all rstripe (fun x => x.f2.length ≤ 255) stripe_all (rword (rword (rkey s).2).2).2 1 255 h1 (by have := num1_bound h1; omega)
  exact ⟨⟨h0.1, h2.1, h2.2.1⟩, h2.2.2⟩
/-- The record of bytes, and what is left. -/
def rrec (l : List Int) : Rc × St :=
  let k := rnum (l, false) 1
  let i := rword k.2
  let z := rword i.2
  let y := rkey z.2
  let s := rrow rstripe y.2 1
  let b := rrow robject s.2 2
  let d := rrow rword b.2 1
  (⟨k.1, i.1, z.1, y.1, s.1, b.1, d.1⟩, d.2)
theorem rrec_small (l : List Int) (h : Byt l) : SmlR (rrec l).1 := by
  have h1 : Byt (rnum (l, false) 1).2.1 := byt_num h 1
  have h2 := byt_num h1 4
  have h3 := byt_num h2 4
  have h4 := key_all _ h3
  have h5 := row_all rstripe (fun x => x.f2.length ≤ 255) stripe_all _ 1 255 h4.2 (by have := num1_bound h4.2; omega)
  have h6 := row_all robject Sml object_all _ 2 65535 h5.2.2 (by have := num2_bound h5.2.2; omega)
  have h7 := row_all rword (fun _ => True) word_all _ 1 255 h6.2.2 (by have := num1_bound h6.2.2; omega)
  exact ⟨h4.1, h5.1, h5.2.1, h6.1, h6.2.1, h7.1⟩
/-- Are bytes a record's? -/
def decOk (l : List Int) : Bool := !(rrec l).2.2 && decide ((encO (rrec l).1).2 = 0) && ((strOfNums (encO (rrec l).1).1).toList == (strOfNums l).toList)
def zRc : Rc := ⟨0, 0, 0, ⟨#[]⟩, [], [], []⟩
def decO (l : List Int) : Rc × Int := if decOk l then ((rrec l).1, 0) else (zRc, 2)
end Go.Proofs.Ythoebncbhmefmaa.Rc
