/- Records of bounded bulk: their bytes are few. -/
import Derived.Test.YthoebncbhmefmaaProg
import Derived.Below
import Derived.Deep.Draws
import Derived.Deep.AppendLies
import Derived.Maps.AppendAt
import Derived.OwnWalk
import Derived.Laws.BytesArg
import Derived.Laws.MakeOwn
import Derived.Laws.OwnMore
import Derived.Deep.OwnRows
import Derived.Tactics
import Derived.Lib.ConvBytes
import Derived.Laws.Slices
import Derived.WalkKit
import Derived.KernelRfl
import Derived.RowKit3
import Derived.Deep.LoopGhost
import Derived.Deep.QuietTactic
import Derived.BigQuiet
import Derived.WideLaws
import Derived.Deep.DeepCutAuto
import Derived.Deep.CutBlock
import Derived.Deep.RegionHeld3
import Derived.Laws.Rows
import Derived.Lib.AppendStr
import Derived.ArgAppend
import Derived.Laws.IdiomCopy
import Derived.OrdersHeld
import Derived.Laws.BitsLemmas
import Derived.RowKit
import Derived.Test.YthoebncbhmefmaaWWords
import Derived.Test.YthoebncbhmefmaaWLast
import Derived.Test.YthoebncbhmefmaaWTab
import Derived.Test.YthoebncbhmefmaaWFour
import Derived.Test.YthoebncbhmefmaaWQPut
import Derived.Test.YthoebncbhmefmaaWApart
import Derived.Test.YthoebncbhmefmaaWArr
import Derived.Test.YthoebncbhmefmaaWZeros
import Derived.Test.YthoebncbhmefmaaWFoot
import Derived.Test.YthoebncbhmefmaaWKept
import Derived.Test.YthoebncbhmefmaaWShare
import Derived.Test.YthoebncbhmefmaaWN
import Derived.Test.YthoebncbhmefmaaWFootNe
import Derived.Test.YthoebncbhmefmaaWAt
import Derived.Test.YthoebncbhmefmaaWEqStruct
import Derived.Test.YthoebncbhmefmaaWRepsOne
import Derived.Test.YthoebncbhmefmaaWInv
import Derived.Test.YthoebncbhmefmaaWInvWords
import Derived.Test.YthoebncbhmefmaaWGuard
import Derived.Test.YthoebncbhmefmaaWNEv
import Derived.Test.YthoebncbhmefmaaWMore
import Derived.Test.YthoebncbhmefmaaRz
import Derived.Test.YthoebncbhmefmaaRv
import Derived.Test.YthoebncbhmefmaaOu
namespace Go.Proofs.Ythoebncbhmefmaa.Rc
open Go.RowKit Go.Proofs.YthoebncbhmefmaaW.PrintWords Go.Proofs.YthoebncbhmefmaaW.PrintLast Go.Proofs.YthoebncbhmefmaaW.PrintMore
attribute [local go_sem] max2_int min2_int max_two min_two max_three min_three max_four min_four
set_option linter.unusedVariables false
set_option linter.unusedSimpArgs false
open Go.Proofs.Ythoebncbhmefmaa.Op Go.Proofs.Ythoebncbhmefmaa.Ou
abbrev gOu : TO → Prop := fun x => x.1.size ≤ BK ∧ (Lit.int .i64 x.2.1).wf = true ∧ (Lit.int .i64 x.2.2.1).wf = true ∧ Row 40 gS x.2.2.2
abbrev gRu : TR → Prop := fun x => (Lit.int .i64 x.1).wf = true ∧ (Lit.int .i64 x.2.1).wf = true ∧ (Lit.int .i64 x.2.2.1).wf = true ∧ x.2.2.2.1.size ≤ BK ∧ Row 40 gS x.2.2.2.2.1 ∧ Row 56 gOu x.2.2.2.2.2.1 ∧ gI x.2.2.2.2.2.2
theorem gr_of (x : TR) (h : gRu x) : gR x :=
  ⟨h.1, h.2.1, h.2.2.1, Nat.le_trans h.2.2.2.1 (by decide), h.2.2.2.2.1, ⟨h.2.2.2.2.2.1.len, fun a ha => ⟨Nat.le_trans (h.2.2.2.2.2.1.all a ha).1 (by decide), (h.2.2.2.2.2.1.all a ha).2⟩⟩, h.2.2.2.2.2.2⟩
/-- Its keys are short. -/
structure Kb (r : Rc) : Prop where
  k : r.key.size ≤ 1048576
  o : ∀ x, x ∈ r.objs → x.f0.size ≤ 1048576
theorem kb_of (x : TR) (h : gRu x) : Kb (toR x) :=
  ⟨h.2.2.2.1, fun y hy => by
    obtain ⟨t, ht, rfl⟩ := List.mem_map.1 hy
    exact (h.2.2.2.2.2.1.all t ht).1⟩
theorem ints_most (l : List Int) (s : St) (h : l.length ≤ 4000) : (wInts l s).1.length ≤ s.1.length + 16001 := by
  have h1 := fold_bound (fun s v => wN v 4 1073741824 s) 4 (fun _ => True) (fun s v _ => by rw [wN_len]; exact Nat.le_refl _) l (wN l.length 1 255 s) (fun _ _ => trivial)
  rw [wN_len] at h1
  unfold wInts; omega
theorem ar1 (a s : Nat) (h : a ≤ s + 4 + 4 + 16001) : a ≤ s + 16009 := by
  rw [Nat.add_assoc, Nat.add_assoc] at h
  exact h
theorem stripe_most (s : St) (x : S41) (h : x.f2.length ≤ 4000) : (wStripe x s).1.length ≤ s.1.length + 16009 := by
  have h1 := ints_most x.f2 (wN x.f1 4 1073741824 (wN x.f0 4 1073741824 s)) h
  rw [wN_len, wN_len] at h1
  unfold wStripe
  exact ar1 _ _ h1
theorem stripes_most (l : List S41) (s : St) (h : FewS 4000 l) : (wStripes l s).1.length ≤ s.1.length + 64036001 := by
  have h1 := fold_bound (fun s x => wStripe x s) 16009 (fun x => x.f2.length ≤ 4000) stripe_most l (wN l.length 1 255 s) h.2
  rw [wN_len] at h1
  unfold wStripes
  have : 16009 * l.length ≤ 16009 * 4000 := Nat.mul_le_mul_left _ h.1
  omega
theorem object_most (s : St) (x : S44) (h : FewS 4000 x.f3 ∧ x.f0.size ≤ 1048576) : (wObject x s).1.length ≤ s.1.length + 66000000 := by
  have h1 := stripes_most x.f3 (wN x.f2 4 1073741824 (wN x.f1 4 1073741824 (wKey x.f0 s))) h.1
  rw [wN_len, wN_len, key_bound] at h1
  have := h.2
  unfold wObject; omega
theorem objs_most (l : List S44) (s : St) (h : FewO 4000 l) (hk : ∀ x, x ∈ l → x.f0.size ≤ 1048576) : (wObjs l s).1.length ≤ s.1.length + 264000000002 := by
  have h1 := fold_bound (fun s x => wObject x s) 66000000 (fun x => FewS 4000 x.f3 ∧ x.f0.size ≤ 1048576) object_most l (wN l.length 2 65535 s) (fun x hx => ⟨h.2 x hx, hk x hx⟩)
  rw [wN_len] at h1
  unfold wObjs
  have : 66000000 * l.length ≤ 66000000 * 4000 := Nat.mul_le_mul_left _ h.1
  omega
theorem rec_most (r : Rc) (h : FewR 4000 r) (hk : Kb r) : (wRec r).1.length < 140737488350000 := by
  have h0 : (wHead r).1.length = 1 := by show (wN r.kind 1 5 ([], false)).1.length = 1; rw [wN_len]; rfl
  have h1 := key_bound r.key (wN r.size 4 1073741824 (wN r.id 4 1073741824 (wHead r)))
  rw [wN_len, wN_len, h0] at h1
  have h2 := stripes_most r.strs (wKey r.key (wN r.size 4 1073741824 (wN r.id 4 1073741824 (wHead r)))) h.s
  have h3 := objs_most r.objs (wStripes r.strs (wKey r.key (wN r.size 4 1073741824 (wN r.id 4 1073741824 (wHead r))))) h.o hk.o
  have h4 := ints_most r.drv (wObjs r.objs (wStripes r.strs (wKey r.key (wN r.size 4 1073741824 (wN r.id 4 1073741824 (wHead r)))))) h.d
  have := hk.k
  unfold wRec; omega
theorem enc_cases (r : Rc) : encO r = ([], 2) ∨ encO r = ([], 4) ∨ ((encO r).2 = 0 ∧ (wRec r).1.length ≤ 8192 ∧ encO r = ((wRec r).1, 0)) := by
  by_cases h : (wRec r).2 = true
  · exact .inl (by unfold encO; rw [if_pos h])
  · by_cases h2 : 8192 < (wRec r).1.length
    · exact .inr (.inl (by unfold encO; rw [if_neg h, if_pos h2]))
    · have h3 : encO r = ((wRec r).1, 0) := by unfold encO; rw [if_neg h, if_neg h2]
      exact .inr (.inr ⟨by rw [h3], by omega, h3⟩)
theorem samea_run (d : Nat) : ∀ (k i : Nat) (a : List Int), d + i = a.length → d < k → a.length < 1000000 → flittingref01_Same.l0 k a a (i : Int) = some true := by
  induction d with
  | zero =>
    intro k i a hd hk _
    obtain ⟨k, rfl⟩ : ∃ m, k = m + 1 := ⟨k - 1, by omega⟩
    simp only [flittingref01_Same.l0]
    rw [if_neg (by omega)]
  | succ d ih =>
    intro k i a hd hk hm
    obtain ⟨k, rfl⟩ : ∃ m, k = m + 1 := ⟨k - 1, by omega⟩
    simp only [flittingref01_Same.l0]
    rw [if_pos (by omega), if_pos (by omega), if_pos (by omega), show wrap64 ((i : Int) + 1) = ((i + 1 : Nat) : Int) from by unfold wrap64; omega]
    exact ih k (i + 1) a (by omega) (by omega) hm
theorem samea_f (k : Nat) (a : List Int) (hk : a.length < k) (hm : a.length < 1000000) : flittingref01_Same.f k a a = some true := by
  unfold flittingref01_Same.f
  rw [if_pos rfl]
  exact samea_run a.length k 0 a (by omega) hk hm
end Go.Proofs.Ythoebncbhmefmaa.Rc
