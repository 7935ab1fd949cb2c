/- The sum of any bytes: pure part. No condition. -/
import Derived.Test.YtkhaoabigohalaaDoorPHashSumx0
import Derived.Test.YtkhaoabigohalaaDoorPHashSumx1
import Derived.Test.YtkhaoabigohalaaDoorPHashSumx2
import Derived.Test.YtkhaoabigohalaaDoorPHashSumx3
namespace Go.Proofs.YtkhaoabigohalaaDoor.PureHashSum
open Go.RowKit Go.Proofs.YtkhaoabigohalaaDoor.PHashSum Go.Proofs.YtkhaoabigohalaaDoorW.PrintWords Go.Proofs.YtkhaoabigohalaaDoorW.PrintLast Go.Proofs.YtkhaoabigohalaaDoorW.PrintMore 
set_option linter.unusedVariables false
set_option linter.unusedSimpArgs false
theorem sumF_f (l : List Int) (h : l.length < 1099511627776) (hb : ∀ x ∈ l, 0 ≤ x ∧ x < 256) : hash_Sum.f l = some (sumF l) := by
  unfold hash_Sum.f
  rw [if_pos ⟨h, hb⟩]
theorem shaF_f (l : List Int) (h : l.length < 1099511627776) (hb : ∀ x ∈ l, 0 ≤ x ∧ x < 256) : flittingref01_Sha.f l = some (sumF l) := by
  unfold flittingref01_Sha.f
  rw [if_pos ⟨h, hb⟩]
theorem sum_start : (sumF []).take 4 = [227, 176, 196, 66] := by decide +kernel
theorem sumF_length (l : List Int) : (sumF l).length = 32 := by
  unfold sumF
  generalize blocks init ((sumPad l).length / 64) (sumPad l) = s
  simp [outB, St.l, enc_length]
theorem answers_true : flittinglaw05_answers.f = some true := by
  have h := sumF_f [] (by decide) (by simp)
  have hl := sumF_length []
  have hs := sum_start
  unfold flittinglaw05_answers.f
  rw [h]
  generalize sumF [] = s at hl hs
  rcases s with _ | ⟨a, _ | ⟨b, _ | ⟨c, _ | ⟨d, s⟩⟩⟩⟩ <;> simp at hs
  obtain ⟨rfl, rfl, rfl, rfl⟩ := hs
  have e0 : rd (227 :: 176 :: 196 :: 66 :: s) 0 = 227 := rfl
  have e1 : rd (227 :: 176 :: 196 :: 66 :: s) 1 = 176 := rfl
  have e2 : rd (227 :: 176 :: 196 :: 66 :: s) 2 = 196 := rfl
  have e3 : rd (227 :: 176 :: 196 :: 66 :: s) 3 = 66 := rfl
  rw [Option.bind_some, hl, e0, e1, e2, e3]
  rfl
theorem same_run (d : Nat) : ∀ (k i : Nat) (a : List Int), d + i = a.length → d < k → a.length < 1000000 → flittingref01_Same.l0 k a a (i : Int) = some true := by
  induction d with
  | zero =>
    intro k i a hd hk _
    obtain ⟨k, rfl⟩ : ∃ m, k = m + 1 := ⟨k - 1, by omega⟩
    simp only [flittingref01_Same.l0]
    rw [if_neg (by omega)]
  | succ d ih =>
    intro k i a hd hk hm
    obtain ⟨k, rfl⟩ : ∃ m, k = m + 1 := ⟨k - 1, by omega⟩
    simp only [flittingref01_Same.l0]
    rw [if_pos (by omega), if_pos (by omega), if_pos (by omega), show wrap64 ((i : Int) + 1) = ((i + 1 : Nat) : Int) from by unfold wrap64; omega]
    exact ih k (i + 1) a (by omega) (by omega) hm
theorem same_sum (k : Nat) (hk : 33 ≤ k) (l : List Int) : flittingref01_Same.f k (sumF l) (sumF l) = some true := by
  unfold flittingref01_Same.f
  rw [if_pos rfl]
  exact same_run 32 k 0 _ (by rw [sumF_length]) (by omega) (by rw [sumF_length]; decide)
theorem HashSum : flittinglaw05_HashSum.Pure := by
  intro l0 _ _ hw
  have hb : ∀ x ∈ l0, 0 ≤ x ∧ x < 256 := fun x hx => by
    have := hw x hx
    simp [Lit.wf, IntKind.min, IntKind.max, IntKind.bits, IntKind.signed] at this
    omega
  refine ⟨33, ?_⟩
  unfold flittinglaw05_HashSum.f
  rw [answers_true]
  by_cases h : (l0.length : Int) > 2000
  · rw [if_pos h]
    rfl
  · rw [if_neg h, Option.bind_some, if_pos rfl, sumF_f l0 (by omega) hb, shaF_f l0 (by omega) hb, Option.bind_some, Option.bind_some, same_sum 33 (Nat.le_refl _)]
    rfl
end Go.Proofs.YtkhaoabigohalaaDoor.PureHashSum
namespace Go.Proofs.YtkhaoabigohalaaDoor.Pure
theorem HashSum : Go.Proofs.YtkhaoabigohalaaDoor.PHashSum.flittinglaw05_HashSum.Pure := Go.Proofs.YtkhaoabigohalaaDoor.PureHashSum.HashSum
end Go.Proofs.YtkhaoabigohalaaDoor.Pure
