/- Sums about the end of a block: pure part. No condition. -/
import Derived.Test.YtkhaoabigohalaaDoorPHashPadsx0
import Derived.Test.YtkhaoabigohalaaDoorPHashPadsx1
import Derived.Test.YtkhaoabigohalaaDoorPHashPadsx2
import Derived.Test.YtkhaoabigohalaaDoorPHashPadsx3
namespace Go.Proofs.YtkhaoabigohalaaDoor.PureHashPads
open Go.RowKit Go.Proofs.YtkhaoabigohalaaDoor.PHashPads Go.Proofs.YtkhaoabigohalaaDoorW.PrintWords Go.Proofs.YtkhaoabigohalaaDoorW.PrintLast Go.Proofs.YtkhaoabigohalaaDoorW.PrintMore 
set_option linter.unusedVariables false
set_option linter.unusedSimpArgs false
theorem sumF_f (l : List Int) (h : l.length < 1099511627776) (hb : ∀ x ∈ l, 0 ≤ x ∧ x < 256) : hash_Sum.f l = some (sumF l) := by
  unfold hash_Sum.f
  rw [if_pos ⟨h, hb⟩]
theorem shaF_f (l : List Int) (h : l.length < 1099511627776) (hb : ∀ x ∈ l, 0 ≤ x ∧ x < 256) : flittingref01_Sha.f l = some (sumF l) := by
  unfold flittingref01_Sha.f
  rw [if_pos ⟨h, hb⟩]
theorem sum_start : (sumF []).take 4 = [227, 176, 196, 66] := by decide +kernel
theorem sumF_length (l : List Int) : (sumF l).length = 32 := by
  unfold sumF
  generalize blocks init ((sumPad l).length / 64) (sumPad l) = s
  simp [outB, St.l, enc_length]
theorem answers_true : flittinglaw05_answers.f = some true := by
  have h := sumF_f [] (by decide) (by simp)
  have hl := sumF_length []
  have hs := sum_start
  unfold flittinglaw05_answers.f
  rw [h]
  generalize sumF [] = s at hl hs
  rcases s with _ | ⟨a, _ | ⟨b, _ | ⟨c, _ | ⟨d, s⟩⟩⟩⟩ <;> simp at hs
  obtain ⟨rfl, rfl, rfl, rfl⟩ := hs
  have e0 : rd (227 :: 176 :: 196 :: 66 :: s) 0 = 227 := rfl
  have e1 : rd (227 :: 176 :: 196 :: 66 :: s) 1 = 176 := rfl
  have e2 : rd (227 :: 176 :: 196 :: 66 :: s) 2 = 196 := rfl
  have e3 : rd (227 :: 176 :: 196 :: 66 :: s) 3 = 66 := rfl
  rw [Option.bind_some, hl, e0, e1, e2, e3]
  rfl
theorem same_run (d : Nat) : ∀ (k i : Nat) (a : List Int), d + i = a.length → d < k → a.length < 1000000 → flittingref01_Same.l0 k a a (i : Int) = some true := by
  induction d with
  | zero =>
    intro k i a hd hk _
    obtain ⟨k, rfl⟩ : ∃ m, k = m + 1 := ⟨k - 1, by omega⟩
    simp only [flittingref01_Same.l0]
    rw [if_neg (by omega)]
  | succ d ih =>
    intro k i a hd hk hm
    obtain ⟨k, rfl⟩ : ∃ m, k = m + 1 := ⟨k - 1, by omega⟩
    simp only [flittingref01_Same.l0]
    rw [if_pos (by omega), if_pos (by omega), if_pos (by omega), show wrap64 ((i : Int) + 1) = ((i + 1 : Nat) : Int) from by unfold wrap64; omega]
    exact ih k (i + 1) a (by omega) (by omega) hm
theorem same_sum (k : Nat) (hk : 33 ≤ k) (l : List Int) : flittingref01_Same.f k (sumF l) (sumF l) = some true := by
  unfold flittingref01_Same.f
  rw [if_pos rfl]
  exact same_run 32 k 0 _ (by rw [sumF_length]) (by omega) (by rw [sumF_length]; decide)
theorem pads_run (d : Nat) : ∀ (k i : Nat) (l : List Int) (c : Int), d + i = l.length → d + 34 ≤ k → l.length < 256 → 0 ≤ c → c < 256 → (∀ x ∈ l, 0 ≤ x ∧ x < 256) → flittinglaw05_HashPads.l0 k c l (i : Int) = some true := by
  induction d with
  | zero =>
    intro k i l c hd hk hl _ _ hb
    obtain ⟨k, rfl⟩ : ∃ m, k = m + 1 := ⟨k - 1, by omega⟩
    simp only [flittinglaw05_HashPads.l0]
    rw [if_neg (by omega), answers_true, Option.bind_some, if_pos rfl, sumF_f l (by omega) hb, shaF_f l (by omega) hb, Option.bind_some, Option.bind_some, same_sum k (by omega), Option.bind_some, if_pos rfl, Option.bind_some, sumF_length]
    rfl
  | succ d ih =>
    intro k i l c hd hk hl h0 h1 hb
    obtain ⟨k, rfl⟩ : ∃ m, k = m + 1 := ⟨k - 1, by omega⟩
    simp only [flittinglaw05_HashPads.l0]
    rw [if_pos (by omega), if_pos (by omega), show wrap64 ((i : Int) + 1) = ((i + 1 : Nat) : Int) from by unfold wrap64; omega, Int.toNat_natCast]
    refine ih k (i + 1) _ c (by rw [List.length_set]; omega) (by omega) (by rw [List.length_set]; exact hl) h0 h1 (fun x hx => ?_)
    rcases List.mem_or_eq_of_mem_set hx with h | rfl
    · exact hb x h
    · exact ⟨h0, h1⟩
theorem HashPads : flittinglaw05_HashPads.Pure := by
  intro a0 a1 h0 h1
  simp [Lit.wf, IntKind.min, IntKind.max, IntKind.bits, IntKind.signed] at h0 h1
  obtain ⟨n, rfl⟩ : ∃ n : Nat, a0 = (n : Int) := ⟨a0.toNat, by omega⟩
  refine ⟨n + 34, ?_⟩
  unfold flittinglaw05_HashPads.f
  rw [show wrap64 (n : Int) = (n : Int) from by unfold wrap64; omega, if_pos (by omega), Int.toNat_natCast, if_pos (by omega)]
  exact pads_run n (n + 34) 0 _ a1 (by simp) (Nat.le_refl _) (by simp; omega) (by omega) (by omega) (fun x hx => by rw [List.eq_of_mem_replicate hx]; decide)
end Go.Proofs.YtkhaoabigohalaaDoor.PureHashPads
namespace Go.Proofs.YtkhaoabigohalaaDoor.Pure
theorem HashPads : Go.Proofs.YtkhaoabigohalaaDoor.PHashPads.flittinglaw05_HashPads.Pure := Go.Proofs.YtkhaoabigohalaaDoor.PureHashPads.HashPads
end Go.Proofs.YtkhaoabigohalaaDoor.Pure
