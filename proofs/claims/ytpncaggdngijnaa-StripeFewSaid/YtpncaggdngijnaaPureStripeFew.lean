/- Fewer stripes than there are bytes: pure part. No condition. -/
import Derived.Test.YtpncaggdngijnaaPStripeFewx0
import Derived.Test.YtpncaggdngijnaaPStripeFewx1
namespace Go.Proofs.Ytpncaggdngijnaa.PureStripeFew
open Go.RowKit Go.Proofs.Ytpncaggdngijnaa.PStripeFew Go.Proofs.YtpncaggdngijnaaW.PrintWords Go.Proofs.YtpncaggdngijnaaW.PrintLast Go.Proofs.YtpncaggdngijnaaW.PrintMore 
set_option linter.unusedVariables false
set_option linter.unusedSimpArgs false
theorem ans : flittinglaw16_answers.f = some true := rfl
theorem count_zero2 (a b : Int) (h : a < 1 ∨ b < 1) : stripe_Count.f a b = some 0 := by
  unfold stripe_Count.f
  by_cases h1 : a < 1
  · rw [if_pos h1]
  · rw [if_neg h1, if_pos (by omega)]
theorem split_length (m : Nat) (d : List Int) (hm : 1 ≤ m) (hm2 : m ≤ 1048576) (hd : d.length ≤ 1048576) : ∃ L, stripe_Split.f (m : Int) d = some L ∧ stripe_Count.f (m : Int) (d.length : Int) = some (L.length : Int) := by
  refine ⟨splitF m d, ?_, ?_⟩
  · unfold stripe_Split.f
    rw [if_pos ⟨by omega, by omega, hd⟩]
  · unfold splitF
    by_cases h0 : d.length = 0
    · rw [if_pos (Or.inr h0), count_zero2 _ _ (Or.inr (by omega))]
      rfl
    · rw [if_neg (by omega), count_pos m d.length hm hm2 (by omega) (by omega), Int.toNat_natCast, List.length_map, List.length_range]
theorem StripeFew : flittinglaw16_StripeFew.Pure := by
  intro a0 a1 h0 h1
  simp [Lit.wf, IntKind.min, IntKind.max, IntKind.bits, IntKind.signed] at h0 h1
  obtain ⟨m, hm1, hm2, em⟩ : ∃ m : Nat, 1 ≤ m ∧ m ≤ 9 ∧ wrap64 ((wrap64 (Int.tmod a0 9)) + 1) = (m : Int) := by
    refine ⟨(Int.tmod a0 9).toNat + 1, by omega, ?_, ?_⟩
    · rw [Int.tmod_eq_emod_of_nonneg (by omega)]; omega
    · rw [Int.tmod_eq_emod_of_nonneg (by omega)]; unfold wrap64; omega
  obtain ⟨n, rfl⟩ : ∃ n : Nat, a1 = (n : Int) := ⟨a1.toNat, by omega⟩
  have en : wrap64 (n : Int) = n := by unfold wrap64; omega
  have en1 : wrap64 ((n : Int) + 1) = ((n + 1 : Nat) : Int) := by unfold wrap64; omega
  obtain ⟨t, ht, et⟩ : ∃ t : Nat, t < 300 ∧ wrap64 (Int.tmod (n : Int) 300) = (t : Int) := by
    refine ⟨n % 300, by omega, ?_⟩
    rw [Int.tmod_eq_emod_of_nonneg (by omega)]; unfold wrap64; omega
  obtain ⟨L, e1, e2⟩ := split_length m (List.replicate t 0) hm1 (by omega) (by simp; omega)
  rw [List.length_replicate] at e2
  obtain ⟨a, b, ea, eb, hab, hba, han⟩ : ∃ a b : Nat, stripe_Count.f (m : Int) (n : Int) = some (a : Int) ∧ stripe_Count.f (m : Int) ((n + 1 : Nat) : Int) = some (b : Int) ∧ a ≤ b ∧ b ≤ a + 1 ∧ a ≤ n := by
    by_cases hn : n = 0
    · subst hn
      refine ⟨0, cntN m 1, count_zero2 _ _ (Or.inr (by omega)), count_pos m 1 hm1 (by omega) (by omega) (by omega), by omega, ?_, by omega⟩
      unfold cntN
      simp
    · refine ⟨cntN m n, cntN m (n + 1), count_pos m n hm1 (by omega) (by omega) (by omega), count_pos m (n + 1) hm1 (by omega) (by omega) (by omega), ?_, ?_, ?_⟩
      all_goals
        unfold cntN
        have hc : m = 1 ∨ m = 2 ∨ m = 3 ∨ m = 4 ∨ m = 5 ∨ m = 6 ∨ m = 7 ∨ m = 8 ∨ m = 9 := by omega
        rcases hc with rfl | rfl | rfl | rfl | rfl | rfl | rfl | rfl | rfl <;> omega
  unfold flittinglaw16_StripeFew.f
  rw [em, en, en1, et, ea, eb, Option.bind_some, Option.bind_some, ans, Option.bind_some, if_pos rfl, if_pos (by omega), show wrap64 ((a : Int) + 1) = (a : Int) + 1 from by unfold wrap64; omega, if_pos (by omega), if_pos (by omega), if_pos (by omega), Int.toNat_natCast, if_pos (by omega), e1, Option.bind_some, e2, Option.bind_some]
  simp
end Go.Proofs.Ytpncaggdngijnaa.PureStripeFew
namespace Go.Proofs.Ytpncaggdngijnaa.Pure
theorem StripeFew : Go.Proofs.Ytpncaggdngijnaa.PStripeFew.flittinglaw16_StripeFew.Pure := Go.Proofs.Ytpncaggdngijnaa.PureStripeFew.StripeFew
end Go.Proofs.Ytpncaggdngijnaa.Pure
