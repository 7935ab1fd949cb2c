/- How many stripes any size has: pure part. No condition. -/
import Derived.Test.YtpncaggdngijnaaPStripeCountx0
import Derived.Test.YtpncaggdngijnaaPStripeCountx1
namespace Go.Proofs.Ytpncaggdngijnaa.PureStripeCount
open Go.RowKit Go.Proofs.Ytpncaggdngijnaa.PStripeCount Go.Proofs.YtpncaggdngijnaaW.PrintWords Go.Proofs.YtpncaggdngijnaaW.PrintLast Go.Proofs.YtpncaggdngijnaaW.PrintMore 
set_option linter.unusedVariables false
set_option linter.unusedSimpArgs false
theorem ans : flittinglaw16_answers.f = some true := rfl
theorem count_zero2 (a b : Int) (h : a < 1 ∨ b < 1) : stripe_Count.f a b = some 0 := by
  unfold stripe_Count.f
  by_cases h1 : a < 1
  · rw [if_pos h1]
  · rw [if_neg h1, if_pos (by omega)]
theorem StripeCount : flittinglaw16_StripeCount.Pure := by
  intro a0 a1 h0 h1
  simp [Lit.wf, IntKind.min, IntKind.max, IntKind.bits, IntKind.signed] at h0 h1
  refine ⟨1, ?_⟩
  unfold flittinglaw16_StripeCount.f
  by_cases hbig : a0 > 1048576
  · rw [if_pos hbig]
    rfl
  rw [if_neg hbig]
  by_cases hz : a0 < 1 ∨ a1 < 1
  · rw [count_zero2 a0 a1 hz, Option.bind_some]
    by_cases ha : a0 < 1
    · rw [if_pos ha]
      rfl
    · rw [if_neg ha, decide_eq_true (show a1 < 1 by omega)]
      rfl
  · obtain ⟨k, rfl⟩ : ∃ k : Nat, a0 = (k : Int) := ⟨a0.toNat, by omega⟩
    obtain ⟨n, rfl⟩ : ∃ n : Nat, a1 = (n : Int) := ⟨a1.toNat, by omega⟩
    rw [count_pos k n (by omega) (by omega) (by omega) (by omega), Option.bind_some, if_neg (by omega), decide_eq_false (show ¬ (n : Int) < 1 by omega)]
    have hd := Nat.div_add_mod (n - 1) (8 * k)
    have hm := Nat.mod_lt (n - 1) (show 8 * k > 0 by omega)
    unfold cntN
    generalize (n - 1) / (8 * k) = q at *
    generalize (n - 1) % (8 * k) = r at *
    have h8 : 8 * q ≤ 8 * k * q := Nat.mul_le_mul_right q (by omega)
    have e1 : wrap64 (((q + 1 : Nat) : Int) - 1) = (q : Int) := by unfold wrap64; omega
    have e2 : wrap64 ((q : Int) * 8) = ((8 * q : Nat) : Int) := by unfold wrap64; omega
    have e3 : ((8 * q : Nat) : Int) * (k : Int) = ((8 * k * q : Nat) : Int) := by rw [← Int.natCast_mul, Nat.mul_right_comm]
    generalize 8 * k * q = P at *
    have e4 : wrap64 (P : Int) = P := by unfold wrap64; omega
    have e5 : wrap64 ((n : Int) - (P : Int)) = (n : Int) - P := by unfold wrap64; omega
    have e6 : wrap64 (8 * (k : Int)) = 8 * (k : Int) := by unfold wrap64; omega
    simp only [flittinglaw16_StripeCount.j0]
    rw [if_neg (by decide), ans, Option.bind_some, if_pos rfl, if_pos (by omega), e1, e2, e3, e4, if_pos (by omega), e5, e6, decide_eq_true (by omega)]
end Go.Proofs.Ytpncaggdngijnaa.PureStripeCount
namespace Go.Proofs.Ytpncaggdngijnaa.Pure
theorem StripeCount : Go.Proofs.Ytpncaggdngijnaa.PStripeCount.flittinglaw16_StripeCount.Pure := Go.Proofs.Ytpncaggdngijnaa.PureStripeCount.StripeCount
end Go.Proofs.Ytpncaggdngijnaa.Pure
