/- Of a k that may not be there are no parts: pure part. No condition. -/
import Derived.Test.YtpncaggdngijnaaPStripeNonex0
import Derived.Test.YtpncaggdngijnaaPStripeNonex1
namespace Go.Proofs.Ytpncaggdngijnaa.PureStripeNone
open Go.RowKit Go.Proofs.Ytpncaggdngijnaa.PStripeNone Go.Proofs.YtpncaggdngijnaaW.PrintWords Go.Proofs.YtpncaggdngijnaaW.PrintLast Go.Proofs.YtpncaggdngijnaaW.PrintMore 
set_option linter.unusedVariables false
set_option linter.unusedSimpArgs false
theorem ans : flittinglaw16_answers.f = some true := rfl
theorem count_zero2 (a b : Int) (h : a < 1 ∨ b < 1) : stripe_Count.f a b = some 0 := by
  unfold stripe_Count.f
  by_cases h1 : a < 1
  · rw [if_pos h1]
  · rw [if_neg h1, if_pos (by omega)]
theorem StripeNone : flittinglaw16_StripeNone.Pure := by
  intro a0 l1 h0 _ _ _
  simp [Lit.wf, IntKind.min, IntKind.max, IntKind.bits, IntKind.signed] at h0
  refine ⟨1, ?_⟩
  unfold flittinglaw16_StripeNone.f
  by_cases hp : a0 > 0
  · rw [if_pos hp]
    rfl
  rw [if_neg hp]
  by_cases hl : (l1.length : Int) > 500
  · rw [decide_eq_true hl]
    rfl
  · rw [decide_eq_false hl]
    have e1 : stripe_Split.f a0 l1 = some [] := by
      unfold stripe_Split.f splitF
      rw [if_pos ⟨by omega, by omega, by omega⟩, if_pos (Or.inl (by omega))]
    have e2 : stripe_Split.f 1 ([] : List Int) = some [] := rfl
    simp only [flittinglaw16_StripeNone.j0]
    rw [if_neg (by decide), ans, Option.bind_some, if_pos rfl, e1, Option.bind_some, if_pos (by simp), count_zero2 a0 _ (Or.inl (by omega)), Option.bind_some, if_pos rfl, e2]
    rfl
end Go.Proofs.Ytpncaggdngijnaa.PureStripeNone
namespace Go.Proofs.Ytpncaggdngijnaa.Pure
theorem StripeNone : Go.Proofs.Ytpncaggdngijnaa.PStripeNone.flittinglaw16_StripeNone.Pure := Go.Proofs.Ytpncaggdngijnaa.PureStripeNone.StripeNone
end Go.Proofs.Ytpncaggdngijnaa.Pure
