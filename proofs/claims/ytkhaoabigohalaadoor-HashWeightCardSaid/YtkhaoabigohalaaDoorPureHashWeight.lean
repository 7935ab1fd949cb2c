/- How near any drive is to any stripe: pure part. No condition. -/
import Derived.Test.YtkhaoabigohalaaDoorPHashWeightx0
import Derived.Test.YtkhaoabigohalaaDoorPHashWeightx1
import Derived.Test.YtkhaoabigohalaaDoorPHashWeightx2
import Derived.Test.YtkhaoabigohalaaDoorPHashWeightx3
namespace Go.Proofs.YtkhaoabigohalaaDoor.PureHashWeight
open Go.RowKit Go.Proofs.YtkhaoabigohalaaDoor.PHashWeight Go.Proofs.YtkhaoabigohalaaDoorW.PrintWords Go.Proofs.YtkhaoabigohalaaDoorW.PrintLast Go.Proofs.YtkhaoabigohalaaDoorW.PrintMore 
set_option linter.unusedVariables false
set_option linter.unusedSimpArgs false
theorem sumF_f (l : List Int) (h : l.length < 1099511627776) (hb : ∀ x ∈ l, 0 ≤ x ∧ x < 256) : hash_Sum.f l = some (sumF l) := by
  unfold hash_Sum.f
  rw [if_pos ⟨h, hb⟩]
theorem shaF_f (l : List Int) (h : l.length < 1099511627776) (hb : ∀ x ∈ l, 0 ≤ x ∧ x < 256) : flittingref01_Sha.f l = some (sumF l) := by
  unfold flittingref01_Sha.f
  rw [if_pos ⟨h, hb⟩]
theorem sum_start : (sumF []).take 4 = [227, 176, 196, 66] := by decide +kernel
theorem sumF_length (l : List Int) : (sumF l).length = 32 := by
  unfold sumF
  generalize blocks init ((sumPad l).length / 64) (sumPad l) = s
  simp [outB, St.l, enc_length]
theorem answers_true : flittinglaw05_answers.f = some true := by
  have h := sumF_f [] (by decide) (by simp)
  have hl := sumF_length []
  have hs := sum_start
  unfold flittinglaw05_answers.f
  rw [h]
  generalize sumF [] = s at hl hs
  rcases s with _ | ⟨a, _ | ⟨b, _ | ⟨c, _ | ⟨d, s⟩⟩⟩⟩ <;> simp at hs
  obtain ⟨rfl, rfl, rfl, rfl⟩ := hs
  have e0 : rd (227 :: 176 :: 196 :: 66 :: s) 0 = 227 := rfl
  have e1 : rd (227 :: 176 :: 196 :: 66 :: s) 1 = 176 := rfl
  have e2 : rd (227 :: 176 :: 196 :: 66 :: s) 2 = 196 := rfl
  have e3 : rd (227 :: 176 :: 196 :: 66 :: s) 3 = 66 := rfl
  rw [Option.bind_some, hl, e0, e1, e2, e3]
  rfl
theorem HashWeight : flittinglaw05_HashWeight.Pure := by
  intro a0 a1 _ _
  have w0 : ∀ a : Int, 0 ≤ IntKind.u64.wrap a ∧ IntKind.u64.wrap a < 18446744073709551616 := fun a => by rw [Go.IntKind.wrap_u64]; omega
  have hb : ∀ x ∈ enc (IntKind.u64.wrap a0) 8 ++ enc (IntKind.u64.wrap a1) 8, 0 ≤ x ∧ x < 256 := fun x hx => by
    rcases List.mem_append.1 hx with h | h <;> exact enc_bytes _ _ x h
  have hl : (enc (IntKind.u64.wrap a0) 8 ++ enc (IntKind.u64.wrap a1) 8).length < 1099511627776 := by rw [List.length_append, enc_length, enc_length]; decide
  have hs : ∀ x ∈ (sumF (enc (IntKind.u64.wrap a0) 8 ++ enc (IntKind.u64.wrap a1) 8)).take 8, 0 ≤ x ∧ x < 256 := fun x hx => by
    have h := List.mem_of_mem_take hx
    unfold sumF outB at h
    obtain ⟨y, _, h⟩ := List.mem_flatMap.1 h
    exact enc_bytes _ _ x h
  have h8 : ((sumF (enc (IntKind.u64.wrap a0) 8 ++ enc (IntKind.u64.wrap a1) 8)).take 8).length = 8 := by rw [List.length_take, sumF_length]; decide
  refine ⟨9, ?_⟩
  unfold flittinglaw05_HashWeight.f hash_Weight.f flittingref01_Weight.f
  rw [answers_true, Option.bind_some, if_pos rfl, show (8 : Int) = ((8 : Nat) : Int) from rfl, put_f 9 [] _ 8 (by decide) (by decide) (by decide), Option.bind_some, List.nil_append,
    put_f 9 _ _ 8 (by decide) (by decide) (by rw [enc_length]; decide), Option.bind_some, sumF_f _ hl hb, Option.bind_some, sumF_length, if_pos (by decide), get_f 9 _ (by decide) (by omega) hs,
    num_f 9 _ 8 (by decide) (by decide) (w0 _).1 (w0 _).2, num_f 9 _ 8 (by decide) (by decide) (w0 _).1 (w0 _).2, Option.bind_some, Option.bind_some, Option.bind_some, Option.bind_some, if_pos (by rw [enc_length, enc_length]; decide),
    shaF_f _ hl hb, Option.bind_some, sumF_length, if_pos (by decide), read_f 9 _ (by decide) (by omega) hs]
  simp
end Go.Proofs.YtkhaoabigohalaaDoor.PureHashWeight
namespace Go.Proofs.YtkhaoabigohalaaDoor.Pure
theorem HashWeight : Go.Proofs.YtkhaoabigohalaaDoor.PHashWeight.flittinglaw05_HashWeight.Pure := Go.Proofs.YtkhaoabigohalaaDoor.PureHashWeight.HashWeight
end Go.Proofs.YtkhaoabigohalaaDoor.Pure
