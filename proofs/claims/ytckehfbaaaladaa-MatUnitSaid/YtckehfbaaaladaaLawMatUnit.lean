/- A table that turns nothing, and products of three. No condition. -/
import Derived.Test.YtckehfbaaaladaaRows
import Derived.Test.YtckehfbaaaladaaPMatUnitx5
import Derived.Test.YtckehfbaaaladaaPureMatUnit
import Derived.Deep.Matrix
import Derived.WalkKit
import Derived.ProofKit
import Derived.OpenShut
import Derived.ShutString
import Derived.ChangeOld
import Derived.Below
import Derived.SizedLaws
import Derived.Test.YtckehfbaaaladaaWSized
namespace Go.Proofs.Ytckehfbaaaladaa.matUnit
open Go.ChangeShapes Go.WideShapes Go.ChangeAt Go.RowKit
open Go.ChangeMaps (open_string shut_string)
set_option linter.unusedVariables false
theorem own : ownKnob Try.prog.godebug = none := by kernel_rfl
theorem laidOut : laidOutB Try.prog = true := by kernel_rfl
set_option maxRecDepth 100000 in
theorem lifted (os : Os) (started : os.Started) (H : Type) (enc : TypeId × Value → H) :
    ReturnsInHanded {} Try.checked os 7 .any (Rows.matUnitSpec.pre6 enc Try.prog Try.f7 Rows.matUnitRow.domain false) (Rows.matUnitSpec.post enc Try.prog Try.f7 false true false false) := by
  refine returnsInHanded_of_change_sized (C := Try.checked) own started (by kernel_rfl) Try.func7
    (ChangeSpec.witness6 (enc := enc) (C := Try.checked) false ⟨#[], #[.slice none 0 0, .slice none 0 0, .slice none 0 0], []⟩ 8 (by kernel_rfl) (by kernel_rfl) (by kernel_rfl) (by kernel_rfl)) ?_
  intro W base args ds gs before hval0 hW hcnd hsz0 _
  have hsz : (DataW.weightsEach Try.prog (Try.f7.params.toList ++ Rows.matUnitSpec.plain.varTypes Try.prog) (ds ++ gs)).all (· ≤ reachBytes) = true := hsz0
  have hval : ∀ (j : Nat) t v, Try.f7.params[j]? = some t → args[j]? = some v → Value.okWide Try.prog W .any base t v := hval0
  have hW' := hW
  obtain ⟨p, q, hA0, hV, rfl, hfz, hnd⟩ := hW
  have hA : DataW.TrodAll enc Try.prog W 0 (fun _ => true) true Try.f7.params.toList args.toList ds p := hA0
  rw [Try.params7] at hA hval hsz
  obtain ⟨v0, vs0, d0, ds0, p0, q0, hargs, rfl, rfl, h0, r0⟩ := trodAll_cons hA
  obtain ⟨v1, vs1, d1, ds1, p1, q1, rfl, rfl, rfl, h1, r1⟩ := trodAll_cons r0
  obtain ⟨v2, vs2, d2, ds2, p2, q2, rfl, rfl, rfl, h2, r2⟩ := trodAll_cons r1
  obtain ⟨rfl, rfl, rfl⟩ := trodAll_nil r2
  obtain rfl : args = #[v0, v1, v2] := by cases args; simp_all
  obtain ⟨rfl, rfl⟩ := trodVars_none hV
  obtain ⟨a0, len0, cap0, rfl⟩ := okWide_slice Try.underlying22 (hval 0 22 v0 rfl rfl)
  have k0 := h0
  have lt0 : ∀ x ∈ p0, x.block < W.heap.size := by obtain ⟨m, hm⟩ := k0; exact DataW.trod_lt m _ _ _ hm
  obtain ⟨l0, hlen0, hle0, hmx0, hC0, hb0⟩ : ∃ l0 : List (List Int), l0.length = len0 ∧ l0.length ≤ cap0 ∧ l0.length ≤ maxLen ∧ Go.Proofs.YtckehfbaaaladaaW.PrintWords.Kd.C (Go.Proofs.YtckehfbaaaladaaW.PrintWords.Kd.slice 5 (Go.Proofs.YtckehfbaaaladaaW.PrintWords.Kd.int .u8)) W a0 l0.length l0 ∧ ∀ l ∈ l0, ∀ x ∈ l, 0 ≤ x ∧ x < 256 := by
    obtain ⟨fuel, hf⟩ := h0
    rcases Go.Deep.open_int_rows Try.underlying22 Try.underlying28 Try.underlying5 (by kernel_rfl) (by kernel_rfl) hf with ⟨hcs, _⟩ | ⟨a, l, c, A, L, C, Z, hcs, _, hl, hm, _, hr⟩
    · simp [Value.cells] at hcs
      obtain ⟨rfl, rfl, rfl⟩ := hcs
      exact ⟨[], rfl, Nat.le_refl _, Nat.zero_le _, ⟨rfl, by decide, fun h => absurd h (Nat.lt_irrefl 0)⟩, by simp⟩
    · simp [Value.cells] at hcs
      obtain ⟨rfl, rfl, rfl⟩ := hcs
      exact ⟨_, by simp, by simpa using hl, by simp; omega, PureMatUnit.rows_C hl hm hr, PureMatUnit.rows_bytes hl (fun r hr' => (hr r hr').2.2.2.2.1)⟩
  subst hlen0
  obtain ⟨a1, len1, cap1, rfl⟩ := okWide_slice Try.underlying22 (hval 1 22 v1 rfl rfl)
  have k1 := h1
  have lt1 : ∀ x ∈ p1, x.block < W.heap.size := by obtain ⟨m, hm⟩ := k1; exact DataW.trod_lt m _ _ _ hm
  obtain ⟨l1, hlen1, hle1, hmx1, hC1, hb1⟩ : ∃ l1 : List (List Int), l1.length = len1 ∧ l1.length ≤ cap1 ∧ l1.length ≤ maxLen ∧ Go.Proofs.YtckehfbaaaladaaW.PrintWords.Kd.C (Go.Proofs.YtckehfbaaaladaaW.PrintWords.Kd.slice 5 (Go.Proofs.YtckehfbaaaladaaW.PrintWords.Kd.int .u8)) W a1 l1.length l1 ∧ ∀ l ∈ l1, ∀ x ∈ l, 0 ≤ x ∧ x < 256 := by
    obtain ⟨fuel, hf⟩ := h1
    rcases Go.Deep.open_int_rows Try.underlying22 Try.underlying28 Try.underlying5 (by kernel_rfl) (by kernel_rfl) hf with ⟨hcs, _⟩ | ⟨a, l, c, A, L, C, Z, hcs, _, hl, hm, _, hr⟩
    · simp [Value.cells] at hcs
      obtain ⟨rfl, rfl, rfl⟩ := hcs
      exact ⟨[], rfl, Nat.le_refl _, Nat.zero_le _, ⟨rfl, by decide, fun h => absurd h (Nat.lt_irrefl 0)⟩, by simp⟩
    · simp [Value.cells] at hcs
      obtain ⟨rfl, rfl, rfl⟩ := hcs
      exact ⟨_, by simp, by simpa using hl, by simp; omega, PureMatUnit.rows_C hl hm hr, PureMatUnit.rows_bytes hl (fun r hr' => (hr r hr').2.2.2.2.1)⟩
  subst hlen1
  obtain ⟨a2, len2, cap2, rfl⟩ := okWide_slice Try.underlying22 (hval 2 22 v2 rfl rfl)
  have k2 := h2
  have lt2 : ∀ x ∈ p2, x.block < W.heap.size := by obtain ⟨m, hm⟩ := k2; exact DataW.trod_lt m _ _ _ hm
  obtain ⟨l2, hlen2, hle2, hmx2, hC2, hb2⟩ : ∃ l2 : List (List Int), l2.length = len2 ∧ l2.length ≤ cap2 ∧ l2.length ≤ maxLen ∧ Go.Proofs.YtckehfbaaaladaaW.PrintWords.Kd.C (Go.Proofs.YtckehfbaaaladaaW.PrintWords.Kd.slice 5 (Go.Proofs.YtckehfbaaaladaaW.PrintWords.Kd.int .u8)) W a2 l2.length l2 ∧ ∀ l ∈ l2, ∀ x ∈ l, 0 ≤ x ∧ x < 256 := by
    obtain ⟨fuel, hf⟩ := h2
    rcases Go.Deep.open_int_rows Try.underlying22 Try.underlying28 Try.underlying5 (by kernel_rfl) (by kernel_rfl) hf with ⟨hcs, _⟩ | ⟨a, l, c, A, L, C, Z, hcs, _, hl, hm, _, hr⟩
    · simp [Value.cells] at hcs
      obtain ⟨rfl, rfl, rfl⟩ := hcs
      exact ⟨[], rfl, Nat.le_refl _, Nat.zero_le _, ⟨rfl, by decide, fun h => absurd h (Nat.lt_irrefl 0)⟩, by simp⟩
    · simp [Value.cells] at hcs
      obtain ⟨rfl, rfl, rfl⟩ := hcs
      exact ⟨_, by simp, by simpa using hl, by simp; omega, PureMatUnit.rows_C hl hm hr, PureMatUnit.rows_bytes hl (fun r hr' => (hr r hr').2.2.2.2.1)⟩
  subst hlen2
  clear hA0 hval0 hsz0 hsz
  obtain ⟨k, hk⟩ := PureMatUnit.MatUnit l0 l1 l2 hmx0 hb0 hmx1 hb1 hmx2 hb2
  refine (PMatUnit.flittinglaw02_MatUnit.calls k a0 cap0 l0 a1 cap1 l1 a2 cap2 l2 true W hC0 hle0 hC1 hle1 hC2 hle2 hk).mono fun e W' ⟨he, bel⟩ => ?_
  subst he
  exact ⟨_, rfl, _, _, _, [], _, [], hW', trodAll_mk1 (shut_bool Try.underlying4 _), (trodAll_cons_mk (Below.trod laidOut (by kernel_rfl) (of_decide_eq_true (by kernel_rfl)) k0 bel lt0) (trodAll_cons_mk (Below.trod laidOut (by kernel_rfl) (of_decide_eq_true (by kernel_rfl)) k1 bel lt1) (trodAll_cons_mk (Below.trod laidOut (by kernel_rfl) (of_decide_eq_true (by kernel_rfl)) k2 bel lt2) trodAll_mk0))), rfl, bel.frame _, fun h => by cases h⟩
theorem over : Rows.matUnitRow.holds Try.pinned (OpenSpec.ofChange Rows.matUnitSpec) :=
  OpenClaim.holds_of_wide 7 Try.f7 rfl rfl rfl rfl rfl rfl rfl ⟨rfl, rfl, rfl, rfl, rfl⟩ rfl rfl rfl rfl rfl (by kernel_rfl) Try.func7 (by kernel_rfl)
    (of_decide_eq_true (by kernel_rfl)) (by unfold Func.isWrapper; first | (rw [if_pos (by decide +kernel)]; kernel_rfl) | (rw [if_neg (by decide +kernel)]; exact ⟨rfl, rfl⟩))
    (fun os started H enc _ => lifted os started H enc)
theorem proved : Rows.MatUnitSaid := over
#print axioms proved
end Go.Proofs.Ytckehfbaaaladaa.matUnit
namespace Go.Proofs.Ytckehfbaaaladaa
/-- The row, under a short name, for the claim. -/
theorem matUnit_holds : Rows.MatUnitSaid := matUnit.proved
end Go.Proofs.Ytckehfbaaaladaa
