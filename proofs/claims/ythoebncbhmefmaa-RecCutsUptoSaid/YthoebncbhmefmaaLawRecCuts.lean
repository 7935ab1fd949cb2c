/- RecCuts, where what comes in is of bounded bulk. -/
import Derived.Test.YthoebncbhmefmaaRows
import Derived.Test.YthoebncbhmefmaaOu
import Derived.Test.YthoebncbhmefmaaPRecCutsx0
import Derived.Test.YthoebncbhmefmaaPureRecCuts
import Derived.WalkKit
import Derived.ProofKit
import Derived.OpenShut
import Derived.ShutString
import Derived.ChangeOld
import Derived.Below
import Derived.SizedLaws
import Derived.Deep.CondSized
import Derived.Test.YthoebncbhmefmaaWSized
namespace Go.Proofs.Ythoebncbhmefmaa.recCuts
open Go.ChangeShapes Go.WideShapes Go.ChangeAt Go.RowKit Go.Proofs.Ythoebncbhmefmaa.Op Go.Proofs.Ythoebncbhmefmaa.Ou
open Go.ChangeMaps (open_string shut_string)
set_option linter.unusedVariables false
theorem own : ownKnob Try.prog.godebug = none := by kernel_rfl
theorem laidOut : laidOutB Try.prog = true := by kernel_rfl
set_option maxRecDepth 100000 in
theorem lifted (os : Os) (started : os.Started) (H : Type) (enc : TypeId × Value → H) (F : Stop.Interp) :
    ReturnsInHanded {} Try.checked os 5 .any ((Rows.OpenSpec.upto Rows.recCutsSpec).pre6 enc Try.prog Try.f5 Rows.recCutsUptoRow.domain false) (((Rows.OpenSpec.upto Rows.recCutsSpec).at F).post enc Try.prog Try.f5 false true false false) := by
  refine returnsInHanded_of_cond_sized (C := Try.checked) (s := Rows.OpenSpec.upto Rows.recCutsSpec) (k := Rows.uptoSmall) rfl own started (by kernel_rfl) Try.func5
    (OpenSpec.witness (enc := enc) (C := Try.checked) (s := Rows.OpenSpec.upto Rows.recCutsSpec) (k := Rows.uptoSmall) rfl false ⟨#[], #[.agg #[.int .i64 0, .int .i64 0, .int .i64 0, .string ⟨#[]⟩, .slice none 0 0, .slice none 0 0, .slice none 0 0], .int .u16 0, .int .u8 0], []⟩ 8 (by kernel_rfl) (by kernel_rfl) (by kernel_rfl)
      (x := ([.agg [.lit (.int .i64 0), .lit (.int .i64 0), .lit (.int .i64 0), .lit (.string []), .nil, .nil, .nil], .lit (.int .u16 0), .lit (.int .u8 0)], [], [])) (by kernel_rfl) rfl (by kernel_rfl)) ?_
  intro W base args ds gs before hval0 hW hcnd hk hsz0 _
  have hsz : (DataW.weightsEach Try.prog (Try.f5.params.toList ++ Rows.recCutsSpec.plain.varTypes Try.prog) (ds ++ gs)).all (· ≤ reachBytes) = true := hsz0
  have hval : ∀ (j : Nat) t v, Try.f5.params[j]? = some t → args[j]? = some v → Value.okWide Try.prog W .any base t v := hval0
  have hW' := hW
  obtain ⟨p, q, hA0, hV, rfl, hfz, hnd⟩ := hW
  have hA : DataW.TrodAll enc Try.prog W 0 (fun _ => true) true Try.f5.params.toList args.toList ds p := hA0
  rw [Try.params5] at hA hval hsz
  obtain ⟨v0, vs0, d0, ds0, p0, q0, hargs, rfl, rfl, h0, r0⟩ := trodAll_cons hA
  obtain ⟨v1, vs1, d1, ds1, p1, q1, rfl, rfl, rfl, h1, r1⟩ := trodAll_cons r0
  obtain ⟨v2, vs2, d2, ds2, p2, q2, rfl, rfl, rfl, h2, r2⟩ := trodAll_cons r1
  obtain ⟨rfl, rfl, rfl⟩ := trodAll_nil r2
  obtain rfl : args = #[v0, v1, v2] := by cases args; simp_all
  obtain ⟨rfl, rfl⟩ := trodVars_none hV
  have k0 := h0
  have lt0 : ∀ x ∈ p0, x.block < W.heap.size := by obtain ⟨m, hm⟩ := k0; exact DataW.trod_lt m _ _ _ hm
  obtain ⟨cs0, x0, rfl, hK0, hG0⟩ := opens_arg_structU (opens_structU Try.underlying26 (by kernel_rfl) (opensF_consU (opens_intU Try.underlying3 (by kernel_rfl)) rfl rfl rfl (opensF_consU (opens_intU Try.underlying3 (by kernel_rfl)) rfl rfl rfl (opensF_consU (opens_intU Try.underlying3 (by kernel_rfl)) rfl rfl rfl (opensF_consU (opens_stringU Try.underlying9 (by kernel_rfl)) rfl rfl rfl (opensF_consU (opens_sliceU 41 40 Try.underlying22 (by kernel_rfl) (by kernel_rfl) (opens_structU Try.underlying41 (by kernel_rfl) (opensF_consU (opens_intU Try.underlying3 (by kernel_rfl)) rfl rfl rfl (opensF_consU (opens_intU Try.underlying3 (by kernel_rfl)) rfl rfl rfl (opensF_lastU (opens_sliceU 3 8 Try.underlying24 (by kernel_rfl) (by kernel_rfl) (opens_intU Try.underlying3 (by kernel_rfl))) rfl rfl rfl))))) rfl rfl rfl (opensF_consU (opens_sliceU 44 56 Try.underlying23 (by kernel_rfl) (by kernel_rfl) (opens_structU Try.underlying44 (by kernel_rfl) (opensF_consU (opens_stringU Try.underlying9 (by kernel_rfl)) rfl rfl rfl (opensF_consU (opens_intU Try.underlying3 (by kernel_rfl)) rfl rfl rfl (opensF_consU (opens_intU Try.underlying3 (by kernel_rfl)) rfl rfl rfl (opensF_lastU (opens_sliceU 41 40 Try.underlying22 (by kernel_rfl) (by kernel_rfl) (opens_structU Try.underlying41 (by kernel_rfl) (opensF_consU (opens_intU Try.underlying3 (by kernel_rfl)) rfl rfl rfl (opensF_consU (opens_intU Try.underlying3 (by kernel_rfl)) rfl rfl rfl (opensF_lastU (opens_sliceU 3 8 Try.underlying24 (by kernel_rfl) (by kernel_rfl) (opens_intU Try.underlying3 (by kernel_rfl))) rfl rfl rfl))))) rfl rfl rfl)))))) rfl rfl rfl (opensF_lastU (opens_sliceU 3 8 Try.underlying24 (by kernel_rfl) (by kernel_rfl) (opens_intU Try.underlying3 (by kernel_rfl))) rfl rfl rfl)))))))) Try.underlying26 (hval 0 26 v0 rfl rfl) h0 hsz hk (j := 0) rfl rfl
  obtain ⟨a1, rfl, rfl, rfl, w1⟩ := open_int Try.underlying38 (hval 1 38 v1 rfl rfl) h1
  obtain ⟨a2, rfl, rfl, rfl, w2⟩ := open_int Try.underlying5 (hval 2 5 v2 rfl rfl) h2
  clear hA0 hval0 hsz0 hsz
  refine (PRecCuts.flittinglaw09_RecCuts.walk Pure.RecCuts cs0 x0 a1 a2 W hK0 hG0 w1 w2).mono fun e W' ⟨he, bel⟩ => ?_
  subst he
  exact ⟨_, rfl, _, _, _, [], _, [], hW', trodAll_mk1 (shut_bool Try.underlying4 _), (trodAll_cons_mk (Below.trod laidOut (by kernel_rfl) (of_decide_eq_true (by kernel_rfl)) k0 bel lt0) (trodAll_cons_mk (shut_int Try.underlying38 w1) (trodAll_cons_mk (shut_int Try.underlying5 w2) trodAll_mk0))), rfl, bel.frame _, fun h => by cases h⟩
theorem over : Rows.recCutsUptoRow.holds Try.pinned (Rows.OpenSpec.upto Rows.recCutsSpec) :=
  OpenClaim.holds_of_cond 5 Try.f5 rfl rfl rfl rfl rfl rfl rfl ⟨rfl, rfl, rfl, rfl, rfl⟩ rfl rfl rfl rfl rfl (by kernel_rfl) Try.func5 (by kernel_rfl)
    (of_decide_eq_true (by kernel_rfl)) (by unfold Func.isWrapper; first | (rw [if_pos (by decide +kernel)]; kernel_rfl) | (rw [if_neg (by decide +kernel)]; exact ⟨rfl, rfl⟩))
    (fun os started H enc _ F => lifted os started H enc F)
theorem proved : Rows.RecCutsUptoSaid := over
#print axioms proved
end Go.Proofs.Ythoebncbhmefmaa.recCuts
namespace Go.Proofs.Ythoebncbhmefmaa
/-- The row, under a short name, for the claim. -/
theorem recCuts_upto_holds : Rows.RecCutsUptoSaid := recCuts.proved
end Go.Proofs.Ythoebncbhmefmaa
