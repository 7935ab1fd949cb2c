/- HistAdds. No condition. -/
import Derived.Test.YtfcfiojkkpnhlaaRows
import Derived.Test.YtfcfiojkkpnhlaaOp
import Derived.Test.YtfcfiojkkpnhlaaPHistAddsx2
import Derived.Test.YtfcfiojkkpnhlaaPureHistAdds
import Derived.WalkKit
import Derived.ProofKit
import Derived.OpenShut
import Derived.ShutString
import Derived.ChangeOld
import Derived.Below
import Derived.SizedLaws
import Derived.Test.YtfcfiojkkpnhlaaWSized
namespace Go.Proofs.Ytfcfiojkkpnhlaa.histAdds
open Go.ChangeShapes Go.WideShapes Go.ChangeAt Go.RowKit Go.Proofs.Ytfcfiojkkpnhlaa.Op
open Go.ChangeMaps (open_string shut_string)
set_option linter.unusedVariables false
theorem own : ownKnob Try.prog.godebug = none := by kernel_rfl
theorem laidOut : laidOutB Try.prog = true := by kernel_rfl
set_option maxRecDepth 100000 in
theorem lifted (os : Os) (started : os.Started) (H : Type) (enc : TypeId × Value → H) :
    ReturnsInHanded {} Try.checked os 3 .any (Rows.histAddsSpec.pre6 enc Try.prog Try.f3 Rows.histAddsRow.domain false) (Rows.histAddsSpec.post enc Try.prog Try.f3 false true false false) := by
  refine returnsInHanded_of_change_sized (C := Try.checked) own started (by kernel_rfl) Try.func3
    (ChangeSpec.witness6 (enc := enc) (C := Try.checked) false ⟨#[], #[.slice none 0 0], []⟩ 8 (by kernel_rfl) (by kernel_rfl) (by kernel_rfl) (by kernel_rfl)) ?_
  intro W base args ds gs before hval0 hW hcnd hsz0 _
  have hsz : (DataW.weightsEach Try.prog (Try.f3.params.toList ++ Rows.histAddsSpec.plain.varTypes Try.prog) (ds ++ gs)).all (· ≤ reachBytes) = true := hsz0
  have hval : ∀ (j : Nat) t v, Try.f3.params[j]? = some t → args[j]? = some v → Value.okWide Try.prog W .any base t v := hval0
  have hW' := hW
  obtain ⟨p, q, hA0, hV, rfl, hfz, hnd⟩ := hW
  have hA : DataW.TrodAll enc Try.prog W 0 (fun _ => true) true Try.f3.params.toList args.toList ds p := hA0
  rw [Try.params3] at hA hval hsz
  obtain ⟨v0, vs0, d0, ds0, p0, q0, hargs, rfl, rfl, h0, r0⟩ := trodAll_cons hA
  obtain ⟨rfl, rfl, rfl⟩ := trodAll_nil r0
  obtain rfl : args = #[v0] := by cases args; simp_all
  obtain ⟨rfl, rfl⟩ := trodVars_none hV
  have k0 := h0
  have lt0 : ∀ x ∈ p0, x.block < W.heap.size := by obtain ⟨m, hm⟩ := k0; exact DataW.trod_lt m _ _ _ hm
  obtain ⟨A0, c0, l0, rfl, hl0, hC0, hG0⟩ := opens_arg_slice (opens_slice 37 144 Try.underlying22 (by kernel_rfl) (by kernel_rfl) (opens_struct Try.underlying37 (by kernel_rfl) (opensF_cons (opens_struct Try.underlying31 (by kernel_rfl) (opensF_cons (opens_int Try.underlying3 (by kernel_rfl)) rfl rfl rfl (opensF_cons (opens_int Try.underlying3 (by kernel_rfl)) rfl rfl rfl (opensF_cons (opens_string Try.underlying9 (by kernel_rfl)) rfl rfl rfl (opensF_cons (opens_slice 5 1 Try.underlying28 (by kernel_rfl) (by kernel_rfl) (opens_int Try.underlying5 (by kernel_rfl))) rfl rfl rfl (opensF_last (opens_int Try.underlying29 (by kernel_rfl)) rfl rfl rfl)))))) rfl rfl rfl (opensF_last (opens_struct Try.underlying35 (by kernel_rfl) (opensF_cons (opens_int Try.underlying32 (by kernel_rfl)) rfl rfl rfl (opensF_cons (opens_int Try.underlying3 (by kernel_rfl)) rfl rfl rfl (opensF_cons (opens_bool Try.underlying4 (by kernel_rfl)) rfl rfl rfl (opensF_cons (opens_int Try.underlying3 (by kernel_rfl)) rfl rfl rfl (opensF_cons (opens_slice 5 1 Try.underlying28 (by kernel_rfl) (by kernel_rfl) (opens_int Try.underlying5 (by kernel_rfl))) rfl rfl rfl (opensF_last (opens_slice 9 16 Try.underlying33 (by kernel_rfl) (by kernel_rfl) (opens_string Try.underlying9 (by kernel_rfl))) rfl rfl rfl))))))) rfl rfl rfl)))) Try.underlying22 (hval 0 22 v0 rfl rfl) h0 hsz (j := 0) rfl rfl
  clear hA0 hval0 hsz0 hsz
  refine (PHistAdds.flittinglaw21_HistAdds.walk Pure.HistAdds A0 c0 l0 W hl0 hC0 hG0).mono fun e W' ⟨he, bel⟩ => ?_
  subst he
  exact ⟨_, rfl, _, _, _, [], _, [], hW', trodAll_mk1 (shut_bool Try.underlying4 _), (trodAll_cons_mk (Below.trod laidOut (by kernel_rfl) (of_decide_eq_true (by kernel_rfl)) k0 bel lt0) trodAll_mk0), rfl, bel.frame _, fun h => by cases h⟩
theorem over : Rows.histAddsRow.holds Try.pinned (OpenSpec.ofChange Rows.histAddsSpec) :=
  OpenClaim.holds_of_wide 3 Try.f3 rfl rfl rfl rfl rfl rfl rfl ⟨rfl, rfl, rfl, rfl, rfl⟩ rfl rfl rfl rfl rfl (by kernel_rfl) Try.func3 (by kernel_rfl)
    (of_decide_eq_true (by kernel_rfl)) (by unfold Func.isWrapper; first | (rw [if_pos (by decide +kernel)]; kernel_rfl) | (rw [if_neg (by decide +kernel)]; exact ⟨rfl, rfl⟩))
    (fun os started H enc _ => lifted os started H enc)
theorem proved : Rows.HistAddsSaid := over
#print axioms proved
end Go.Proofs.Ytfcfiojkkpnhlaa.histAdds
namespace Go.Proofs.Ytfcfiojkkpnhlaa
/-- The row, under a short name, for the claim. -/
theorem histAdds_holds : Rows.HistAddsSaid := histAdds.proved
end Go.Proofs.Ytfcfiojkkpnhlaa
