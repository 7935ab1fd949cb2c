/- ScriptLine: the row and its tied card. -/
import Derived.Test.YtganhhhkmcmngaaDoorRows
import Derived.Test.YtganhhhkmcmngaaDoorOp
import Derived.Test.YtganhhhkmcmngaaDoorSr
import Derived.Test.YtganhhhkmcmngaaDoorSq
import Derived.Test.YtganhhhkmcmngaaDoorSc15
import Derived.WalkKit
import Derived.ProofKit
import Derived.OpenShut
import Derived.ShutString
import Derived.ChangeOld
import Derived.Below
import Derived.SizedLaws
import Derived.Test.YtganhhhkmcmngaaDoorWSized
import Derived.LaidMore
import Derived.Lay
import Derived.SevenTiedAt
import Derived.Stop.Joined
import Derived.Test.YtganhhhkmcmngaaDoorTie
import Derived.Test.YtganhhhkmcmngaaDoorCards
namespace Go.Proofs.YtganhhhkmcmngaaDoor.scriptLine
open Go.ChangeShapes Go.WideShapes Go.ChangeAt Go.RowKit Go.Proofs.YtganhhhkmcmngaaDoor.Op Go.Proofs.YtganhhhkmcmngaaDoor.Sc
open Go.ChangeMaps (open_string shut_string)
set_option linter.unusedVariables false
set_option maxRecDepth 100000 in
theorem lifted (os : Os) (started : os.Started) (H : Type) (enc : TypeId × Value → H) :
    ReturnsInHanded {} Tryd.checked os 7 .any (fun w args => (Rows.scriptLineSpec.pre enc Tryd.prog Tryd.f7 Rows.scriptLineRow.domain false w args ∧ laidMetH Tryd.prog laidL w) ∧ sizedMet enc Tryd.prog Tryd.f7 (OpenSpec.ofChange Rows.scriptLineSpec) false w args) (Rows.scriptLineSpec.post enc Tryd.prog Tryd.f7 false true false false) := by
  refine wrap_laid started (by kernel_rfl) Tryd.func7
    (ChangeSpec.witness_shaped (enc := enc) (C := Tryd.checked) (os := os) (X := fun w _ => laidMetH Tryd.prog laidL w) false (World.laidAll Tryd.prog os laidL) #[.slice none 0 0, .int .u8 0, .int .u8 0] 8 (World.laidAll_os _ _ _) (World.shaped_of_ZipB (by kernel_rfl) (by kernel_rfl)) (by kernel_rfl) (by kernel_rfl) (by kernel_rfl) (door_met os _)) ?_
  intro W base args ds gs before hval0 hW hsz0 hT
  have hsz : (DataW.weightsEach Tryd.prog (Tryd.f7.params.toList ++ Rows.scriptLineSpec.plain.varTypes Tryd.prog) (ds ++ gs)).all (· ≤ reachBytes) = true := hsz0
  have hval : ∀ (j : Nat) t v, Tryd.f7.params[j]? = some t → args[j]? = some v → Value.okWide Tryd.prog W .any base t v := hval0
  have hW' := hW
  obtain ⟨p, q, hA0, hV, rfl, hfz, hnd⟩ := hW
  have hA : DataW.TrodAll enc Tryd.prog W 0 (fun _ => true) true Tryd.f7.params.toList args.toList ds p := hA0
  rw [Tryd.params7] at hA hval hsz
  obtain ⟨v0, vs0, d0, ds0, p0, q0, hargs, rfl, rfl, h0, r0⟩ := trodAll_cons hA
  obtain ⟨v1, vs1, d1, ds1, p1, q1, rfl, rfl, rfl, h1, r1⟩ := trodAll_cons r0
  obtain ⟨v2, vs2, d2, ds2, p2, q2, rfl, rfl, rfl, h2, r2⟩ := trodAll_cons r1
  obtain ⟨rfl, rfl, rfl⟩ := trodAll_nil r2
  obtain rfl : args = #[v0, v1, v2] := by cases args; simp_all
  obtain ⟨rfl, rfl⟩ := trodVars_none hV
  have k0 := h0
  have lt0 : ∀ x ∈ p0, x.block < W.heap.size := by obtain ⟨m, hm⟩ := k0; exact DataW.trod_lt m _ _ _ hm
  obtain ⟨A0, c0, l0, rfl, hl0, hC0, hG0⟩ := opens_arg_slice (opens_slice 32 64 Tryd.underlying22 (by kernel_rfl) (by kernel_rfl) (opens_struct Tryd.underlying32 (by kernel_rfl) (opensF_cons (opens_int Tryd.underlying3 (by kernel_rfl)) rfl rfl rfl (opensF_cons (opens_int Tryd.underlying3 (by kernel_rfl)) rfl rfl rfl (opensF_cons (opens_string Tryd.underlying9 (by kernel_rfl)) rfl rfl rfl (opensF_cons (opens_slice 5 1 Tryd.underlying30 (by kernel_rfl) (by kernel_rfl) (opens_int Tryd.underlying5 (by kernel_rfl))) rfl rfl rfl (opensF_last (opens_int Tryd.underlying29 (by kernel_rfl)) rfl rfl rfl))))))) Tryd.underlying22 (hval 0 22 v0 rfl rfl) h0 hsz (j := 0) rfl rfl
  obtain ⟨a1, rfl, rfl, rfl, w1⟩ := open_int Tryd.underlying5 (hval 1 5 v1 rfl rfl) h1
  obtain ⟨a2, rfl, rfl, rfl, w2⟩ := open_int Tryd.underlying5 (hval 2 5 v2 rfl rfl) h2
  clear hA0 hval0 hsz0 hsz
  refine (line_law A0 c0 l0.length (l0.map toS) a1 a2 W hT (by rw [List.length_map]) (C32_of_pair hC0) hl0 (wfB_all hG0).2 (wfB_all hG0).1 (u8_b w1) (u8_b w2)).mono fun e W' ⟨he, bel⟩ => ?_
  subst he
  exact ⟨_, rfl, _, _, _, [], _, [], hW', trodAll_mk1 (shut_bool Tryd.underlying4 _), (trodAll_cons_mk (Below.trod laidOut (by kernel_rfl) (of_decide_eq_true (by kernel_rfl)) k0 bel lt0) (trodAll_cons_mk (shut_int Tryd.underlying5 w1) (trodAll_cons_mk (shut_int Tryd.underlying5 w2) trodAll_mk0))), rfl, bel.frame _, fun h => by cases h⟩
theorem over : Rows.scriptLineRow.holds Tryd.pinned (OpenSpec.ofChange Rows.scriptLineSpec) :=
  OpenClaim.holds_of_wide 7 Tryd.f7 rfl rfl rfl rfl rfl rfl rfl ⟨rfl, rfl, rfl, rfl, rfl⟩ rfl rfl rfl rfl rfl (by kernel_rfl) Tryd.func7 (by kernel_rfl)
    (of_decide_eq_true (by kernel_rfl)) (by unfold Func.isWrapper; first | (rw [if_pos (by decide +kernel)]; kernel_rfl) | (rw [if_neg (by decide +kernel)]; exact ⟨rfl, rfl⟩))
    (fun os started H enc _ => lifted os started H enc)
theorem proved : Rows.ScriptLineSaid := over
theorem card_holds : Rows.ScriptLineCardSaid :=
  Claim7.holds_tied_plain_at .later [] [.data, .data, .data, .data, .sentinel, .sentinel, .pinned] true (true, "175d938f4e474293210c1b27ac44f84b86b9bcb13243e1128182a2f8b3d4014d") true
    proved (fun _ h => by cases h) (by kernel_rfl) (fun _ h => by cases h) scriptLine_row_tie rfl ⟨rfl, rfl⟩ (by kernel_rfl) rfl
    (fun f fn hf hfn => by
      obtain rfl : f = 7 := Option.some.inj ((show Tryd.prog.funcNamed "flitting/flittinglaw24.ScriptLine" = some 7 by kernel_rfl).symm.trans hf) |>.symm
      obtain rfl : fn = Tryd.f7 := (Option.some.inj (Tryd.func7.symm.trans hfn)).symm
      exact ⟨by kernel_rfl, fun j t ht => by
        rw [Tryd.params7] at ht
        have hm : t ∈ [22, 5, 5] := by simpa using Array.mem_of_getElem? ht
        have hall : ([22, 5, 5].all fun u => !Tryd.prog.wantsStandIn u) = true := by kernel_rfl
        exact (show Tryd.prog.wantsStandIn t = false by simpa using List.all_eq_true.1 hall t hm)⟩)
    (by kernel_rfl)
#print axioms card_holds
end Go.Proofs.YtganhhhkmcmngaaDoor.scriptLine
namespace Go.Proofs.YtganhhhkmcmngaaDoor
/-- The card, under a short name, for the claim. -/
theorem scriptLine_holds : Rows.ScriptLineCardSaid := scriptLine.card_holds
end Go.Proofs.YtganhhhkmcmngaaDoor
