-- Written by myprint.py (this session's own driver of the kit's print, with contracts of its own handed in).
import Derived.Test.YtfcfiojkkpnhlaaPHistNonex0
namespace Go.Proofs.Ytfcfiojkkpnhlaa.PHistNone
open Go.RowKit Go.Proofs.YtfcfiojkkpnhlaaW.PrintWords Go.Proofs.YtfcfiojkkpnhlaaW.PrintLast Go.Proofs.YtfcfiojkkpnhlaaW.PrintMore
attribute [local go_sem] max2_int min2_int max_two min_two max_three min_three max_four min_four   -- for this text's walks alone
set_option linter.unusedVariables false
set_option linter.unusedSimpArgs false

-- NOT PRINTED: function 8 (hist_New)

-- NOT PRINTED: function 13 (bytes_Clone)

-- NOT PRINTED: function 15 (slices_Clone_string_string)

-- NOT PRINTED: function 14 (hist_Hist_run)

-- NOT PRINTED: function 9 (hist_Hist_Add)

-- NOT PRINTED: function 11 (hist_Hist_Calls)

-- NOT PRINTED: function 7 (flittinglaw21_answers)

/-! ### flittinglaw21_HistNone: function 5, by hand -/
open Go.Proofs.Ytfcfiojkkpnhlaa.Hs Go.Proofs.Ytfcfiojkkpnhlaa.Op
def flittinglaw21_HistNone.Pure : Prop := True
set_option maxHeartbeats 4000000 in
set_option maxRecDepth 100000 in
theorem flittinglaw21_HistNone.walk (_P : flittinglaw21_HistNone.Pure) (cs0 : Array Value) (x0 : Int × Int × ByteArray × List Int × Int) (cs1 : Array Value) (x1 : Int × Int × Bool × Int × List Int × List ByteArray) (w : World) (hK0 : SK.K w x0 cs0.toList) (hG0 : (Lit.int .i64 x0.1).wf = true ∧ (Lit.int .i64 x0.2.1).wf = true ∧ x0.2.2.1.size ≤ 140737488351232 ∧ Row 1 (fun n => (Lit.int .u8 n).wf = true) x0.2.2.2.1 ∧ (Lit.int .u64 x0.2.2.2.2).wf = true) (hK1 : AK.K w x1 cs1.toList) (hG1 : (Lit.int .i64 x1.1).wf = true ∧ (Lit.int .i64 x1.2.1).wf = true ∧ True ∧ (Lit.int .i64 x1.2.2.2.1).wf = true ∧ Row 1 (fun n => (Lit.int .u8 n).wf = true) x1.2.2.2.2.1 ∧ Row 16 (fun s : ByteArray => s.size ≤ 140737488351232) x1.2.2.2.2.2) :
    Calls Try.prog 5 #[.agg cs0, .agg cs1] w fun e w' => e = .returned (.bool true) ∧ Below w.heap.size w w' := by
  obtain ⟨D, dc, h0, _, _⟩ := stp_K hK0
  obtain ⟨E, ec, S, sc, h1, _, _, _, _⟩ := ans_K hK1
  obtain ⟨c0⟩ := cs0
  obtain ⟨c1⟩ := cs1
  simp only at h0 h1
  subst h0 h1
  clear hK0 hG0 hK1 hG1 _P
  have HB : Aside0 (∀ v u, Below w.heap.size w ((w.alloc (.cells v 31)).alloc (.cells u 35))) := ⟨fun v u => ((Below.refl _ _).alloc (Nat.le_refl _) _).alloc (by simp) _⟩
  go_enter Try.func5, Try.ntmps5
  go_wp2_with fail
  refine (add_nil _ _ _ _ _ _ _ _ _ _ _ _).mono ?_
  rintro e w1 ⟨rfl, hb1⟩
  have HB1 := Aside0.mk ((HB.out _ _).trans (hb1.mono (by simp; omega)))
  clear hb1
  go_wp2_with fail
  refine (answers_calls _).mono ?_
  rintro e w2 ⟨rfl, hb2⟩
  have HB2 := Aside0.mk (HB1.out.trans (hb2.mono HB1.out.size))
  clear hb2
  go_wp2_with fail
  refine (calls_nil _).mono ?_
  rintro e w3 ⟨rfl, rfl⟩
  go_wp2
  go_ret
  exact ⟨rfl, HB2.out⟩

end Go.Proofs.Ytfcfiojkkpnhlaa.PHistNone
