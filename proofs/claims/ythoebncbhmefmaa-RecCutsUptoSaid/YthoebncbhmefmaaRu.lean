/- Records: the law's answers. -/
import Derived.Test.YthoebncbhmefmaaProg
import Derived.Below
import Derived.Deep.Draws
import Derived.Deep.AppendLies
import Derived.Maps.AppendAt
import Derived.OwnWalk
import Derived.Laws.BytesArg
import Derived.Laws.MakeOwn
import Derived.Laws.OwnMore
import Derived.Deep.OwnRows
import Derived.Tactics
import Derived.Lib.ConvBytes
import Derived.Laws.Slices
import Derived.WalkKit
import Derived.KernelRfl
import Derived.RowKit3
import Derived.Deep.LoopGhost
import Derived.Deep.QuietTactic
import Derived.BigQuiet
import Derived.WideLaws
import Derived.Deep.DeepCutAuto
import Derived.Deep.CutBlock
import Derived.Deep.RegionHeld3
import Derived.Laws.Rows
import Derived.Lib.AppendStr
import Derived.ArgAppend
import Derived.Laws.IdiomCopy
import Derived.OrdersHeld
import Derived.Laws.BitsLemmas
import Derived.RowKit
import Derived.Test.YthoebncbhmefmaaWWords
import Derived.Test.YthoebncbhmefmaaWLast
import Derived.Test.YthoebncbhmefmaaWTab
import Derived.Test.YthoebncbhmefmaaWFour
import Derived.Test.YthoebncbhmefmaaWQPut
import Derived.Test.YthoebncbhmefmaaWApart
import Derived.Test.YthoebncbhmefmaaWArr
import Derived.Test.YthoebncbhmefmaaWZeros
import Derived.Test.YthoebncbhmefmaaWFoot
import Derived.Test.YthoebncbhmefmaaWKept
import Derived.Test.YthoebncbhmefmaaWShare
import Derived.Test.YthoebncbhmefmaaWN
import Derived.Test.YthoebncbhmefmaaWFootNe
import Derived.Test.YthoebncbhmefmaaWAt
import Derived.Test.YthoebncbhmefmaaWEqStruct
import Derived.Test.YthoebncbhmefmaaWRepsOne
import Derived.Test.YthoebncbhmefmaaWInv
import Derived.Test.YthoebncbhmefmaaWInvWords
import Derived.Test.YthoebncbhmefmaaWGuard
import Derived.Test.YthoebncbhmefmaaWNEv
import Derived.Test.YthoebncbhmefmaaWMore
import Derived.Test.YthoebncbhmefmaaRt
namespace Go.Proofs.Ythoebncbhmefmaa.Rc
open Go.RowKit Go.Proofs.YthoebncbhmefmaaW.PrintWords Go.Proofs.YthoebncbhmefmaaW.PrintLast Go.Proofs.YthoebncbhmefmaaW.PrintMore
attribute [local go_sem] max2_int min2_int max_two min_two max_three min_three max_four min_four
set_option linter.unusedVariables false
set_option linter.unusedSimpArgs false
def rc0 : Rc := ⟨2, 5, 0, ⟨#[97]⟩, [], [], []⟩
def by0 : List Int := [2, 0, 0, 0, 5, 0, 0, 0, 0, 1, 97, 0, 0, 0, 0]
theorem enc0 : encO rc0 = (by0, 0) := by rfl
theorem wrec0 : (wRec rc0).1.length = 15 := by rfl
theorem rrec0 : rrec by0 = (rc0, ([], false)) := by rfl
theorem dec0 : decO by0 = (rc0, 0) := by
  unfold decO decOk
  rw [rrec0]
  simp only [enc0]
  simp
theorem byt0 : Byt by0 := by
  intro x hx
  simp only [by0, List.mem_cons, List.not_mem_nil, or_false] at hx
  omega
theorem few0 : FewR 0 rc0 := ⟨⟨Nat.le_refl _, fun x hx => by cases hx⟩, ⟨Nat.le_refl _, fun x hx => by cases hx⟩, Nat.le_refl _⟩
set_option maxHeartbeats 4000000 in
set_option maxRecDepth 100000 in
theorem answers_calls (w : World) : Calls Try.prog 9 #[] w fun e w' => e = .returned (.bool true) ∧ Below w.heap.size w w' := by
  have HC : Aside0 (Calls Try.prog 10 #[.agg #[.int .i64 2, .int .i64 5, .int .i64 0, .string ⟨#[97]⟩, .slice none 0 0, .slice none 0 0, .slice none 0 0]] w _) := ⟨encode_calls none none none 0 0 0 rc0 w (Kd.C_nil _ _) (Kd.C_nil _ _) (Kd.C_nil _ _) (by rw [wrec0]; decide)⟩
  rw [enc0] at HC
  go_enter Try.func9, Try.ntmps9
  go_wp2_with fail
  refine HC.out.mono ?_
  rintro e w1 ⟨v1, rfl, hR, hB1⟩
  obtain ⟨A, c, e1⟩ := Kd.R_slice hR
  subst e1
  have HB1 := Aside0.mk hB1
  have HD : Aside0 _ := ⟨decode_calls A c by0 w1 (Kd.F_now (Kd.R_F hR)) (Kd.V_at (Kd.R_V (base' := 0) hR)).2.1 byt0 (by decide)⟩
  rw [dec0] at HD
  clear hR hB1 HC
  go_wp2_with fail
  refine HD.out.mono ?_
  rintro e w2 ⟨cs, rfl, hat, hB2⟩
  obtain ⟨A4, A5, A6, c4, c5, c6, rfl, h4, hC4, h5, hC5, h6, hC6⟩ := hat.ex
  have HB2 : Aside0 (Below w.heap.size w w2) := ⟨HB1.out.trans (hB2.mono HB1.out.size)⟩
  obtain ⟨w3, hw3⟩ : ∃ w3, w3 = w2.alloc (.cells #[.int .i64 2, .int .i64 5, .int .i64 0, .string ⟨#[97]⟩, .slice A4 0 c4, .slice A5 0 c5, .slice A6 0 c6] 26) := ⟨_, rfl⟩
  have hB3 : Below w2.heap.size w2 w3 := by rw [hw3]; exact (Below.refl _ _).alloc (Nat.le_refl _) _
  have hb3 : w3.heap[w2.heap.size]? = some (.cells #[.int .i64 2, .int .i64 5, .int .i64 0, .string ⟨#[97]⟩, .slice A4 0 c4, .slice A5 0 c5, .slice A6 0 c6] 26 (0, 0)) := by rw [hw3]; exact heap_alloc_new w2 _
  have HB3 : Aside0 (Below w.heap.size w w3) := ⟨HB2.out.trans (hB3.mono HB2.out.size)⟩
  have HS : Aside0 (Calls Try.prog 15 #[.agg #[.int .i64 2, .int .i64 5, .int .i64 0, .string ⟨#[97]⟩, .slice A4 0 c4, .slice A5 0 c5, .slice A6 0 c6], .agg #[.int .i64 2, .int .i64 5, .int .i64 0, .string ⟨#[97]⟩, .slice A4 0 c4, .slice A5 0 c5, .slice A6 0 c6]] w3 _) :=
    ⟨rsame_calls 0 (by decide) A4 A5 A6 A4 A5 A6 c4 c5 c6 c4 c5 c6 rc0 rc0 w3 few0 (Kd.C_below hC4 hB3) (Kd.C_below hC5 hB3) (Kd.C_below hC6 hB3) (Kd.C_below hC4 hB3) (Kd.C_below hC5 hB3) (Kd.C_below hC6 hB3) h6 h6⟩
  rw [eqR_refl] at HS
  have HW3 := Aside0.mk hw3
  have d0 : w3.cell? ⟨w2.heap.size, 0, none⟩ = some (.int .i64 2) := (blk_cell hb3 0).trans rfl
  have d1 : w3.cell? ⟨w2.heap.size, 1, none⟩ = some (.int .i64 5) := (blk_cell hb3 1).trans rfl
  have d2 : w3.cell? ⟨w2.heap.size, 2, none⟩ = some (.int .i64 0) := (blk_cell hb3 2).trans rfl
  have d3 : w3.cell? ⟨w2.heap.size, 3, none⟩ = some (.string ⟨#[97]⟩) := (blk_cell hb3 3).trans rfl
  have d4 : w3.cell? ⟨w2.heap.size, 4, none⟩ = some (.slice A4 0 c4) := (blk_cell hb3 4).trans rfl
  have d5 : w3.cell? ⟨w2.heap.size, 5, none⟩ = some (.slice A5 0 c5) := (blk_cell hb3 5).trans rfl
  have d6 : w3.cell? ⟨w2.heap.size, 6, none⟩ = some (.slice A6 0 c6) := (blk_cell hb3 6).trans rfl
  clear hat hC4 hC5 hC6 h4 h5 h6 hB2 hw3 hB3 hb3 HD
  simp only [rc0, List.length_nil]
  go_upto_region 3 with fail
  rw [← HW3.out]
  go_wp2_with fail
  refine HS.out.mono ?_
  rintro e w4 ⟨rfl, hB4⟩
  have HB4 : Aside0 (Below w.heap.size w w4) := ⟨HB3.out.trans (hB4.mono HB3.out.size)⟩
  clear hB4
  go_wp2
  go_ret
  exact ⟨rfl, HB4.out⟩
end Go.Proofs.Ythoebncbhmefmaa.Rc
