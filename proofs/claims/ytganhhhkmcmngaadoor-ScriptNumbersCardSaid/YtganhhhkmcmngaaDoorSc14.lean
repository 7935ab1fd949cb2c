/- Scripts: any numbers, and any bytes, come again. -/
import Derived.Test.YtganhhhkmcmngaaDoorProg
import Derived.Below
import Derived.Deep.Draws
import Derived.Deep.AppendLies
import Derived.Maps.AppendAt
import Derived.OwnWalk
import Derived.Laws.BytesArg
import Derived.Laws.MakeOwn
import Derived.Laws.OwnMore
import Derived.Deep.OwnRows
import Derived.Tactics
import Derived.Lib.ConvBytes
import Derived.Laws.Slices
import Derived.WalkKit
import Derived.KernelRfl
import Derived.RowKit3
import Derived.Deep.LoopGhost
import Derived.Deep.QuietTactic
import Derived.BigQuiet
import Derived.WideLaws
import Derived.Deep.DeepCutAuto
import Derived.Deep.CutBlock
import Derived.Deep.RegionHeld3
import Derived.Laws.Rows
import Derived.Lib.AppendStr
import Derived.ArgAppend
import Derived.Laws.IdiomCopy
import Derived.OrdersHeld
import Derived.Laws.BitsLemmas
import Derived.RowKit
import Derived.Test.YtganhhhkmcmngaaDoorWWords
import Derived.Test.YtganhhhkmcmngaaDoorWLast
import Derived.Test.YtganhhhkmcmngaaDoorWTab
import Derived.Test.YtganhhhkmcmngaaDoorWFour
import Derived.Test.YtganhhhkmcmngaaDoorWQPut
import Derived.Test.YtganhhhkmcmngaaDoorWApart
import Derived.Test.YtganhhhkmcmngaaDoorWArr
import Derived.Test.YtganhhhkmcmngaaDoorWZeros
import Derived.Test.YtganhhhkmcmngaaDoorWFoot
import Derived.Test.YtganhhhkmcmngaaDoorWKept
import Derived.Test.YtganhhhkmcmngaaDoorWShare
import Derived.Test.YtganhhhkmcmngaaDoorWN
import Derived.Test.YtganhhhkmcmngaaDoorWFootNe
import Derived.Test.YtganhhhkmcmngaaDoorWAt
import Derived.Test.YtganhhhkmcmngaaDoorWEqStruct
import Derived.Test.YtganhhhkmcmngaaDoorWRepsOne
import Derived.Test.YtganhhhkmcmngaaDoorWInv
import Derived.Test.YtganhhhkmcmngaaDoorWInvWords
import Derived.Test.YtganhhhkmcmngaaDoorWGuard
import Derived.Test.YtganhhhkmcmngaaDoorWNEv
import Derived.Test.YtganhhhkmcmngaaDoorWMore
import Derived.Test.YtganhhhkmcmngaaDoorSc12
namespace Go.Proofs.YtganhhhkmcmngaaDoor.Sc
open Go.RowKit Go.Proofs.YtganhhhkmcmngaaDoorW.PrintWords Go.Proofs.YtganhhhkmcmngaaDoorW.PrintLast Go.Proofs.YtganhhhkmcmngaaDoorW.PrintMore
attribute [local go_sem] max2_int min2_int max_two min_two max_three min_three max_four min_four
set_option linter.unusedVariables false
set_option linter.unusedSimpArgs false
open Go.Shelf
set_option maxHeartbeats 4000000 in
set_option maxRecDepth 100000 in
theorem numbers_calls (k a u : Int) (A : Option Addr) (c n : Nat) (l : List Int) (w : World) (hT : Tb w) (hn : l.length = n) (hC : U8.C w A n l) (hc : n ≤ c) (hl : n ≤ 9223372036854775000) (hk : -9223372036854775808 ≤ k ∧ k ≤ 9223372036854775807) (ha : -9223372036854775808 ≤ a ∧ a ≤ 9223372036854775807) (hu : 0 ≤ u ∧ u < 18446744073709551616) (hY : Byt l) :
    Calls Tryd.prog 4 #[.int .i64 k, .int .i64 a, .int .u64 u, .slice A n c] w fun e w' => e = .returned (.bool true) ∧ Below w.heap.size w w' := by
  have HT := Aside0.mk hT
  have HN := Aside0.mk hn
  have HC := Aside0.mk hC
  clear hT
  by_cases h3 : 300 < n
  · have d0 : decide (300 < n) = true := decide_eq_true h3
    have d1 : decide (300 < (n : Int)) = true := decide_eq_true (by omega)
    clear h3 hn hC hc hk ha hu hY
    go_enter Tryd.func4, Tryd.ntmps4
    go_wp2_with fail
    refine (answers_calls w HT.out).mono ?_
    rintro e w2 ⟨rfl, hb⟩
    have HB2 := Aside0.mk hb
    clear hb
    go_wp2_with fail
    go_ret
    exact ⟨rfl, HB2.out⟩
  · have d0 : decide (300 < n) = false := decide_eq_false h3
    have d1 : decide (300 < (n : Int)) = false := decide_eq_false (by omega)
    obtain ⟨x, hx⟩ : ∃ x : S32, x = ⟨k, a, strOfNums l, l, u⟩ := ⟨_, rfl⟩
    have hwx : WfS x := by rw [hx]; exact ⟨hk.1, hk.2, ha.1, ha.2, hu.1, hu.2, by rw [str_size]; omega, by show l.length ≤ _; omega, hY⟩
    have hsx : Sm x ∨ True := .inr trivial
    have HW : Aside0 (∀ y, y ∈ [x, x] → WfS y) := ⟨fun y hy => by simp at hy; rw [hy]; exact hwx⟩
    have hxc : xcells x A c = [.int .i64 k, .int .i64 a, .string (strOfNums l), .slice A n c, .int .u64 u] := by rw [hx]; show [_, _, _, Value.slice A l.length c, _] = _; rw [hn]
    have hx3 : x.f3 = l := by rw [hx]
    have hcv := conv_C (c := c) (show U8.C w A l.length l by rw [hn]; exact hC)
    rw [hn] at hcv
    have htl : (textU [x, x]).length ≤ 100000 := by
      have h1 := itoa_len x.f0 hwx.a0 hwx.a1
      have h2 := itoa_len x.f1 hwx.b0 hwx.b1
      have h3 := dec_short x.f4.toNat (by have := hwx.k0; have := hwx.k1; omega)
      have h4 := hexU_len (bytesOf x.f2)
      have h5 := hexU_len x.f3
      have h6 : x.f2.size = l.length := by rw [hx]; exact str_size l
      rw [bytesOf_length, h6] at h4
      rw [hx3] at h5
      have hll : (lineU x).length ≤ 2000 := by
        unfold lineU
        simp only [List.length_append, h4, hx3, h5]
        show _ + 1 + _ + 1 + _ + 2 + _ + 2 + _ ≤ _
        omega
      have e : (textU [x, x]).length = ((lineU x).length + 1) + ((lineU x).length + 1) := by simp [textU]; omega
      omega
    have HPT := Aside0.mk (prs_text [x, x] 1 HW.out)
    have HX2 : Aside0 (∀ W, Below w.heap.size w W → Kd.C k32 (W.alloc (.cells #[.int .i64 k, .int .i64 a, .string (strOfNums l), .slice A n c, .int .u64 u, .int .i64 k, .int .i64 a, .string (strOfNums l), .slice A n c, .int .u64 u] 32)) (some ⟨W.heap.size, 0, none⟩) 2 [x, x]) := ⟨fun W hb => by
      have h := C32_two W x A c (by rw [hx3, hn]; exact hc) (by rw [hx3, hn]; exact Kd.C_below hC hb)
      rw [hxc] at h
      exact h⟩
    have HPR := Aside0.mk fun (A2 : Option Addr) (c2 : Nat) (W : World) (hb : Below w.heap.size w W) (hc : Kd.C k32 W A2 2 [x, x]) => print_calls A2 c2 2 [x, x] W rfl hc HW.out (by decide) (HT.out.below hb)
    have HTX := Aside0.mk fun (A2 : Option Addr) (c2 : Nat) (W : World) (hc : Kd.C k32 W A2 2 [x, x]) => text_calls A2 c2 2 [x, x] W rfl hc HW.out (by decide)
    obtain ⟨sx, hsx, hsz⟩ := mk_str (textU [x, x])
    have hsd : sx.data.toList = textU [x, x] := by rw [← hsx]
    rw [hsx] at HPR HTX
    have HPA : Aside0 (∀ W, Below w.heap.size w W → Calls Tryd.prog 11 #[.string sx] W fun e w' => (∃ A c, e = .returned (.tuple #[.slice A 2 c, .int .i64 0, .int .i64 0]) ∧ Kd.C k32 w' A 2 [x, x]) ∧ Below W.heap.size W w') := ⟨fun W hb => parse_ok sx (by rw [hsz]; exact htl) W (HT.out.below hb) [x, x] (by rw [hsd]; exact HPT.out)⟩
    obtain ⟨kx, hkx⟩ : ∃ kx, strOfNums l = kx := ⟨_, rfl⟩
    rw [hkx] at hcv HX2
    clear h3 hx hwx hxc hx3 htl hsx hsz hsd hkx hn hC hc hk ha hu hY
    go_enter Tryd.func4, Tryd.ntmps4
    go_upto_region 4 with fail
    have HB0 : Aside0 (Below w.heap.size w (w.alloc (.cells #[.int .i64 k, .int .i64 a, .string kx, .slice A n c, .int .u64 u] 32))) := ⟨(Below.refl _ _).alloc (Nat.le_refl _) _⟩
    have hbk := heap_alloc_new w (.cells #[.int .i64 k, .int .i64 a, .string kx, .slice A n c, .int .u64 u] 32)
    generalize w.alloc (.cells #[.int .i64 k, .int .i64 a, .string kx, .slice A n c, .int .u64 u] 32) = W0 at HB0 hbk ⊢
    obtain ⟨g, hg⟩ : ∃ g, w.heap.size = g := ⟨_, rfl⟩
    rw [hg] at hbk
    have HBK := Aside0.mk hbk
    have y0 : W0.cell? ⟨g, 0, none⟩ = some (.int .i64 k) := (blk_cell hbk 0).trans rfl
    have y1 : W0.cell? ⟨g, 1, none⟩ = some (.int .i64 a) := (blk_cell hbk 1).trans rfl
    have y2 : W0.cell? ⟨g, 2, none⟩ = some (.string kx) := (blk_cell hbk 2).trans rfl
    have y3 : W0.cell? ⟨g, 3, none⟩ = some (.slice A n c) := (blk_cell hbk 3).trans rfl
    have y4 : W0.cell? ⟨g, 4, none⟩ = some (.int .u64 u) := (blk_cell hbk 4).trans rfl
    have HC1 := Aside0.mk (HX2.out W0 HB0.out)
    have HB1 : Aside0 (Below W0.heap.size W0 (W0.alloc (.cells #[.int .i64 k, .int .i64 a, .string kx, .slice A n c, .int .u64 u, .int .i64 k, .int .i64 a, .string kx, .slice A n c, .int .u64 u] 32))) := ⟨(Below.refl _ _).alloc (Nat.le_refl _) _⟩
    obtain ⟨W1, hW1⟩ : ∃ W1, W0.alloc (.cells #[.int .i64 k, .int .i64 a, .string kx, .slice A n c, .int .u64 u, .int .i64 k, .int .i64 a, .string kx, .slice A n c, .int .u64 u] 32) = W1 := ⟨_, rfl⟩
    rw [hW1] at HC1 HB1
    clear hbk hcv
    go_wp2_with fail
    have HB2 : Aside0 (Below w.heap.size w W1) := ⟨HB0.out.trans (HB1.out.mono HB0.out.size)⟩
    refine (HPR.out (some ⟨W0.heap.size, 0, none⟩) 2 W1 HB2.out HC1.out).mono ?_
    rintro e w2 ⟨rfl, hb⟩
    have HB3 : Aside0 (Below w.heap.size w w2) := ⟨HB2.out.trans (hb.mono HB2.out.size)⟩
    have HQ3 : Aside0 (Below W0.heap.size W0 w2) := ⟨HB1.out.trans (hb.mono HB1.out.size)⟩
    clear hb y0 y1 y2 y3 y4 hW1
    go_wp2_with fail
    refine (HPA.out w2 HB3.out).mono ?_
    rintro e w3 ⟨⟨A2, c2, rfl, hC2⟩, hb⟩
    have HB4 : Aside0 (Below w.heap.size w w3) := ⟨HB3.out.trans (hb.mono HB3.out.size)⟩
    have HQ4 : Aside0 (Below W0.heap.size W0 w3) := ⟨HQ3.out.trans (hb.mono HQ3.out.size)⟩
    have HC2 := Aside0.mk hC2
    clear hb hC2
    go_upto_region 5 with fail
    have HC5 : Aside0 (w3.cell? ⟨g, 0, none⟩ = some (.int .i64 k) ∧ w3.cell? ⟨g, 1, none⟩ = some (.int .i64 a) ∧ w3.cell? ⟨g, 2, none⟩ = some (.string kx) ∧ w3.cell? ⟨g, 3, none⟩ = some (.slice A n c) ∧ w3.cell? ⟨g, 4, none⟩ = some (.int .u64 u)) := ⟨by
      have hbk := (HQ4.out.block _ (blk_lt HBK.out)).trans HBK.out
      exact ⟨(blk_cell hbk 0).trans rfl, (blk_cell hbk 1).trans rfl, (blk_cell hbk 2).trans rfl, (blk_cell hbk 3).trans rfl, (blk_cell hbk 4).trans rfl⟩⟩
    refine start_ (n := 20) (S := fun w' => w'.cell? ⟨g, 0, none⟩ = some (.int .i64 k) ∧ w'.cell? ⟨g, 1, none⟩ = some (.int .i64 a) ∧ w'.cell? ⟨g, 2, none⟩ = some (.string kx) ∧ w'.cell? ⟨g, 3, none⟩ = some (.slice A n c) ∧ w'.cell? ⟨g, 4, none⟩ = some (.int .u64 u)) (ds := []) #[false, false, false, false, false, false, false, false, false, false, false, false, false, false, false, false, false, false, false, false] (by kernel_rfl) rfl rfl ⟨HC5.out.1, HC5.out.2.1, HC5.out.2.2.1, HC5.out.2.2.2.1, HC5.out.2.2.2.2⟩ (fun hHeld => ?_)
    obtain ⟨w20, hw20⟩ : ∃ w20, w20 = w3.drew := ⟨_, rfl⟩
    have HB20 : Aside0 (Below w.heap.size w w20) := ⟨by rw [hw20]; exact HB4.out.drew⟩
    have HQ20 : Aside0 (Below w3.heap.size w3 w20) := ⟨by rw [hw20]; exact (Below.refl _ _).drew⟩
    rw [← hw20] at hHeld ⊢
    clear hw20
    refine one_ (i := 0) (N := some 33) #[true, false, false, false, false, false, false, false, false, false, false, false, false, false, false, false, false, false, false, false] rfl rfl (by kernel_rfl) (by decide) (fun K hK => ?_)
    refine goes_ Tryd.func9 (by kernel_rfl) rfl #[] (by rfl) rfl rfl (by simp only [List.map_toArray, List.map_cons, List.map_nil]) ?_
    with_reducible refine (answers_calls _ (HT.out.below HB20.out)).mono ?_
    rintro e w21 ⟨rfl, hb⟩
    refine ⟨_, rfl, ?_⟩
    have HB21 : Aside0 (Below w.heap.size w w21) := ⟨HB20.out.trans (hb.mono HB20.out.size)⟩
    have HQ21 : Aside0 (Below w3.heap.size w3 w21) := ⟨HQ20.out.trans (hb.mono HQ20.out.size)⟩
    clear hb
    refine hK.out _ _ ⟨pw_cell_below HQ21.out HC5.out.1, pw_cell_below HQ21.out HC5.out.2.1, pw_cell_below HQ21.out HC5.out.2.2.1, pw_cell_below HQ21.out HC5.out.2.2.2.1, pw_cell_below HQ21.out HC5.out.2.2.2.2⟩ (fun hHeld => ?_)
    clear hK K
    refine norm_ (a' := ?_) ?_ ?_
    rotate_left
    · show Act.put _ (some 33) _ = _
      simp only [Act.put, List.setIfInBounds_toArray, List.set_cons_zero, List.set_cons_succ, i64_w, i32_w]
      rfl
    refine pure_ (i := 1) (N := some 34) (v := ?_) (a' := ?_) #[true, true, false, false, false, false, false, false, false, false, false, false, false, false, false, false, false, false, false, false] rfl rfl (by kernel_rfl) (fun _ _ _ h => h) (Or.inl ⟨by rfl, ?_⟩) ?_ ?_
    rotate_left
    · intro w'
      go_simp
      with_reducible rfl
    rotate_left
    · simp only [Act.put, List.setIfInBounds_toArray, List.set_cons_zero, List.set_cons_succ, i64_w, i32_w]
      rfl
    refine pure_ (i := 2) (N := some 35) (v := ?_) (a' := ?_) #[true, true, true, false, false, false, false, false, false, false, false, false, false, false, false, false, false, false, false, false] rfl rfl (by kernel_rfl) (fun _ _ _ h => h) (Or.inl ⟨by rfl, ?_⟩) ?_ ?_
    rotate_left
    · intro w'
      go_simp
      with_reducible rfl
    rotate_left
    · simp only [Act.put, List.setIfInBounds_toArray, List.set_cons_zero, List.set_cons_succ, i64_w, i32_w]
      rfl
    refine pure_ (i := 3) (N := some 36) (v := ?_) (a' := ?_) #[true, true, true, true, false, false, false, false, false, false, false, false, false, false, false, false, false, false, false, false] rfl rfl (by kernel_rfl) (fun _ _ _ h => h) (Or.inl ⟨by rfl, ?_⟩) ?_ ?_
    rotate_left
    · intro w'
      go_simp
      with_reducible rfl
    rotate_left
    · simp only [Act.put, List.setIfInBounds_toArray, List.set_cons_zero, List.set_cons_succ, i64_w, i32_w]
      rfl
    refine pure_ (i := 4) (N := some 37) (v := ?_) (a' := ?_) #[true, true, true, true, true, false, false, false, false, false, false, false, false, false, false, false, false, false, false, false] rfl rfl (by kernel_rfl) (fun _ _ _ h => h) (Or.inl ⟨by rfl, ?_⟩) ?_ ?_
    rotate_left
    · intro w'
      go_simp
      with_reducible rfl
    rotate_left
    · simp only [Act.put, List.setIfInBounds_toArray, List.set_cons_zero, List.set_cons_succ, i64_w, i32_w]
      rfl
    refine pure_ (i := 5) (N := some 38) (v := ?_) (a' := ?_) #[true, true, true, true, true, true, false, false, false, false, false, false, false, false, false, false, false, false, false, false] rfl rfl (by kernel_rfl) (fun _ _ _ h => h) (Or.inl ⟨by rfl, ?_⟩) ?_ ?_
    rotate_left
    · intro w'
      go_simp
      with_reducible rfl
    rotate_left
    · simp only [Act.put, List.setIfInBounds_toArray, List.set_cons_zero, List.set_cons_succ, i64_w, i32_w]
      rfl
    refine pure_ (i := 6) (N := some 39) (v := ?_) (a' := ?_) #[true, true, true, true, true, true, true, false, false, false, false, false, false, false, false, false, false, false, false, false] rfl rfl (by kernel_rfl) (fun _ _ _ h => h) (Or.inl ⟨by rfl, ?_⟩) ?_ ?_
    rotate_left
    · intro w'
      go_simp
      with_reducible rfl
    rotate_left
    · simp only [Act.put, List.setIfInBounds_toArray, List.set_cons_zero, List.set_cons_succ, i64_w, i32_w]
      rfl
    refine pure_ (i := 7) (N := some 40) (v := ?_) (a' := ?_) #[true, true, true, true, true, true, true, true, false, false, false, false, false, false, false, false, false, false, false, false] rfl rfl (by kernel_rfl) (fun _ _ _ h => h) (Or.inl ⟨by rfl, ?_⟩) ?_ ?_
    rotate_left
    · intro w'
      go_simp
      with_reducible rfl
    rotate_left
    · simp only [Act.put, List.setIfInBounds_toArray, List.set_cons_zero, List.set_cons_succ, i64_w, i32_w]
      rfl
    refine pure_ (i := 8) (N := some 41) (v := ?_) (a' := ?_) #[true, true, true, true, true, true, true, true, true, false, false, false, false, false, false, false, false, false, false, false] rfl rfl (by kernel_rfl) (fun _ _ _ h => h) (Or.inl ⟨by rfl, ?_⟩) ?_ ?_
    rotate_left
    · intro w'
      go_simp
      with_reducible rfl
    rotate_left
    · simp only [Act.put, List.setIfInBounds_toArray, List.set_cons_zero, List.set_cons_succ, i64_w, i32_w]
      rfl
    refine pure_ (i := 9) (N := some 42) (v := ?_) (a' := ?_) #[true, true, true, true, true, true, true, true, true, true, false, false, false, false, false, false, false, false, false, false] rfl rfl (by kernel_rfl) (fun _ _ _ h => h) (Or.inl ⟨by rfl, ?_⟩) ?_ ?_
    rotate_left
    · intro w'
      go_simp
      with_reducible rfl
    rotate_left
    · simp only [Act.put, List.setIfInBounds_toArray, List.set_cons_zero, List.set_cons_succ, i64_w, i32_w]
      rfl
    refine pure_ (i := 10) (N := some 43) (v := ?_) (a' := ?_) #[true, true, true, true, true, true, true, true, true, true, true, false, false, false, false, false, false, false, false, false] rfl rfl (by kernel_rfl) (fun _ _ _ h => h) (Or.inl ⟨by rfl, ?_⟩) ?_ ?_
    rotate_left
    · intro w'
      go_simp
      with_reducible rfl
    rotate_left
    · simp only [Act.put, List.setIfInBounds_toArray, List.set_cons_zero, List.set_cons_succ, i64_w, i32_w]
      rfl
    refine pure_ (i := 11) (N := some 44) (v := ?_) (a' := ?_) #[true, true, true, true, true, true, true, true, true, true, true, true, false, false, false, false, false, false, false, false] rfl rfl (by kernel_rfl) (fun _ _ _ h => h) (Or.inl ⟨by rfl, ?_⟩) ?_ ?_
    rotate_left
    · intro w'
      go_simp
      with_reducible rfl
    rotate_left
    · simp only [Act.put, List.setIfInBounds_toArray, List.set_cons_zero, List.set_cons_succ, i64_w, i32_w]
      rfl
    refine take_ (i := 13) (N := some 46) (v := ?_) (a' := ?_) #[true, true, true, true, true, true, true, true, true, true, true, true, false, true, false, false, false, false, false, false] rfl rfl (by kernel_rfl) (fun _ _ _ h => h) (Or.inl ⟨by rfl, ?_⟩) hHeld ?_ ?_
    rotate_left
    · rintro w' ⟨s0, s1, s2, s3, s4⟩
      go_simp
      with_reducible rfl
    rotate_left
    · simp only [Act.put, List.setIfInBounds_toArray, List.set_cons_zero, List.set_cons_succ, i64_w, i32_w]
      rfl
    refine take_ (i := 14) (N := some 47) (v := ?_) (a' := ?_) #[true, true, true, true, true, true, true, true, true, true, true, true, false, true, true, false, false, false, false, false] rfl rfl (by kernel_rfl) (fun _ _ _ h => h) (Or.inl ⟨by rfl, ?_⟩) hHeld ?_ ?_
    rotate_left
    · rintro w' ⟨s0, s1, s2, s3, s4⟩
      go_simp
      with_reducible rfl
    rotate_left
    · simp only [Act.put, List.setIfInBounds_toArray, List.set_cons_zero, List.set_cons_succ, i64_w, i32_w]
      rfl
    refine join_ (σ := Nat) 4 #[true, true, true, true, true, true, true, true, true, true, true, true, true, true, true, true, false, false, false, false] (fun s_ => [(45, .string sx), (48, .slice (some ⟨s_, 0, none⟩) 2 2)]) (fun s_ w' => Below w.heap.size w w' ∧ Below w3.heap.size w3 w' ∧ Kd.C k32 w' (some ⟨s_, 0, none⟩) 2 [x, x]) ?_ ?_
    rotate_left
    · intro hCont
      refine two_ (i := 12) (j := 15) (Ni := some 45) (Nj := some 48) #[true, true, true, true, true, true, true, true, true, true, true, true, true, true, true, false, false, false, false, false] #[true, true, true, true, true, true, true, true, true, true, true, true, false, true, true, true, false, false, false, false] rfl rfl rfl rfl (by kernel_rfl) (by decide) (by decide) (fun K hK => ?_) (fun K hK => ?_)
      · skip
        have HB := HB21
        have HQ := HQ21
        refine goes_ Tryd.func10 (by kernel_rfl) rfl #[.slice A2 2 c2] (by rfl) rfl rfl (by simp only [List.map_toArray, List.map_cons, List.map_nil]; rfl) ?_
        with_reducible refine (HTX.out A2 c2 _ (Kd.C_below HC2.out HQ.out)).mono ?_
        rintro e w31 ⟨rfl, hb⟩
        refine ⟨_, rfl, ?_⟩
        have n0_ := Aside0.mk (HB.out.trans (hb.mono HB.out.size))
        clear HB
        have HB := n0_
        clear n0_
        have n0_ := Aside0.mk (HQ.out.trans (hb.mono HQ.out.size))
        clear HQ
        have HQ := n0_
        clear n0_
        clear hb
        refine hK.out _ _ ⟨pw_cell_below HQ.out HC5.out.1, pw_cell_below HQ.out HC5.out.2.1, pw_cell_below HQ.out HC5.out.2.2.1, pw_cell_below HQ.out HC5.out.2.2.2.1, pw_cell_below HQ.out HC5.out.2.2.2.2⟩ (fun hHeld => ?_)
        clear hK K
        refine norm_ (a' := ?_) ?_ ?_
        rotate_left
        · show Act.put _ (some 45) _ = _
          simp only [Act.put, List.setIfInBounds_toArray, List.set_cons_zero, List.set_cons_succ, i64_w, i32_w]
          rfl
        refine one_ (i := 15) (N := some 48) #[true, true, true, true, true, true, true, true, true, true, true, true, true, true, true, true, false, false, false, false] rfl rfl (by kernel_rfl) (by decide) (fun K hK => ?_)
        refine value_ (w1 := ?_) (v := ?_) (by rfl) rfl ?_ ?_
        rotate_left 2
        · go_simp
          constructor
          · rfl
          · rfl
        have HD := Aside0.mk (HX2.out w31 HB.out)
        have hb : Below w31.heap.size w31 (w31.alloc (.cells #[.int .i64 k, .int .i64 a, .string kx, .slice A n c, .int .u64 u, .int .i64 k, .int .i64 a, .string kx, .slice A n c, .int .u64 u] 32)) := (Below.refl _ _).alloc (Nat.le_refl _) _
        generalize w31.alloc (.cells #[.int .i64 k, .int .i64 a, .string kx, .slice A n c, .int .u64 u, .int .i64 k, .int .i64 a, .string kx, .slice A n c, .int .u64 u] 32) = w32 at HD hb ⊢
        have n0_ := Aside0.mk (HB.out.trans (hb.mono HB.out.size))
        clear HB
        have HB := n0_
        clear n0_
        have n0_ := Aside0.mk (HQ.out.trans (hb.mono HQ.out.size))
        clear HQ
        have HQ := n0_
        clear n0_
        clear hb
        generalize w31.heap.size = gd at HD ⊢
        refine hK.out _ _ ⟨pw_cell_below HQ.out HC5.out.1, pw_cell_below HQ.out HC5.out.2.1, pw_cell_below HQ.out HC5.out.2.2.1, pw_cell_below HQ.out HC5.out.2.2.2.1, pw_cell_below HQ.out HC5.out.2.2.2.2⟩ (fun hHeld => ?_)
        clear hK K
        refine norm_ (a' := ?_) ?_ ?_
        rotate_left
        · show Act.put _ (some 48) _ = _
          simp only [Act.put, List.setIfInBounds_toArray, List.set_cons_zero, List.set_cons_succ, i64_w, i32_w]
          rfl
        exact norm_ (by simp only [putAll, Act.put, List.setIfInBounds_toArray, List.set_cons_zero, List.set_cons_succ]) (hCont gd _ ⟨HB.out, HQ.out, HD.out⟩)
      · skip
        have HB := HB21
        have HQ := HQ21
        refine value_ (w1 := ?_) (v := ?_) (by rfl) rfl ?_ ?_
        rotate_left 2
        · go_simp
          constructor
          · rfl
          · rfl
        have HD := Aside0.mk (HX2.out w21 HB.out)
        have hb : Below w21.heap.size w21 (w21.alloc (.cells #[.int .i64 k, .int .i64 a, .string kx, .slice A n c, .int .u64 u, .int .i64 k, .int .i64 a, .string kx, .slice A n c, .int .u64 u] 32)) := (Below.refl _ _).alloc (Nat.le_refl _) _
        generalize w21.alloc (.cells #[.int .i64 k, .int .i64 a, .string kx, .slice A n c, .int .u64 u, .int .i64 k, .int .i64 a, .string kx, .slice A n c, .int .u64 u] 32) = w31 at HD hb ⊢
        have n0_ := Aside0.mk (HB.out.trans (hb.mono HB.out.size))
        clear HB
        have HB := n0_
        clear n0_
        have n0_ := Aside0.mk (HQ.out.trans (hb.mono HQ.out.size))
        clear HQ
        have HQ := n0_
        clear n0_
        clear hb
        generalize w21.heap.size = gd at HD ⊢
        refine hK.out _ _ ⟨pw_cell_below HQ.out HC5.out.1, pw_cell_below HQ.out HC5.out.2.1, pw_cell_below HQ.out HC5.out.2.2.1, pw_cell_below HQ.out HC5.out.2.2.2.1, pw_cell_below HQ.out HC5.out.2.2.2.2⟩ (fun hHeld => ?_)
        clear hK K
        refine norm_ (a' := ?_) ?_ ?_
        rotate_left
        · show Act.put _ (some 48) _ = _
          simp only [Act.put, List.setIfInBounds_toArray, List.set_cons_zero, List.set_cons_succ, i64_w, i32_w]
          rfl
        refine one_ (i := 12) (N := some 45) #[true, true, true, true, true, true, true, true, true, true, true, true, true, true, true, true, false, false, false, false] rfl rfl (by kernel_rfl) (by decide) (fun K hK => ?_)
        refine goes_ Tryd.func10 (by kernel_rfl) rfl #[.slice A2 2 c2] (by rfl) rfl rfl (by simp only [List.map_toArray, List.map_cons, List.map_nil]; rfl) ?_
        with_reducible refine (HTX.out A2 c2 _ (Kd.C_below HC2.out HQ.out)).mono ?_
        rintro e w32 ⟨rfl, hb⟩
        refine ⟨_, rfl, ?_⟩
        have n0_ := Aside0.mk (HB.out.trans (hb.mono HB.out.size))
        clear HB
        have HB := n0_
        clear n0_
        have n0_ := Aside0.mk (HQ.out.trans (hb.mono HQ.out.size))
        clear HQ
        have HQ := n0_
        clear n0_
        have n0_ := Aside0.mk (Kd.C_below HD.out hb)
        clear HD
        have HD := n0_
        clear n0_
        clear hb
        refine hK.out _ _ ⟨pw_cell_below HQ.out HC5.out.1, pw_cell_below HQ.out HC5.out.2.1, pw_cell_below HQ.out HC5.out.2.2.1, pw_cell_below HQ.out HC5.out.2.2.2.1, pw_cell_below HQ.out HC5.out.2.2.2.2⟩ (fun hHeld => ?_)
        clear hK K
        refine norm_ (a' := ?_) ?_ ?_
        rotate_left
        · show Act.put _ (some 45) _ = _
          simp only [Act.put, List.setIfInBounds_toArray, List.set_cons_zero, List.set_cons_succ, i64_w, i32_w]
          rfl
        exact norm_ (by simp only [putAll, Act.put, List.setIfInBounds_toArray, List.set_cons_zero, List.set_cons_succ]) (hCont gd _ ⟨HB.out, HQ.out, HD.out⟩)
    rintro gd w40 ⟨hb0, hb1, hc1⟩
    have HB7 := Aside0.mk hb0
    have HQ7 := Aside0.mk hb1
    have HD7 := Aside0.mk hc1
    clear hb0 hb1 hc1
    refine norm_ (a' := ?_) ?_ ?_
    rotate_left
    · simp only [putAll, Act.put, List.setIfInBounds_toArray, List.set_cons_zero, List.set_cons_succ]
      rfl
    refine one_ (i := 16) (N := some 49) #[true, true, true, true, true, true, true, true, true, true, true, true, true, true, true, true, true, false, false, false] rfl rfl (by kernel_rfl) (by decide) (fun K hK => ?_)
    refine goes_ Tryd.func10 (by kernel_rfl) rfl #[.slice (some ⟨gd, 0, none⟩) 2 2] (by rfl) rfl rfl (by simp only [List.map_toArray, List.map_cons, List.map_nil]; rfl) ?_
    with_reducible refine (HTX.out (some ⟨gd, 0, none⟩) 2 _ HD7.out).mono ?_
    rintro e w41 ⟨rfl, hb⟩
    refine ⟨_, rfl, ?_⟩
    have HB9 : Aside0 (Below w.heap.size w w41) := ⟨HB7.out.trans (hb.mono HB7.out.size)⟩
    have HQ9 : Aside0 (Below w3.heap.size w3 w41) := ⟨HQ7.out.trans (hb.mono HQ7.out.size)⟩
    clear hb
    refine hK.out _ _ ⟨pw_cell_below HQ9.out HC5.out.1, pw_cell_below HQ9.out HC5.out.2.1, pw_cell_below HQ9.out HC5.out.2.2.1, pw_cell_below HQ9.out HC5.out.2.2.2.1, pw_cell_below HQ9.out HC5.out.2.2.2.2⟩ (fun hHeld => ?_)
    clear hK K
    refine norm_ (a' := ?_) ?_ ?_
    rotate_left
    · show Act.put _ (some 49) _ = _
      simp only [Act.put, List.setIfInBounds_toArray, List.set_cons_zero, List.set_cons_succ, i64_w, i32_w]
      rfl
    refine pure_ (i := 17) (N := some 50) (v := ?_) (a' := ?_) #[true, true, true, true, true, true, true, true, true, true, true, true, true, true, true, true, true, true, false, false] rfl rfl (by kernel_rfl) (fun _ _ _ h => h) (Or.inl ⟨by rfl, ?_⟩) ?_ ?_
    rotate_left
    · intro w'
      go_simp
      with_reducible rfl
    rotate_left
    · simp only [Act.put, List.setIfInBounds_toArray, List.set_cons_zero, List.set_cons_succ, i64_w, i32_w]
      rfl
    refine pure_ (i := 18) (N := some 51) (v := ?_) (a' := ?_) #[true, true, true, true, true, true, true, true, true, true, true, true, true, true, true, true, true, true, true, false] rfl rfl (by kernel_rfl) (fun _ _ _ h => h) (Or.inl ⟨by rfl, ?_⟩) ?_ ?_
    rotate_left
    · intro w'
      go_simp
      with_reducible rfl
    rotate_left
    · simp only [Act.put, List.setIfInBounds_toArray, List.set_cons_zero, List.set_cons_succ, i64_w, i32_w]
      rfl
    refine pure_ (i := 19) (N := some 8) (v := ?_) (a' := ?_) #[true, true, true, true, true, true, true, true, true, true, true, true, true, true, true, true, true, true, true, true] rfl rfl (by kernel_rfl) (fun _ _ _ h => h) (Or.inl ⟨by rfl, ?_⟩) ?_ ?_
    rotate_left
    · intro w'
      go_simp
      with_reducible rfl
    rotate_left
    · simp only [Act.put, List.setIfInBounds_toArray, List.set_cons_zero, List.set_cons_succ, i64_w, i32_w]
      rfl
    refine done_ (by kernel_rfl) ?_
    go_wp2_with fail
    go_ret
    exact ⟨rfl, HB9.out⟩
end Go.Proofs.YtganhhhkmcmngaaDoor.Sc
