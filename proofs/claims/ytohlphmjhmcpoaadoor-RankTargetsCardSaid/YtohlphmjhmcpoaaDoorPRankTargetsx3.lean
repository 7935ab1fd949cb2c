-- Written by myprint.py (this session's own driver of the kit's print, with contracts of its own handed in).
import Derived.Test.YtohlphmjhmcpoaaDoorPRankTargetsx0
import Derived.Test.YtohlphmjhmcpoaaDoorPRankTargetsx1
import Derived.Test.YtohlphmjhmcpoaaDoorPRankTargetsx2
namespace Go.Proofs.YtohlphmjhmcpoaaDoor.PRankTargets
open Go.RowKit Go.Proofs.YtohlphmjhmcpoaaDoorW.PrintWords Go.Proofs.YtohlphmjhmcpoaaDoorW.PrintLast Go.Proofs.YtohlphmjhmcpoaaDoorW.PrintMore
attribute [local go_sem] max2_int min2_int max_two min_two max_three min_three max_four min_four   -- for this text's walks alone
set_option linter.unusedVariables false
set_option linter.unusedSimpArgs false

/-! ### rank_Order: function 9, by hand -/
def cmpI (a b : Int) : Int := if a < b then -1 else if b < a then 1 else 0
theorem cmpI_f (a b : Int) : cmp_Compare_int.f a b = some (cmpI a b) := by
  unfold cmp_Compare_int.f cmp_isNaN_int.f cmpI
  simp only [Option.bind_some, bne_self_eq_false]
  rw [if_neg (by decide), if_neg (by decide)]
  by_cases h : a < b
  · rw [if_pos h, if_pos h]
  · rw [if_neg h, if_neg h]
    by_cases h2 : b < a
    · rw [if_pos h2, if_pos h2]
    · rw [if_neg h2, if_neg h2]
theorem cmpU_f (a b : Int) : cmp_Compare_uint64.f a b = some (cmpI a b) := by
  unfold cmp_Compare_uint64.f cmp_isNaN_uint64.f cmpI
  simp only [Option.bind_some, bne_self_eq_false]
  rw [if_neg (by decide), if_neg (by decide)]
  by_cases h : a < b
  · rw [if_pos h, if_pos h]
  · rw [if_neg h, if_neg h]
    by_cases h2 : b < a
    · rw [if_pos h2, if_pos h2]
    · rw [if_neg h2, if_neg h2]
def orI (x y : Int) : Int := if x = 0 then y else x
theorem or_f (x y : Int) : cmp_Or_int.f 5 [x, y] = some (orI x y) := by
  have w1 : wrap64 1 = 1 := by unfold wrap64; omega
  have w2 : wrap64 2 = 2 := by unfold wrap64; omega
  unfold cmp_Or_int.f orI
  simp only [cmp_Or_int.l0, List.length_cons, List.length_nil]
  by_cases hx : x = 0
  · subst hx
    by_cases hy : y = 0
    · subst hy
      simp [rd, w1, w2]
    · simp [rd, w1, w2, hy]
  · simp [rd, hx]
def nearC (x y : Int × Int) : Int := orI (cmpI y.2 x.2) (cmpI x.1 y.1)
theorem lit2_C (W : World) (b : Nat) (x y : Int) (fr : Nat × Nat) (h : W.heap[b]? = some (.cells #[.int .i64 x, .int .i64 y] 3 fr)) : Kd.C (Kd.int .i64) W (some ⟨b, 0, none⟩) ([x, y] : List Int).length [x, y] := by
  refine Kd.C_of_reads (d := (0 : Int)) ⟨rfl, by simp, fun _ => ⟨_, rfl, fun j hj => ?_⟩⟩
  have e : (⟨b, 0, none⟩ : Addr).add j = ⟨b, j, none⟩ := by cases j <;> simp [Addr.add]
  rw [e]
  simp only [World.cell?, h]
  have : j = 0 ∨ j = 1 := by simp at hj; omega
  rcases this with rfl | rfl <;> rfl
theorem blkl (V : World) (o : Obj) (n : Nat) (h : V.heap.size = n) : (V.alloc o).heap[n]? = some o := by subst h; exact blk_new V o
/-- w' is w, further on in its draws, and grown. -/
def Gr (w w' : World) : Prop := ∃ q os, w' = Go.Sort.grow (w.drewN q) os
theorem Gr.refl (w : World) : Gr w w := ⟨0, #[], by simp [Go.Sort.grow, World.drewN]⟩
theorem Gr.alloc {w w' : World} (h : Gr w w') (o : Obj) : Gr w (w'.alloc o) := by
  obtain ⟨q, os, rfl⟩ := h
  exact ⟨q, os ++ #[o], by rw [Go.Sort.alloc_eq_grow, Go.Sort.grow_grow]⟩
theorem Gr.drewN {w w' : World} (h : Gr w w') (n : Nat) : Gr w (w'.drewN n) := by
  obtain ⟨q, os, rfl⟩ := h
  exact ⟨q + n, os, by simp [Go.Sort.grow, World.drewN, Nat.add_assoc]⟩
theorem Gr.drew {w w' : World} (h : Gr w w') : Gr w w'.drew := h.drewN 1
theorem lit_ev {P : Program} {ops : Array Oper} {o : Oper} {a : Act} {Q : Exit → Act → World → Prop} {Kc : Act → World → Prop} {W : World} {x y : Int} (hw : Region.wanted o (yielded ops a.tmps) = true)
    (hrun : (execOp a.eval o).run P W = .ok (.value (.slice (some ⟨W.heap.size, 0, none⟩) 2 2)) (W.alloc (.cells #[.int .i64 x, .int .i64 y] 3)))
    (h : ∀ g w1, w1 = W.alloc (.cells #[.int .i64 x, .int .i64 y] 3) → g = W.heap.size → Kc (a.put o.dst (.slice (some ⟨g, 0, none⟩) 2 2)) w1) : if Region.wanted o (yielded ops a.tmps) = true then Oper.wp P o a W Kc Q else Kc (a.put o.dst undef) W :=
  event_step hw hrun (h _ _ rfl rfl)
set_option maxHeartbeats 8000000 in
set_option maxRecDepth 100000 in
theorem near_grown (a0_0 a0_1 a1_0 a1_1 t126 t127 t131 : Int) (A3 : Aside0 (cmp_Compare_uint64.f a1_1 a0_1 = some t126)) (A4 : Aside0 (cmp_Compare_int.f a0_0 a1_0 = some t127)) (A5 : Aside0 (cmp_Or_int.f 5 [t126, t127] = some t131)) (w : World) :
    Calls Tryd.prog 17 #[.agg #[.int .i64 a0_0, .int .u64 a0_1], .agg #[.int .i64 a1_0, .int .u64 a1_1]] w fun e w' => e = .returned (.int .i64 t131) ∧ Gr w w' := by
  have hu37 := Tryd.underlying37
  go_enter Tryd.func17, Tryd.ntmps17
  go_wp2
  obtain ⟨w7, hw7⟩ : ∃ w7, ((w.alloc (.cells #[.int .i64 a0_0, .int .u64 a0_1] 37)).alloc (.cells #[.int .i64 a1_0, .int .u64 a1_1] 37)) = w7 := ⟨_, rfl⟩
  have BK124 : Aside0 (w7.heap[w.heap.size]? = some (.cells #[.int .i64 a0_0, .int .u64 a0_1] 37 (0, 0))) := ⟨by rw [← hw7]; exact blk_alloc (blk_new _ _) _⟩
  have BK125 : Aside0 (w7.heap[w.heap.size + 1]? = some (.cells #[.int .i64 a1_0, .int .u64 a1_1] 37 (0, 0))) := ⟨by rw [← hw7]; exact blkl _ _ _ (by simp)⟩
  have HB : Aside0 (Gr w w7) := ⟨by rw [← hw7]; exact ((Gr.refl w).alloc _).alloc _⟩
  have hs7 : w7.heap.size = w.heap.size + 2 := by rw [← hw7]; simp
  rw [hw7]
  clear hw7
  have n0_ := Aside0.mk (blk_drew BK124.out)
  have n1_ := Aside0.mk (blk_drew BK125.out)
  have n2_ := Aside0.mk (Gr.drew HB.out)
  clear BK124
  clear BK125
  clear HB
  have BK124 := n0_
  have BK125 := n1_
  have HB := n2_
  clear n0_ n1_ n2_
  refine start_ (n := 13) (S := fun w' => w'.cell? ⟨w.heap.size + 1, 0, none⟩ = some (.int .i64 a1_0) ∧ w'.cell? ⟨w.heap.size + 1, 1, none⟩ = some (.int .u64 a1_1) ∧ w'.cell? ⟨w.heap.size, 0, none⟩ = some (.int .i64 a0_0) ∧ w'.cell? ⟨w.heap.size, 1, none⟩ = some (.int .u64 a0_1)) (ds := []) #[false, false, false, false, false, false, false, false, false, false, false, false, false] (by kernel_rfl) rfl rfl ⟨(blk_cell BK125.out 0).trans rfl, (blk_cell BK125.out 1).trans rfl, (blk_cell BK124.out 0).trans rfl, (blk_cell BK124.out 1).trans rfl⟩ (fun hHeld => ?_); refine with_tabW rank_nearer.tab1 rank_nearer.bits1 (fun HT_ HW_ => ?_)
  generalize w7.drew = w8 at BK124 BK125 HB hHeld ⊢
  refine pure_ (i := 0) (N := some 5) (v := ?_) (a' := ?_) #[true, false, false, false, false, false, false, false, false, false, false, false, false] rfl rfl (any_of HT_.out (by kernel_rfl)) (fun _ _ _ h => h) (Or.inl ⟨by rfl, ?_⟩) ?_ ?_
  rotate_left
  · intro w'
    go_simp
    with_reducible rfl
  rotate_left
  · simp only [Act.put, List.setIfInBounds_toArray, List.set_cons_zero, List.set_cons_succ, i64_w, i32_w]
    rfl
  refine pure_ (i := 2) (N := some 7) (v := ?_) (a' := ?_) #[true, false, true, false, false, false, false, false, false, false, false, false, false] rfl rfl (any_of HT_.out (by kernel_rfl)) (fun _ _ _ h => h) (Or.inl ⟨by rfl, ?_⟩) ?_ ?_
  rotate_left
  · intro w'
    go_simp
    with_reducible rfl
  rotate_left
  · simp only [Act.put, List.setIfInBounds_toArray, List.set_cons_zero, List.set_cons_succ, i64_w, i32_w]
    rfl
  refine pure_ (i := 5) (N := some 10) (v := ?_) (a' := ?_) #[true, false, true, false, false, true, false, false, false, false, false, false, false] rfl rfl (any_of HT_.out (by kernel_rfl)) (fun _ _ _ h => h) (Or.inl ⟨by rfl, ?_⟩) ?_ ?_
  rotate_left
  · intro w'
    go_simp
    with_reducible rfl
  rotate_left
  · simp only [Act.put, List.setIfInBounds_toArray, List.set_cons_zero, List.set_cons_succ, i64_w, i32_w]
    rfl
  refine pure_ (i := 7) (N := some 12) (v := ?_) (a' := ?_) #[true, false, true, false, false, true, false, true, false, false, false, false, false] rfl rfl (any_of HT_.out (by kernel_rfl)) (fun _ _ _ h => h) (Or.inl ⟨by rfl, ?_⟩) ?_ ?_
  rotate_left
  · intro w'
    go_simp
    with_reducible rfl
  rotate_left
  · simp only [Act.put, List.setIfInBounds_toArray, List.set_cons_zero, List.set_cons_succ, i64_w, i32_w]
    rfl
  refine take_ (i := 1) (N := some 6) (v := ?_) (a' := ?_) #[true, true, true, false, false, true, false, true, false, false, false, false, false] rfl rfl (take_ofW HT_.out HW_.out (by kernel_rfl)) (fun _ _ _ h => h) (Or.inl ⟨by rfl, ?_⟩) hHeld ?_ ?_
  rotate_left
  · rintro w' ⟨s0, s1, s2, s3⟩
    go_simp
    with_reducible rfl
  rotate_left
  · simp only [Act.put, List.setIfInBounds_toArray, List.set_cons_zero, List.set_cons_succ, i64_w, i32_w]
    rfl
  refine take_ (i := 3) (N := some 8) (v := ?_) (a' := ?_) #[true, true, true, true, false, true, false, true, false, false, false, false, false] rfl rfl (take_ofW HT_.out HW_.out (by kernel_rfl)) (fun _ _ _ h => h) (Or.inl ⟨by rfl, ?_⟩) hHeld ?_ ?_
  rotate_left
  · rintro w' ⟨s0, s1, s2, s3⟩
    go_simp
    with_reducible rfl
  rotate_left
  · simp only [Act.put, List.setIfInBounds_toArray, List.set_cons_zero, List.set_cons_succ, i64_w, i32_w]
    rfl
  refine take_ (i := 6) (N := some 11) (v := ?_) (a' := ?_) #[true, true, true, true, false, true, true, true, false, false, false, false, false] rfl rfl (take_ofW HT_.out HW_.out (by kernel_rfl)) (fun _ _ _ h => h) (Or.inl ⟨by rfl, ?_⟩) hHeld ?_ ?_
  rotate_left
  · rintro w' ⟨s0, s1, s2, s3⟩
    go_simp
    with_reducible rfl
  rotate_left
  · simp only [Act.put, List.setIfInBounds_toArray, List.set_cons_zero, List.set_cons_succ, i64_w, i32_w]
    rfl
  refine take_ (i := 8) (N := some 13) (v := ?_) (a' := ?_) #[true, true, true, true, false, true, true, true, true, false, false, false, false] rfl rfl (take_ofW HT_.out HW_.out (by kernel_rfl)) (fun _ _ _ h => h) (Or.inl ⟨by rfl, ?_⟩) hHeld ?_ ?_
  rotate_left
  · rintro w' ⟨s0, s1, s2, s3⟩
    go_simp
    with_reducible rfl
  rotate_left
  · simp only [Act.put, List.setIfInBounds_toArray, List.set_cons_zero, List.set_cons_succ, i64_w, i32_w]
    rfl
  refine one_ (i := 4) (N := some 9) #[true, true, true, true, true, true, true, true, true, false, false, false, false] rfl rfl (one_of HT_.out (by kernel_rfl)) (by decide) (fun K hK => ?_)
  refine goes_ Tryd.func28 (by kernel_rfl) rfl #[.int .u64 a1_1, .int .u64 a0_1] (by rfl) rfl rfl (by (try simp only [List.map_toArray, List.map_cons, List.map_nil]); first | done | rfl | (simp only [List.length_drop, List.length_take]; rfl)) ?_
  with_reducible refine (cmp_Compare_uint64.calls a1_1 a0_1 t126 _ A3.out).mono ?_
  rintro e w' ⟨rfl, ⟨nd, rfl⟩⟩
  refine ⟨_, rfl, ?_⟩
  refine hK.out _ _ ⟨(blk_cell BK125.out 0).trans rfl, (blk_cell BK125.out 1).trans rfl, (blk_cell BK124.out 0).trans rfl, (blk_cell BK124.out 1).trans rfl⟩ (fun hHeld => ?_)
  clear hK K
  refine norm_ (a' := ?_) ?_ ?_
  rotate_left
  · show Act.put _ (some 9) _ = _
    simp only [Act.put, List.setIfInBounds_toArray, List.set_cons_zero, List.set_cons_succ, i64_w, i32_w]
    rfl
  refine one_ (i := 9) (N := some 14) #[true, true, true, true, true, true, true, true, true, true, false, false, false] rfl rfl (one_of HT_.out (by kernel_rfl)) (by decide) (fun K hK => ?_)
  refine goes_ Tryd.func29 (by kernel_rfl) rfl #[.int .i64 a0_0, .int .i64 a1_0] (by rfl) rfl rfl (by (try simp only [List.map_toArray, List.map_cons, List.map_nil]); first | done | rfl | (simp only [List.length_drop, List.length_take]; rfl)) ?_
  with_reducible refine (cmp_Compare_int.calls a0_0 a1_0 t127 _ A4.out).mono ?_
  rintro e w' ⟨rfl, ⟨nd, rfl⟩⟩
  refine ⟨_, rfl, ?_⟩
  refine hK.out _ _ ⟨(blk_cell BK125.out 0).trans rfl, (blk_cell BK125.out 1).trans rfl, (blk_cell BK124.out 0).trans rfl, (blk_cell BK124.out 1).trans rfl⟩ (fun hHeld => ?_)
  clear hK K
  refine norm_ (a' := ?_) ?_ ?_
  rotate_left
  · show Act.put _ (some 14) _ = _
    simp only [Act.put, List.setIfInBounds_toArray, List.set_cons_zero, List.set_cons_succ, i64_w, i32_w]
    rfl
  refine one_ (i := 10) (N := some 15) #[true, true, true, true, true, true, true, true, true, true, true, false, false] rfl rfl (one_of HT_.out (by kernel_rfl)) (by decide) (fun K hK => ?_)
  refine lit_ev (x := t126) (y := t127) ?hg ?hr ?_
  case hg => rfl
  case hr => first | (go_simp; done) | (go_simp; rfl)
  intro g9 w9 hw9 hg9
  have n1_ : Aside0 (w9.heap[w.heap.size]? = some (.cells #[.int .i64 a0_0, .int .u64 a0_1] 37 (0, 0))) := ⟨by rw [hw9]; refine blk_alloc ?_ _; (with_reducible repeat (first | refine blk_drewN ?_ _ | refine blk_drew ?_)); exact BK124.out⟩
  have n2_ : Aside0 (w9.heap[w.heap.size + 1]? = some (.cells #[.int .i64 a1_0, .int .u64 a1_1] 37 (0, 0))) := ⟨by rw [hw9]; refine blk_alloc ?_ _; (with_reducible repeat (first | refine blk_drewN ?_ _ | refine blk_drew ?_)); exact BK125.out⟩
  have n3_ : Aside0 (Gr w w9) := ⟨by rw [hw9]; refine Gr.alloc ?_ _; (with_reducible repeat (first | refine Gr.drewN ?_ _ | refine Gr.drew ?_)); exact HB.out⟩
  have HC9 : Aside0 (Kd.C (Kd.int .i64) w9 (some ⟨g9, 0, none⟩) ([t126, t127] : List Int).length [t126, t127]) := ⟨by rw [hw9, hg9]; exact lit2_C _ _ _ _ (0, 0) (blk_new _ _)⟩
  clear BK124 BK125 HB hw9
  have BK124 := n1_
  have BK125 := n2_
  have HB := n3_
  clear n1_ n2_ n3_
  refine hK.out _ _ ⟨(blk_cell BK125.out 0).trans rfl, (blk_cell BK125.out 1).trans rfl, (blk_cell BK124.out 0).trans rfl, (blk_cell BK124.out 1).trans rfl⟩ (fun hHeld => ?_)
  clear hK K
  refine norm_ (a' := ?_) ?_ ?_
  rotate_left
  · show Act.put _ (some 15) _ = _
    simp only [Act.put, List.setIfInBounds_toArray, List.set_cons_zero, List.set_cons_succ, i64_w, i32_w]
    rfl
  refine one_ (i := 11) (N := some 16) #[true, true, true, true, true, true, true, true, true, true, true, true, false] rfl rfl (one_of HT_.out (by kernel_rfl)) (by decide) (fun K hK => ?_)
  refine goes_ Tryd.func27 (by kernel_rfl) rfl #[.slice (some ⟨g9, 0, none⟩) 2 2] (by rfl) rfl rfl (by (try simp only [List.map_toArray, List.map_cons, List.map_nil]); first | done | rfl | (simp only [List.length_drop, List.length_take]; rfl)) ?_
  have hOr : Calls Tryd.prog 27 #[.slice (some ⟨g9, 0, none⟩) 2 2] w9 _ := cmp_Or_int.calls 5 (some ⟨g9, 0, none⟩) 2 [t126, t127] t131 w9 HC9.out (Nat.le_refl _) A5.out
  refine hOr.mono ?_
  rintro e w' ⟨rfl, ⟨nd, rfl⟩⟩
  refine ⟨_, rfl, ?_⟩
  refine hK.out _ _ ⟨(blk_cell BK125.out 0).trans rfl, (blk_cell BK125.out 1).trans rfl, (blk_cell BK124.out 0).trans rfl, (blk_cell BK124.out 1).trans rfl⟩ (fun hHeld => ?_)
  clear hK K
  refine norm_ (a' := ?_) ?_ ?_
  rotate_left
  · show Act.put _ (some 16) _ = _
    simp only [Act.put, List.setIfInBounds_toArray, List.set_cons_zero, List.set_cons_succ, i64_w, i32_w]
    rfl
  refine pure_ (i := 12) (N := some 4) (v := ?_) (a' := ?_) #[true, true, true, true, true, true, true, true, true, true, true, true, true] rfl rfl (any_of HT_.out (by kernel_rfl)) (fun _ _ _ h => h) (Or.inl ⟨by rfl, ?_⟩) ?_ ?_
  rotate_left
  · intro w'
    go_simp
    with_reducible rfl
  rotate_left
  · simp only [Act.put, List.setIfInBounds_toArray, List.set_cons_zero, List.set_cons_succ, i64_w, i32_w]
    rfl
  refine done_ (done_of HT_.out (by kernel_rfl)) ?_
  try go_wp2
  go_ret
  exact ⟨rfl, by (with_reducible repeat (first | refine Gr.drewN ?_ _ | refine Gr.drew ?_)); exact HB.out⟩
theorem near_calls (x y : Int × Int) (W : World) : Calls Tryd.prog 17 #[.agg #[.int .i64 x.1, .int .u64 x.2], .agg #[.int .i64 y.1, .int .u64 y.2]] W fun e w' => e = .returned (.int .i64 (nearC x y)) ∧ ∃ q os', w' = Go.Sort.grow (W.drewN q) os' :=
  near_grown x.1 x.2 y.1 y.2 (cmpI y.2 x.2) (cmpI x.1 y.1) (nearC x y) ⟨cmpU_f _ _⟩ ⟨cmpI_f _ _⟩ ⟨or_f _ _⟩ W
def renS : Go.Shelf.Ren := ⟨fun | 6 => 16 | 15 => 26 | 14 => 25 | 28 => 40 | 29 => 41 | 20 => 32 | 21 => 33 | 22 => 34 | 23 => 35 | 24 => 36 | 25 => 37 | 26 => 38 | 27 => 39 | 46 => 46 | 47 => 47 | 48 => 48 | 49 => 49 | 50 => 50 | 57 => 52 | x => x, fun | 22 => 35 | 24 => 37 | 25 => 39 | 39 => 48 | 53 => 52 | 55 => 31 | 46 => 60 | 45 => 59 | 50 => 64 | 66 => 72 | 70 => 76 | 76 => 79 | 77 => 80 | x => x, fun x => x⟩
theorem sortL : Go.Proofs.SlLaysF0.n6 Tryd.prog renS := by
  constructor
  case f6 => exact ⟨ "slices.SortFunc[[]flitting/rank.near,flitting/rank.near]", by decide, by kernel_rfl⟩
  case f14 => exact ⟨ "slices.pdqsortCmpFunc[flitting/rank.near]", by decide, by kernel_rfl⟩
  case f20 => exact ⟨ "slices.insertionSortCmpFunc[flitting/rank.near]", by decide, by kernel_rfl⟩
  case f21 => exact ⟨ "slices.heapSortCmpFunc[flitting/rank.near]", by decide, by kernel_rfl⟩
  case f22 => exact ⟨ "slices.breakPatternsCmpFunc[flitting/rank.near]", by decide, by kernel_rfl⟩
  case f23 => exact ⟨ "slices.choosePivotCmpFunc[flitting/rank.near]", by decide, by kernel_rfl⟩
  case f24 => exact ⟨ "slices.reverseRangeCmpFunc[flitting/rank.near]", by decide, by kernel_rfl⟩
  case f25 => exact ⟨ "slices.partialInsertionSortCmpFunc[flitting/rank.near]", by decide, by kernel_rfl⟩
  case f26 => exact ⟨ "slices.partitionEqualCmpFunc[flitting/rank.near]", by decide, by kernel_rfl⟩
  case f27 => exact ⟨ "slices.partitionCmpFunc[flitting/rank.near]", by decide, by kernel_rfl⟩
  case f46 => exact ⟨ "slices.siftDownCmpFunc[flitting/rank.near]", by decide, by kernel_rfl⟩
  case f49 => exact ⟨ "slices.medianAdjacentCmpFunc[flitting/rank.near]", by decide, by kernel_rfl⟩
  case f50 => exact ⟨ "slices.medianCmpFunc[flitting/rank.near]", by decide, by kernel_rfl⟩
  case f57 => exact ⟨ "slices.order2CmpFunc[flitting/rank.near]", by decide, by kernel_rfl⟩
  all_goals first | kernel_rfl | (intro w; kernel_rfl)
def encN (x : Int × Int) : List Value := [.int .i64 x.1, .int .u64 x.2]
theorem aggN : ∀ w, (isAgg (renS.t 24)).run Tryd.prog w = .ok true w := fun w => by kernel_rfl
theorem sizeN : ∀ w, (Go.sizeOf (renS.t 24)).run Tryd.prog w = .ok 2 w := fun w => by kernel_rfl
theorem infoN : (Tryd.prog.info? 37).map (fun i => (i.zero, i.size, i.bytes)) = some (some (.agg #[.int .i64 0, .int .u64 0]), 2, 16) := by kernel_rfl
theorem nearC_neg (x y : Int × Int) : nearC x y < 0 ↔ y.2 < x.2 ∨ (y.2 = x.2 ∧ x.1 < y.1) := by
  unfold nearC orI cmpI
  by_cases h1 : y.2 < x.2
  · simp [h1]
  · by_cases h2 : x.2 < y.2
    · have h3 : ¬ y.2 = x.2 := by omega
      simp [h1, h2, h3]
    · have h3 : y.2 = x.2 := by omega
      by_cases h4 : x.1 < y.1
      · simp [h1, h2, h3, h4]
      · by_cases h5 : y.1 < x.1 <;> simp [h1, h2, h3, h4, h5]
theorem ltN (x y : Int × Int) : Go.Proofs.ltOf nearC x y = decide (y.2 < x.2 ∨ (y.2 = x.2 ∧ x.1 < y.1)) := by
  unfold Go.Proofs.ltOf
  exact decide_eq_decide.2 (nearC_neg x y)
theorem swoN : Go.Sort.SWO (Go.Proofs.ltOf nearC) where
  irrefl x := by rw [ltN]; simp
  trans x y z h1 h2 := by rw [ltN] at *; simp at *; omega
  ntrans x y z h1 h2 := by rw [ltN] at *; simp at *; omega
theorem totN (x y : Int × Int) (h1 : Go.Proofs.ltOf nearC x y = false) (h2 : Go.Proofs.ltOf nearC y x = false) : x = y := by
  rw [ltN] at *
  simp at h1 h2
  apply Prod.ext <;> omega
def sortN (l : List (Int × Int)) : List (Int × Int) := l.mergeSort fun x y => !(Go.Proofs.ltOf nearC) y x
theorem sortN_length (l : List (Int × Int)) : (sortN l).length = l.length := List.length_mergeSort _
def wOf (s d : Int) : Int := (hash_Weight.f 100 s d).getD 0
def nears (s : Int) (l : List Int) : List (Int × Int) := l.map fun d => (d, wOf s d)
def orderF (s : Int) (l : List Int) : List Int := (sortN (nears s l)).map (·.1)
theorem flatN : ∀ (xs : List (Int × Int)) (t : Nat), t < xs.length * 2 → (xs.flatMap encN)[t]? = some ((encN xs.toArray[t / 2]!)[t % 2]!) := by
  intro xs
  induction xs with
  | nil => intro t ht; simp at ht
  | cons x xs ih =>
    intro t ht
    match t, ht with
    | 0, _ => simp [encN]
    | 1, _ => simp [encN]
    | t + 2, ht =>
      have h := ih t (by simp at ht; omega)
      have e1 : (t + 2) / 2 = t / 2 + 1 := by omega
      have e2 : (t + 2) % 2 = t % 2 := by omega
      rw [e1, e2]
      have e3 : ((x :: xs).flatMap encN)[t + 2]? = (xs.flatMap encN)[t]? := by simp [encN]
      rw [e3, h]
      have hlt : t / 2 < xs.length := by simp at ht; omega
      simp [hlt]
theorem holdsN {W : World} {B : Nat} {v : Value} {xs : List (Int × Int)} (hn : 0 < xs.length) (h : W.ownsRow B 37 2 v xs.length (xs.flatMap encN)) : ∃ g c, v = .slice (some ⟨g, 0, none⟩) xs.length c ∧ B ≤ g ∧ g < W.heap.size ∧ xs.length ≤ c ∧ Go.Sort.HoldsK encN 2 W g 0 xs.toArray := by
  rcases h.2 with ⟨_, h0⟩ | ⟨g, cap, cur, rfl, hg, hh, hnc, hcap, hsz, htk⟩
  · omega
  · refine ⟨g, cap, rfl, hg, (Array.getElem?_eq_some_iff.1 hh).1, by simpa using hnc, fun j hj => ?_⟩
    have hj2 : j < xs.length * 2 := by simpa [Go.Sort.size_flatK] using hj
    have h3 := congrArg (fun l => l[j]?) htk
    simp only [List.getElem?_take, if_pos hj2] at h3
    rw [flatN xs j hj2] at h3
    have hjs : j < cur.size := by
      have := (List.getElem?_eq_some_iff.1 h3).1
      simpa using this
    have hc : W.cell? ⟨g, j, none⟩ = some ((encN xs.toArray[j / 2]!)[j % 2]!) := by
      simp only [World.cell?, hh]
      simpa using h3
    have hf : W.frozen? ⟨g, j, none⟩ = false := by simp [World.frozen?, hh]
    rw [Nat.zero_add]
    refine ⟨?_, hf⟩
    rw [hc]
    simp [Go.Sort.flatK, hj2]
theorem getN {W : World} {g : Nat} {ys : List (Int × Int)} (h : Go.Sort.HoldsK encN 2 W g 0 ys.toArray) {q : Nat} (hq : q < ys.length) : W.cell? ⟨g, q * 2, none⟩ = some (.int .i64 (ys.getD q (0, 0)).1) ∧ W.cell? ⟨g, q * 2 + 1, none⟩ = some (.int .u64 (ys.getD q (0, 0)).2) := by
  have e : ys.toArray[q]! = ys.getD q (0, 0) := by simp [hq]
  have h0 := (h (q * 2) (by simp [Go.Sort.size_flatK]; omega)).1
  have h1 := (h (q * 2 + 1) (by simp [Go.Sort.size_flatK]; omega)).1
  rw [Nat.zero_add] at h0 h1
  rw [h0, h1]
  have e0 : q * 2 / 2 = q := by omega
  have e1 : (q * 2 + 1) / 2 = q := by omega
  have e2 : q * 2 % 2 = 0 := by omega
  have e3 : (q * 2 + 1) % 2 = 1 := by omega
  have g0 : (Go.Sort.flatK encN 2 ys.toArray)[q * 2]! = (encN ys.toArray[q]!)[0]! := by
    have hl : q * 2 < ys.length * 2 := by omega
    simp [Go.Sort.flatK, hl, e0, e2]
  have g1 : (Go.Sort.flatK encN 2 ys.toArray)[q * 2 + 1]! = (encN ys.toArray[q]!)[1]! := by
    have hl : q * 2 + 1 < ys.length * 2 := by omega
    simp [Go.Sort.flatK, hl, e1, e3]
  rw [g0, g1, e]
  exact ⟨rfl, rfl⟩
theorem below_sorted {B g m : Nat} {w0 W : World} {ys : Array (Int × Int)} {os : Array Obj} (h : Below B w0 W) (hB : B ≤ g) (hg : g < W.heap.size) : Below B w0 (Go.Proofs.sortWorldK encN 2 W g 0 m ys os) := by
  have hsz : (Go.Sort.putRowK encN 2 (Go.Sort.ahead W m) g 0 ys).heap.size = W.heap.size := by rw [Go.Sort.size_putRowK]; rfl
  refine h.trans ⟨rfl, rfl, rfl, ?_, fun k hk => ?_⟩
  · show W.heap.size ≤ (Go.Sort.grow (Go.Sort.putRowK encN 2 (Go.Sort.ahead W m) g 0 ys) os).heap.size
    rw [Go.Sort.size_grow, hsz]
    exact Nat.le_add_right _ _
  · show ((Go.Sort.putRowK encN 2 (Go.Sort.ahead W m) g 0 ys).heap ++ os)[k]? = W.heap[k]?
    rw [Array.getElem?_append_left (by rw [hsz]; omega)]
    show (W.heap.modify g _)[k]? = W.heap[k]?
    rw [Array.getElem?_modify, if_neg (by omega)]
theorem sortN_calls (g c : Nat) (xs : List (Int × Int)) (W : World) (hlt : g < W.heap.size) (hsz : xs.length ≤ 1048576) (hH : Go.Sort.HoldsK encN 2 W g 0 xs.toArray) :
    Calls Tryd.prog 16 #[.slice (some ⟨g, 0, none⟩) xs.length c, .func (.func 17) #[] #[]] W fun e w' => e = .returned (.tuple #[]) ∧ Go.Sort.HoldsK encN 2 w' g 0 (sortN xs).toArray ∧ g < w'.heap.size ∧ ∀ B w0, B ≤ g → Below B w0 W → Below B w0 w' := by
  have eg : ∀ args w, (callFunc 17 args).run Tryd.prog w = .ok (.enter 17 args) w := enters_of Tryd.func17 (by kernel_rfl) rfl
  have h := Go.Proofs.AnyQ.slices_SortFunc_total sortL 2 aggN sizeN encN (fun _ => rfl) (fun x v hv => by simp [encN] at hv; rcases hv with rfl | rfl <;> rfl) nearC swoN 17 #[] g 0 c xs.toArray W eg (fun _ _ _ _ x y => near_calls x y _) hH hlt (by simp; omega) totN
  refine Calls.mono h ?_
  rintro e w' ⟨rfl, n, os, rfl⟩
  refine ⟨rfl, ?_, ?_, fun B w0 hB hb => below_sorted hb hB hlt⟩
  · exact Go.Sort.holdsK_grow encN 2 _ os g 0 _ (by rw [Go.Sort.size_putRowK]; exact hlt) (Go.Sort.holdsK_putRowK encN 2 _ g 0 _ _ (Go.Sort.holdsK_ahead encN 2 _ n g 0 _ hH) (by simp [sortN]))
  · show g < (Go.Sort.grow (Go.Sort.putRowK encN 2 (Go.Sort.ahead W n) g 0 _) os).heap.size
    rw [Go.Sort.size_grow, Go.Sort.size_putRowK]
    exact Nat.lt_of_lt_of_le hlt (Nat.le_add_right _ _)
theorem rep_one (x : Int × Int) : ∀ u ∈ encN x, u.oneCell' = true := fun u hu => by
  simp [encN] at hu
  rcases hu with rfl | rfl <;> rfl
theorem own_belowN {w w1 : World} {base n : Nat} {v : Value} {xs : List Value} (h : w.ownsRow base 37 2 v n xs) (hb : Below w.heap.size w w1) : w1.ownsRow base 37 2 v n xs := by
  refine ⟨h.1, ?_⟩
  rcases h.2 with ⟨h1, h2⟩ | ⟨g, cap, cur, h1, hg, hh, h3⟩
  · exact .inl ⟨h1, h2⟩
  · exact .inr ⟨g, cap, cur, h1, hg, (hb.block g (Array.getElem?_eq_some_iff.1 hh).1).trans hh, h3⟩
theorem keepN {W w1 : World} {g : Nat} {ys : Array (Int × Int)} {row : Option Nat} (h : Go.Sort.HoldsK encN 2 W g 0 ys) (hg : g < W.heap.size) (hgr : W.grownBy w1 row) (hne : some g ≠ row) : Go.Sort.HoldsK encN 2 w1 g 0 ys ∧ g < w1.heap.size := by
  have hb := hgr.block g hg hne
  refine ⟨fun j hj => ?_, Nat.lt_of_lt_of_le hg hgr.size⟩
  obtain ⟨h1, h2⟩ := h j hj
  exact ⟨(World.cell?_of_block hb).trans h1, (World.frozen?_of_block hb).trans h2⟩
theorem holdsN_alloc {W : World} {g : Nat} {ys : Array (Int × Int)} (h : Go.Sort.HoldsK encN 2 W g 0 ys) (hg : g < W.heap.size) (o : Obj) : Go.Sort.HoldsK encN 2 (W.alloc o) g 0 ys := by
  rw [Go.Sort.alloc_eq_grow]
  exact Go.Sort.holdsK_grow encN 2 _ _ g 0 _ hg h
def rank_Order.f (a0 : Int) (l1 : List Int) : Option (List Int) := if l1.length ≤ 1048576 ∧ ∀ d ∈ l1, (hash_Weight.f 100 a0 d).isSome = true then some (orderF a0 l1) else none
set_option maxRecDepth 100000 in
set_option maxHeartbeats 2000000 in
theorem rank_Order.calls (a0 : Int) (A1 : Option Addr) (c1 : Nat) (l1 : List Int) (r : List Int) (w : World) (hr1 : Kd.C (Kd.int .i64) w A1 l1.length l1) (hc1 : l1.length ≤ c1) (hT : Tab w) (h : rank_Order.f a0 l1 = some r) :
    Calls Tryd.prog 9 #[.int .i64 a0, .slice A1 l1.length c1] w fun e w' => ∃ v0_ : Value, e = .returned (v0_) ∧ Kd.R (Kd.int .i64) 3 w' w.heap.size (fun _ => True) v0_ r ∧ Below w.heap.size w w' := by
  unfold rank_Order.f at h
  split at h
  case isFalse => cases h
  rename_i hh
  obtain ⟨hl, hall⟩ := hh
  have hr := Option.some.inj h
  clear h
  have HR := Aside0.mk (Kd.reads_of_C (enc := Value.int .i64) (d := (0 : Int)) (h1 := fun _ => rfl) hr1)
  have HT := Aside0.mk hT
  have HW : Aside0 (∀ q, q < l1.length → hash_Weight.f 100 a0 (l1.getD q 0) = some (wOf a0 (l1.getD q 0))) := ⟨fun q hq => by
    have e : l1.getD q 0 = l1[q] := by simp [hq]
    rw [e]
    obtain ⟨x, hx⟩ := Option.isSome_iff_exists.1 (hall l1[q] (List.getElem_mem hq))
    unfold wOf
    rw [hx]
    rfl⟩
  have HX := Aside0.mk hr
  generalize hn : l1.length = n at *
  have HN := Aside0.mk hn
  clear hr1 hT hall hn hr
  have hu37 := Tryd.underlying37
  go_enter Tryd.func9, Tryd.ntmps9
  go_wp2
  go_loopw [5, 13] (fun v i wr => ∃ (q : Nat) (A : Option Addr) (c : Nat), q ≤ n ∧ i = .int .i64 q ∧ v = .slice A q c ∧ Aside0 (wr.ownsRow w.heap.size 37 2 (.slice A q c) q ((nears a0 (l1.take q)).flatMap encN)) ∧ Aside0 (Below w.heap.size w wr)) (fun _ i _ => n - (intOf i).toNat)
  case atStart => exact ⟨0, none, 0, Nat.zero_le _, rfl, rfl, ⟨own_nil _ _ _ _⟩, ⟨Below.refl _ _⟩⟩
  case round =>
    obtain ⟨q, A, c, hq, rfl, rfl, hown, hb⟩ := hrel
    by_cases hlt : q < n
    · have hd : decide (q < n) = true := decide_eq_true hlt
      obtain ⟨ad, hA, hcs⟩ := HR.out.2.2 (by omega)
      have hcq := pw_cell_below hb.out (hcs q hlt)
      subst hA
      have HWq := Aside0.mk (HW.out q hlt)
      have hstep : nears a0 (l1.take (q + 1)) = nears a0 (l1.take q) ++ [(l1.getD q 0, wOf a0 (l1.getD q 0))] := by
        have hq1 : q < l1.length := by rw [HN.out]; exact hlt
        have e : l1.getD q 0 = l1[q] := by simp [hq1]
        rw [List.take_succ_eq_append_getElem hq1, e]
        unfold nears
        rw [List.map_append]
        rfl
      have HS := Aside0.mk hstep
      clear hstep hcs
      generalize l1.getD q 0 = x at *
      generalize wOf a0 x = y at *
      have HTr : Aside0 (Tab wr) := ⟨Tab.below HT.out hb.out⟩
      go_wp2_with (first | (go_at_call 15; refine (hash_Weight.calls 100 a0 x y _ HTr.out HWq.out).mono ?_; rintro e w3 ⟨rfl, hb3⟩; have HB3 := Aside0.mk (hb.out.trans (hb3.mono hb.out.size)); have HO3 := Aside0.mk (own_belowN hown.out hb3); clear hb3) | ((with_reducible refine gate_builtin (b := .append) (xs := #[.tmp 17, .tmp 23]) rfl ?_); at_builtin; refine print_append_cells w.heap.size rfl (.tmp 17) (.tmp 23) 35 37 (.agg #[.int .i64 0, .int .u64 0]) 2 16 rfl Tryd.underlying35 infoN rfl (by decide) (by decide) (.slice A q c) q ((nears a0 (l1.take q)).flatMap encN) (encN (x, y)) rfl rfl rfl (rep_one _) HO3.out HB3.out HB3.out.size (by omega) ?_; intro v5 w5 ho5 hb5 _ _; obtain ⟨A5, c5, e5⟩ := own_slice ho5; subst e5; have HO5 := Aside0.mk ho5; have HB5 := Aside0.mk hb5; clear ho5 hb5))
      go_roundw
      case rel => exact ⟨q + 1, A5, c5, by omega, by go_num, rfl, ⟨by rw [HS.out, List.flatMap_append]; simpa using HO5.out⟩, HB5⟩
      case measure => simp [intOf]; omega
    · obtain rfl : q = n := by omega
      have hd : decide (q < q) = false := decide_eq_false (Nat.lt_irrefl q)
      have htk : l1.take q = l1 := List.take_of_length_le (by rw [HN.out]; exact Nat.le_refl _)
      rw [htk] at hown
      have hlenN : (nears a0 l1).length = q := by rw [nears, List.length_map, HN.out]
      have HLN := Aside0.mk hlenN
      have hbw := hb.out
      by_cases h0 : q = 0
      · subst h0
        have hnil : orderF a0 l1 = [] := by
          have : l1 = [] := List.eq_nil_of_length_eq_zero HN.out
          rw [this]
          simp [orderF, nears, sortN]
        have HE : Aside0 (r = []) := ⟨by rw [← HX.out, hnil]⟩
        have hN := Go.Proofs.AnyF.slices_SortFunc_none (P := Tryd.prog) sortL A c (.func (.func 17) #[] #[])
        have HNo : Aside0 (∀ W, Calls Tryd.prog 16 #[.slice A 0 c, .func (.func 17) #[] #[]] W fun e w' => e = .returned (.tuple #[]) ∧ w' = W) := ⟨hN⟩
        clear hN
        go_wp2_with (go_at_call 16; refine (HNo.out _).mono ?_; rintro e w4 ⟨rfl, rfl⟩)
        go_loopw [8, 30] (fun v i wr => v = .slice none 0 0 ∧ i = .int .i64 0 ∧ wr = w4) (fun _ _ _ => 0)
        case atStart => exact ⟨rfl, rfl, rfl⟩
        case round =>
          obtain ⟨rfl, rfl, rfl⟩ := hrel
          go_wp2
          go_ret
          exact ⟨_, rfl, by rw [HE.out]; exact Kd.R_nil _ _ _ _ _, hbw⟩
      · have hown2 := hown.out
        rw [← HLN.out] at hown2
        obtain ⟨g, c2, e2, hgB, hgl, hgc, hH⟩ := holdsN (by rw [HLN.out]; omega) hown2
        rw [HLN.out] at e2 hgc
        injection e2 with e2a e2b e2c
        subst e2a e2c
        have hS := sortN_calls g c (nears a0 l1) wr hgl (by rw [HLN.out]; exact hl) hH
        rw [HLN.out] at hS
        have HSo := Aside0.mk hS
        have hsl : (sortN (nears a0 l1)).length = q := by rw [sortN_length, HLN.out]
        have HSL := Aside0.mk hsl
        have hq0 : 0 < q := by omega
        clear hS hsl hH hown2 hown h0
        go_wp2_with (go_at_call 16; refine HSo.out.mono ?_; rintro e w4 ⟨rfl, hH4, hg4, hB4⟩; have HB4 := Aside0.mk (hB4 w.heap.size w hgB hbw); have HH4 := Aside0.mk hH4; clear hB4 hH4)
        have hOF : (sortN (nears a0 l1)).map (·.1) = r := HX.out
        have HX2 := Aside0.mk hOF
        clear hOF
        generalize sortN (nears a0 l1) = ys at *
        go_loopw [8, 30] (fun v i wx => ∃ (p : Nat) (A : Option Addr) (c3 : Nat), p ≤ q ∧ i = .int .i64 p ∧ v = .slice A p c3 ∧ Aside0 (Kd.R (Kd.int .i64) 3 wx w.heap.size (fun k => k ≠ g) (.slice A p c3) ((ys.take p).map (·.1))) ∧ Aside0 (Below w.heap.size w wx) ∧ Aside0 (Go.Sort.HoldsK encN 2 wx g 0 ys.toArray) ∧ Aside0 (g < wx.heap.size)) (fun _ i _ => q - (intOf i).toNat)
        case atStart => exact ⟨0, none, 0, Nat.zero_le _, rfl, rfl, ⟨Kd.R_nil _ _ _ _ _⟩, HB4, HH4, ⟨hg4⟩⟩
        case round =>
          obtain ⟨p, A, c3, hp, rfl, rfl, hrow, hbx, hhx, hgx⟩ := hrel
          by_cases hlt2 : p < q
          · have hd2 : decide (p < q) = true := decide_eq_true hlt2
            obtain ⟨hc0, hc1⟩ := getN hhx.out (show p < ys.length by rw [HSL.out]; exact hlt2)
            have hgx' := hgx.out
            generalize hz : ys.getD p (0, 0) = z at hc0 hc1
            have HZ := Aside0.mk hz
            clear hz
            obtain ⟨zx, zy⟩ := z
            simp only at hc0 hc1
            go_wp2_with ((with_reducible refine gate_builtin (b := .append) (xs := #[.tmp 34, .tmp 37]) rfl ?_); at_builtin; go_loud (refine Kd.R_append (Kd.int .i64) (w0 := w) w.heap.size rfl (.tmp 34) (.tmp 37) 22 3 (.int .i64 0) 8 rfl Tryd.underlying22 info3 rfl (by decide) (by decide) (.slice A p c3) ((ys.take p).map (·.1)) zx [.int .i64 zx] (fun k => k ≠ g) (fun _ => False) rfl (by rw [World.size_alloc]; rfl) rfl (fun _ hk => hk.elim) (fun k hk => by have h1 := hgx'; simp at hk; omega) (by (with_reducible repeat (first | apply Kd.R_alloc | apply Kd.R_drewN | apply Kd.R_drew)); exact hrow.out) (by repeat (first | (with_reducible first | exact hbx.out | apply below_alloc | apply pw_below_drewN | apply below_drew1) | exact hbx.out)) (by have := hbx.out.size; simp; omega) (by rw [List.length_map, List.length_take]; omega) ?_; intro v7 w7 ho7 hb7 hg7 hat7; obtain ⟨A7, c7, e7⟩ := Kd.R_slice ho7; rw [List.length_append, List.length_map, List.length_take, HSL.out, Nat.min_eq_left hp, List.length_singleton] at e7; subst e7; have HO7 := Aside0.mk ho7; have HB7 := Aside0.mk hb7; have HH7 : Aside0 (Go.Sort.HoldsK encN 2 w7 g 0 ys.toArray ∧ g < w7.heap.size) := ⟨keepN (holdsN_alloc hhx.out hgx' _) (by simp; omega) hg7 (fun e => hrow.out.1 g e.symm rfl)⟩; clear ho7 hb7 hg7 hat7))
            go_roundw
            case rel =>
              refine ⟨p + 1, A7, c7, by omega, by go_num, rfl, ⟨?_⟩, HB7, ⟨HH7.out.1⟩, ⟨HH7.out.2⟩⟩
              have hp1 : p < ys.length := by rw [HSL.out]; exact hlt2
              rw [List.take_succ_eq_append_getElem hp1, List.map_append]
              have e : ys.getD p (0, 0) = ys[p] := by simp [hp1]
              have e2 := HZ.out
              rw [e] at e2
              rw [e2]
              exact HO7.out
            case measure => simp [intOf]; omega
          · obtain rfl : p = q := by omega
            have hd2 : decide (p < p) = false := decide_eq_false (Nat.lt_irrefl p)
            have htk2 : (ys.take p).map (·.1) = r := by rw [List.take_of_length_le (by rw [HSL.out]; exact Nat.le_refl _)]; exact HX2.out
            have HRw : Aside0 (Kd.R (Kd.int .i64) 3 wr w.heap.size (fun k => k ≠ g) (.slice A p c3) r) := ⟨by rw [← htk2]; exact hrow.out⟩
            clear htk2
            go_wp2
            go_ret
            exact ⟨_, rfl, Kd.R_mono HRw.out (fun _ _ => trivial), hbx.out⟩

-- NOT PRINTED: function 18 (slices_Clip_int_int)

/-! ### rank_Targets: function 12, by hand -/
set_option maxRecDepth 100000 in
theorem clip_calls (A0 : Option Addr) (n c : Nat) (w : World) (hc : n ≤ c) :
    Calls Tryd.prog 18 #[.slice A0 n c] w fun e w' => e = .returned (.slice A0 n n) ∧ w = w' := by
  go_enter Tryd.func18, Tryd.ntmps18
  go_wp2
  go_ret
  exact ⟨rfl, rfl⟩
theorem cut_hm {P : Program} (t e : TypeId) {i : TypeInfo} (ht : P.underlying t = some (.slice e)) (hi : P.info? e = some i) (A : Option Addr) (n c m : Nat) (hm : m ≤ c) :
    ∀ W : World, (Instr.slice t (.slice A n c) none (some (.int .i64 m)) (some (.int .i64 m))).run P W = .ok (.slice A m m) W := by
  intro W
  have hel : P.elem t = e := by simp [Program.elem, ht]
  have hu : P.underlying t = some (.slice (P.elem t)) := by rw [hel]; exact ht
  have ha : (A.map fun x => x.add 0) = A := by cases A <;> simp [Addr.add]
  rw [run_slice_hm W t A n c hu .i64 .i64 m m (by omega) (Int.le_refl _) (by omega), hel]
  by_cases h : m = 0 <;> simp [sizeOf, typeInfo, hi, sliced, Result.andThen, ha, h]
/-- Which of the first q are In. -/
def inK (l : List Int) : Nat → List Int
  | 0 => []
  | q + 1 => if l.getD q 0 = 1 then inK l q ++ [(q : Int)] else inK l q
theorem inK_length (l : List Int) (q : Nat) : (inK l q).length ≤ q := by
  induction q with
  | zero => exact Nat.le_refl _
  | succ q ih =>
    unfold inK
    split
    · rw [List.length_append, List.length_singleton]
      omega
    · omega
def rank_Targets.f (a0 : Int) (l1 : List Int) (a2 : Int) : Option (List Int × Bool) :=
  if l1.length ≤ 1048576 then
    if a2 < 0 ∨ ((inK l1 l1.length).length : Int) < a2 then some ([], false)
    else (rank_Order.f a0 (inK l1 l1.length)).bind fun o => if o.length = (inK l1 l1.length).length then some (o.take a2.toNat, true) else none
  else none
set_option maxRecDepth 100000 in
set_option maxHeartbeats 2000000 in
theorem rank_Targets.calls (a0 : Int) (A1 : Option Addr) (c1 : Nat) (l1 : List Int) (a2 : Int) (r1 : List Int) (r2 : Bool) (w : World) (hr1 : Kd.C (Kd.int .i64) w A1 l1.length l1) (hc1 : l1.length ≤ c1) (hT : Tab w) (h : rank_Targets.f a0 l1 a2 = some (r1, r2)) :
    Calls Tryd.prog 12 #[.int .i64 a0, .slice A1 l1.length c1, .int .i64 a2] w fun e w' => ∃ v0_ : Value, e = .returned (.tuple #[v0_, .bool r2]) ∧ Kd.V (Kd.int .i64) 3 w' w.heap.size (fun k_ => w.heap.size ≤ k_) v0_ r1 ∧ Below w.heap.size w w' := by
  unfold rank_Targets.f at h
  split at h
  case isFalse => cases h
  rename_i hl
  have HR := Aside0.mk (Kd.reads_of_C (enc := Value.int .i64) (d := (0 : Int)) (h1 := fun _ => rfl) hr1)
  have HT := Aside0.mk hT
  have HF := Aside0.mk h
  generalize hn : l1.length = n at *
  have HN := Aside0.mk hn
  clear hr1 hT h hn
  obtain ⟨i3, hi3, _, _, _⟩ := info_parts info3
  have HCut := Aside0.mk (fun (A : Option Addr) (m c : Nat) (q : Nat) (hq : q ≤ c) => cut_hm (P := Tryd.prog) 22 3 Tryd.underlying22 hi3 A m c q hq)
  go_enter Tryd.func12, Tryd.ntmps12
  go_wp2
  go_loopw [8, 13] (fun v i wr => ∃ (q N : Nat) (I : List Int) (A : Option Addr) (c : Nat), q ≤ n ∧ i = .int .i64 q ∧ N ≤ q ∧ v = .slice A N c ∧ Aside0 (I = inK l1 q) ∧ Aside0 (I.length = N) ∧ Aside0 (Kd.R (Kd.int .i64) 3 wr w.heap.size (fun _ => True) (.slice A N c) I) ∧ Aside0 (Below w.heap.size w wr)) (fun _ i _ => n - (intOf i).toNat)
  case atStart => exact ⟨0, 0, [], none, 0, Nat.zero_le _, rfl, Nat.le_refl _, rfl, ⟨rfl⟩, ⟨rfl⟩, ⟨Kd.R_nil _ _ _ _ _⟩, ⟨Below.refl _ _⟩⟩
  case round =>
    obtain ⟨q, N, I, A, c, hq, rfl, hNq, rfl, hI, hIN, hrow, hb⟩ := hrel
    by_cases hlt : q < n
    · have hd : decide (q < n) = true := decide_eq_true hlt
      obtain ⟨ad, hA, hcs⟩ := HR.out.2.2 (by omega)
      have hcq := pw_cell_below hb.out (hcs q hlt)
      subst hA
      have hstep : inK l1 (q + 1) = if l1.getD q 0 = 1 then I ++ [(q : Int)] else I := by rw [hI.out]; rfl
      clear hcs
      generalize l1.getD q 0 = x at *
      by_cases hx : x = 1
      · have HS := Aside0.mk hstep
        clear hstep
        subst hx
        go_wp2_with ((with_reducible refine gate_builtin (b := .append) (xs := #[.tmp 20, .tmp 22]) rfl ?_); at_builtin; refine Kd.R_append (Kd.int .i64) (w0 := w) w.heap.size rfl (.tmp 20) (.tmp 22) 22 3 (.int .i64 0) 8 rfl Tryd.underlying22 info3 rfl (by decide) (by decide) (.slice A N c) I (q : Int) [.int .i64 q] (fun _ => True) (fun _ => False) rfl rfl rfl (fun _ hk => hk.elim) (fun _ _ => trivial) hrow.out hb.out hb.out.size (by rw [hIN.out]; omega) ?_; intro v5 w5 ho5 hb5 hg5 hat5; obtain ⟨A5, c5, e5⟩ := Kd.R_slice ho5; rw [List.length_append, hIN.out, List.length_singleton] at e5; subst e5; have HO5 := Aside0.mk ho5; have HB5 := Aside0.mk hb5; clear ho5 hb5 hg5 hat5)
        go_roundw
        case rel => exact ⟨q + 1, N + 1, I ++ [(q : Int)], A5, c5, by omega, by go_num, by omega, rfl, ⟨by rw [HS.out, if_pos rfl]⟩, ⟨by rw [List.length_append, hIN.out]; rfl⟩, HO5, HB5⟩
        case measure => simp [intOf]; omega
      · have HS := Aside0.mk hstep
        have hx2 : (x == 1) = false := by rw [beq_eq_false_iff_ne]; exact hx
        have HX := Aside0.mk hx
        clear hstep hx
        go_wp2_with fail
        go_roundw
        case rel => exact ⟨q + 1, N, I, A, c, by omega, by go_num, by omega, rfl, ⟨by rw [HS.out, if_neg HX.out]⟩, hIN, hrow, hb⟩
        case measure => simp [intOf]; omega
    · obtain rfl : q = n := by omega
      have hd : decide (q < q) = false := decide_eq_false (Nat.lt_irrefl q)
      have hF := HF.out
      rw [← hI.out, hIN.out] at hF
      by_cases h0 : a2 < 0
      · rw [if_pos (.inl h0)] at hF
        simp only [Option.some.injEq, Prod.mk.injEq] at hF
        obtain ⟨rfl, rfl⟩ := hF
        have hd1 : decide (a2 < 0) = true := decide_eq_true h0
        clear HF
        go_wp2_with fail
        go_ret2
        exact ⟨_, rfl, Kd.V_nil _ _ _ _ _, hb.out⟩
      · have hd1 : decide (a2 < 0) = false := decide_eq_false h0
        by_cases h1 : (N : Int) < a2
        · rw [if_pos (.inr h1)] at hF
          simp only [Option.some.injEq, Prod.mk.injEq] at hF
          obtain ⟨rfl, rfl⟩ := hF
          have hd2 : decide ((N : Int) < a2) = true := decide_eq_true h1
          clear HF
          go_wp2_with fail
          go_ret2
          exact ⟨_, rfl, Kd.V_nil _ _ _ _ _, hb.out⟩
        · rw [if_neg (fun h => h.elim h0 h1)] at hF
          obtain ⟨o, ho, hF⟩ := Option.bind_eq_some_iff.1 hF
          by_cases hol : o.length = N
          case neg => rw [if_neg hol] at hF; cases hF
          rw [if_pos hol] at hF
          simp only [Option.some.injEq, Prod.mk.injEq] at hF
          obtain ⟨rfl, rfl⟩ := hF
          obtain ⟨m, rfl⟩ : ∃ m : Nat, a2 = (m : Int) := ⟨a2.toNat, by omega⟩
          have hmN : m ≤ N := by omega
          have hd2 : decide (N < m) = false := decide_eq_false (by omega)
          have HOr := Aside0.mk ho
          have HOL := Aside0.mk hol
          have HTr : Aside0 (Tab wr) := ⟨Tab.below HT.out hb.out⟩
          have HC : Aside0 (Kd.C (Kd.int .i64) wr A N I ∧ N ≤ c) := ⟨by have h := Kd.R_reads' hrow.out; rw [hIN.out] at h; exact ⟨h.2.2, h.2.1⟩⟩
          have HCall : Aside0 (Calls Tryd.prog 9 #[.int .i64 a0, .slice A N c] wr fun e w' => ∃ v0_ : Value, e = .returned (v0_) ∧ Kd.R (Kd.int .i64) 3 w' wr.heap.size (fun _ => True) v0_ o ∧ Below wr.heap.size wr w') := ⟨by
            have h := rank_Order.calls a0 A c I o wr (by rw [hIN.out]; exact HC.out.1) (by rw [hIN.out]; exact HC.out.2) HTr.out HOr.out
            rwa [hIN.out] at h⟩
          clear HF ho hol h0 h1 hd1
          have hd1 : decide ((m : Int) < 0) = false := decide_eq_false (by omega)
          go_wp2_with (first | (go_at_call 9; refine HCall.out.mono ?_; rintro e w4 ⟨v4, rfl, ho4, hb4⟩; obtain ⟨A4, c4, e4⟩ := Kd.R_slice ho4; rw [HOL.out] at e4; subst e4; have hc4 := (Kd.R_reads' ho4).2.1; have hcut := HCut.out A4 N c4 m (by omega); have HO4 := Aside0.mk ho4; have HB4 := Aside0.mk hb4; clear ho4 hb4) | (go_at_call 18; refine (clip_calls _ _ _ _ (Nat.le_refl _)).mono ?_; rintro e w5 ⟨rfl, rfl⟩))
          go_ret2
          have hsz := hb.out.size
          have hol := HOL.out
          refine ⟨.slice A4 m m, rfl, ?_, hb.out.trans (HB4.out.mono hsz)⟩
          have hlen : (o.take m).length = m := by rw [List.length_take]; omega
          have hT4 : Kd.R (Kd.int .i64) 3 w4 wr.heap.size (fun k_ => w.heap.size ≤ k_) (.slice A4 N c4) o := Kd.R_mono (Kd.R_tight rfl HO4.out) (fun k hk => by have := Kd.R_base HO4.out k hk.symm; omega)
          have hF2 := Kd.F_take (m := m) (Kd.V_at (base := w.heap.size) (Kd.R_V hT4)).2.2 (by omega)
          exact ⟨A4, m, by rw [Int.toNat_natCast, hlen], by rw [Int.toNat_natCast, hlen]; exact Nat.le_refl _, by rw [Int.toNat_natCast]; exact hF2⟩

/-! ### flittinglaw12_answers: function 8 -/
def flittinglaw12_answers.f  : Option (Bool) := (rank_Targets.f 5 (([0, 1] : List Int)) 1).bind fun bt135 => (if bt135.2 = true then (if (bt135.1.length : Int) = 1 then (if 0 < (bt135.1.length : Int) then (if (rd bt135.1 0) = 1 then ((rank_Order.f 1 (([4, 4] : List Int))).bind fun t143 => (some ((t143.length : Int) == 2))) else (some false)) else (none)) else (some false)) else (some false))
set_option maxHeartbeats 8000000 in
set_option maxRecDepth 100000 in
theorem flittinglaw12_answers.calls  (r : Bool) (w : World) (hT : Tab w) (h : flittinglaw12_answers.f  = some r) :
    Calls Tryd.prog 8 #[] w fun e w' => e = .returned (.bool r) ∧ Below w.heap.size w w' := by
  have HT := Aside0.mk hT
  clear hT
  have HB := Aside0.mk (Below.refl w.heap.size w)
  have H : ((rank_Targets.f 5 (([0, 1] : List Int)) 1).bind fun bt135 => (if bt135.2 = true then (if (bt135.1.length : Int) = 1 then (if 0 < (bt135.1.length : Int) then (if (rd bt135.1 0) = 1 then ((rank_Order.f 1 (([4, 4] : List Int))).bind fun t143 => (some ((t143.length : Int) == 2))) else (some false)) else (none)) else (some false)) else (some false))) = some r := h
  clear h
  obtain ⟨y132, hy132⟩ : ∃ y_ : List Int, y_ = (([0, 1] : List Int)) := ⟨_, rfl⟩
  replace H : ((rank_Targets.f 5 y132 1).bind fun bt135 => (if bt135.2 = true then (if (bt135.1.length : Int) = 1 then (if 0 < (bt135.1.length : Int) then (if (rd bt135.1 0) = 1 then ((rank_Order.f 1 (([4, 4] : List Int))).bind fun t143 => (some ((t143.length : Int) == 2))) else (some false)) else (none)) else (some false)) else (some false))) = some r := by first | (rw [hy132]; with_reducible exact H) | (have H2_ := (Option.bind_some _ _).symm.trans H; rw [hy132]; with_reducible exact H2_) | (have H2_ := (Option.bind_some _ _).symm.trans H; with_reducible exact H2_) | with_reducible exact H | (rw [hy132]; exact H) | exact H
  have Ny132 := Aside0.mk hy132
  clear hy132
  replace H := Option.bind_eq_some_iff.mp H
  obtain ⟨⟨t135, t138⟩, A10, H⟩ := H
  replace H : (if t138 = true then (if (t135.length : Int) = 1 then (if 0 < (t135.length : Int) then (if (rd t135 0) = 1 then ((rank_Order.f 1 (([4, 4] : List Int))).bind fun t143 => (some ((t143.length : Int) == 2))) else (some false)) else (none)) else (some false)) else (some false)) = some r := H
  have A1 := Aside0.mk A10
  clear A10
  by_cases c2 : t138 = true
  · subst c2
    have H1 : (if (t135.length : Int) = 1 then (if 0 < (t135.length : Int) then (if (rd t135 0) = 1 then ((rank_Order.f 1 (([4, 4] : List Int))).bind fun t143 => (some ((t143.length : Int) == 2))) else (some false)) else (none)) else (some false)) = some r := by rw [if_pos rfl] at H; exact H
    clear H
    have H := H1
    clear H1
    by_cases c3 : (t135.length : Int) = 1
    · rw [if_pos c3] at H
      have c3b0 : ((t135.length : Int) == 1) = true := beq_iff_eq.mpr c3
      have c3b1 : ((t135.length : Int) != 1) = false := bne_eq_false_iff_eq.mpr c3
      clear c3
      by_cases c4 : 0 < (t135.length : Int)
      · rw [if_pos c4] at H
        have c4b0 : decide (0 < (t135.length : Int)) = true := decide_eq_true c4
        have c4b1 : decide (0 < t135.length) = true := decide_eq_true (by omega)
        clear c4
        by_cases c5 : (rd t135 0) = 1
        · rw [if_pos c5] at H
          have c5b0 : ((rd t135 0) == 1) = true := beq_iff_eq.mpr c5
          have c5b1 : ((rd t135 0) != 1) = false := bne_eq_false_iff_eq.mpr c5
          clear c5
          obtain ⟨y140, hy140⟩ : ∃ y_ : List Int, y_ = (([4, 4] : List Int)) := ⟨_, rfl⟩
          replace H : ((rank_Order.f 1 y140).bind fun t143 => (some ((t143.length : Int) == 2))) = some r := by first | (rw [hy140]; with_reducible exact H) | (have H2_ := (Option.bind_some _ _).symm.trans H; rw [hy140]; with_reducible exact H2_) | (have H2_ := (Option.bind_some _ _).symm.trans H; with_reducible exact H2_) | with_reducible exact H | (rw [hy140]; exact H) | exact H
          have Ny140 := Aside0.mk hy140
          clear hy140
          replace H := Option.bind_eq_some_iff.mp H
          obtain ⟨t143, A60, H⟩ := H
          replace H : (some ((t143.length : Int) == 2)) = some r := H
          have A6 := Aside0.mk A60
          clear A60
          obtain rfl := Option.some.inj H
          go_enter Tryd.func8, Tryd.ntmps8
          go_wp2_with (first | ((with_reducible refine gate_dst (N := 4) rfl ?_); (try (refine gate_guard (by rfl) ?_; dsimp only)); refine Kd.R_lit (Kd.int .i64) _ 3 ?hg (N := 4) ?hd (xs := ([0, 1] : List Int)) (inner := [.int .i64 0, .int .i64 1]) (ok := fun _ => True) (okp := fun _ => True) ?hr ?hp (fun _ hk => hk) trivial (Below.refl _ _) (Nat.le_refl _) (by simp) ?_; (case hd => rfl); (case hg => rfl); (case hr => first | (go_simp; done) | (go_simp; rfl)); (case hp => exact (Reps.one (show Kd.M (Kd.int .i64) _ _ _ 0 [.int .i64 0] from rfl) (Reps.one (show Kd.M (Kd.int .i64) _ _ _ 1 [.int .i64 1] from rfl) (Reps.none _ _)))); intro v133 w7 ho8 hb hg_ hnew_; clear hg_ hnew_; (first | rw [← Ny132.out] at ho8 | (simp only [Int.reduceToNat] at ho8; rw [← Ny132.out] at ho8)); have n0_ := Aside0.mk (Kd.R_lower ho8 (below_size (by repeat (first | (with_reducible first | exact HB.out | apply below_alloc | apply pw_below_drewN | apply below_drew1) | exact HB.out)))); have n1_ := Aside0.mk (below_step (by repeat (first | (with_reducible first | exact HB.out | apply below_alloc | apply pw_below_drewN | apply below_drew1) | exact HB.out)) hb); clear HB; have HO134 := n0_; have HB := n1_; clear n0_ n1_; clear hb ho8; obtain ⟨Ao9, co9, eo9⟩ := Kd.R_slice HO134.out; subst eo9) | ((with_reducible refine gate_callee (f := 12) rfl ?_); refine goesL_ (some 5) rfl rfl Tryd.func12 (by kernel_rfl) rfl #[.int .i64 5, .slice Ao9 y132.length co9, .int .i64 1] rfl (by (try simp only [List.map_toArray, List.map_cons, List.map_nil]); first | done | rfl | (simp only [List.length_drop, List.length_take]; rfl)) ?_; (with_reducible refine (rank_Targets.calls 5 _ _ y132 1 t135 true _ ?side1 ?side2 (by first | exact HT.out | exact Tab.below HT.out (by repeat (first | (with_reducible first | exact HB.out | apply below_alloc | apply pw_below_drewN | apply below_drew1) | exact HB.out))) A1.out).mono ?_); (case side1 => repeat (first | exact (Kd.R_reads' HO134.out).2.2 | (with_reducible refine Kd.C_alloc ?_ _) | (with_reducible refine Kd.C_drewN ?_ _) | (with_reducible refine Kd.C_drew ?_))); (case side2 => exact (Kd.R_reads' HO134.out).2.1); rintro e w10 ⟨v136, rfl, ho0, hb⟩; refine ⟨_, rfl, ?_⟩; have n0_ := Aside0.mk (Kd.R_below (by (with_reducible repeat (first | apply Kd.R_alloc | apply Kd.R_drewN | apply Kd.R_drew)); exact HO134.out) hb); have n1_ := Aside0.mk (Kd.V_lower (Kd.V_mono (ok' := fun k_ => some k_ ≠ (.slice Ao9 y132.length co9 : Value).ownBlock) ho0 (fun k_ hk_ => (Kd.fresh' (Kd.R_lt (by (with_reducible repeat (first | apply Kd.R_alloc | apply Kd.R_drewN | apply Kd.R_drew)); exact HO134.out)) k_ hk_))) (below_size (by repeat (first | (with_reducible first | exact HB.out | apply below_alloc | apply pw_below_drewN | apply below_drew1) | exact HB.out)))); have n2_ := Aside0.mk (below_step (by repeat (first | (with_reducible first | exact HB.out | apply below_alloc | apply pw_below_drewN | apply below_drew1) | exact HB.out)) hb); clear HO134; clear HB; have HO134 := n0_; have HO137 := n1_; have HB := n2_; clear n0_ n1_ n2_; (try clear hb); (try clear hb2); (try clear hk); (try clear hi); (try clear ho0); obtain ⟨Ao11, co11, eo11⟩ := Kd.V_slice HO137.out; subst eo11; have p139 : 0 ≤ (0 : Int) := (by omega); have q139 : 0 < (t135.length : Int) := of_decide_eq_true (by first | (with_reducible assumption) | assumption); obtain ⟨ad139, e139, hx139_0⟩ := Kd.at_int (Kd.V_reads' HO137.out).2.2 0 p139 q139; cases e139; have qi139 : (0 < t135.length) = True := eq_true (by omega); (try rw [show ((0 : Int)).toNat = 0 from rfl] at hx139_0); (try rw [Addr.add_zero'] at hx139_0); replace p139 := eq_true p139; replace q139 := eq_true q139) | ((with_reducible refine gate_dst (N := 21) rfl ?_); (try (refine gate_guard (by rfl) ?_; dsimp only)); refine Kd.R_lit (Kd.int .i64) _ 3 ?hg (N := 21) ?hd (xs := ([4, 4] : List Int)) (inner := [.int .i64 4, .int .i64 4]) (ok := fun _ => True) (okp := fun _ => True) ?hr ?hp (fun _ hk => hk) trivial (Below.refl _ _) (Nat.le_refl _) (by simp) ?_; (case hd => rfl); (case hg => rfl); (case hr => first | (go_simp; done) | (go_simp; rfl)); (case hp => exact (Reps.one (show Kd.M (Kd.int .i64) _ _ _ 4 [.int .i64 4] from rfl) (Reps.one (show Kd.M (Kd.int .i64) _ _ _ 4 [.int .i64 4] from rfl) (Reps.none _ _)))); intro v141 w12 ho13 hb hg_ hnew_; clear hg_ hnew_; (first | rw [← Ny140.out] at ho13 | (simp only [Int.reduceToNat] at ho13; rw [← Ny140.out] at ho13)); have n0_ := Aside0.mk (Kd.R_elder' (by (with_reducible repeat (first | apply Kd.R_alloc | apply Kd.R_drewN | apply Kd.R_drew)); exact HO134.out) (Kd.R_base ho13) hb); have n1_ := Aside0.mk (Kd.V_elder' (by (with_reducible repeat (first | apply Kd.V_alloc | apply Kd.V_drewN | apply Kd.V_drew)); exact HO137.out) (Kd.R_base ho13) hb); have n2_ := Aside0.mk (Kd.R_lower (Kd.R_new' ho13 (Kd.R_lt (by (with_reducible repeat (first | apply Kd.R_alloc | apply Kd.R_drewN | apply Kd.R_drew)); exact HO134.out))) (below_size (by repeat (first | (with_reducible first | exact HB.out | apply below_alloc | apply pw_below_drewN | apply below_drew1) | exact HB.out)))); have n3_ := Aside0.mk (below_step (by repeat (first | (with_reducible first | exact HB.out | apply below_alloc | apply pw_below_drewN | apply below_drew1) | exact HB.out)) hb); clear HO134; clear HO137; clear HB; have HO134 := n0_; have HO137 := n1_; have HO142 := n2_; have HB := n3_; clear n0_ n1_ n2_ n3_; clear hb ho13; obtain ⟨Ao14, co14, eo14⟩ := Kd.R_slice HO142.out; subst eo14) | (go_at_call 9; (with_reducible refine (rank_Order.calls 1 _ _ y140 t143 _ ?side1 ?side2 (by first | exact HT.out | exact Tab.below HT.out (by repeat (first | (with_reducible first | exact HB.out | apply below_alloc | apply pw_below_drewN | apply below_drew1) | exact HB.out))) A6.out).mono ?_); (case side1 => repeat (first | exact (Kd.R_reads' HO142.out).2.2 | (with_reducible refine Kd.C_alloc ?_ _) | (with_reducible refine Kd.C_drewN ?_ _) | (with_reducible refine Kd.C_drew ?_))); (case side2 => exact (Kd.R_reads' HO142.out).2.1); rintro e w15 ⟨v144, rfl, ho0, hb⟩; have n0_ := Aside0.mk (Kd.R_elder' (by (with_reducible repeat (first | apply Kd.R_alloc | apply Kd.R_drewN | apply Kd.R_drew)); exact HO134.out) (Kd.R_base ho0) hb); have n1_ := Aside0.mk (Kd.V_elder' (by (with_reducible repeat (first | apply Kd.V_alloc | apply Kd.V_drewN | apply Kd.V_drew)); exact HO137.out) (Kd.R_base ho0) hb); have n2_ := Aside0.mk (Kd.R_elder' (by (with_reducible repeat (first | apply Kd.R_alloc | apply Kd.R_drewN | apply Kd.R_drew)); exact HO142.out) (Kd.R_base ho0) hb); have n3_ := Aside0.mk (Kd.R_lower (Kd.R_new' (Kd.R_new' ho0 (Kd.R_lt (by (with_reducible repeat (first | apply Kd.R_alloc | apply Kd.R_drewN | apply Kd.R_drew)); exact HO134.out))) (Kd.R_lt (by (with_reducible repeat (first | apply Kd.R_alloc | apply Kd.R_drewN | apply Kd.R_drew)); exact HO142.out))) (below_size (by repeat (first | (with_reducible first | exact HB.out | apply below_alloc | apply pw_below_drewN | apply below_drew1) | exact HB.out)))); have n4_ := Aside0.mk (below_step (by repeat (first | (with_reducible first | exact HB.out | apply below_alloc | apply pw_below_drewN | apply below_drew1) | exact HB.out)) hb); clear HO134; clear HO137; clear HO142; clear HB; have HO134 := n0_; have HO137 := n1_; have HO142 := n2_; have HO145 := n3_; have HB := n4_; clear n0_ n1_ n2_ n3_ n4_; (try clear hb); (try clear hb2); (try clear hk); (try clear hi); (try clear ho0); obtain ⟨Ao16, co16, eo16⟩ := Kd.R_slice HO145.out; subst eo16))
          go_ret
          exact ⟨by first | rfl | (simp [errW_none, errW_some] <;> rfl) | (simp [*, errW_none, errW_some] <;> rfl), by repeat (first | (with_reducible first | exact HB.out | apply below_alloc | apply pw_below_drewN | apply below_drew1) | exact HB.out)⟩
        · rw [if_neg c5] at H
          have c5b0 : ((rd t135 0) == 1) = false := beq_eq_false_iff_ne.mpr c5
          have c5b1 : ((rd t135 0) != 1) = true := bne_iff_ne.mpr c5
          obtain rfl := Option.some.inj H
          go_enter Tryd.func8, Tryd.ntmps8
          go_wp2_with (first | ((with_reducible refine gate_dst (N := 4) rfl ?_); (try (refine gate_guard (by rfl) ?_; dsimp only)); refine Kd.R_lit (Kd.int .i64) _ 3 ?hg (N := 4) ?hd (xs := ([0, 1] : List Int)) (inner := [.int .i64 0, .int .i64 1]) (ok := fun _ => True) (okp := fun _ => True) ?hr ?hp (fun _ hk => hk) trivial (Below.refl _ _) (Nat.le_refl _) (by simp) ?_; (case hd => rfl); (case hg => rfl); (case hr => first | (go_simp; done) | (go_simp; rfl)); (case hp => exact (Reps.one (show Kd.M (Kd.int .i64) _ _ _ 0 [.int .i64 0] from rfl) (Reps.one (show Kd.M (Kd.int .i64) _ _ _ 1 [.int .i64 1] from rfl) (Reps.none _ _)))); intro v133 w17 ho18 hb hg_ hnew_; clear hg_ hnew_; (first | rw [← Ny132.out] at ho18 | (simp only [Int.reduceToNat] at ho18; rw [← Ny132.out] at ho18)); have n0_ := Aside0.mk (Kd.R_lower ho18 (below_size (by repeat (first | (with_reducible first | exact HB.out | apply below_alloc | apply pw_below_drewN | apply below_drew1) | exact HB.out)))); have n1_ := Aside0.mk (below_step (by repeat (first | (with_reducible first | exact HB.out | apply below_alloc | apply pw_below_drewN | apply below_drew1) | exact HB.out)) hb); clear HB; have HO134 := n0_; have HB := n1_; clear n0_ n1_; clear hb ho18; obtain ⟨Ao19, co19, eo19⟩ := Kd.R_slice HO134.out; subst eo19) | ((with_reducible refine gate_callee (f := 12) rfl ?_); refine goesL_ (some 5) rfl rfl Tryd.func12 (by kernel_rfl) rfl #[.int .i64 5, .slice Ao19 y132.length co19, .int .i64 1] rfl (by (try simp only [List.map_toArray, List.map_cons, List.map_nil]); first | done | rfl | (simp only [List.length_drop, List.length_take]; rfl)) ?_; (with_reducible refine (rank_Targets.calls 5 _ _ y132 1 t135 true _ ?side1 ?side2 (by first | exact HT.out | exact Tab.below HT.out (by repeat (first | (with_reducible first | exact HB.out | apply below_alloc | apply pw_below_drewN | apply below_drew1) | exact HB.out))) A1.out).mono ?_); (case side1 => repeat (first | exact (Kd.R_reads' HO134.out).2.2 | (with_reducible refine Kd.C_alloc ?_ _) | (with_reducible refine Kd.C_drewN ?_ _) | (with_reducible refine Kd.C_drew ?_))); (case side2 => exact (Kd.R_reads' HO134.out).2.1); rintro e w20 ⟨v136, rfl, ho0, hb⟩; refine ⟨_, rfl, ?_⟩; have n0_ := Aside0.mk (Kd.R_below (by (with_reducible repeat (first | apply Kd.R_alloc | apply Kd.R_drewN | apply Kd.R_drew)); exact HO134.out) hb); have n1_ := Aside0.mk (Kd.V_lower (Kd.V_mono (ok' := fun k_ => some k_ ≠ (.slice Ao19 y132.length co19 : Value).ownBlock) ho0 (fun k_ hk_ => (Kd.fresh' (Kd.R_lt (by (with_reducible repeat (first | apply Kd.R_alloc | apply Kd.R_drewN | apply Kd.R_drew)); exact HO134.out)) k_ hk_))) (below_size (by repeat (first | (with_reducible first | exact HB.out | apply below_alloc | apply pw_below_drewN | apply below_drew1) | exact HB.out)))); have n2_ := Aside0.mk (below_step (by repeat (first | (with_reducible first | exact HB.out | apply below_alloc | apply pw_below_drewN | apply below_drew1) | exact HB.out)) hb); clear HO134; clear HB; have HO134 := n0_; have HO137 := n1_; have HB := n2_; clear n0_ n1_ n2_; (try clear hb); (try clear hb2); (try clear hk); (try clear hi); (try clear ho0); obtain ⟨Ao21, co21, eo21⟩ := Kd.V_slice HO137.out; subst eo21; have p139 : 0 ≤ (0 : Int) := (by omega); have q139 : 0 < (t135.length : Int) := of_decide_eq_true (by first | (with_reducible assumption) | assumption); obtain ⟨ad139, e139, hx139_0⟩ := Kd.at_int (Kd.V_reads' HO137.out).2.2 0 p139 q139; cases e139; have qi139 : (0 < t135.length) = True := eq_true (by omega); (try rw [show ((0 : Int)).toNat = 0 from rfl] at hx139_0); (try rw [Addr.add_zero'] at hx139_0); replace p139 := eq_true p139; replace q139 := eq_true q139))
          go_ret
          exact ⟨by first | rfl | (simp [errW_none, errW_some] <;> rfl) | (simp [*, errW_none, errW_some] <;> rfl), by repeat (first | (with_reducible first | exact HB.out | apply below_alloc | apply pw_below_drewN | apply below_drew1) | exact HB.out)⟩
      · rw [if_neg c4] at H
        exact absurd H (by simp)
    · rw [if_neg c3] at H
      have c3b0 : ((t135.length : Int) == 1) = false := beq_eq_false_iff_ne.mpr c3
      have c3b1 : ((t135.length : Int) != 1) = true := bne_iff_ne.mpr c3
      obtain rfl := Option.some.inj H
      go_enter Tryd.func8, Tryd.ntmps8
      go_wp2_with (first | ((with_reducible refine gate_dst (N := 4) rfl ?_); (try (refine gate_guard (by rfl) ?_; dsimp only)); refine Kd.R_lit (Kd.int .i64) _ 3 ?hg (N := 4) ?hd (xs := ([0, 1] : List Int)) (inner := [.int .i64 0, .int .i64 1]) (ok := fun _ => True) (okp := fun _ => True) ?hr ?hp (fun _ hk => hk) trivial (Below.refl _ _) (Nat.le_refl _) (by simp) ?_; (case hd => rfl); (case hg => rfl); (case hr => first | (go_simp; done) | (go_simp; rfl)); (case hp => exact (Reps.one (show Kd.M (Kd.int .i64) _ _ _ 0 [.int .i64 0] from rfl) (Reps.one (show Kd.M (Kd.int .i64) _ _ _ 1 [.int .i64 1] from rfl) (Reps.none _ _)))); intro v133 w22 ho23 hb hg_ hnew_; clear hg_ hnew_; (first | rw [← Ny132.out] at ho23 | (simp only [Int.reduceToNat] at ho23; rw [← Ny132.out] at ho23)); have n0_ := Aside0.mk (Kd.R_lower ho23 (below_size (by repeat (first | (with_reducible first | exact HB.out | apply below_alloc | apply pw_below_drewN | apply below_drew1) | exact HB.out)))); have n1_ := Aside0.mk (below_step (by repeat (first | (with_reducible first | exact HB.out | apply below_alloc | apply pw_below_drewN | apply below_drew1) | exact HB.out)) hb); clear HB; have HO134 := n0_; have HB := n1_; clear n0_ n1_; clear hb ho23; obtain ⟨Ao24, co24, eo24⟩ := Kd.R_slice HO134.out; subst eo24) | ((with_reducible refine gate_callee (f := 12) rfl ?_); refine goesL_ (some 5) rfl rfl Tryd.func12 (by kernel_rfl) rfl #[.int .i64 5, .slice Ao24 y132.length co24, .int .i64 1] rfl (by (try simp only [List.map_toArray, List.map_cons, List.map_nil]); first | done | rfl | (simp only [List.length_drop, List.length_take]; rfl)) ?_; (with_reducible refine (rank_Targets.calls 5 _ _ y132 1 t135 true _ ?side1 ?side2 (by first | exact HT.out | exact Tab.below HT.out (by repeat (first | (with_reducible first | exact HB.out | apply below_alloc | apply pw_below_drewN | apply below_drew1) | exact HB.out))) A1.out).mono ?_); (case side1 => repeat (first | exact (Kd.R_reads' HO134.out).2.2 | (with_reducible refine Kd.C_alloc ?_ _) | (with_reducible refine Kd.C_drewN ?_ _) | (with_reducible refine Kd.C_drew ?_))); (case side2 => exact (Kd.R_reads' HO134.out).2.1); rintro e w25 ⟨v136, rfl, ho0, hb⟩; refine ⟨_, rfl, ?_⟩; have n0_ := Aside0.mk (Kd.R_below (by (with_reducible repeat (first | apply Kd.R_alloc | apply Kd.R_drewN | apply Kd.R_drew)); exact HO134.out) hb); have n1_ := Aside0.mk (Kd.V_lower (Kd.V_mono (ok' := fun k_ => some k_ ≠ (.slice Ao24 y132.length co24 : Value).ownBlock) ho0 (fun k_ hk_ => (Kd.fresh' (Kd.R_lt (by (with_reducible repeat (first | apply Kd.R_alloc | apply Kd.R_drewN | apply Kd.R_drew)); exact HO134.out)) k_ hk_))) (below_size (by repeat (first | (with_reducible first | exact HB.out | apply below_alloc | apply pw_below_drewN | apply below_drew1) | exact HB.out)))); have n2_ := Aside0.mk (below_step (by repeat (first | (with_reducible first | exact HB.out | apply below_alloc | apply pw_below_drewN | apply below_drew1) | exact HB.out)) hb); clear HO134; clear HB; have HO134 := n0_; have HO137 := n1_; have HB := n2_; clear n0_ n1_ n2_; (try clear hb); (try clear hb2); (try clear hk); (try clear hi); (try clear ho0); obtain ⟨Ao26, co26, eo26⟩ := Kd.V_slice HO137.out; subst eo26))
      go_ret
      exact ⟨by first | rfl | (simp [errW_none, errW_some] <;> rfl) | (simp [*, errW_none, errW_some] <;> rfl), by repeat (first | (with_reducible first | exact HB.out | apply below_alloc | apply pw_below_drewN | apply below_drew1) | exact HB.out)⟩
  · replace c2 := Bool.eq_false_iff.mpr c2
    subst c2
    have H1 : (some false) = some r := by rw [if_neg (show ¬ (false = true) by decide)] at H; exact H
    clear H
    have H := H1
    clear H1
    obtain rfl := Option.some.inj H
    go_enter Tryd.func8, Tryd.ntmps8
    go_wp2_with (first | ((with_reducible refine gate_dst (N := 4) rfl ?_); (try (refine gate_guard (by rfl) ?_; dsimp only)); refine Kd.R_lit (Kd.int .i64) _ 3 ?hg (N := 4) ?hd (xs := ([0, 1] : List Int)) (inner := [.int .i64 0, .int .i64 1]) (ok := fun _ => True) (okp := fun _ => True) ?hr ?hp (fun _ hk => hk) trivial (Below.refl _ _) (Nat.le_refl _) (by simp) ?_; (case hd => rfl); (case hg => rfl); (case hr => first | (go_simp; done) | (go_simp; rfl)); (case hp => exact (Reps.one (show Kd.M (Kd.int .i64) _ _ _ 0 [.int .i64 0] from rfl) (Reps.one (show Kd.M (Kd.int .i64) _ _ _ 1 [.int .i64 1] from rfl) (Reps.none _ _)))); intro v133 w27 ho28 hb hg_ hnew_; clear hg_ hnew_; (first | rw [← Ny132.out] at ho28 | (simp only [Int.reduceToNat] at ho28; rw [← Ny132.out] at ho28)); have n0_ := Aside0.mk (Kd.R_lower ho28 (below_size (by repeat (first | (with_reducible first | exact HB.out | apply below_alloc | apply pw_below_drewN | apply below_drew1) | exact HB.out)))); have n1_ := Aside0.mk (below_step (by repeat (first | (with_reducible first | exact HB.out | apply below_alloc | apply pw_below_drewN | apply below_drew1) | exact HB.out)) hb); clear HB; have HO134 := n0_; have HB := n1_; clear n0_ n1_; clear hb ho28; obtain ⟨Ao29, co29, eo29⟩ := Kd.R_slice HO134.out; subst eo29) | ((with_reducible refine gate_callee (f := 12) rfl ?_); refine goesL_ (some 5) rfl rfl Tryd.func12 (by kernel_rfl) rfl #[.int .i64 5, .slice Ao29 y132.length co29, .int .i64 1] rfl (by (try simp only [List.map_toArray, List.map_cons, List.map_nil]); first | done | rfl | (simp only [List.length_drop, List.length_take]; rfl)) ?_; (with_reducible refine (rank_Targets.calls 5 _ _ y132 1 t135 false _ ?side1 ?side2 (by first | exact HT.out | exact Tab.below HT.out (by repeat (first | (with_reducible first | exact HB.out | apply below_alloc | apply pw_below_drewN | apply below_drew1) | exact HB.out))) A1.out).mono ?_); (case side1 => repeat (first | exact (Kd.R_reads' HO134.out).2.2 | (with_reducible refine Kd.C_alloc ?_ _) | (with_reducible refine Kd.C_drewN ?_ _) | (with_reducible refine Kd.C_drew ?_))); (case side2 => exact (Kd.R_reads' HO134.out).2.1); rintro e w30 ⟨v136, rfl, ho0, hb⟩; refine ⟨_, rfl, ?_⟩; have n0_ := Aside0.mk (Kd.R_below (by (with_reducible repeat (first | apply Kd.R_alloc | apply Kd.R_drewN | apply Kd.R_drew)); exact HO134.out) hb); have n1_ := Aside0.mk (Kd.V_lower (Kd.V_mono (ok' := fun k_ => some k_ ≠ (.slice Ao29 y132.length co29 : Value).ownBlock) ho0 (fun k_ hk_ => (Kd.fresh' (Kd.R_lt (by (with_reducible repeat (first | apply Kd.R_alloc | apply Kd.R_drewN | apply Kd.R_drew)); exact HO134.out)) k_ hk_))) (below_size (by repeat (first | (with_reducible first | exact HB.out | apply below_alloc | apply pw_below_drewN | apply below_drew1) | exact HB.out)))); have n2_ := Aside0.mk (below_step (by repeat (first | (with_reducible first | exact HB.out | apply below_alloc | apply pw_below_drewN | apply below_drew1) | exact HB.out)) hb); clear HO134; clear HB; have HO134 := n0_; have HO137 := n1_; have HB := n2_; clear n0_ n1_ n2_; (try clear hb); (try clear hb2); (try clear hk); (try clear hi); (try clear ho0)))
    go_ret
    exact ⟨by first | rfl | (simp [errW_none, errW_some] <;> rfl) | (simp [*, errW_none, errW_some] <;> rfl), by repeat (first | (with_reducible first | exact HB.out | apply below_alloc | apply pw_below_drewN | apply below_drew1) | exact HB.out)⟩

/-! ### flittingref09_Ints: function 10 -/
def flittingref09_Ints.l0 : Nat → List Int → List Int → Int → Option (Bool)
  | 0, _, _, _ => none
  | k + 1, x0, x1, x5 => if x5 < (x0.length : Int) then (if 0 ≤ x5 then (if x5 < (x1.length : Int) then (if (rd x0 x5) = (rd x1 x5) then (flittingref09_Ints.l0 k x0 x1 (wrap64 (x5 + 1))) else (some false)) else (none)) else (none)) else (some true)
def flittingref09_Ints.f (k : Nat) (l0 : List Int) (l1 : List Int) : Option (Bool) := if (l0.length : Int) = (l1.length : Int) then (flittingref09_Ints.l0 k l0 l1 0) else (some false)
theorem flittingref09_Ints.mono_l : ∀ k, (∀ y0 y1 y2, LeO (flittingref09_Ints.l0 k y0 y1 y2) (flittingref09_Ints.l0 (k + 1) y0 y1 y2))
  | 0 => fun _ _ _ r h => by simp [flittingref09_Ints.l0] at h
  | k + 1 => by
    have ih0 := flittingref09_Ints.mono_l k
    · intro y0 y1 y2
      unfold flittingref09_Ints.l0
      repeat' first
      | (with_reducible exact ih0 _ _ _)
      | (with_reducible exact LeO.refl _)
      | (with_reducible exact LeO.none _)
      | (with_reducible refine LeO.ite ?_ ?_)
      | (with_reducible refine LeO.bind ?_ (fun _ => ?_))
      | exact ih0 _ _ _
      | exact LeO.none _
      | refine LeO.ite ?_ ?_
      | refine LeO.bind ?_ (fun _ => ?_)
theorem flittingref09_Ints.mono : ∀ a0 a1 k, LeO (flittingref09_Ints.f k a0 a1) (flittingref09_Ints.f (k + 1) a0 a1) := by
  intro a0 a1 k
  have ih0 := flittingref09_Ints.mono_l k
  unfold flittingref09_Ints.f
  repeat' first
      | (with_reducible exact ih0 _ _ _)
      | (with_reducible exact LeO.refl _)
      | (with_reducible exact LeO.none _)
      | (with_reducible refine LeO.ite ?_ ?_)
      | (with_reducible refine LeO.bind ?_ (fun _ => ?_))
      | exact ih0 _ _ _
      | exact LeO.none _
      | refine LeO.ite ?_ ?_
      | refine LeO.bind ?_ (fun _ => ?_)
set_option maxHeartbeats 8000000 in
set_option maxRecDepth 100000 in
theorem flittingref09_Ints.calls (k : Nat) (A0 : Option Addr) (c0 : Nat) (l0 : List Int) (A1 : Option Addr) (c1 : Nat) (l1 : List Int) (r : Bool) (w : World) (hr0 : Kd.C (Kd.int .i64) w A0 l0.length l0) (hc0 : l0.length ≤ c0) (hr1 : Kd.C (Kd.int .i64) w A1 l1.length l1) (hc1 : l1.length ≤ c1) (h : flittingref09_Ints.f k l0 l1 = some r) :
    Calls Tryd.prog 10 #[.slice A0 l0.length c0, .slice A1 l1.length c1] w fun e w' => e = .returned (.bool r) ∧ Drawn0 w w' := by
  have HR0 := Aside0.mk hr0
  have HC0 := Aside0.mk hc0
  clear hr0 hc0
  have HR1 := Aside0.mk hr1
  have HC1 := Aside0.mk hc1
  clear hr1 hc1
  have H : (if (l0.length : Int) = (l1.length : Int) then (flittingref09_Ints.l0 k l0 l1 0) else (some false)) = some r := h
  clear h
  by_cases c3 : (l0.length : Int) = (l1.length : Int)
  · rw [if_pos c3] at H
    have c3b0 : ((l0.length : Int) == (l1.length : Int)) = true := beq_iff_eq.mpr c3
    have c3b1 : ((l0.length : Int) != (l1.length : Int)) = false := bne_eq_false_iff_eq.mpr c3
    have c3b2 : (l0.length == l1.length) = true := by first | simpa using c3 | (simp at c3 ⊢; omega)
    clear c3
    have H' := Aside0.mk H
    clear H
    go_enter Tryd.func10, Tryd.ntmps10
    go_wp2
    repeat (go_quiet (fail); try go_wp2)
    go_loopg [5] k (fun kq v5 w' => ∃ (x5_1 : Int), v5 = .int .i64 x5_1 ∧ Aside0 (flittingref09_Ints.l0 kq l0 l1 x5_1 = some r) ∧ Aside0 (kq ≤ k) ∧ Drawn0 w w')
    case atStart => exact ⟨(0), (by first | rfl | (simp; done) | (simp [*]; done)), H', ⟨Nat.le_refl _⟩, by repeat (first | exact Drawn0.refl _ | apply Drawn0.step)⟩
    case round =>
      clear H'
      try clear c1
      try clear p2
      try clear c3
      try clear c3b0
      try clear c3b1
      try clear c3b2
      obtain ⟨x5_1, rfl, HA, HK1, ⟨m1, rfl⟩⟩ := hrel
      cases gk with
      | zero => exact absurd HA.out (by simp [flittingref09_Ints.l0])
      | succ k1 =>
        have H := HA.out
        clear HA
        simp only [flittingref09_Ints.l0] at H
        by_cases c4 : x5_1 < (l0.length : Int)
        · rw [if_pos c4] at H
          have c4b0 : decide (x5_1 < (l0.length : Int)) = true := decide_eq_true c4
          clear c4
          by_cases c5 : 0 ≤ x5_1
          · rw [if_pos c5] at H
            have c5b0 : decide (0 ≤ x5_1) = true := decide_eq_true c5
            clear c5
            by_cases c6 : x5_1 < (l1.length : Int)
            · rw [if_pos c6] at H
              have c6b0 : decide (x5_1 < (l1.length : Int)) = true := decide_eq_true c6
              clear c6
              by_cases c7 : (rd l0 x5_1) = (rd l1 x5_1)
              · rw [if_pos c7] at H
                have c7b0 : ((rd l0 x5_1) == (rd l1 x5_1)) = true := beq_iff_eq.mpr c7
                have c7b1 : ((rd l0 x5_1) != (rd l1 x5_1)) = false := bne_eq_false_iff_eq.mpr c7
                clear c7
                have H' := Aside0.mk H
                clear H
                have p146 : 0 ≤ (x5_1 : Int) := of_decide_eq_true (by first | (with_reducible assumption) | assumption)
                have q146 : x5_1 < (l0.length : Int) := of_decide_eq_true (by first | (with_reducible assumption) | assumption)
                obtain ⟨ad146, e146, hx146_0⟩ := Kd.at_int HR0.out x5_1 p146 q146
                cases e146
                replace p146 := eq_true p146
                replace q146 := eq_true q146
                have p147 : 0 ≤ (x5_1 : Int) := of_decide_eq_true (by first | (with_reducible assumption) | assumption)
                have q147 : x5_1 < (l1.length : Int) := of_decide_eq_true (by first | (with_reducible assumption) | assumption)
                obtain ⟨ad147, e147, hx147_0⟩ := Kd.at_int HR1.out x5_1 p147 q147
                cases e147
                replace p147 := eq_true p147
                replace q147 := eq_true q147
                go_wp2
                repeat (go_quiet (fail); try go_wp2)
                go_roundg k1
                case measure => have := HK1.out; omega
                case rel => exact ⟨(wrap64 (x5_1 + 1)), (by first | rfl | (simp; done) | (simp [*]; done)), H', ⟨by have := HK1.out; omega⟩, by repeat (first | exact Drawn0.refl _ | apply Drawn0.step)⟩
              · rw [if_neg c7] at H
                have c7b0 : ((rd l0 x5_1) == (rd l1 x5_1)) = false := beq_eq_false_iff_ne.mpr c7
                have c7b1 : ((rd l0 x5_1) != (rd l1 x5_1)) = true := bne_iff_ne.mpr c7
                obtain rfl := Option.some.inj H
                have p146 : 0 ≤ (x5_1 : Int) := of_decide_eq_true (by first | (with_reducible assumption) | assumption)
                have q146 : x5_1 < (l0.length : Int) := of_decide_eq_true (by first | (with_reducible assumption) | assumption)
                obtain ⟨ad146, e146, hx146_0⟩ := Kd.at_int HR0.out x5_1 p146 q146
                cases e146
                replace p146 := eq_true p146
                replace q146 := eq_true q146
                have p147 : 0 ≤ (x5_1 : Int) := of_decide_eq_true (by first | (with_reducible assumption) | assumption)
                have q147 : x5_1 < (l1.length : Int) := of_decide_eq_true (by first | (with_reducible assumption) | assumption)
                obtain ⟨ad147, e147, hx147_0⟩ := Kd.at_int HR1.out x5_1 p147 q147
                cases e147
                replace p147 := eq_true p147
                replace q147 := eq_true q147
                go_wp2
                repeat (go_quiet (fail); try go_wp2)
                go_ret
                exact ⟨by first | rfl | (simp; done) | (simp [*]; done), by repeat (first | exact Drawn0.refl _ | apply Drawn0.step)⟩
            · rw [if_neg c6] at H
              exact absurd H (by simp)
          · rw [if_neg c5] at H
            exact absurd H (by simp)
        · rw [if_neg c4] at H
          have c4b0 : decide (x5_1 < (l0.length : Int)) = false := decide_eq_false c4
          clear c4
          obtain rfl := Option.some.inj H
          go_wp2
          repeat (go_quiet (fail); try go_wp2)
          go_ret
          exact ⟨by first | rfl | (simp; done) | (simp [*]; done), by repeat (first | exact Drawn0.refl _ | apply Drawn0.step)⟩
  · rw [if_neg c3] at H
    have c3b0 : ((l0.length : Int) == (l1.length : Int)) = false := beq_eq_false_iff_ne.mpr c3
    have c3b1 : ((l0.length : Int) != (l1.length : Int)) = true := bne_iff_ne.mpr c3
    have c3b2 : (l0.length == l1.length) = false := by first | simpa using c3 | (simp at c3 ⊢; omega)
    obtain rfl := Option.some.inj H
    go_enter Tryd.func10, Tryd.ntmps10
    go_wp2
    repeat (go_quiet (fail); try go_wp2)
    go_ret
    exact ⟨by first | rfl | (simp; done) | (simp [*]; done), by repeat (first | exact Drawn0.refl _ | apply Drawn0.step)⟩

end Go.Proofs.YtohlphmjhmcpoaaDoor.PRankTargets
