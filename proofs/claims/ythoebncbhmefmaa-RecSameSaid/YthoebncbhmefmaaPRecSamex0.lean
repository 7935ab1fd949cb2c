/- RecSame: the walk. -/
import Derived.Test.YthoebncbhmefmaaRv
namespace Go.Proofs.Ythoebncbhmefmaa.PRecSame
open Go.RowKit Go.Proofs.YthoebncbhmefmaaW.PrintWords Go.Proofs.YthoebncbhmefmaaW.PrintLast Go.Proofs.YthoebncbhmefmaaW.PrintMore
attribute [local go_sem] max2_int min2_int max_two min_two max_three min_three max_four min_four
set_option linter.unusedVariables false
set_option linter.unusedSimpArgs false
open Go.Proofs.Ythoebncbhmefmaa.Rc Go.Proofs.Ythoebncbhmefmaa.Op
def flittinglaw09_RecSame.Pure : Prop := True
set_option maxHeartbeats 4000000 in
set_option maxRecDepth 100000 in
theorem flittinglaw09_RecSame.walk (_P : flittinglaw09_RecSame.Pure) (cs0 : Array Value) (x0 : TR) (cs1 : Array Value) (x1 : TR) (w : World) (hK0 : kR.K w x0 cs0.toList) (hG0 : gR x0) (hK1 : kR.K w x1 cs1.toList) (hG1 : gR x1) :
    Calls Try.prog 6 #[.agg cs0, .agg cs1] w fun e w' => e = .returned (.bool true) ∧ Below w.heap.size w w' := by
  have hw1 := wid_of x0 hG0
  obtain ⟨P1, Q1, D1, p1, q1, d1_, hcs1, hp1, hP1, hq1, hQ1, hd1, hD1⟩ := (toR_at x0 cs0 hK0).ex
  obtain ⟨x, hr1⟩ : ∃ r, r = toR x0 := ⟨_, rfl⟩
  rw [← hr1] at hcs1 hp1 hP1 hq1 hQ1 hd1 hD1 hw1
  subst hcs1
  obtain ⟨b1, hsm1, hfew1⟩ := small_f x hw1
  have HP1 := Aside0.mk hP1
  have HQ1 := Aside0.mk hQ1
  have HD1 := Aside0.mk hD1
  have Hp1 := Aside0.mk hp1
  have Hq1 := Aside0.mk hq1
  have Hd1 := Aside0.mk hd1
  have HF1 := Aside0.mk hfew1
  have HS1 := Aside0.mk hsm1
  clear hw1 hp1 hP1 hq1 hQ1 hd1 hD1 hsm1 hfew1 hK0 hG0 hr1
  have hw2 := wid_of x1 hG1
  obtain ⟨P2, Q2, D2, p2, q2, d2_, hcs2, hp2, hP2, hq2, hQ2, hd2, hD2⟩ := (toR_at x1 cs1 hK1).ex
  obtain ⟨y, hr2⟩ : ∃ r, r = toR x1 := ⟨_, rfl⟩
  rw [← hr2] at hcs2 hp2 hP2 hq2 hQ2 hd2 hD2 hw2
  subst hcs2
  obtain ⟨b2, hsm2, hfew2⟩ := small_f y hw2
  have HP2 := Aside0.mk hP2
  have HQ2 := Aside0.mk hQ2
  have HD2 := Aside0.mk hD2
  have Hp2 := Aside0.mk hp2
  have Hq2 := Aside0.mk hq2
  have Hd2 := Aside0.mk hd2
  have HF2 := Aside0.mk hfew2
  have HS2 := Aside0.mk hsm2
  clear hw2 hp2 hP2 hq2 hQ2 hd2 hD2 hsm2 hfew2 hK1 hG1 hr2
  obtain ⟨wa, hwa⟩ : ∃ wa, wa = w.alloc (.cells #[.int .i64 x.kind, .int .i64 x.id, .int .i64 x.size, .string x.key, .slice P1 x.strs.length p1, .slice Q1 x.objs.length q1, .slice D1 x.drv.length d1_] 26) := ⟨_, rfl⟩
  have hBa : Below w.heap.size w wa := by rw [hwa]; exact (Below.refl _ _).alloc (Nat.le_refl _) _
  have hba : wa.heap[w.heap.size]? = some (.cells #[.int .i64 x.kind, .int .i64 x.id, .int .i64 x.size, .string x.key, .slice P1 x.strs.length p1, .slice Q1 x.objs.length q1, .slice D1 x.drv.length d1_] 26 (0, 0)) := by rw [hwa]; exact heap_alloc_new w _
  obtain ⟨w1, hw1⟩ : ∃ w1, w1 = wa.alloc (.cells #[.int .i64 y.kind, .int .i64 y.id, .int .i64 y.size, .string y.key, .slice P2 y.strs.length p2, .slice Q2 y.objs.length q2, .slice D2 y.drv.length d2_] 26) := ⟨_, rfl⟩
  have hB1 : Below wa.heap.size wa w1 := by rw [hw1]; exact (Below.refl _ _).alloc (Nat.le_refl _) _
  have hb1' : w1.heap[wa.heap.size]? = some (.cells #[.int .i64 y.kind, .int .i64 y.id, .int .i64 y.size, .string y.key, .slice P2 y.strs.length p2, .slice Q2 y.objs.length q2, .slice D2 y.drv.length d2_] 26 (0, 0)) := by rw [hw1]; exact heap_alloc_new wa _
  have hsz : wa.heap.size = w.heap.size + 1 := by rw [hwa]; exact Array.size_push ..
  rw [hsz] at hb1'
  have hba1 := blk_below hba hB1
  have HBa := Aside0.mk hba1
  have HBb := Aside0.mk hb1'
  have HWA := Aside0.mk hwa
  have HW1 := Aside0.mk hw1
  have HB1 : Aside0 (Below w.heap.size w w1) := ⟨hBa.trans (hB1.mono hBa.size)⟩
  have c0 : w1.cell? ⟨w.heap.size, 0, none⟩ = some (.int .i64 x.kind) := (blk_cell hba1 0).trans rfl
  have c1 : w1.cell? ⟨w.heap.size, 1, none⟩ = some (.int .i64 x.id) := (blk_cell hba1 1).trans rfl
  have c2 : w1.cell? ⟨w.heap.size, 2, none⟩ = some (.int .i64 x.size) := (blk_cell hba1 2).trans rfl
  have c3 : w1.cell? ⟨w.heap.size, 3, none⟩ = some (.string x.key) := (blk_cell hba1 3).trans rfl
  have c4 : w1.cell? ⟨w.heap.size, 4, none⟩ = some (.slice P1 x.strs.length p1) := (blk_cell hba1 4).trans rfl
  have c5 : w1.cell? ⟨w.heap.size, 5, none⟩ = some (.slice Q1 x.objs.length q1) := (blk_cell hba1 5).trans rfl
  have c6 : w1.cell? ⟨w.heap.size, 6, none⟩ = some (.slice D1 x.drv.length d1_) := (blk_cell hba1 6).trans rfl
  have e0 : w1.cell? ⟨w.heap.size + 1, 0, none⟩ = some (.int .i64 y.kind) := (blk_cell hb1' 0).trans rfl
  have e1 : w1.cell? ⟨w.heap.size + 1, 1, none⟩ = some (.int .i64 y.id) := (blk_cell hb1' 1).trans rfl
  have e2 : w1.cell? ⟨w.heap.size + 1, 2, none⟩ = some (.int .i64 y.size) := (blk_cell hb1' 2).trans rfl
  have e3 : w1.cell? ⟨w.heap.size + 1, 3, none⟩ = some (.string y.key) := (blk_cell hb1' 3).trans rfl
  have e4 : w1.cell? ⟨w.heap.size + 1, 4, none⟩ = some (.slice P2 y.strs.length p2) := (blk_cell hb1' 4).trans rfl
  have e5 : w1.cell? ⟨w.heap.size + 1, 5, none⟩ = some (.slice Q2 y.objs.length q2) := (blk_cell hb1' 5).trans rfl
  have e6 : w1.cell? ⟨w.heap.size + 1, 6, none⟩ = some (.slice D2 y.drv.length d2_) := (blk_cell hb1' 6).trans rfl
  clear hwa hBa hba hw1 hB1 hb1' hsz hba1 _P
  go_enter Try.func6, Try.ntmps6
  go_upto_region 1 with fail
  rw [← HWA.out, ← HW1.out]
  go_wp2_with fail
  refine (flittingref09_Small.calls 2000000 x.kind x.id x.size x.key P1 p1 x.strs Q1 q1 x.objs D1 d1_ x.drv b1 w1 (Kd.C_below HP1.out HB1.out) Hp1.out (Kd.C_below HQ1.out HB1.out) Hq1.out (Kd.C_below HD1.out HB1.out) Hd1.out HS1.out).mono ?_
  rintro e w2 ⟨rfl, hb2⟩
  have HB2 : Aside0 (Below w.heap.size w w2) := ⟨HB1.out.trans (hb2.mono HB1.out.size)⟩
  have HBb2 := Aside0.mk (blk_below HBb.out hb2)
  have HBa2 := Aside0.mk (blk_below HBa.out hb2)
  replace c0 := pw_cell_below hb2 c0
  replace c1 := pw_cell_below hb2 c1
  replace c2 := pw_cell_below hb2 c2
  replace c3 := pw_cell_below hb2 c3
  replace c4 := pw_cell_below hb2 c4
  replace c5 := pw_cell_below hb2 c5
  replace c6 := pw_cell_below hb2 c6
  replace e0 := pw_cell_below hb2 e0
  replace e1 := pw_cell_below hb2 e1
  replace e2 := pw_cell_below hb2 e2
  replace e3 := pw_cell_below hb2 e3
  replace e4 := pw_cell_below hb2 e4
  replace e5 := pw_cell_below hb2 e5
  replace e6 := pw_cell_below hb2 e6
  clear hb2
  cases b1 with
  | false =>
    go_wp2_with fail
    refine (answers_calls _).mono ?_
    rintro e w9 ⟨rfl, hb9⟩
    have HB9 : Aside0 (Below w.heap.size w w9) := ⟨HB2.out.trans (hb9.mono HB2.out.size)⟩
    clear hb9
    go_wp2
    go_ret
    exact ⟨rfl, HB9.out⟩
  | true =>
    go_wp2_with fail
    refine (flittingref09_Small.calls 2000000 y.kind y.id y.size y.key P2 p2 y.strs Q2 q2 y.objs D2 d2_ y.drv b2 w2 (Kd.C_below HP2.out HB2.out) Hp2.out (Kd.C_below HQ2.out HB2.out) Hq2.out (Kd.C_below HD2.out HB2.out) Hd2.out HS2.out).mono ?_
    rintro e w3 ⟨rfl, hb3⟩
    have HB3 : Aside0 (Below w.heap.size w w3) := ⟨HB2.out.trans (hb3.mono HB2.out.size)⟩
    have HBb3 := Aside0.mk (blk_below HBb2.out hb3)
    have HBa3 := Aside0.mk (blk_below HBa2.out hb3)
    replace c0 := pw_cell_below hb3 c0
    replace c1 := pw_cell_below hb3 c1
    replace c2 := pw_cell_below hb3 c2
    replace c3 := pw_cell_below hb3 c3
    replace c4 := pw_cell_below hb3 c4
    replace c5 := pw_cell_below hb3 c5
    replace c6 := pw_cell_below hb3 c6
    replace e0 := pw_cell_below hb3 e0
    replace e1 := pw_cell_below hb3 e1
    replace e2 := pw_cell_below hb3 e2
    replace e3 := pw_cell_below hb3 e3
    replace e4 := pw_cell_below hb3 e4
    replace e5 := pw_cell_below hb3 e5
    replace e6 := pw_cell_below hb3 e6
    clear hb3
    have HX := Aside0.mk (HF1.out (by first | rfl | trivial))
    cases b2 with
    | false =>
      go_wp2_with fail
      refine (answers_calls _).mono ?_
      rintro e w9 ⟨rfl, hb9⟩
      have HB9 : Aside0 (Below w.heap.size w w9) := ⟨HB3.out.trans (hb9.mono HB3.out.size)⟩
      clear hb9
      go_wp2
      go_ret
      exact ⟨rfl, HB9.out⟩
    | true =>
      go_wp2_with fail
      refine start_ (n := 16) (S := fun w' => w'.cell? ⟨w.heap.size, 0, none⟩ = some (.int .i64 x.kind) ∧ w'.cell? ⟨w.heap.size, 1, none⟩ = some (.int .i64 x.id) ∧ w'.cell? ⟨w.heap.size, 2, none⟩ = some (.int .i64 x.size) ∧ w'.cell? ⟨w.heap.size, 3, none⟩ = some (.string x.key) ∧ w'.cell? ⟨w.heap.size, 4, none⟩ = some (.slice P1 x.strs.length p1) ∧ w'.cell? ⟨w.heap.size, 5, none⟩ = some (.slice Q1 x.objs.length q1) ∧ w'.cell? ⟨w.heap.size, 6, none⟩ = some (.slice D1 x.drv.length d1_) ∧ w'.cell? ⟨w.heap.size + 1, 0, none⟩ = some (.int .i64 y.kind) ∧ w'.cell? ⟨w.heap.size + 1, 1, none⟩ = some (.int .i64 y.id) ∧ w'.cell? ⟨w.heap.size + 1, 2, none⟩ = some (.int .i64 y.size) ∧ w'.cell? ⟨w.heap.size + 1, 3, none⟩ = some (.string y.key) ∧ w'.cell? ⟨w.heap.size + 1, 4, none⟩ = some (.slice P2 y.strs.length p2) ∧ w'.cell? ⟨w.heap.size + 1, 5, none⟩ = some (.slice Q2 y.objs.length q2) ∧ w'.cell? ⟨w.heap.size + 1, 6, none⟩ = some (.slice D2 y.drv.length d2_)) (ds := []) #[false, false, false, false, false, false, false, false, false, false, false, false, false, false, false, false] (by kernel_rfl) rfl rfl ⟨c0, c1, c2, c3, c4, c5, c6, e0, e1, e2, e3, e4, e5, e6⟩ (fun hHeld => ?_)
      refine one_ (i := 0) (N := some 14) #[true, false, false, false, false, false, false, false, false, false, false, false, false, false, false, false] rfl rfl (by kernel_rfl) (by decide) (fun K hK => ?_)
      refine goes_ Try.func9 (by kernel_rfl) rfl #[] (by rfl) rfl rfl (by first | (simp only [List.map_toArray, List.map_nil]; done) | rfl) ?_
      with_reducible refine (answers_calls _).mono ?_
      rintro e w4 ⟨rfl, hb4⟩
      refine ⟨_, rfl, ?_⟩
      have hc4 : Below w3.heap.size w3 w4 := (below_drew (Below.refl _ _)).trans (hb4.mono (Nat.le_refl _))
      have HB4 : Aside0 (Below w.heap.size w w4) := ⟨HB3.out.trans (hc4.mono HB3.out.size)⟩
      refine hK.out _ _ ⟨(pw_cell_below hc4 c0), (pw_cell_below hc4 c1), (pw_cell_below hc4 c2), (pw_cell_below hc4 c3), (pw_cell_below hc4 c4), (pw_cell_below hc4 c5), (pw_cell_below hc4 c6), (pw_cell_below hc4 e0), (pw_cell_below hc4 e1), (pw_cell_below hc4 e2), (pw_cell_below hc4 e3), (pw_cell_below hc4 e4), (pw_cell_below hc4 e5), (pw_cell_below hc4 e6)⟩ (fun hHeld => ?_)
      clear hK K
      refine norm_ (a' := ?_) ?_ ?_
      rotate_left
      · show Act.put _ (some 14) _ = _
        simp only [Act.put, List.setIfInBounds_toArray, List.set_cons_zero, List.set_cons_succ, i64_w, i32_w]
        rfl
      refine pure_ (i := 1) (N := some 15) (v := ?_) (a' := ?_) #[true, true, false, false, false, false, false, false, false, false, false, false, false, false, false, false] rfl rfl (by kernel_rfl) (fun _ _ _ h => h) (Or.inl ⟨by rfl, ?_⟩) ?_ ?_
      rotate_left
      · intro w'
        go_simp
        with_reducible rfl
      rotate_left
      · simp only [Act.put, List.setIfInBounds_toArray, List.set_cons_zero, List.set_cons_succ, i64_w, i32_w]
        rfl
      refine take_ (i := 2) (N := some 16) (v := ?_) (a' := ?_) #[true, true, true, false, false, false, false, false, false, false, false, false, false, false, false, false] rfl rfl (by kernel_rfl) (fun _ _ _ h => h) (Or.inl ⟨by rfl, ?_⟩) hHeld ?_ ?_
      rotate_left
      · rintro w' ⟨s0, s1, s2, s3, s4, s5, s6, s7, s8, s9, s10, s11, s12, s13⟩
        go_simp
        with_reducible rfl
      rotate_left
      · simp only [Act.put, List.setIfInBounds_toArray, List.set_cons_zero, List.set_cons_succ, i64_w, i32_w]
        rfl
      refine take_ (i := 3) (N := some 17) (v := ?_) (a' := ?_) #[true, true, true, true, false, false, false, false, false, false, false, false, false, false, false, false] rfl rfl (by kernel_rfl) (fun _ _ _ h => h) (Or.inl ⟨by rfl, ?_⟩) hHeld ?_ ?_
      rotate_left
      · rintro w' ⟨s0, s1, s2, s3, s4, s5, s6, s7, s8, s9, s10, s11, s12, s13⟩
        go_simp
        with_reducible rfl
      rotate_left
      · simp only [Act.put, List.setIfInBounds_toArray, List.set_cons_zero, List.set_cons_succ, i64_w, i32_w]
        rfl
      refine take_ (i := 5) (N := some 19) (v := ?_) (a' := ?_) #[true, true, true, true, false, true, false, false, false, false, false, false, false, false, false, false] rfl rfl (by kernel_rfl) (fun _ _ _ h => h) (Or.inl ⟨by rfl, ?_⟩) hHeld ?_ ?_
      rotate_left
      · rintro w' ⟨s0, s1, s2, s3, s4, s5, s6, s7, s8, s9, s10, s11, s12, s13⟩
        go_simp
        with_reducible rfl
      rotate_left
      · simp only [Act.put, List.setIfInBounds_toArray, List.set_cons_zero, List.set_cons_succ, i64_w, i32_w]
        rfl
      refine take_ (i := 6) (N := some 20) (v := ?_) (a' := ?_) #[true, true, true, true, false, true, true, false, false, false, false, false, false, false, false, false] rfl rfl (by kernel_rfl) (fun _ _ _ h => h) (Or.inl ⟨by rfl, ?_⟩) hHeld ?_ ?_
      rotate_left
      · rintro w' ⟨s0, s1, s2, s3, s4, s5, s6, s7, s8, s9, s10, s11, s12, s13⟩
        go_simp
        with_reducible rfl
      rotate_left
      · simp only [Act.put, List.setIfInBounds_toArray, List.set_cons_zero, List.set_cons_succ, i64_w, i32_w]
        rfl
      refine one_ (i := 4) (N := some 18) #[true, true, true, true, true, true, true, false, false, false, false, false, false, false, false, false] rfl rfl (by kernel_rfl) (by decide) (fun K hK => ?_)
      refine goes_ Try.func15 (by kernel_rfl) rfl #[.agg #[.int .i64 x.kind, .int .i64 x.id, .int .i64 x.size, .string x.key, .slice P1 x.strs.length p1, .slice Q1 x.objs.length q1, .slice D1 x.drv.length d1_], .agg #[.int .i64 y.kind, .int .i64 y.id, .int .i64 y.size, .string y.key, .slice P2 y.strs.length p2, .slice Q2 y.objs.length q2, .slice D2 y.drv.length d2_]] (by rfl) rfl rfl (by simp only [List.map_toArray, List.map_cons, List.map_nil]; rfl) ?_
      with_reducible refine (rsame_calls 4000 (by decide) P1 Q1 D1 P2 Q2 D2 p1 q1 d1_ p2 q2 d2_ x y w4 HX.out (Kd.C_below HP1.out HB4.out) (Kd.C_below HQ1.out HB4.out) (Kd.C_below HD1.out HB4.out) (Kd.C_below HP2.out HB4.out) (Kd.C_below HQ2.out HB4.out) (Kd.C_below HD2.out HB4.out) Hd1.out Hd2.out).mono ?_
      rintro e w5 ⟨rfl, hb5⟩
      refine ⟨_, rfl, ?_⟩
      have hc5 : Below w3.heap.size w3 w5 := hc4.trans (hb5.mono hc4.size)
      have HB5 : Aside0 (Below w.heap.size w w5) := ⟨HB3.out.trans (hc5.mono HB3.out.size)⟩
      refine hK.out _ _ ⟨(pw_cell_below hc5 c0), (pw_cell_below hc5 c1), (pw_cell_below hc5 c2), (pw_cell_below hc5 c3), (pw_cell_below hc5 c4), (pw_cell_below hc5 c5), (pw_cell_below hc5 c6), (pw_cell_below hc5 e0), (pw_cell_below hc5 e1), (pw_cell_below hc5 e2), (pw_cell_below hc5 e3), (pw_cell_below hc5 e4), (pw_cell_below hc5 e5), (pw_cell_below hc5 e6)⟩ (fun hHeld => ?_)
      clear hK K
      refine norm_ (a' := ?_) ?_ ?_
      rotate_left
      · show Act.put _ (some 18) _ = _
        simp only [Act.put, List.setIfInBounds_toArray, List.set_cons_zero, List.set_cons_succ, i64_w, i32_w]
        rfl
      refine one_ (i := 7) (N := some 21) #[true, true, true, true, true, true, true, true, false, false, false, false, false, false, false, false] rfl rfl (by kernel_rfl) (by decide) (fun K hK => ?_)
      refine goes_ Try.func14 (by kernel_rfl) rfl #[.agg #[.int .i64 x.kind, .int .i64 x.id, .int .i64 x.size, .string x.key, .slice P1 x.strs.length p1, .slice Q1 x.objs.length q1, .slice D1 x.drv.length d1_], .agg #[.int .i64 y.kind, .int .i64 y.id, .int .i64 y.size, .string y.key, .slice P2 y.strs.length p2, .slice Q2 y.objs.length q2, .slice D2 y.drv.length d2_]] (by rfl) rfl rfl (by simp only [List.map_toArray, List.map_cons, List.map_nil]; rfl) ?_
      with_reducible refine (flittingref09_Same.calls 20000 x.kind x.id x.size x.key P1 p1 x.strs Q1 q1 x.objs D1 d1_ x.drv y.kind y.id y.size y.key P2 p2 y.strs Q2 q2 y.objs D2 d2_ y.drv (eqR x y) w5 (Kd.C_below HP1.out HB5.out) Hp1.out (Kd.C_below HQ1.out HB5.out) Hq1.out (Kd.C_below HD1.out HB5.out) Hd1.out (Kd.C_below HP2.out HB5.out) Hp2.out (Kd.C_below HQ2.out HB5.out) Hq2.out (Kd.C_below HD2.out HB5.out) Hd2.out (same_f 4000 (by decide) x y HX.out 20000 (by decide))).mono ?_
      rintro e w6 ⟨rfl, hb6⟩
      refine ⟨_, rfl, ?_⟩
      have hc6 : Below w3.heap.size w3 w6 := hc5.trans (hb6.mono hc5.size)
      have HB6 : Aside0 (Below w.heap.size w w6) := ⟨HB3.out.trans (hc6.mono HB3.out.size)⟩
      have hqq : (eqR x y == eqR x y) = true := by simp
      refine hK.out _ _ ⟨(pw_cell_below hc6 c0), (pw_cell_below hc6 c1), (pw_cell_below hc6 c2), (pw_cell_below hc6 c3), (pw_cell_below hc6 c4), (pw_cell_below hc6 c5), (pw_cell_below hc6 c6), (pw_cell_below hc6 e0), (pw_cell_below hc6 e1), (pw_cell_below hc6 e2), (pw_cell_below hc6 e3), (pw_cell_below hc6 e4), (pw_cell_below hc6 e5), (pw_cell_below hc6 e6)⟩ (fun hHeld => ?_)
      clear hK K
      refine norm_ (a' := ?_) ?_ ?_
      rotate_left
      · show Act.put _ (some 21) _ = _
        simp only [Act.put, List.setIfInBounds_toArray, List.set_cons_zero, List.set_cons_succ, i64_w, i32_w]
        rfl
      refine pure_ (i := 8) (N := some 22) (v := ?_) (a' := ?_) #[true, true, true, true, true, true, true, true, true, false, false, false, false, false, false, false] rfl rfl (by kernel_rfl) (fun _ _ _ h => h) (Or.inl ⟨by rfl, ?_⟩) ?_ ?_
      rotate_left
      · intro w'
        go_simp
        with_reducible rfl
      rotate_left
      · simp only [Act.put, List.setIfInBounds_toArray, List.set_cons_zero, List.set_cons_succ, i64_w, i32_w]
        rfl
      refine pure_ (i := 9) (N := some 23) (v := ?_) (a' := ?_) #[true, true, true, true, true, true, true, true, true, true, false, false, false, false, false, false] rfl rfl (by kernel_rfl) (fun _ _ _ h => h) (Or.inl ⟨by rfl, ?_⟩) ?_ ?_
      rotate_left
      · intro w'
        go_simp
        with_reducible rfl
      rotate_left
      · simp only [Act.put, List.setIfInBounds_toArray, List.set_cons_zero, List.set_cons_succ, i64_w, i32_w]
        rfl
      refine pure_ (i := 10) (N := some 24) (v := ?_) (a' := ?_) #[true, true, true, true, true, true, true, true, true, true, true, false, false, false, false, false] rfl rfl (by kernel_rfl) (fun _ _ _ h => h) (Or.inl ⟨by rfl, ?_⟩) ?_ ?_
      rotate_left
      · intro w'
        go_simp
        with_reducible rfl
      rotate_left
      · simp only [Act.put, List.setIfInBounds_toArray, List.set_cons_zero, List.set_cons_succ, i64_w, i32_w]
        rfl
      refine take_ (i := 11) (N := some 25) (v := ?_) (a' := ?_) #[true, true, true, true, true, true, true, true, true, true, true, true, false, false, false, false] rfl rfl (by kernel_rfl) (fun _ _ _ h => h) (Or.inl ⟨by rfl, ?_⟩) hHeld ?_ ?_
      rotate_left
      · rintro w' ⟨s0, s1, s2, s3, s4, s5, s6, s7, s8, s9, s10, s11, s12, s13⟩
        go_simp
        with_reducible rfl
      rotate_left
      · simp only [Act.put, List.setIfInBounds_toArray, List.set_cons_zero, List.set_cons_succ, i64_w, i32_w]
        rfl
      refine take_ (i := 12) (N := some 26) (v := ?_) (a' := ?_) #[true, true, true, true, true, true, true, true, true, true, true, true, true, false, false, false] rfl rfl (by kernel_rfl) (fun _ _ _ h => h) (Or.inl ⟨by rfl, ?_⟩) hHeld ?_ ?_
      rotate_left
      · rintro w' ⟨s0, s1, s2, s3, s4, s5, s6, s7, s8, s9, s10, s11, s12, s13⟩
        go_simp
        with_reducible rfl
      rotate_left
      · simp only [Act.put, List.setIfInBounds_toArray, List.set_cons_zero, List.set_cons_succ, i64_w, i32_w]
        rfl
      refine one_ (i := 13) (N := some 27) #[true, true, true, true, true, true, true, true, true, true, true, true, true, true, false, false] rfl rfl (by kernel_rfl) (by decide) (fun K hK => ?_)
      refine goes_ Try.func15 (by kernel_rfl) rfl #[.agg #[.int .i64 x.kind, .int .i64 x.id, .int .i64 x.size, .string x.key, .slice P1 x.strs.length p1, .slice Q1 x.objs.length q1, .slice D1 x.drv.length d1_], .agg #[.int .i64 x.kind, .int .i64 x.id, .int .i64 x.size, .string x.key, .slice P1 x.strs.length p1, .slice Q1 x.objs.length q1, .slice D1 x.drv.length d1_]] (by rfl) rfl rfl (by simp only [List.map_toArray, List.map_cons, List.map_nil]; rfl) ?_
      with_reducible refine (rsame_calls 4000 (by decide) P1 Q1 D1 P1 Q1 D1 p1 q1 d1_ p1 q1 d1_ x x w6 HX.out (Kd.C_below HP1.out HB6.out) (Kd.C_below HQ1.out HB6.out) (Kd.C_below HD1.out HB6.out) (Kd.C_below HP1.out HB6.out) (Kd.C_below HQ1.out HB6.out) (Kd.C_below HD1.out HB6.out) Hd1.out Hd1.out).mono ?_
      rintro e w7 ⟨rfl, hb7⟩
      refine ⟨_, rfl, ?_⟩
      have hc7 : Below w3.heap.size w3 w7 := hc6.trans (hb7.mono hc6.size)
      have HB7 : Aside0 (Below w.heap.size w w7) := ⟨HB3.out.trans (hc7.mono HB3.out.size)⟩
      rw [eqR_refl]
      refine hK.out _ _ ⟨(pw_cell_below hc7 c0), (pw_cell_below hc7 c1), (pw_cell_below hc7 c2), (pw_cell_below hc7 c3), (pw_cell_below hc7 c4), (pw_cell_below hc7 c5), (pw_cell_below hc7 c6), (pw_cell_below hc7 e0), (pw_cell_below hc7 e1), (pw_cell_below hc7 e2), (pw_cell_below hc7 e3), (pw_cell_below hc7 e4), (pw_cell_below hc7 e5), (pw_cell_below hc7 e6)⟩ (fun hHeld => ?_)
      clear hK K
      refine norm_ (a' := ?_) ?_ ?_
      rotate_left
      · show Act.put _ (some 27) _ = _
        simp only [Act.put, List.setIfInBounds_toArray, List.set_cons_zero, List.set_cons_succ, i64_w, i32_w]
        rfl
      refine pure_ (i := 14) (N := some 28) (v := ?_) (a' := ?_) #[true, true, true, true, true, true, true, true, true, true, true, true, true, true, true, false] rfl rfl (by kernel_rfl) (fun _ _ _ h => h) (Or.inl ⟨by rfl, ?_⟩) ?_ ?_
      rotate_left
      · intro w'
        go_simp
        with_reducible rfl
      rotate_left
      · simp only [Act.put, List.setIfInBounds_toArray, List.set_cons_zero, List.set_cons_succ, i64_w, i32_w]
        rfl
      refine pure_ (i := 15) (N := some 4) (v := ?_) (a' := ?_) #[true, true, true, true, true, true, true, true, true, true, true, true, true, true, true, true] rfl rfl (by kernel_rfl) (fun _ _ _ h => h) (Or.inl ⟨by rfl, ?_⟩) ?_ ?_
      rotate_left
      · intro w'
        go_simp
        with_reducible rfl
      rotate_left
      · simp only [Act.put, List.setIfInBounds_toArray, List.set_cons_zero, List.set_cons_succ, i64_w, i32_w]
        rfl
      refine done_ (by kernel_rfl) ?_
      clear hHeld
      go_wp2
      go_ret
      exact ⟨rfl, HB7.out⟩
end Go.Proofs.Ythoebncbhmefmaa.PRecSame
