/- RecBack: the walk. -/
import Derived.Test.YthoebncbhmefmaaRk
import Derived.Test.YthoebncbhmefmaaRu
namespace Go.Proofs.Ythoebncbhmefmaa.PRecBack
open Go.RowKit Go.Proofs.YthoebncbhmefmaaW.PrintWords Go.Proofs.YthoebncbhmefmaaW.PrintLast Go.Proofs.YthoebncbhmefmaaW.PrintMore
attribute [local go_sem] max2_int min2_int max_two min_two max_three min_three max_four min_four
set_option linter.unusedVariables false
set_option linter.unusedSimpArgs false
open Go.Proofs.Ythoebncbhmefmaa.Rc Go.Proofs.Ythoebncbhmefmaa.Op Go.Proofs.Ythoebncbhmefmaa.Ou
def flittinglaw09_RecBack.Pure : Prop := True
set_option maxHeartbeats 4000000 in
set_option maxRecDepth 100000 in
theorem flittinglaw09_RecBack.walk (_P : flittinglaw09_RecBack.Pure) (cs0 : Array Value) (x0 : TR) (w : World) (hK0 : kR.K w x0 cs0.toList) (hG0 : gRu x0) :
    Calls Try.prog 3 #[.agg cs0] w fun e w' => e = .returned (.bool true) ∧ Below w.heap.size w w' := by
  have hw0 := wid_of x0 (gr_of x0 hG0)
  have hkb := kb_of x0 hG0
  obtain ⟨P, Q, D, p, q, d_, hcs, hp, hP, hq, hQ, hd, hD⟩ := (toR_at x0 cs0 hK0).ex
  obtain ⟨r, hr⟩ : ∃ r, r = toR x0 := ⟨_, rfl⟩
  rw [← hr] at hcs hp hP hq hQ hd hD hw0 hkb
  subst hcs
  obtain ⟨b, hsm, hfew⟩ := small_f r hw0
  have HP := Aside0.mk hP
  have HQ := Aside0.mk hQ
  have HD := Aside0.mk hD
  have Hp := Aside0.mk hp
  have Hq := Aside0.mk hq
  have Hd := Aside0.mk hd
  have HF := Aside0.mk hfew
  have HS := Aside0.mk hsm
  have HKB := Aside0.mk hkb
  clear hw0 hp hP hq hQ hd hD hsm hfew hK0 hG0 hr hkb _P
  obtain ⟨w1, hw1⟩ : ∃ w1, w1 = w.alloc (.cells #[.int .i64 r.kind, .int .i64 r.id, .int .i64 r.size, .string r.key, .slice P r.strs.length p, .slice Q r.objs.length q, .slice D r.drv.length d_] 26) := ⟨_, rfl⟩
  have hB1 : Below w.heap.size w w1 := by rw [hw1]; exact (Below.refl _ _).alloc (Nat.le_refl _) _
  have hb1 : w1.heap[w.heap.size]? = some (.cells #[.int .i64 r.kind, .int .i64 r.id, .int .i64 r.size, .string r.key, .slice P r.strs.length p, .slice Q r.objs.length q, .slice D r.drv.length d_] 26 (0, 0)) := by rw [hw1]; exact heap_alloc_new w _
  have HW1 := Aside0.mk hw1
  have HB1 := Aside0.mk hB1
  have c0 : w1.cell? ⟨w.heap.size, 0, none⟩ = some (.int .i64 r.kind) := (blk_cell hb1 0).trans rfl
  have c1 : w1.cell? ⟨w.heap.size, 1, none⟩ = some (.int .i64 r.id) := (blk_cell hb1 1).trans rfl
  have c2 : w1.cell? ⟨w.heap.size, 2, none⟩ = some (.int .i64 r.size) := (blk_cell hb1 2).trans rfl
  have c3 : w1.cell? ⟨w.heap.size, 3, none⟩ = some (.string r.key) := (blk_cell hb1 3).trans rfl
  have c4 : w1.cell? ⟨w.heap.size, 4, none⟩ = some (.slice P r.strs.length p) := (blk_cell hb1 4).trans rfl
  have c5 : w1.cell? ⟨w.heap.size, 5, none⟩ = some (.slice Q r.objs.length q) := (blk_cell hb1 5).trans rfl
  have c6 : w1.cell? ⟨w.heap.size, 6, none⟩ = some (.slice D r.drv.length d_) := (blk_cell hb1 6).trans rfl
  clear hw1 hB1 hb1
  go_enter Try.func3, Try.ntmps3
  go_upto_region 1 with fail
  rw [← HW1.out]
  go_wp2_with fail
  refine (flittingref09_Small.calls 2000000 r.kind r.id r.size r.key P p r.strs Q q r.objs D d_ r.drv b w1 (Kd.C_below HP.out HB1.out) Hp.out (Kd.C_below HQ.out HB1.out) Hq.out (Kd.C_below HD.out HB1.out) Hd.out HS.out).mono ?_
  rintro e w2 ⟨rfl, hb2⟩
  have HB2 : Aside0 (Below w.heap.size w w2) := ⟨HB1.out.trans (hb2.mono HB1.out.size)⟩
  replace c0 := pw_cell_below hb2 c0
  replace c1 := pw_cell_below hb2 c1
  replace c2 := pw_cell_below hb2 c2
  replace c3 := pw_cell_below hb2 c3
  replace c4 := pw_cell_below hb2 c4
  replace c5 := pw_cell_below hb2 c5
  replace c6 := pw_cell_below hb2 c6
  clear hb2
  cases b with
  | false =>
    go_wp2_with fail
    refine (answers_calls _).mono ?_
    rintro e w9 ⟨rfl, hb9⟩
    have HB9 : Aside0 (Below w.heap.size w w9) := ⟨HB2.out.trans (hb9.mono HB2.out.size)⟩
    clear hb9
    go_wp2
    go_ret
    exact ⟨rfl, HB9.out⟩
  | true =>
    have HX := Aside0.mk (HF.out (by first | rfl | trivial))
    have HLW := Aside0.mk (rec_most r HX.out HKB.out)
    have HE : Aside0 _ := ⟨encode_calls P Q D p q d_ r w2 (Kd.C_below HP.out HB2.out) (Kd.C_below HQ.out HB2.out) (Kd.C_below HD.out HB2.out) HLW.out⟩
    rcases enc_cases r with hec | hec | ⟨hz, hlen, hec⟩
    · have HEC := Aside0.mk hec
      clear hec
      have HSA : Aside0 (flittingref01_Same.f 20000 [] [] = some true) := ⟨samea_f 20000 [] (by decide) (by decide)⟩
      rw [HEC.out] at HE
      simp only [List.length_nil] at *
      go_wp2_with fail
      refine HE.out.mono ?_
      rintro e w3 ⟨v3, rfl, hR3, hB3⟩
      obtain ⟨B1, n1, e3⟩ := Kd.R_slice hR3
      subst e3
      have HR3 := Aside0.mk hR3
      have HB3 : Aside0 (Below w.heap.size w w3) := ⟨HB2.out.trans (hB3.mono HB2.out.size)⟩
      replace c0 := pw_cell_below hB3 c0
      replace c1 := pw_cell_below hB3 c1
      replace c2 := pw_cell_below hB3 c2
      replace c3 := pw_cell_below hB3 c3
      replace c4 := pw_cell_below hB3 c4
      replace c5 := pw_cell_below hB3 c5
      replace c6 := pw_cell_below hB3 c6
      have HE2 : Aside0 _ := ⟨wencode_calls P Q D p q d_ r w3 (Kd.C_below HP.out HB3.out) (Kd.C_below HQ.out HB3.out) (Kd.C_below HD.out HB3.out) HLW.out⟩
      rw [HEC.out] at HE2
      clear hR3 hB3 HE
      go_wp2_with fail
      refine HE2.out.mono ?_
      rintro e w4 ⟨v4, rfl, hR4, hB4⟩
      obtain ⟨B2, n2, e4⟩ := Kd.R_slice hR4
      subst e4
      have HB4 : Aside0 (Below w.heap.size w w4) := ⟨HB3.out.trans (hB4.mono HB3.out.size)⟩
      replace c0 := pw_cell_below hB4 c0
      replace c1 := pw_cell_below hB4 c1
      replace c2 := pw_cell_below hB4 c2
      replace c3 := pw_cell_below hB4 c3
      replace c4 := pw_cell_below hB4 c4
      replace c5 := pw_cell_below hB4 c5
      replace c6 := pw_cell_below hB4 c6
      have HC1 := Aside0.mk (Kd.C_below (Kd.F_now (Kd.R_F HR3.out)) hB4)
      have HN1 := Aside0.mk (Kd.V_at (Kd.R_V (base' := 0) HR3.out)).2.1
      have HC2 := Aside0.mk (Kd.F_now (Kd.R_F hR4))
      have HN2 := Aside0.mk (Kd.V_at (Kd.R_V (base' := 0) hR4)).2.1
      clear hR4 hB4 HE2 HR3
      go_wp2_with fail
      refine (flittingref01_Same.calls 20000 B1 n1 [] B2 n2 [] true w4 HC1.out HN1.out HC2.out HN2.out HSA.out).mono ?_
      rintro e w5 ⟨rfl, hb5⟩
      have HB5 : Aside0 (Below w.heap.size w w5) := ⟨HB4.out.trans (hb5.below.mono HB4.out.size)⟩
      replace c0 := pw_cell_below hb5.below c0
      replace c1 := pw_cell_below hb5.below c1
      replace c2 := pw_cell_below hb5.below c2
      replace c3 := pw_cell_below hb5.below c3
      replace c4 := pw_cell_below hb5.below c4
      replace c5 := pw_cell_below hb5.below c5
      replace c6 := pw_cell_below hb5.below c6
      clear hb5
      go_wp2_with fail
      refine (answers_calls _).mono ?_
      rintro e w9 ⟨rfl, hb9⟩
      have HB9 : Aside0 (Below w.heap.size w w9) := ⟨HB5.out.trans (hb9.mono HB5.out.size)⟩
      clear hb9
      go_wp2
      go_ret
      exact ⟨rfl, HB9.out⟩
    · have HEC := Aside0.mk hec
      clear hec
      have HSA : Aside0 (flittingref01_Same.f 20000 [] [] = some true) := ⟨samea_f 20000 [] (by decide) (by decide)⟩
      rw [HEC.out] at HE
      simp only [List.length_nil] at *
      go_wp2_with fail
      refine HE.out.mono ?_
      rintro e w3 ⟨v3, rfl, hR3, hB3⟩
      obtain ⟨B1, n1, e3⟩ := Kd.R_slice hR3
      subst e3
      have HR3 := Aside0.mk hR3
      have HB3 : Aside0 (Below w.heap.size w w3) := ⟨HB2.out.trans (hB3.mono HB2.out.size)⟩
      replace c0 := pw_cell_below hB3 c0
      replace c1 := pw_cell_below hB3 c1
      replace c2 := pw_cell_below hB3 c2
      replace c3 := pw_cell_below hB3 c3
      replace c4 := pw_cell_below hB3 c4
      replace c5 := pw_cell_below hB3 c5
      replace c6 := pw_cell_below hB3 c6
      have HE2 : Aside0 _ := ⟨wencode_calls P Q D p q d_ r w3 (Kd.C_below HP.out HB3.out) (Kd.C_below HQ.out HB3.out) (Kd.C_below HD.out HB3.out) HLW.out⟩
      rw [HEC.out] at HE2
      clear hR3 hB3 HE
      go_wp2_with fail
      refine HE2.out.mono ?_
      rintro e w4 ⟨v4, rfl, hR4, hB4⟩
      obtain ⟨B2, n2, e4⟩ := Kd.R_slice hR4
      subst e4
      have HB4 : Aside0 (Below w.heap.size w w4) := ⟨HB3.out.trans (hB4.mono HB3.out.size)⟩
      replace c0 := pw_cell_below hB4 c0
      replace c1 := pw_cell_below hB4 c1
      replace c2 := pw_cell_below hB4 c2
      replace c3 := pw_cell_below hB4 c3
      replace c4 := pw_cell_below hB4 c4
      replace c5 := pw_cell_below hB4 c5
      replace c6 := pw_cell_below hB4 c6
      have HC1 := Aside0.mk (Kd.C_below (Kd.F_now (Kd.R_F HR3.out)) hB4)
      have HN1 := Aside0.mk (Kd.V_at (Kd.R_V (base' := 0) HR3.out)).2.1
      have HC2 := Aside0.mk (Kd.F_now (Kd.R_F hR4))
      have HN2 := Aside0.mk (Kd.V_at (Kd.R_V (base' := 0) hR4)).2.1
      clear hR4 hB4 HE2 HR3
      go_wp2_with fail
      refine (flittingref01_Same.calls 20000 B1 n1 [] B2 n2 [] true w4 HC1.out HN1.out HC2.out HN2.out HSA.out).mono ?_
      rintro e w5 ⟨rfl, hb5⟩
      have HB5 : Aside0 (Below w.heap.size w w5) := ⟨HB4.out.trans (hb5.below.mono HB4.out.size)⟩
      replace c0 := pw_cell_below hb5.below c0
      replace c1 := pw_cell_below hb5.below c1
      replace c2 := pw_cell_below hb5.below c2
      replace c3 := pw_cell_below hb5.below c3
      replace c4 := pw_cell_below hb5.below c4
      replace c5 := pw_cell_below hb5.below c5
      replace c6 := pw_cell_below hb5.below c6
      clear hb5
      go_wp2_with fail
      refine (answers_calls _).mono ?_
      rintro e w9 ⟨rfl, hb9⟩
      have HB9 : Aside0 (Below w.heap.size w w9) := ⟨HB5.out.trans (hb9.mono HB5.out.size)⟩
      clear hb9
      go_wp2
      go_ret
      exact ⟨rfl, HB9.out⟩
    · have HEC := Aside0.mk hec
      have HDB := Aside0.mk (dec_back r hz)
      have HBY := Aside0.mk (byt_wRec r)
      obtain ⟨l, hl⟩ : ∃ l, l = (wRec r).1 := ⟨_, rfl⟩
      rw [← hl] at HEC HDB HBY hlen
      have HLN := Aside0.mk hlen
      have HSA : Aside0 (flittingref01_Same.f 20000 l l = some true) := ⟨samea_f 20000 l (by omega) (by omega)⟩
      have HSF : Aside0 _ := ⟨same_f 4000 (by decide) r r HX.out 20000 (by decide)⟩
      rw [eqR_refl] at HSF
      rw [HEC.out] at HE
      clear hz hec hl hlen
      go_wp2_with fail
      refine HE.out.mono ?_
      rintro e w3 ⟨v3, rfl, hR3, hB3⟩
      obtain ⟨B1, n1, e3⟩ := Kd.R_slice hR3
      subst e3
      have HR3 := Aside0.mk hR3
      have HB3 : Aside0 (Below w.heap.size w w3) := ⟨HB2.out.trans (hB3.mono HB2.out.size)⟩
      replace c0 := pw_cell_below hB3 c0
      replace c1 := pw_cell_below hB3 c1
      replace c2 := pw_cell_below hB3 c2
      replace c3 := pw_cell_below hB3 c3
      replace c4 := pw_cell_below hB3 c4
      replace c5 := pw_cell_below hB3 c5
      replace c6 := pw_cell_below hB3 c6
      have HE2 : Aside0 _ := ⟨wencode_calls P Q D p q d_ r w3 (Kd.C_below HP.out HB3.out) (Kd.C_below HQ.out HB3.out) (Kd.C_below HD.out HB3.out) HLW.out⟩
      rw [HEC.out] at HE2
      clear hR3 hB3 HE
      go_wp2_with fail
      refine HE2.out.mono ?_
      rintro e w4 ⟨v4, rfl, hR4, hB4⟩
      obtain ⟨B2, n2, e4⟩ := Kd.R_slice hR4
      subst e4
      have HB4 : Aside0 (Below w.heap.size w w4) := ⟨HB3.out.trans (hB4.mono HB3.out.size)⟩
      replace c0 := pw_cell_below hB4 c0
      replace c1 := pw_cell_below hB4 c1
      replace c2 := pw_cell_below hB4 c2
      replace c3 := pw_cell_below hB4 c3
      replace c4 := pw_cell_below hB4 c4
      replace c5 := pw_cell_below hB4 c5
      replace c6 := pw_cell_below hB4 c6
      have HC1 := Aside0.mk (Kd.C_below (Kd.F_now (Kd.R_F HR3.out)) hB4)
      have HN1 := Aside0.mk (Kd.V_at (Kd.R_V (base' := 0) HR3.out)).2.1
      have HC2 := Aside0.mk (Kd.F_now (Kd.R_F hR4))
      have HN2 := Aside0.mk (Kd.V_at (Kd.R_V (base' := 0) hR4)).2.1
      clear hR4 hB4 HE2 HR3
      go_wp2_with fail
      refine (flittingref01_Same.calls 20000 B1 n1 l B2 n2 l true w4 HC1.out HN1.out HC2.out HN2.out HSA.out).mono ?_
      rintro e w5 ⟨rfl, hb5⟩
      have HB5 : Aside0 (Below w.heap.size w w5) := ⟨HB4.out.trans (hb5.below.mono HB4.out.size)⟩
      replace c0 := pw_cell_below hb5.below c0
      replace c1 := pw_cell_below hb5.below c1
      replace c2 := pw_cell_below hb5.below c2
      replace c3 := pw_cell_below hb5.below c3
      replace c4 := pw_cell_below hb5.below c4
      replace c5 := pw_cell_below hb5.below c5
      replace c6 := pw_cell_below hb5.below c6
      have HD1 : Aside0 _ := ⟨decode_calls B1 n1 l w5 (Kd.C_below HC1.out hb5.below) HN1.out HBY.out (by have := HLN.out; omega)⟩
      rw [HDB.out] at HD1
      clear hb5
      go_wp2_with fail
      refine HD1.out.mono ?_
      rintro e w6 ⟨cs, rfl, hat, hB6⟩
      obtain ⟨A4, A5, A6, k4, k5, k6, rfl, h4, hC4, h5, hC5, h6, hC6⟩ := hat.ex
      have HB6 : Aside0 (Below w.heap.size w w6) := ⟨HB5.out.trans (hB6.mono HB5.out.size)⟩
      replace c0 := pw_cell_below hB6 c0
      replace c1 := pw_cell_below hB6 c1
      replace c2 := pw_cell_below hB6 c2
      replace c3 := pw_cell_below hB6 c3
      replace c4 := pw_cell_below hB6 c4
      replace c5 := pw_cell_below hB6 c5
      replace c6 := pw_cell_below hB6 c6
      obtain ⟨w7, hw7⟩ : ∃ w7, w7 = w6.alloc (.cells #[.int .i64 r.kind, .int .i64 r.id, .int .i64 r.size, .string r.key, .slice A4 r.strs.length k4, .slice A5 r.objs.length k5, .slice A6 r.drv.length k6] 26) := ⟨_, rfl⟩
      have hB7 : Below w6.heap.size w6 w7 := by rw [hw7]; exact (Below.refl _ _).alloc (Nat.le_refl _) _
      have hb7 : w7.heap[w6.heap.size]? = some (.cells #[.int .i64 r.kind, .int .i64 r.id, .int .i64 r.size, .string r.key, .slice A4 r.strs.length k4, .slice A5 r.objs.length k5, .slice A6 r.drv.length k6] 26 (0, 0)) := by rw [hw7]; exact heap_alloc_new w6 _
      have HW7 := Aside0.mk hw7
      have HB7 : Aside0 (Below w.heap.size w w7) := ⟨HB6.out.trans (hB7.mono HB6.out.size)⟩
      replace c0 := pw_cell_below hB7 c0
      replace c1 := pw_cell_below hB7 c1
      replace c2 := pw_cell_below hB7 c2
      replace c3 := pw_cell_below hB7 c3
      replace c4 := pw_cell_below hB7 c4
      replace c5 := pw_cell_below hB7 c5
      replace c6 := pw_cell_below hB7 c6
      have d0 : w7.cell? ⟨w6.heap.size, 0, none⟩ = some (.int .i64 r.kind) := (blk_cell hb7 0).trans rfl
      have d1 : w7.cell? ⟨w6.heap.size, 1, none⟩ = some (.int .i64 r.id) := (blk_cell hb7 1).trans rfl
      have d2 : w7.cell? ⟨w6.heap.size, 2, none⟩ = some (.int .i64 r.size) := (blk_cell hb7 2).trans rfl
      have d3 : w7.cell? ⟨w6.heap.size, 3, none⟩ = some (.string r.key) := (blk_cell hb7 3).trans rfl
      have d4 : w7.cell? ⟨w6.heap.size, 4, none⟩ = some (.slice A4 r.strs.length k4) := (blk_cell hb7 4).trans rfl
      have d5 : w7.cell? ⟨w6.heap.size, 5, none⟩ = some (.slice A5 r.objs.length k5) := (blk_cell hb7 5).trans rfl
      have d6 : w7.cell? ⟨w6.heap.size, 6, none⟩ = some (.slice A6 r.drv.length k6) := (blk_cell hb7 6).trans rfl
      have HC4 := Aside0.mk (Kd.C_below hC4 hB7)
      have HC5 := Aside0.mk (Kd.C_below hC5 hB7)
      have HC6 := Aside0.mk (Kd.C_below hC6 hB7)
      have Hh4 := Aside0.mk h4
      have Hh5 := Aside0.mk h5
      have Hh6 := Aside0.mk h6
      clear hat hC4 hC5 hC6 h4 h5 h6 hB6 hw7 hB7 hb7 HD1
      go_upto_region 10 with fail
      rw [← HW7.out]
      go_wp2_with fail
      refine (answers_calls _).mono ?_
      rintro e w8 ⟨rfl, hb8⟩
      have HB8 : Aside0 (Below w.heap.size w w8) := ⟨HB7.out.trans (hb8.mono HB7.out.size)⟩
      replace c0 := pw_cell_below hb8 c0
      replace c1 := pw_cell_below hb8 c1
      replace c2 := pw_cell_below hb8 c2
      replace c3 := pw_cell_below hb8 c3
      replace c4 := pw_cell_below hb8 c4
      replace c5 := pw_cell_below hb8 c5
      replace c6 := pw_cell_below hb8 c6
      replace d0 := pw_cell_below hb8 d0
      replace d1 := pw_cell_below hb8 d1
      replace d2 := pw_cell_below hb8 d2
      replace d3 := pw_cell_below hb8 d3
      replace d4 := pw_cell_below hb8 d4
      replace d5 := pw_cell_below hb8 d5
      replace d6 := pw_cell_below hb8 d6
      have hc8 : Below w7.heap.size w7 w8 := hb8
      clear hb8
      go_wp2_with fail
      refine (flittingref09_Same.calls 20000 r.kind r.id r.size r.key A4 k4 r.strs A5 k5 r.objs A6 k6 r.drv r.kind r.id r.size r.key P p r.strs Q q r.objs D d_ r.drv true w8 (Kd.C_below HC4.out hc8) Hh4.out (Kd.C_below HC5.out hc8) Hh5.out (Kd.C_below HC6.out hc8) Hh6.out (Kd.C_below HP.out HB8.out) Hp.out (Kd.C_below HQ.out HB8.out) Hq.out (Kd.C_below HD.out HB8.out) Hd.out HSF.out).mono ?_
      rintro e w9 ⟨rfl, hb9⟩
      have HB9 : Aside0 (Below w.heap.size w w9) := ⟨HB8.out.trans (hb9.mono HB8.out.size)⟩
      clear hb9 hc8
      go_wp2
      go_ret
      exact ⟨rfl, HB9.out⟩
end Go.Proofs.Ythoebncbhmefmaa.PRecBack
