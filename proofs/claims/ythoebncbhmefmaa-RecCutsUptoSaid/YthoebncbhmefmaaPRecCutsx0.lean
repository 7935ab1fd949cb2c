/- RecCuts: the walk. -/
import Derived.Test.YthoebncbhmefmaaRk
import Derived.Test.YthoebncbhmefmaaRu
namespace Go.Proofs.Ythoebncbhmefmaa.PRecCuts
open Go.RowKit Go.Proofs.YthoebncbhmefmaaW.PrintWords Go.Proofs.YthoebncbhmefmaaW.PrintLast Go.Proofs.YthoebncbhmefmaaW.PrintMore
attribute [local go_sem] max2_int min2_int max_two min_two max_three min_three max_four min_four
set_option linter.unusedVariables false
set_option linter.unusedSimpArgs false
open Go.Proofs.Ythoebncbhmefmaa.Rc Go.Proofs.Ythoebncbhmefmaa.Op Go.Proofs.Ythoebncbhmefmaa.Ou
def flittinglaw09_RecCuts.Pure : Prop := True
theorem rec_pos (r : Rc) : 0 < (wRec r).1.length := by
 have h0 : (wHead r).1.length = 1 := by show (wN r.kind 1 5 ([], false)).1.length = 1; rw [wN_len]; rfl
 have hg : Grows (wHead r) (wRec r) := (grows_N _ _ _ _).trans ((grows_N _ _ _ _).trans ((grows_key _ _).trans ((grows_stripes _ _).trans (((grows_N _ _ _ _).trans (grows_fold _ (fun _ _ => grows_object _ _) _ _)).trans (grows_ints _ _)))))
 have := hg.len
 omega
set_option maxHeartbeats 4000000 in
set_option maxRecDepth 100000 in
theorem flittinglaw09_RecCuts.walk (_P : flittinglaw09_RecCuts.Pure) (cs0 : Array Value) (x0 : TR) (a1 : Int) (m : Int) (w : World) (hK0 : kR.K w x0 cs0.toList) (hG0 : gRu x0) (hx1 : (Lit.int .u16 a1).wf = true) (hx2 : (Lit.int .u8 m).wf = true) :
  Calls Try.prog 5 #[.agg cs0, .int .u16 a1, .int .u8 m] w fun e w' => e = .returned (.bool true) ∧ Below w.heap.size w w' := by
 have ha1 : 0 ≤ a1 ∧ a1 ≤ 65535 := by
  have h : IntKind.u16.min ≤ a1 ∧ a1 ≤ IntKind.u16.max := by simpa [Lit.wf] using hx1
  exact h
 have hm : 0 ≤ m ∧ m ≤ 255 := by
  have h : IntKind.u8.min ≤ m ∧ m ≤ IntKind.u8.max := by simpa [Lit.wf] using hx2
  exact h
 obtain ⟨n, rfl⟩ : ∃ n : Nat, a1 = n := ⟨a1.toNat, by omega⟩
 have hw0 := wid_of x0 (gr_of x0 hG0)
 have hkb := kb_of x0 hG0
 obtain ⟨P, Q, D, p, q, d_, hcs, hp, hP, hq, hQ, hd, hD⟩ := (toR_at x0 cs0 hK0).ex
 obtain ⟨r, hr⟩ : ∃ r, r = toR x0 := ⟨_, rfl⟩
 rw [← hr] at hcs hp hP hq hQ hd hD hw0 hkb
 subst hcs
 obtain ⟨b, hsm, hfew⟩ := small_f r hw0
 have HP := Aside0.mk hP
 have HQ := Aside0.mk hQ
 have HD := Aside0.mk hD
 have Hp := Aside0.mk hp
 have Hq := Aside0.mk hq
 have Hd := Aside0.mk hd
 have HF := Aside0.mk hfew
 have HS := Aside0.mk hsm
 have HKB := Aside0.mk hkb
 have HMM := Aside0.mk hm
 have HNN := Aside0.mk ha1
 clear hw0 hp hP hq hQ hd hD hsm hfew hK0 hG0 hr hkb _P hm ha1 hx1 hx2
 obtain ⟨w1, hw1⟩ : ∃ w1, w1 = w.alloc (.cells #[.int .i64 r.kind, .int .i64 r.id, .int .i64 r.size, .string r.key, .slice P r.strs.length p, .slice Q r.objs.length q, .slice D r.drv.length d_] 26) := ⟨_, rfl⟩
 have hB1 : Below w.heap.size w w1 := by rw [hw1]; exact (Below.refl _ _).alloc (Nat.le_refl _) _
 have hb1 : w1.heap[w.heap.size]? = some (.cells #[.int .i64 r.kind, .int .i64 r.id, .int .i64 r.size, .string r.key, .slice P r.strs.length p, .slice Q r.objs.length q, .slice D r.drv.length d_] 26 (0, 0)) := by rw [hw1]; exact heap_alloc_new w _
 have HW1 := Aside0.mk hw1
 have HB1 := Aside0.mk hB1
 have c0 : w1.cell? ⟨w.heap.size, 0, none⟩ = some (.int .i64 r.kind) := (blk_cell hb1 0).trans rfl
 have c1 : w1.cell? ⟨w.heap.size, 1, none⟩ = some (.int .i64 r.id) := (blk_cell hb1 1).trans rfl
 have c2 : w1.cell? ⟨w.heap.size, 2, none⟩ = some (.int .i64 r.size) := (blk_cell hb1 2).trans rfl
 have c3 : w1.cell? ⟨w.heap.size, 3, none⟩ = some (.string r.key) := (blk_cell hb1 3).trans rfl
 have c4 : w1.cell? ⟨w.heap.size, 4, none⟩ = some (.slice P r.strs.length p) := (blk_cell hb1 4).trans rfl
 have c5 : w1.cell? ⟨w.heap.size, 5, none⟩ = some (.slice Q r.objs.length q) := (blk_cell hb1 5).trans rfl
 have c6 : w1.cell? ⟨w.heap.size, 6, none⟩ = some (.slice D r.drv.length d_) := (blk_cell hb1 6).trans rfl
 clear hw1 hB1 hb1
 go_enter Try.func5, Try.ntmps5
 go_upto_region 1 with fail
 rw [← HW1.out]
 go_wp2_with fail
 refine (flittingref09_Small.calls 2000000 r.kind r.id r.size r.key P p r.strs Q q r.objs D d_ r.drv b w1 (Kd.C_below HP.out HB1.out) Hp.out (Kd.C_below HQ.out HB1.out) Hq.out (Kd.C_below HD.out HB1.out) Hd.out HS.out).mono ?_
 rintro e w2 ⟨rfl, hb2⟩
 have HB2 : Aside0 (Below w.heap.size w w2) := ⟨HB1.out.trans (hb2.mono HB1.out.size)⟩
 replace c0 := pw_cell_below hb2 c0
 replace c1 := pw_cell_below hb2 c1
 replace c2 := pw_cell_below hb2 c2
 replace c3 := pw_cell_below hb2 c3
 replace c4 := pw_cell_below hb2 c4
 replace c5 := pw_cell_below hb2 c5
 replace c6 := pw_cell_below hb2 c6
 clear hb2
 cases b with
 | false =>
  go_wp2_with fail
  refine (answers_calls _).mono ?_
  rintro e w9 ⟨rfl, hb9⟩
  have HB9 : Aside0 (Below w.heap.size w w9) := ⟨HB2.out.trans (hb9.mono HB2.out.size)⟩
  clear hb9
  go_wp2
  go_ret
  exact ⟨rfl, HB9.out⟩
 | true =>
  have HX := Aside0.mk (HF.out (by first | rfl | trivial))
  have HLW := Aside0.mk (rec_most r HX.out HKB.out)
  have HE : Aside0 _ := ⟨wencode_calls P Q D p q d_ r w2 (Kd.C_below HP.out HB2.out) (Kd.C_below HQ.out HB2.out) (Kd.C_below HD.out HB2.out) HLW.out⟩
  rcases enc_cases r with hec | hec | ⟨hz, hlen, hec⟩
  ·rw [hec] at HE
   clear hec
   go_wp2_with fail
   refine HE.out.mono ?_
   rintro e w3 ⟨v3, rfl, hR3, hB3⟩
   obtain ⟨B1, n1, e3⟩ := Kd.R_slice hR3
   subst e3
   have HB3 : Aside0 (Below w.heap.size w w3) := ⟨HB2.out.trans (hB3.mono HB2.out.size)⟩
   clear hR3 hB3 HE c0 c1 c2 c3 c4 c5 c6
   go_wp2_with fail
   refine (answers_calls _).mono ?_
   rintro e w9 ⟨rfl, hb9⟩
   have HB9 : Aside0 (Below w.heap.size w w9) := ⟨HB3.out.trans (hb9.mono HB3.out.size)⟩
   clear hb9
   go_wp2
   go_ret
   exact ⟨rfl, HB9.out⟩
  ·rw [hec] at HE
   clear hec
   go_wp2_with fail
   refine HE.out.mono ?_
   rintro e w3 ⟨v3, rfl, hR3, hB3⟩
   obtain ⟨B1, n1, e3⟩ := Kd.R_slice hR3
   subst e3
   have HB3 : Aside0 (Below w.heap.size w w3) := ⟨HB2.out.trans (hB3.mono HB2.out.size)⟩
   clear hR3 hB3 HE c0 c1 c2 c3 c4 c5 c6
   go_wp2_with fail
   refine (answers_calls _).mono ?_
   rintro e w9 ⟨rfl, hb9⟩
   have HB9 : Aside0 (Below w.heap.size w w9) := ⟨HB3.out.trans (hb9.mono HB3.out.size)⟩
   clear hb9
   go_wp2
   go_ret
   exact ⟨rfl, HB9.out⟩
  ·rw [hec] at HE
   have hpos := rec_pos r
   have HBY := Aside0.mk (byt_wRec r)
   obtain ⟨l, hl⟩ : ∃ l, l = (wRec r).1 := ⟨_, rfl⟩
   obtain ⟨k, hk⟩ : ∃ k, k = n % l.length := ⟨_, rfl⟩
   have hkl : k < l.length := by rw [hk]; exact Nat.mod_lt _ (by rw [hl]; exact hpos)
   have HDC : Aside0 (decO (l.take k) = (zRc, 2)) := ⟨dec_cut r hz (l.take k) (l.drop k) (by rw [List.take_append_drop, hl]) (fun e => by have := congrArg List.length e; rw [List.length_drop, List.length_nil] at this; omega)⟩
   have HDM : Aside0 (decO (l ++ [m]) = (zRc, 2)) := ⟨by rw [hl]; exact dec_more r hz m HMM.out.1 (by have := HMM.out.2; omega)⟩
   have HBY2 : Aside0 (Byt (l ++ [m])) := ⟨by rw [hl]; exact byt_app (byt_wRec r) (fun x hx => by rw [List.mem_singleton.1 hx]; have := HMM.out; omega)⟩
   rw [← hl] at HE HBY hlen hpos
   have HLN := Aside0.mk hlen
   have HKL := Aside0.mk hkl
   have hmod : ((n : Int)) % (l.length : Int) = (k : Int) := by rw [hk]; exact (Int.natCast_emod n l.length).symm
   have htm : ((n : Int)).tmod (l.length : Int) = (k : Int) := by rw [Int.tmod_eq_emod_of_nonneg (by omega)]; exact hmod
   have hwn : wrap64 (n : Int) = (n : Int) := by unfold wrap64; have := HNN.out; omega
   have hne : ¬ ((l.length : Int) = 0) := by omega
   have hne2 : ¬ (l.length = 0) := by omega
   have htk : (l.take k).length = k := by rw [List.length_take]; omega
   have HTK := Aside0.mk htk
   have HSF : Aside0 (flittingref09_Same.f 20000 0 0 0 ⟨#[]⟩ [] [] [] 0 0 0 ⟨#[]⟩ [] [] [] = some true) := ⟨by
    have := same_f 0 (by decide) zRc zRc ⟨⟨Nat.le_refl _, fun x hx => by cases hx⟩, ⟨Nat.le_refl _, fun x hx => by cases hx⟩, Nat.le_refl _⟩ 20000 (by decide)
    rw [eqR_refl] at this
    exact this⟩
   clear hz hec hlen hl hk htk
   go_wp2_with fail
   refine HE.out.mono ?_
   rintro e w3 ⟨v3, rfl, hR3, hB3⟩
   obtain ⟨B1, n1, e3⟩ := Kd.R_slice hR3
   subst e3
   have HC3 := Aside0.mk (Kd.F_now (Kd.R_F hR3))
   have hcap := (Kd.V_at (Kd.R_V (base' := 0) hR3)).2.1
   have HN1 := Aside0.mk hcap
   have hkc : k ≤ n1 := by omega
   have hkc2 : (k : Int) ≤ (n1 : Int) := by omega
   have HB3 : Aside0 (Below w.heap.size w w3) := ⟨HB2.out.trans (hB3.mono HB2.out.size)⟩
   have HD1 : Aside0 _ := ⟨decode_calls B1 n1 (l.take k) w3 (Kd.C_take HC3.out (Nat.le_of_lt hkl)) (by rw [HTK.out]; exact hkc) (fun x hx => HBY.out x (List.mem_of_mem_take hx)) (by rw [HTK.out]; have := HLN.out; omega)⟩
   rw [HDC.out, HTK.out] at HD1
   clear hR3 hB3 HE c0 c1 c2 c3 c4 c5 c6
   go_wp2_with fail
   (try simp only [hwn, htm, Int.toNat_natCast])
   refine HD1.out.mono ?_
   rintro e w4 ⟨cs, rfl, hat, hB1⟩
   obtain ⟨A1, E1, F1, a1, e1, f1, rfl, h4, hC4, h5, hC5, h6, hC6⟩ := hat.ex
   simp only [zRc, List.length_nil] at *
   have HBw4 : Aside0 (Below w.heap.size w w4) := ⟨HB3.out.trans (hB1.mono HB3.out.size)⟩
   obtain ⟨w5, hwb⟩ : ∃ wb, wb = w4.alloc (.cells #[.int .i64 0, .int .i64 0, .int .i64 0, .string ⟨#[]⟩, .slice A1 0 a1, .slice E1 0 e1, .slice F1 0 f1] 26) := ⟨_, rfl⟩
   have hBb : Below w4.heap.size w4 w5 := by rw [hwb]; exact (Below.refl _ _).alloc (Nat.le_refl _) _
   have hbb : w5.heap[w4.heap.size]? = some (.cells #[.int .i64 0, .int .i64 0, .int .i64 0, .string ⟨#[]⟩, .slice A1 0 a1, .slice E1 0 e1, .slice F1 0 f1] 26 (0, 0)) := by rw [hwb]; exact heap_alloc_new w4 _
   have HWw5 := Aside0.mk hwb
   have HBw5 : Aside0 (Below w.heap.size w w5) := ⟨HBw4.out.trans (hBb.mono HBw4.out.size)⟩
   have d0 : w5.cell? ⟨w4.heap.size, 0, none⟩ = some (.int .i64 0) := (blk_cell hbb 0).trans rfl
   have d1 : w5.cell? ⟨w4.heap.size, 1, none⟩ = some (.int .i64 0) := (blk_cell hbb 1).trans rfl
   have d2 : w5.cell? ⟨w4.heap.size, 2, none⟩ = some (.int .i64 0) := (blk_cell hbb 2).trans rfl
   have d3 : w5.cell? ⟨w4.heap.size, 3, none⟩ = some (.string ⟨#[]⟩) := (blk_cell hbb 3).trans rfl
   have d4 : w5.cell? ⟨w4.heap.size, 4, none⟩ = some (.slice A1 0 a1) := (blk_cell hbb 4).trans rfl
   have d5 : w5.cell? ⟨w4.heap.size, 5, none⟩ = some (.slice E1 0 e1) := (blk_cell hbb 5).trans rfl
   have d6 : w5.cell? ⟨w4.heap.size, 6, none⟩ = some (.slice F1 0 f1) := (blk_cell hbb 6).trans rfl
   have HA1 := Aside0.mk (Kd.C_below hC4 hBb)
   have HE1 := Aside0.mk (Kd.C_below hC5 hBb)
   have HF1 := Aside0.mk (Kd.C_below hC6 hBb)
   have Ha1 := Aside0.mk h4
   have He1 := Aside0.mk h5
   have Hf1 := Aside0.mk h6
   clear hat hC4 hC5 hC6 h4 h5 h6 hwb hBb hbb HD1
   have HC5 : Aside0 (U8.C w5 B1 l.length l) := ⟨Kd.C_below (Kd.C_below HC3.out hB1) (by rw [HWw5.out]; exact (Below.refl _ _).alloc (Nat.le_refl _) _)⟩
   have HM : Aside0 (U8.R 5 (w5.alloc (.cells #[] 5)) w5.heap.size (fun _ => True) (.slice (some ⟨w5.heap.size, 0, none⟩) 0 0) []) := ⟨⟨fun _ _ => trivial, [], World.ownsRow_made w5 #[] 0 (Nat.le_refl _) (Nat.zero_le _) rfl, Reps.none _ _⟩⟩
   have HBm : Aside0 (Below w5.heap.size w5 (w5.alloc (.cells #[] 5))) := ⟨(Below.refl _ _).alloc (Nat.le_refl _) _⟩
   clear hB1 hwn hmod htm hne hne2 hkc hkc2 hcap hkl hpos
   go_upto_region 7 with fail
   rw [← HWw5.out]
   go_wp2_with (first | (at_builtin; refine Kd.R_append U8 (w0 := w5) w5.heap.size rfl (.tmp 39) (.tmp 41) 29 5 (.int .u8 0) 1 rfl Try.underlying29 info5 rfl (by decide) (by decide) (.slice A8 l.length d8) l m [.int .u8 m] (fun _ => True) (fun _ => False) rfl rfl rfl (fun _ hk => hk.elim) (fun _ _ => trivial) HO6.out HG6.out HG6.out.size ?aL ?_; (case aL => have := HLN.out; omega); intro v7 w7 ho hb hg hat; have HO7 := Aside0.mk ho; have HG7 := Aside0.mk hb; obtain ⟨A9, d9, e9⟩ := Kd.R_slice ho; subst e9; have HB7 : Aside0 (Below w.heap.size w w7) := ⟨HBw5.out.trans (hb.mono HBw5.out.size)⟩; have HD2 : Aside0 _ := ⟨decode_calls A9 d9 (l ++ [m]) w7 (Kd.F_now (Kd.R_F ho)) (Kd.V_at (Kd.R_V (base' := 0) ho)).2.1 HBY2.out (by have := HLN.out; simp only [List.length_append, List.length_singleton]; omega)⟩; rw [HDM.out] at HD2; (try rw [List.length_append, List.length_singleton] at HD2); replace d0 := pw_cell_below hb d0; replace d1 := pw_cell_below hb d1; replace d2 := pw_cell_below hb d2; replace d3 := pw_cell_below hb d3; replace d4 := pw_cell_below hb d4; replace d5 := pw_cell_below hb d5; replace d6 := pw_cell_below hb d6; clear ho hb hg hat) | (at_builtin; refine Kd.R_append_rows U8 (w0 := w5) (Rr := U8.K w5) w5.heap.size rfl (.tmp 37) (.tmp 38) 29 5 (.int .u8 0) 1 rfl Try.underlying29 info5 rfl (by decide) (by decide) (.slice (some ⟨w5.heap.size, 0, none⟩) 0 0) [] l B1 l.length n1 (fun _ => True) (fun _ => False) rfl rfl HM.out (Kd.C_below HC5.out HBm.out) (fun _ _ h => h) (fun _ hk => hk.elim) (fun _ _ => trivial) HBm.out HBm.out.size ?aL ?_; (case aL => have := HLN.out; simp only [List.length_nil]; omega); intro v6 w6 ho hb hg hat; have HO6 : Aside0 (U8.R 5 w6 w5.heap.size (fun _ => True) v6 l) := ⟨ho⟩; have HG6 := Aside0.mk hb; obtain ⟨A8, d8, e8⟩ := Kd.R_slice ho; subst e8; clear ho hb hg hat HM HBm))
   refine HD2.out.mono ?_
   rintro e w8 ⟨cs, rfl, hat, hB2⟩
   obtain ⟨A2, E2, F2, a2, e2, f2, rfl, h4, hC4, h5, hC5, h6, hC6⟩ := hat.ex
   simp only [zRc, List.length_nil] at *
   have HBw8 : Aside0 (Below w.heap.size w w8) := ⟨HB7.out.trans (hB2.mono HB7.out.size)⟩
   replace d0 := pw_cell_below hB2 d0
   replace d1 := pw_cell_below hB2 d1
   replace d2 := pw_cell_below hB2 d2
   replace d3 := pw_cell_below hB2 d3
   replace d4 := pw_cell_below hB2 d4
   replace d5 := pw_cell_below hB2 d5
   replace d6 := pw_cell_below hB2 d6
   obtain ⟨w9, hwb⟩ : ∃ wb, wb = w8.alloc (.cells #[.int .i64 0, .int .i64 0, .int .i64 0, .string ⟨#[]⟩, .slice A2 0 a2, .slice E2 0 e2, .slice F2 0 f2] 26) := ⟨_, rfl⟩
   have hBb : Below w8.heap.size w8 w9 := by rw [hwb]; exact (Below.refl _ _).alloc (Nat.le_refl _) _
   have hbb : w9.heap[w8.heap.size]? = some (.cells #[.int .i64 0, .int .i64 0, .int .i64 0, .string ⟨#[]⟩, .slice A2 0 a2, .slice E2 0 e2, .slice F2 0 f2] 26 (0, 0)) := by rw [hwb]; exact heap_alloc_new w8 _
   have HWw9 := Aside0.mk hwb
   have HBw9 : Aside0 (Below w.heap.size w w9) := ⟨HBw8.out.trans (hBb.mono HBw8.out.size)⟩
   replace d0 := pw_cell_below hBb d0
   replace d1 := pw_cell_below hBb d1
   replace d2 := pw_cell_below hBb d2
   replace d3 := pw_cell_below hBb d3
   replace d4 := pw_cell_below hBb d4
   replace d5 := pw_cell_below hBb d5
   replace d6 := pw_cell_below hBb d6
   have g0 : w9.cell? ⟨w8.heap.size, 0, none⟩ = some (.int .i64 0) := (blk_cell hbb 0).trans rfl
   have g1 : w9.cell? ⟨w8.heap.size, 1, none⟩ = some (.int .i64 0) := (blk_cell hbb 1).trans rfl
   have g2 : w9.cell? ⟨w8.heap.size, 2, none⟩ = some (.int .i64 0) := (blk_cell hbb 2).trans rfl
   have g3 : w9.cell? ⟨w8.heap.size, 3, none⟩ = some (.string ⟨#[]⟩) := (blk_cell hbb 3).trans rfl
   have g4 : w9.cell? ⟨w8.heap.size, 4, none⟩ = some (.slice A2 0 a2) := (blk_cell hbb 4).trans rfl
   have g5 : w9.cell? ⟨w8.heap.size, 5, none⟩ = some (.slice E2 0 e2) := (blk_cell hbb 5).trans rfl
   have g6 : w9.cell? ⟨w8.heap.size, 6, none⟩ = some (.slice F2 0 f2) := (blk_cell hbb 6).trans rfl
   have HA2 := Aside0.mk (Kd.C_below hC4 hBb)
   have HE2 := Aside0.mk (Kd.C_below hC5 hBb)
   have HF2 := Aside0.mk (Kd.C_below hC6 hBb)
   have Ha2 := Aside0.mk h4
   have He2 := Aside0.mk h5
   have Hf2 := Aside0.mk h6
   clear hat hC4 hC5 hC6 h4 h5 h6 hwb hBb hbb HD2
   have hq9 : Below w5.heap.size w5 w9 := (HG7.out.trans (hB2.mono HG7.out.size)).trans (by rw [HWw9.out]; exact ((Below.refl _ _).alloc (Nat.le_refl _) _).mono (HG7.out.trans (hB2.mono HG7.out.size)).size)
   clear hB2
   go_upto_region 8 with fail
   rw [← HWw9.out]
   go_wp2_with fail
   refine (answers_calls _).mono ?_
   rintro e wa ⟨rfl, hba⟩
   have HBwa : Aside0 (Below w.heap.size w wa) := ⟨HBw9.out.trans (hba.mono HBw9.out.size)⟩
   have hqa : Below w5.heap.size w5 wa := hq9.trans (hba.mono hq9.size)
   have hra : Below w9.heap.size w9 wa := hba
   replace d0 := pw_cell_below hba d0
   replace d1 := pw_cell_below hba d1
   replace d2 := pw_cell_below hba d2
   replace d3 := pw_cell_below hba d3
   replace d4 := pw_cell_below hba d4
   replace d5 := pw_cell_below hba d5
   replace d6 := pw_cell_below hba d6
   replace g0 := pw_cell_below hba g0
   replace g1 := pw_cell_below hba g1
   replace g2 := pw_cell_below hba g2
   replace g3 := pw_cell_below hba g3
   replace g4 := pw_cell_below hba g4
   replace g5 := pw_cell_below hba g5
   replace g6 := pw_cell_below hba g6
   clear hba
   go_wp2_with fail
   refine (flittingref09_Same.calls 20000 0 0 0 ⟨#[]⟩ A1 a1 [] E1 e1 [] F1 f1 [] 0 0 0 ⟨#[]⟩ none 0 [] none 0 [] none 0 [] true wa (Kd.C_below HA1.out hqa) Ha1.out (Kd.C_below HE1.out hqa) He1.out (Kd.C_below HF1.out hqa) Hf1.out (Kd.C_nil _ _) (Nat.le_refl _) (Kd.C_nil _ _) (Nat.le_refl _) (Kd.C_nil _ _) (Nat.le_refl _) HSF.out).mono ?_
   rintro e wb ⟨rfl, hbb⟩
   have HBwb : Aside0 (Below w.heap.size w wb) := ⟨HBwa.out.trans (hbb.mono HBwa.out.size)⟩
   have hrb : Below w9.heap.size w9 wb := hra.trans (hbb.mono hra.size)
   replace g0 := pw_cell_below hbb g0
   replace g1 := pw_cell_below hbb g1
   replace g2 := pw_cell_below hbb g2
   replace g3 := pw_cell_below hbb g3
   replace g4 := pw_cell_below hbb g4
   replace g5 := pw_cell_below hbb g5
   replace g6 := pw_cell_below hbb g6
   clear hbb d0 d1 d2 d3 d4 d5 d6
   go_wp2_with fail
   refine (flittingref09_Same.calls 20000 0 0 0 ⟨#[]⟩ A2 a2 [] E2 e2 [] F2 f2 [] 0 0 0 ⟨#[]⟩ none 0 [] none 0 [] none 0 [] true wb (Kd.C_below HA2.out hrb) Ha2.out (Kd.C_below HE2.out hrb) He2.out (Kd.C_below HF2.out hrb) Hf2.out (Kd.C_nil _ _) (Nat.le_refl _) (Kd.C_nil _ _) (Nat.le_refl _) (Kd.C_nil _ _) (Nat.le_refl _) HSF.out).mono ?_
   rintro e wc ⟨rfl, hbc⟩
   have HBwc : Aside0 (Below w.heap.size w wc) := ⟨HBwb.out.trans (hbc.mono HBwb.out.size)⟩
   clear hbc
   go_wp2
   go_ret
   exact ⟨rfl, HBwc.out⟩
end Go.Proofs.Ythoebncbhmefmaa.PRecCuts
