/- Records: the contract of Decode. -/
import Derived.Test.YthoebncbhmefmaaProg
import Derived.Below
import Derived.Deep.Draws
import Derived.Deep.AppendLies
import Derived.Maps.AppendAt
import Derived.OwnWalk
import Derived.Laws.BytesArg
import Derived.Laws.MakeOwn
import Derived.Laws.OwnMore
import Derived.Deep.OwnRows
import Derived.Tactics
import Derived.Lib.ConvBytes
import Derived.Laws.Slices
import Derived.WalkKit
import Derived.KernelRfl
import Derived.RowKit3
import Derived.Deep.LoopGhost
import Derived.Deep.QuietTactic
import Derived.BigQuiet
import Derived.WideLaws
import Derived.Deep.DeepCutAuto
import Derived.Deep.CutBlock
import Derived.Deep.RegionHeld3
import Derived.Laws.Rows
import Derived.Lib.AppendStr
import Derived.ArgAppend
import Derived.Laws.IdiomCopy
import Derived.OrdersHeld
import Derived.Laws.BitsLemmas
import Derived.RowKit
import Derived.Test.YthoebncbhmefmaaWWords
import Derived.Test.YthoebncbhmefmaaWLast
import Derived.Test.YthoebncbhmefmaaWTab
import Derived.Test.YthoebncbhmefmaaWFour
import Derived.Test.YthoebncbhmefmaaWQPut
import Derived.Test.YthoebncbhmefmaaWApart
import Derived.Test.YthoebncbhmefmaaWArr
import Derived.Test.YthoebncbhmefmaaWZeros
import Derived.Test.YthoebncbhmefmaaWFoot
import Derived.Test.YthoebncbhmefmaaWKept
import Derived.Test.YthoebncbhmefmaaWShare
import Derived.Test.YthoebncbhmefmaaWN
import Derived.Test.YthoebncbhmefmaaWFootNe
import Derived.Test.YthoebncbhmefmaaWAt
import Derived.Test.YthoebncbhmefmaaWEqStruct
import Derived.Test.YthoebncbhmefmaaWRepsOne
import Derived.Test.YthoebncbhmefmaaWInv
import Derived.Test.YthoebncbhmefmaaWInvWords
import Derived.Test.YthoebncbhmefmaaWGuard
import Derived.Test.YthoebncbhmefmaaWNEv
import Derived.Test.YthoebncbhmefmaaWMore
import Derived.Test.YthoebncbhmefmaaRq
namespace Go.Proofs.Ythoebncbhmefmaa.Rc
open Go.RowKit Go.Proofs.YthoebncbhmefmaaW.PrintWords Go.Proofs.YthoebncbhmefmaaW.PrintLast Go.Proofs.YthoebncbhmefmaaW.PrintMore
attribute [local go_sem] max2_int min2_int max_two min_two max_three min_three max_four min_four
set_option linter.unusedVariables false
set_option linter.unusedSimpArgs false
/-- A record in cells. -/
structure RcAt (W : World) (r : Rc) (cs : Array Value) : Prop where
  ex : ∃ (A4 A5 A6 : Option Addr) (c4 c5 c6 : Nat), cs = #[.int .i64 r.kind, .int .i64 r.id, .int .i64 r.size, .string r.key, .slice A4 r.strs.length c4, .slice A5 r.objs.length c5, .slice A6 r.drv.length c6] ∧
    r.strs.length ≤ c4 ∧ k41.C W A4 r.strs.length r.strs ∧ r.objs.length ≤ c5 ∧ k44.C W A5 r.objs.length r.objs ∧ r.drv.length ≤ c6 ∧ (Kd.int .i64).C W A6 r.drv.length r.drv
theorem RcAt.below {W W' : World} {r : Rc} {cs : Array Value} (h : RcAt W r cs) (hb : Below W.heap.size W W') : RcAt W' r cs := by
  obtain ⟨A4, A5, A6, c4, c5, c6, h0, h1, h2, h3, h4, h5, h6⟩ := h.ex
  exact ⟨A4, A5, A6, c4, c5, c6, h0, h1, Kd.C_below h2 hb, h3, Kd.C_below h4 hb, h5, Kd.C_below h6 hb⟩
set_option maxHeartbeats 4000000 in
set_option maxRecDepth 100000 in
theorem decode_calls (A : Option Addr) (c : Nat) (l : List Int) (w : World) (hC : U8.C w A l.length l) (hc : l.length ≤ c) (hb : Byt l) (hl : l.length < 140737488350000) :
    Calls Try.prog 13 #[.slice A l.length c] w fun e w' => ∃ cs, e = .returned (.tuple #[.agg cs, .int .i64 (decO l).2]) ∧ RcAt w' (decO l).1 cs ∧ Below w.heap.size w w' := by
  have HCl := Aside0.mk hC
  have HLc := Aside0.mk hc
  have hRb := rec_bound _ (rrec_small l hb)
  obtain ⟨k, hk⟩ : ∃ k, k = rnum (l, false) 1 := ⟨_, rfl⟩
  obtain ⟨i, hi⟩ : ∃ i, i = rword k.2 := ⟨_, rfl⟩
  obtain ⟨z, hz⟩ : ∃ z, z = rword i.2 := ⟨_, rfl⟩
  obtain ⟨y, hy⟩ : ∃ y, y = rkey z.2 := ⟨_, rfl⟩
  obtain ⟨st, hst⟩ : ∃ st, st = rrow rstripe y.2 1 := ⟨_, rfl⟩
  obtain ⟨ob, hob⟩ : ∃ ob, ob = rrow robject st.2 2 := ⟨_, rfl⟩
  obtain ⟨dr, hdr⟩ : ∃ dr, dr = rrow rword ob.2 1 := ⟨_, rfl⟩
  have hE : rrec l = (⟨k.1, i.1, z.1, y.1, st.1, ob.1, dr.1⟩, dr.2) := by rw [hdr, hob, hst, hy, hz, hi, hk]; rfl
  obtain ⟨rr, hrr⟩ : ∃ rr : Rc, rr = ⟨k.1, i.1, z.1, y.1, st.1, ob.1, dr.1⟩ := ⟨_, rfl⟩
  rw [← hrr] at hE
  have HOK : Aside0 (decOk l = (!dr.2.2 && decide ((encO rr).2 = 0) && ((strOfNums (encO rr).1).toList == (strOfNums l).toList))) := ⟨by unfold decOk; rw [hE]⟩
  have HDE : Aside0 (decO l = if decOk l then (rr, 0) else (zRc, 2)) := ⟨by unfold decO; rw [hE]⟩
  rw [hE] at hRb
  have HRR := Aside0.mk hrr
  have HRB := Aside0.mk hRb
  have Hk := Aside0.mk hk
  have Hi := Aside0.mk hi
  have Hz := Aside0.mk hz
  have Hy := Aside0.mk hy
  have Hst := Aside0.mk hst
  have Hob := Aside0.mk hob
  have Hdr := Aside0.mk hdr
  clear hE hrr hRb hk hi hz hy hst hob hdr
  obtain ⟨wa, hwa⟩ : ∃ wa, wa = w.alloc (.cells #[.int .i64 0, .int .i64 0, .int .i64 0, .string ⟨#[]⟩, .slice none 0 0, .slice none 0 0, .slice none 0 0] 26) := ⟨_, rfl⟩
  have hBa : Below w.heap.size w wa := by rw [hwa]; exact (Below.refl _ _).alloc (Nat.le_refl _) _
  have hblka : wa.heap[w.heap.size]? = some (.cells #[.int .i64 0, .int .i64 0, .int .i64 0, .string ⟨#[]⟩, .slice none 0 0, .slice none 0 0, .slice none 0 0] 26 (0, 0)) := by rw [hwa]; exact heap_alloc_new w _
  have hlta : w.heap.size < wa.heap.size := blk_lt hblka
  obtain ⟨w1, hw1⟩ : ∃ w1, w1 = wa.alloc (.cells #[.slice A l.length c, .bool false] 57) := ⟨_, rfl⟩
  have hB1 : Below wa.heap.size wa w1 := by rw [hw1]; exact (Below.refl _ _).alloc (Nat.le_refl _) _
  have hblk1 : w1.heap[wa.heap.size]? = some (.cells #[.slice A l.length c, .bool false] 57 (0, 0)) := by rw [hw1]; exact heap_alloc_new wa _
  have HR1 : Aside0 (Rd w w1 wa.heap.size (l, false)) := ⟨hBa.trans (hB1.mono hBa.size), hBa.size, hb, hl, A, c, hblk1, hc, hC⟩
  have HBk := Aside0.mk (blk_below hblka hB1)
  have HWA := Aside0.mk hwa
  have HW1 := Aside0.mk hw1
  have HLT : Aside0 (w.heap.size < wa.heap.size ∧ w.heap.size < w1.heap.size) := ⟨hlta, Nat.lt_of_lt_of_le hlta hB1.size⟩
  clear hC hc hb hl hwa hBa hblka hlta hw1 hB1 hblk1
  go_enter Try.func13, Try.ntmps13
  go_upto_region 1 with fail
  rw [← HWA.out]
  go_upto_region 2 with fail
  rw [← HW1.out]
  obtain ⟨g, hg⟩ : ∃ g, g = wa.heap.size := ⟨_, rfl⟩
  rw [← hg] at HR1 HLT
  simp only [← hg]
  have HGg := Aside0.mk hg
  clear hg
  have HK1 : Aside0 (Kx w1 w1 g) := ⟨Kx.refl _ _⟩
  have HC : Aside0 _ := ⟨num_reads w w1 g (l, false) 1 1 rfl HR1.out (by decide)⟩
  rw [← Hk.out] at HC
  go_wp2_with fail
  refine HC.out.mono ?_
  rintro e w2 ⟨rfl, hR, hk⟩
  have HR2 := Aside0.mk hR
  have HK2 := Aside0.mk (HK1.out.trans hk)
  have HKs2 := Aside0.mk hk
  clear hR hk HC
  have HC : Aside0 _ := ⟨word_reads w w2 g k.2 HR2.out⟩
  rw [← Hi.out] at HC
  go_wp2_with fail
  refine HC.out.mono ?_
  rintro e w3 ⟨rfl, hR, hk⟩
  have HR3 := Aside0.mk hR
  have HK3 := Aside0.mk (HK2.out.trans hk)
  have HKs3 := Aside0.mk hk
  clear hR hk HC
  have HC : Aside0 _ := ⟨word_reads w w3 g i.2 HR3.out⟩
  rw [← Hz.out] at HC
  go_wp2_with fail
  refine HC.out.mono ?_
  rintro e w4 ⟨rfl, hR, hk⟩
  have HR4 := Aside0.mk hR
  have HK4 := Aside0.mk (HK3.out.trans hk)
  have HKs4 := Aside0.mk hk
  clear hR hk HC
  have HC : Aside0 _ := ⟨key_reads w w4 g z.2 HR4.out⟩
  rw [← Hy.out] at HC
  go_wp2_with fail
  refine HC.out.mono ?_
  rintro e w5 ⟨rfl, hR, hk⟩
  have HR5 := Aside0.mk hR
  have HK5 := Aside0.mk (HK4.out.trans hk)
  have HKs5 := Aside0.mk hk
  clear hR hk HC
  have HC : Aside0 _ := ⟨rowStripe_reads w w5 g y.2 1 1 rfl HR5.out (by decide)⟩
  rw [← Hst.out] at HC
  go_wp2_with fail
  refine HC.out.mono ?_
  rintro e w6 ⟨v_, rfl, hv, hR, hk⟩
  have HR6 := Aside0.mk hR
  have HK6 := Aside0.mk (HK5.out.trans hk)
  have HKs6 := Aside0.mk hk
  obtain ⟨As, cs, eAs⟩ := Kd.R_slice hv
  subst eAs
  have HVs : Aside0 ((k41).R 41 w6 w.heap.size (fun j => j ≠ g ∧ j ≠ w.heap.size) (.slice As st.1.length cs) st.1) := ⟨Kd.R_mono hv (fun j hj => by have := HR5.out.lt; have := HLT.out.1; omega)⟩
  clear hv
  clear hR hk HC
  have HC : Aside0 _ := ⟨rowObject_reads w w6 g st.2 2 2 rfl HR6.out (by decide)⟩
  rw [← Hob.out] at HC
  go_wp2_with fail
  refine HC.out.mono ?_
  rintro e w7 ⟨v_, rfl, hv, hR, hk⟩
  have HR7 := Aside0.mk hR
  have HK7 := Aside0.mk (HK6.out.trans hk)
  have HKs7 := Aside0.mk hk
  obtain ⟨Ab, cb, eAb⟩ := Kd.R_slice hv
  subst eAb
  have HVb : Aside0 ((k44).R 44 w7 w.heap.size (fun j => j ≠ g ∧ j ≠ w.heap.size) (.slice Ab ob.1.length cb) ob.1) := ⟨Kd.R_mono hv (fun j hj => by have := HR6.out.lt; have := HLT.out.1; omega)⟩
  clear hv
  replace HVs : Aside0 ((k41).R 41 w7 w.heap.size (fun j => j ≠ g ∧ j ≠ w.heap.size) (.slice As st.1.length cs) st.1) := ⟨Kd.R_step HVs.out (fun j h1 hl => hk.block j hl h1.1)⟩
  clear hR hk HC
  have HC : Aside0 _ := ⟨rowInt_reads w w7 g ob.2 1 1 rfl HR7.out (by decide)⟩
  rw [← Hdr.out] at HC
  go_wp2_with fail
  refine HC.out.mono ?_
  rintro e w8 ⟨v_, rfl, hv, hR, hk⟩
  have HR8 := Aside0.mk hR
  have HK8 := Aside0.mk (HK7.out.trans hk)
  have HKs8 := Aside0.mk hk
  obtain ⟨Ad, cd, eAd⟩ := Kd.R_slice hv
  subst eAd
  have HVd : Aside0 ((Kd.int .i64).R 3 w8 w.heap.size (fun j => j ≠ g ∧ j ≠ w.heap.size) (.slice Ad dr.1.length cd) dr.1) := ⟨Kd.R_mono hv (fun j hj => by have := HR7.out.lt; have := HLT.out.1; omega)⟩
  clear hv
  replace HVs : Aside0 ((k41).R 41 w8 w.heap.size (fun j => j ≠ g ∧ j ≠ w.heap.size) (.slice As st.1.length cs) st.1) := ⟨Kd.R_step HVs.out (fun j h1 hl => hk.block j hl h1.1)⟩
  replace HVb : Aside0 ((k44).R 44 w8 w.heap.size (fun j => j ≠ g ∧ j ≠ w.heap.size) (.slice Ab ob.1.length cb) ob.1) := ⟨Kd.R_step HVb.out (fun j h1 hl => hk.block j hl h1.1)⟩
  clear hR hk HC
  obtain ⟨w9, hw9⟩ : ∃ w9, w9 = w8.alloc (.cells #[.int .i64 k.1, .int .i64 i.1, .int .i64 z.1, .string y.1, .slice As st.1.length cs, .slice Ab ob.1.length cb, .slice Ad dr.1.length cd] 26) := ⟨_, rfl⟩
  have hB9 : Below w8.heap.size w8 w9 := by rw [hw9]; exact (Below.refl _ _).alloc (Nat.le_refl _) _
  have hblk9 : w9.heap[w8.heap.size]? = some (.cells #[.int .i64 k.1, .int .i64 i.1, .int .i64 z.1, .string y.1, .slice As st.1.length cs, .slice Ab ob.1.length cb, .slice Ad dr.1.length cd] 26 (0, 0)) := by rw [hw9]; exact heap_alloc_new w8 _
  have HW9 := Aside0.mk hw9
  have HB9 := Aside0.mk hB9
  have HK9 := Aside0.mk hblk9
  have hC4 : k41.C w9 As rr.strs.length rr.strs := by rw [HRR.out]; exact Kd.C_below (Kd.F_now (Kd.R_F HVs.out)) hB9
  have hC5 : k44.C w9 Ab rr.objs.length rr.objs := by rw [HRR.out]; exact Kd.C_below (Kd.F_now (Kd.R_F HVb.out)) hB9
  have hC6 : (Kd.int .i64).C w9 Ad rr.drv.length rr.drv := by rw [HRR.out]; exact Kd.C_below (Kd.F_now (Kd.R_F HVd.out)) hB9
  have HC4 := Aside0.mk hC4
  have HC5 := Aside0.mk hC5
  have HC6 := Aside0.mk hC6
  have hEN := encode_calls As Ab Ad cs cb cd rr w9 hC4 hC5 hC6 HRB.out
  have hagg : (#[.int .i64 rr.kind, .int .i64 rr.id, .int .i64 rr.size, .string rr.key, .slice As rr.strs.length cs, .slice Ab rr.objs.length cb, .slice Ad rr.drv.length cd] : Array Value) = #[.int .i64 k.1, .int .i64 i.1, .int .i64 z.1, .string y.1, .slice As st.1.length cs, .slice Ab ob.1.length cb, .slice Ad dr.1.length cd] := by rw [HRR.out]
  rw [hagg] at hEN
  have HEN := Aside0.mk hEN
  have hcs4 : rr.strs.length ≤ cs := by rw [HRR.out]; exact (Kd.V_at (Kd.R_V (base' := 0) HVs.out)).2.1
  have hcs5 : rr.objs.length ≤ cb := by rw [HRR.out]; exact (Kd.V_at (Kd.R_V (base' := 0) HVb.out)).2.1
  have hcs6 : rr.drv.length ≤ cd := by rw [HRR.out]; exact (Kd.V_at (Kd.R_V (base' := 0) HVd.out)).2.1
  have HCS := Aside0.mk (And.intro hcs4 (And.intro hcs5 hcs6))
  have HAG := Aside0.mk hagg
  have d0 : w9.cell? ⟨w8.heap.size, 0, none⟩ = some (.int .i64 k.1) := (blk_cell hblk9 0).trans rfl
  have d1 : w9.cell? ⟨w8.heap.size, 1, none⟩ = some (.int .i64 i.1) := (blk_cell hblk9 1).trans rfl
  have d2 : w9.cell? ⟨w8.heap.size, 2, none⟩ = some (.int .i64 z.1) := (blk_cell hblk9 2).trans rfl
  have d3 : w9.cell? ⟨w8.heap.size, 3, none⟩ = some (.string y.1) := (blk_cell hblk9 3).trans rfl
  have d4 : w9.cell? ⟨w8.heap.size, 4, none⟩ = some (.slice As st.1.length cs) := (blk_cell hblk9 4).trans rfl
  have d5 : w9.cell? ⟨w8.heap.size, 5, none⟩ = some (.slice Ab ob.1.length cb) := (blk_cell hblk9 5).trans rfl
  have d6 : w9.cell? ⟨w8.heap.size, 6, none⟩ = some (.slice Ad dr.1.length cd) := (blk_cell hblk9 6).trans rfl
  clear hw9 hB9 hblk9 hC4 hC5 hC6 hEN hagg hcs4 hcs5 hcs6
  go_upto_region 3 with fail
  rw [← HW9.out]
  go_wp2_with fail
  refine HEN.out.mono ?_
  rintro e wz ⟨ve, rfl, hRe, hBe⟩
  obtain ⟨Ae, ce, ee⟩ := Kd.R_slice hRe
  subst ee
  have HRe := Aside0.mk hRe
  have HBe := Aside0.mk hBe
  have HBz : Aside0 (Below w8.heap.size w8 wz) := ⟨HB9.out.trans (hBe.mono HB9.out.size)⟩
  have HRz := Aside0.mk (HR8.out.below HBz.out)
  obtain ⟨Ag, cg, hbg, _, _⟩ := HRz.out.ex
  have c1 : wz.cell? ⟨g, 1, none⟩ = some (.bool dr.2.2) := (blk_cell hbg 1).trans rfl
  have hbz : wz.heap[w.heap.size]? = some (.cells #[.int .i64 0, .int .i64 0, .int .i64 0, .string ⟨#[]⟩, .slice none 0 0, .slice none 0 0, .slice none 0 0] 26 (0, 0)) := (HBz.out.block _ (Nat.lt_of_lt_of_le HLT.out.2 HK8.out.size)).trans ((HK8.out.block _ HLT.out.2 (by have := HLT.out.1; omega)).trans HBk.out)
  have HBZ := Aside0.mk hbz
  have hbo : wz.heap[w8.heap.size]? = _ := (hBe.block _ (blk_lt HK9.out)).trans HK9.out
  have HBW : Aside0 (Below w.heap.size w wz) := ⟨HRz.out.hb⟩
  clear d0 d1 d2 d3 d4 d5 d6
  have d0 : wz.cell? ⟨w8.heap.size, 0, none⟩ = some (.int .i64 k.1) := (blk_cell hbo 0).trans rfl
  have d1 : wz.cell? ⟨w8.heap.size, 1, none⟩ = some (.int .i64 i.1) := (blk_cell hbo 1).trans rfl
  have d2 : wz.cell? ⟨w8.heap.size, 2, none⟩ = some (.int .i64 z.1) := (blk_cell hbo 2).trans rfl
  have d3 : wz.cell? ⟨w8.heap.size, 3, none⟩ = some (.string y.1) := (blk_cell hbo 3).trans rfl
  have d4 : wz.cell? ⟨w8.heap.size, 4, none⟩ = some (.slice As st.1.length cs) := (blk_cell hbo 4).trans rfl
  have d5 : wz.cell? ⟨w8.heap.size, 5, none⟩ = some (.slice Ab ob.1.length cb) := (blk_cell hbo 5).trans rfl
  have d6 : wz.cell? ⟨w8.heap.size, 6, none⟩ = some (.slice Ad dr.1.length cd) := (blk_cell hbo 6).trans rfl
  have z0 : wz.cell? ⟨w.heap.size, 0, none⟩ = some (.int .i64 0) := (blk_cell hbz 0).trans rfl
  have z1 : wz.cell? ⟨w.heap.size, 1, none⟩ = some (.int .i64 0) := (blk_cell hbz 1).trans rfl
  have z2 : wz.cell? ⟨w.heap.size, 2, none⟩ = some (.int .i64 0) := (blk_cell hbz 2).trans rfl
  have z3 : wz.cell? ⟨w.heap.size, 3, none⟩ = some (.string ⟨#[]⟩) := (blk_cell hbz 3).trans rfl
  have z4 : wz.cell? ⟨w.heap.size, 4, none⟩ = some (.slice none 0 0) := (blk_cell hbz 4).trans rfl
  have z5 : wz.cell? ⟨w.heap.size, 5, none⟩ = some (.slice none 0 0) := (blk_cell hbz 5).trans rfl
  have z6 : wz.cell? ⟨w.heap.size, 6, none⟩ = some (.slice none 0 0) := (blk_cell hbz 6).trans rfl
  have zfz : ∀ j, wz.frozen? ⟨w.heap.size, j, none⟩ = false := fun j => blk_frozen hbz j
  clear hbg hbz hbo hRe hBe HEN
  cases hbad : dr.2.2 with
  | true =>
    have HF : Aside0 (decO l = (zRc, 2)) := ⟨by rw [HDE.out, HOK.out, hbad]; rfl⟩
    rw [hbad] at c1
    clear hbad
    go_wp2
    have hB : (((((((wz.setCell ⟨w.heap.size, 0, none⟩ (.int .i64 0)).setCell ⟨w.heap.size, 1, none⟩ (.int .i64 0)).setCell ⟨w.heap.size, 2, none⟩ (.int .i64 0)).setCell ⟨w.heap.size, 3, none⟩ (.string ⟨#[]⟩)).setCell ⟨w.heap.size, 4, none⟩ (.slice none 0 0)).setCell ⟨w.heap.size, 5, none⟩ (.slice none 0 0)).setCell ⟨w.heap.size, 6, none⟩ (.slice none 0 0)).heap[w.heap.size]? = some (.cells #[.int .i64 0, .int .i64 0, .int .i64 0, .string ⟨#[]⟩, .slice none 0 0, .slice none 0 0, .slice none 0 0] 26 (0, 0)) := (blk_set (blk_set (blk_set (blk_set (blk_set (blk_set (blk_set (show wz.heap[w.heap.size]? = _ from HBZ.out) 0 (.int .i64 0)) 1 (.int .i64 0)) 2 (.int .i64 0)) 3 (.string ⟨#[]⟩)) 4 (.slice none 0 0)) 5 (.slice none 0 0)) 6 (.slice none 0 0))
    have hBl : Below w.heap.size w (((((((wz.setCell ⟨w.heap.size, 0, none⟩ (.int .i64 0)).setCell ⟨w.heap.size, 1, none⟩ (.int .i64 0)).setCell ⟨w.heap.size, 2, none⟩ (.int .i64 0)).setCell ⟨w.heap.size, 3, none⟩ (.string ⟨#[]⟩)).setCell ⟨w.heap.size, 4, none⟩ (.slice none 0 0)).setCell ⟨w.heap.size, 5, none⟩ (.slice none 0 0)).setCell ⟨w.heap.size, 6, none⟩ (.slice none 0 0)) := (Below.setCell (Below.setCell (Below.setCell (Below.setCell (Below.setCell (Below.setCell (Below.setCell HBW.out (Nat.le_refl _) _) (Nat.le_refl _) _) (Nat.le_refl _) _) (Nat.le_refl _) _) (Nat.le_refl _) _) (Nat.le_refl _) _) (Nat.le_refl _) _)
    refine bodyPost_ret (results_ct rfl _ _ w.heap.size 26 #[.int .i64 0, .int .i64 0, .int .i64 0, .string ⟨#[]⟩, .slice none 0 0, .slice none 0 0, .slice none 0 0] (0, 0) _ rfl hB Try.underlying26 rfl (by kernel_rfl)) rfl ?_
    rw [HF.out]
    exact ⟨_, rfl, ⟨⟨none, none, none, 0, 0, 0, rfl, Nat.le_refl _, Kd.C_nil _ _, Nat.le_refl _, Kd.C_nil _ _, Nat.le_refl _, Kd.C_nil _ _⟩⟩, hBl⟩
  | false =>
    rw [hbad] at c1
    by_cases he : (encO rr).2 = 0
    · have h1 : ((encO rr).2 == 0) = true := by rw [he]; rfl
      have h2 : ((encO rr).2 != 0) = false := by rw [he]; rfl
      have HEQ : Aside0 _ := ⟨bytes_Equal.calls Ae ce (encO rr).1 A c l _ wz (Kd.F_now (Kd.R_F HRe.out)) (Kd.V_at (Kd.R_V (base' := 0) HRe.out)).2.1 (Kd.C_below HCl.out HBW.out) HLc.out rfl⟩
      obtain ⟨bq, hbq⟩ : ∃ bq, bq = ((strOfNums (encO rr).1).toList == (strOfNums l).toList) := ⟨_, rfl⟩
      rw [← hbq] at HEQ
      have hok : decOk l = bq := by rw [HOK.out, hbad, he, ← hbq]; simp
      clear hbad he hbq
      go_wp2_with fail
      refine HEQ.out.mono ?_
      rintro e wy ⟨rfl, hd⟩
      obtain ⟨nq, hnq⟩ := hd
      subst hnq
      cases bq with
      | true =>
        have HF : Aside0 (decO l = (rr, 0)) := ⟨by rw [HDE.out, hok]; rfl⟩
        clear hok HEQ
        go_wp2
        have hB : ((((((((wz.drewN nq).setCell ⟨w.heap.size, 0, none⟩ (.int .i64 k.1)).setCell ⟨w.heap.size, 1, none⟩ (.int .i64 i.1)).setCell ⟨w.heap.size, 2, none⟩ (.int .i64 z.1)).setCell ⟨w.heap.size, 3, none⟩ (.string y.1)).setCell ⟨w.heap.size, 4, none⟩ (.slice As st.1.length cs)).setCell ⟨w.heap.size, 5, none⟩ (.slice Ab ob.1.length cb)).setCell ⟨w.heap.size, 6, none⟩ (.slice Ad dr.1.length cd)).heap[w.heap.size]? = some (.cells #[.int .i64 k.1, .int .i64 i.1, .int .i64 z.1, .string y.1, .slice As st.1.length cs, .slice Ab ob.1.length cb, .slice Ad dr.1.length cd] 26 (0, 0)) := (blk_set (blk_set (blk_set (blk_set (blk_set (blk_set (blk_set (show (wz.drewN nq).heap[w.heap.size]? = _ from HBZ.out) 0 (.int .i64 k.1)) 1 (.int .i64 i.1)) 2 (.int .i64 z.1)) 3 (.string y.1)) 4 (.slice As st.1.length cs)) 5 (.slice Ab ob.1.length cb)) 6 (.slice Ad dr.1.length cd))
        have hBl : Below w.heap.size w ((((((((wz.drewN nq).setCell ⟨w.heap.size, 0, none⟩ (.int .i64 k.1)).setCell ⟨w.heap.size, 1, none⟩ (.int .i64 i.1)).setCell ⟨w.heap.size, 2, none⟩ (.int .i64 z.1)).setCell ⟨w.heap.size, 3, none⟩ (.string y.1)).setCell ⟨w.heap.size, 4, none⟩ (.slice As st.1.length cs)).setCell ⟨w.heap.size, 5, none⟩ (.slice Ab ob.1.length cb)).setCell ⟨w.heap.size, 6, none⟩ (.slice Ad dr.1.length cd)) := (Below.setCell (Below.setCell (Below.setCell (Below.setCell (Below.setCell (Below.setCell (Below.setCell (pw_below_drewN HBW.out nq) (Nat.le_refl _) _) (Nat.le_refl _) _) (Nat.le_refl _) _) (Nat.le_refl _) _) (Nat.le_refl _) _) (Nat.le_refl _) _) (Nat.le_refl _) _)
        have hD4 : (k41).C ((((((((wz.drewN nq).setCell ⟨w.heap.size, 0, none⟩ (.int .i64 k.1)).setCell ⟨w.heap.size, 1, none⟩ (.int .i64 i.1)).setCell ⟨w.heap.size, 2, none⟩ (.int .i64 z.1)).setCell ⟨w.heap.size, 3, none⟩ (.string y.1)).setCell ⟨w.heap.size, 4, none⟩ (.slice As st.1.length cs)).setCell ⟨w.heap.size, 5, none⟩ (.slice Ab ob.1.length cb)).setCell ⟨w.heap.size, 6, none⟩ (.slice Ad dr.1.length cd)) As rr.strs.length rr.strs := by rw [show rr.strs = st.1 from by rw [HRR.out]]; exact Kd.F_now (Kd.R_F (Kd.R_far (Kd.R_far (Kd.R_far (Kd.R_far (Kd.R_far (Kd.R_far (Kd.R_far (Kd.R_drewN (Kd.R_below HVs.out HBz.out) nq) (fun j hj => hj.2) _) (fun j hj => hj.2) _) (fun j hj => hj.2) _) (fun j hj => hj.2) _) (fun j hj => hj.2) _) (fun j hj => hj.2) _) (fun j hj => hj.2) _))
        have hD5 : (k44).C ((((((((wz.drewN nq).setCell ⟨w.heap.size, 0, none⟩ (.int .i64 k.1)).setCell ⟨w.heap.size, 1, none⟩ (.int .i64 i.1)).setCell ⟨w.heap.size, 2, none⟩ (.int .i64 z.1)).setCell ⟨w.heap.size, 3, none⟩ (.string y.1)).setCell ⟨w.heap.size, 4, none⟩ (.slice As st.1.length cs)).setCell ⟨w.heap.size, 5, none⟩ (.slice Ab ob.1.length cb)).setCell ⟨w.heap.size, 6, none⟩ (.slice Ad dr.1.length cd)) Ab rr.objs.length rr.objs := by rw [show rr.objs = ob.1 from by rw [HRR.out]]; exact Kd.F_now (Kd.R_F (Kd.R_far (Kd.R_far (Kd.R_far (Kd.R_far (Kd.R_far (Kd.R_far (Kd.R_far (Kd.R_drewN (Kd.R_below HVb.out HBz.out) nq) (fun j hj => hj.2) _) (fun j hj => hj.2) _) (fun j hj => hj.2) _) (fun j hj => hj.2) _) (fun j hj => hj.2) _) (fun j hj => hj.2) _) (fun j hj => hj.2) _))
        have hD6 : (Kd.int .i64).C ((((((((wz.drewN nq).setCell ⟨w.heap.size, 0, none⟩ (.int .i64 k.1)).setCell ⟨w.heap.size, 1, none⟩ (.int .i64 i.1)).setCell ⟨w.heap.size, 2, none⟩ (.int .i64 z.1)).setCell ⟨w.heap.size, 3, none⟩ (.string y.1)).setCell ⟨w.heap.size, 4, none⟩ (.slice As st.1.length cs)).setCell ⟨w.heap.size, 5, none⟩ (.slice Ab ob.1.length cb)).setCell ⟨w.heap.size, 6, none⟩ (.slice Ad dr.1.length cd)) Ad rr.drv.length rr.drv := by rw [show rr.drv = dr.1 from by rw [HRR.out]]; exact Kd.F_now (Kd.R_F (Kd.R_far (Kd.R_far (Kd.R_far (Kd.R_far (Kd.R_far (Kd.R_far (Kd.R_far (Kd.R_drewN (Kd.R_below HVd.out HBz.out) nq) (fun j hj => hj.2) _) (fun j hj => hj.2) _) (fun j hj => hj.2) _) (fun j hj => hj.2) _) (fun j hj => hj.2) _) (fun j hj => hj.2) _) (fun j hj => hj.2) _))
        refine bodyPost_ret (results_ct rfl _ _ w.heap.size 26 #[.int .i64 k.1, .int .i64 i.1, .int .i64 z.1, .string y.1, .slice As st.1.length cs, .slice Ab ob.1.length cb, .slice Ad dr.1.length cd] (0, 0) _ rfl hB Try.underlying26 rfl (by kernel_rfl)) rfl ?_
        rw [HF.out]
        exact ⟨_, rfl, ⟨⟨As, Ab, Ad, cs, cb, cd, HAG.out.symm, HCS.out.1, hD4, HCS.out.2.1, hD5, HCS.out.2.2, hD6⟩⟩, hBl⟩
      | false =>
        have HF : Aside0 (decO l = (zRc, 2)) := ⟨by rw [HDE.out, hok]; rfl⟩
        clear hok HEQ
        go_wp2
        have hB : ((((((((wz.drewN nq).setCell ⟨w.heap.size, 0, none⟩ (.int .i64 0)).setCell ⟨w.heap.size, 1, none⟩ (.int .i64 0)).setCell ⟨w.heap.size, 2, none⟩ (.int .i64 0)).setCell ⟨w.heap.size, 3, none⟩ (.string ⟨#[]⟩)).setCell ⟨w.heap.size, 4, none⟩ (.slice none 0 0)).setCell ⟨w.heap.size, 5, none⟩ (.slice none 0 0)).setCell ⟨w.heap.size, 6, none⟩ (.slice none 0 0)).heap[w.heap.size]? = some (.cells #[.int .i64 0, .int .i64 0, .int .i64 0, .string ⟨#[]⟩, .slice none 0 0, .slice none 0 0, .slice none 0 0] 26 (0, 0)) := (blk_set (blk_set (blk_set (blk_set (blk_set (blk_set (blk_set (show (wz.drewN nq).heap[w.heap.size]? = _ from HBZ.out) 0 (.int .i64 0)) 1 (.int .i64 0)) 2 (.int .i64 0)) 3 (.string ⟨#[]⟩)) 4 (.slice none 0 0)) 5 (.slice none 0 0)) 6 (.slice none 0 0))
        have hBl : Below w.heap.size w ((((((((wz.drewN nq).setCell ⟨w.heap.size, 0, none⟩ (.int .i64 0)).setCell ⟨w.heap.size, 1, none⟩ (.int .i64 0)).setCell ⟨w.heap.size, 2, none⟩ (.int .i64 0)).setCell ⟨w.heap.size, 3, none⟩ (.string ⟨#[]⟩)).setCell ⟨w.heap.size, 4, none⟩ (.slice none 0 0)).setCell ⟨w.heap.size, 5, none⟩ (.slice none 0 0)).setCell ⟨w.heap.size, 6, none⟩ (.slice none 0 0)) := (Below.setCell (Below.setCell (Below.setCell (Below.setCell (Below.setCell (Below.setCell (Below.setCell (pw_below_drewN HBW.out nq) (Nat.le_refl _) _) (Nat.le_refl _) _) (Nat.le_refl _) _) (Nat.le_refl _) _) (Nat.le_refl _) _) (Nat.le_refl _) _) (Nat.le_refl _) _)
        refine bodyPost_ret (results_ct rfl _ _ w.heap.size 26 #[.int .i64 0, .int .i64 0, .int .i64 0, .string ⟨#[]⟩, .slice none 0 0, .slice none 0 0, .slice none 0 0] (0, 0) _ rfl hB Try.underlying26 rfl (by kernel_rfl)) rfl ?_
        rw [HF.out]
        exact ⟨_, rfl, ⟨⟨none, none, none, 0, 0, 0, rfl, Nat.le_refl _, Kd.C_nil _ _, Nat.le_refl _, Kd.C_nil _ _, Nat.le_refl _, Kd.C_nil _ _⟩⟩, hBl⟩
    · have h1 : ((encO rr).2 == 0) = false := by simpa using he
      have h2 : ((encO rr).2 != 0) = true := by simpa using he
      have HF : Aside0 (decO l = (zRc, 2)) := ⟨by rw [HDE.out, HOK.out, hbad]; simp [he]⟩
      clear hbad he
      go_wp2
      have hB : (((((((wz.setCell ⟨w.heap.size, 0, none⟩ (.int .i64 0)).setCell ⟨w.heap.size, 1, none⟩ (.int .i64 0)).setCell ⟨w.heap.size, 2, none⟩ (.int .i64 0)).setCell ⟨w.heap.size, 3, none⟩ (.string ⟨#[]⟩)).setCell ⟨w.heap.size, 4, none⟩ (.slice none 0 0)).setCell ⟨w.heap.size, 5, none⟩ (.slice none 0 0)).setCell ⟨w.heap.size, 6, none⟩ (.slice none 0 0)).heap[w.heap.size]? = some (.cells #[.int .i64 0, .int .i64 0, .int .i64 0, .string ⟨#[]⟩, .slice none 0 0, .slice none 0 0, .slice none 0 0] 26 (0, 0)) := (blk_set (blk_set (blk_set (blk_set (blk_set (blk_set (blk_set (show wz.heap[w.heap.size]? = _ from HBZ.out) 0 (.int .i64 0)) 1 (.int .i64 0)) 2 (.int .i64 0)) 3 (.string ⟨#[]⟩)) 4 (.slice none 0 0)) 5 (.slice none 0 0)) 6 (.slice none 0 0))
      have hBl : Below w.heap.size w (((((((wz.setCell ⟨w.heap.size, 0, none⟩ (.int .i64 0)).setCell ⟨w.heap.size, 1, none⟩ (.int .i64 0)).setCell ⟨w.heap.size, 2, none⟩ (.int .i64 0)).setCell ⟨w.heap.size, 3, none⟩ (.string ⟨#[]⟩)).setCell ⟨w.heap.size, 4, none⟩ (.slice none 0 0)).setCell ⟨w.heap.size, 5, none⟩ (.slice none 0 0)).setCell ⟨w.heap.size, 6, none⟩ (.slice none 0 0)) := (Below.setCell (Below.setCell (Below.setCell (Below.setCell (Below.setCell (Below.setCell (Below.setCell HBW.out (Nat.le_refl _) _) (Nat.le_refl _) _) (Nat.le_refl _) _) (Nat.le_refl _) _) (Nat.le_refl _) _) (Nat.le_refl _) _) (Nat.le_refl _) _)
      refine bodyPost_ret (results_ct rfl _ _ w.heap.size 26 #[.int .i64 0, .int .i64 0, .int .i64 0, .string ⟨#[]⟩, .slice none 0 0, .slice none 0 0, .slice none 0 0] (0, 0) _ rfl hB Try.underlying26 rfl (by kernel_rfl)) rfl ?_
      rw [HF.out]
      exact ⟨_, rfl, ⟨⟨none, none, none, 0, 0, 0, rfl, Nat.le_refl _, Kd.C_nil _ _, Nat.le_refl _, Kd.C_nil _ _, Nat.le_refl _, Kd.C_nil _ _⟩⟩, hBl⟩
end Go.Proofs.Ythoebncbhmefmaa.Rc
