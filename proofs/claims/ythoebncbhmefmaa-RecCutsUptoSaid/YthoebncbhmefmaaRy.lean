/- Records: the reference's Encode. -/
import Derived.Test.YthoebncbhmefmaaProg
import Derived.Below
import Derived.Deep.Draws
import Derived.Deep.AppendLies
import Derived.Maps.AppendAt
import Derived.OwnWalk
import Derived.Laws.BytesArg
import Derived.Laws.MakeOwn
import Derived.Laws.OwnMore
import Derived.Deep.OwnRows
import Derived.Tactics
import Derived.Lib.ConvBytes
import Derived.Laws.Slices
import Derived.WalkKit
import Derived.KernelRfl
import Derived.RowKit3
import Derived.Deep.LoopGhost
import Derived.Deep.QuietTactic
import Derived.BigQuiet
import Derived.WideLaws
import Derived.Deep.DeepCutAuto
import Derived.Deep.CutBlock
import Derived.Deep.RegionHeld3
import Derived.Laws.Rows
import Derived.Lib.AppendStr
import Derived.ArgAppend
import Derived.Laws.IdiomCopy
import Derived.OrdersHeld
import Derived.Laws.BitsLemmas
import Derived.RowKit
import Derived.Test.YthoebncbhmefmaaWWords
import Derived.Test.YthoebncbhmefmaaWLast
import Derived.Test.YthoebncbhmefmaaWTab
import Derived.Test.YthoebncbhmefmaaWFour
import Derived.Test.YthoebncbhmefmaaWQPut
import Derived.Test.YthoebncbhmefmaaWApart
import Derived.Test.YthoebncbhmefmaaWArr
import Derived.Test.YthoebncbhmefmaaWZeros
import Derived.Test.YthoebncbhmefmaaWFoot
import Derived.Test.YthoebncbhmefmaaWKept
import Derived.Test.YthoebncbhmefmaaWShare
import Derived.Test.YthoebncbhmefmaaWN
import Derived.Test.YthoebncbhmefmaaWFootNe
import Derived.Test.YthoebncbhmefmaaWAt
import Derived.Test.YthoebncbhmefmaaWEqStruct
import Derived.Test.YthoebncbhmefmaaWRepsOne
import Derived.Test.YthoebncbhmefmaaWInv
import Derived.Test.YthoebncbhmefmaaWInvWords
import Derived.Test.YthoebncbhmefmaaWGuard
import Derived.Test.YthoebncbhmefmaaWNEv
import Derived.Test.YthoebncbhmefmaaWMore
import Derived.Test.YthoebncbhmefmaaRx
namespace Go.Proofs.Ythoebncbhmefmaa.Rc
open Go.RowKit Go.Proofs.YthoebncbhmefmaaW.PrintWords Go.Proofs.YthoebncbhmefmaaW.PrintLast Go.Proofs.YthoebncbhmefmaaW.PrintMore
attribute [local go_sem] max2_int min2_int max_two min_two max_three min_three max_four min_four
set_option linter.unusedVariables false
set_option linter.unusedSimpArgs false
theorem enc_low (r : Rc) (h : r.kind < 1) : encO r = ([], 2) := by
 have hh : (wHead r).2 = true := by simp [wHead, h]
 have hg : Grows (wHead r) (wRec r) := (grows_N _ _ _ _).trans ((grows_N _ _ _ _).trans ((grows_key _ _).trans ((grows_stripes _ _).trans (((grows_N _ _ _ _).trans (grows_fold _ (fun _ _ => grows_object _ _) _ _)).trans (grows_ints _ _)))))
 unfold encO
 rw [hg.bad hh, if_pos rfl]
set_option maxHeartbeats 4000000 in
set_option maxRecDepth 100000 in
theorem wencode_calls (A4 A5 A6 : Option Addr) (c4 c5 c6 : Nat) (r : Rc) (w : World) (hC4 : k41.C w A4 r.strs.length r.strs) (hC5 : k44.C w A5 r.objs.length r.objs) (hC6 : (Kd.int .i64).C w A6 r.drv.length r.drv) (hl : (wRec r).1.length < 140737488350000) :
  Calls Try.prog 11 #[.agg #[.int .i64 r.kind, .int .i64 r.id, .int .i64 r.size, .string r.key, .slice A4 r.strs.length c4, .slice A5 r.objs.length c5, .slice A6 r.drv.length c6]] w fun e w' => ∃ v, e = .returned (.tuple #[v, .int .i64 (encO r).2]) ∧ U8.R 5 w' w.heap.size (fun _ => True) v (encO r).1 ∧ Below w.heap.size w w' := by
 have HC4 := Aside0.mk hC4
 have HC5 := Aside0.mk hC5
 have HC6 := Aside0.mk hC6
 obtain ⟨wa, hwa⟩ : ∃ wa, wa = w.alloc (.cells #[.int .i64 r.kind, .int .i64 r.id, .int .i64 r.size, .string r.key, .slice A4 r.strs.length c4, .slice A5 r.objs.length c5, .slice A6 r.drv.length c6] 26) := ⟨_, rfl⟩
 have hBa : Below w.heap.size w wa := by rw [hwa]; exact (Below.refl _ _).alloc (Nat.le_refl _) _
 have hblka : wa.heap[w.heap.size]? = some (.cells #[.int .i64 r.kind, .int .i64 r.id, .int .i64 r.size, .string r.key, .slice A4 r.strs.length c4, .slice A5 r.objs.length c5, .slice A6 r.drv.length c6] 26 (0, 0)) := by rw [hwa]; exact heap_alloc_new w _
 have hlta : w.heap.size < wa.heap.size := blk_lt hblka
 obtain ⟨wo, hwo⟩ : ∃ wo, wo = wa.alloc (.cells #[.slice none 0 0, .bool false] 55) := ⟨_, rfl⟩
 have hBo : Below wa.heap.size wa wo := by rw [hwo]; exact (Below.refl _ _).alloc (Nat.le_refl _) _
 have hblk : wo.heap[w.heap.size]? = some (.cells #[.int .i64 r.kind, .int .i64 r.id, .int .i64 r.size, .string r.key, .slice A4 r.strs.length c4, .slice A5 r.objs.length c5, .slice A6 r.drv.length c6] 26 (0, 0)) := blk_below hblka hBo
 have hblkg : wo.heap[wa.heap.size]? = some (.cells #[.slice none 0 0, .bool false] 55 (0, 0)) := by rw [hwo]; exact heap_alloc_new wa _
 have HP1 : Aside0 (Ww w wo (fun k => False ∨ k = w.heap.size) wa.heap.size ([], false)) := ⟨hBa.trans (hBo.mono hBa.size), hBa.size, fun k hk => by rcases hk with h1 | h1; exact h1.elim; subst h1; exact ⟨_, _, hblk, by decide⟩, fun h => by rcases h with h | h; exact h; omega, _, [], hblkg, Kd.R_nil _ _ _ _ _, fun _ => rfl, Nat.le_refl _⟩
 have HBk := Aside0.mk hblk
 have HWA := Aside0.mk hwa
 have HWO := Aside0.mk hwo
 have HBO : Aside0 (Below w.heap.size w wo) := ⟨hBa.trans (hBo.mono hBa.size)⟩
 have d0 : wo.cell? ⟨w.heap.size, 0, none⟩ = some (.int .i64 r.kind) := (blk_cell hblk 0).trans rfl
 have d1 : wo.cell? ⟨w.heap.size, 1, none⟩ = some (.int .i64 r.id) := (blk_cell hblk 1).trans rfl
 have d2 : wo.cell? ⟨w.heap.size, 2, none⟩ = some (.int .i64 r.size) := (blk_cell hblk 2).trans rfl
 have d3 : wo.cell? ⟨w.heap.size, 3, none⟩ = some (.string r.key) := (blk_cell hblk 3).trans rfl
 have d4 : wo.cell? ⟨w.heap.size, 4, none⟩ = some (.slice A4 r.strs.length c4) := (blk_cell hblk 4).trans rfl
 have d5 : wo.cell? ⟨w.heap.size, 5, none⟩ = some (.slice A5 r.objs.length c5) := (blk_cell hblk 5).trans rfl
 have d6 : wo.cell? ⟨w.heap.size, 6, none⟩ = some (.slice A6 r.drv.length c6) := (blk_cell hblk 6).trans rfl
 clear hC4 hC5 hC6 hwa hBa hblka hwo hBo hblk hblkg hlta
 by_cases hk : r.kind < 1
 ·have hk1 : decide (r.kind < 1) = true := decide_eq_true hk
  have HEc := Aside0.mk (enc_low r hk)
  clear hk hl
  go_enter Try.func11, Try.ntmps11
  go_upto_region 1 with fail
  rw [← HWA.out]
  go_upto_region 2 with fail
  rw [← HWO.out]
  go_wp2
  go_ret2
  rw [HEc.out]
  exact ⟨_, rfl, Kd.R_nil _ _ _ _ _, HBO.out⟩
 ·have hk1 : decide (r.kind < 1) = false := decide_eq_false hk
  obtain ⟨s0, hs0⟩ : ∃ s, s = wN r.kind 1 5 ([], false) := ⟨_, rfl⟩
  obtain ⟨s2, hs2⟩ : ∃ s, s = wN r.id 4 1073741824 s0 := ⟨_, rfl⟩
  obtain ⟨s3, hs3⟩ : ∃ s, s = wN r.size 4 1073741824 s2 := ⟨_, rfl⟩
  obtain ⟨s4, hs4⟩ : ∃ s, s = wKey r.key s3 := ⟨_, rfl⟩
  obtain ⟨s5, hs5⟩ : ∃ s, s = wStripes r.strs s4 := ⟨_, rfl⟩
  obtain ⟨s6, hs6⟩ : ∃ s, s = wN r.objs.length 2 65535 s5 := ⟨_, rfl⟩
  obtain ⟨s7, hs7⟩ : ∃ s, s = r.objs.foldl (fun s o => wObject o s) s6 := ⟨_, rfl⟩
  obtain ⟨s8, hs8⟩ : ∃ s, s = wInts r.drv s7 := ⟨_, rfl⟩
  have hw0 : wHead r = s0 := by rw [hs0]; unfold wHead; simp [hk1]
  have hR : wRec r = s8 := by unfold wRec; rw [hw0, ← hs2, ← hs3, ← hs4, ← hs5, hs8, hs7, hs6]; rfl
  have HE : Aside0 (encO r = if s8.2 then ([], 2) else if 8192 < s8.1.length then ([], 4) else (s8.1, 0)) := ⟨by unfold encO; rw [hR]⟩
  rw [hR] at hl
  have l7 : s7.1.length < 140737488350000 := by have := (grows_ints r.drv s7).len; rw [← hs8] at this; omega
  have l6 : s6.1.length < 140737488350000 := by have := (grows_fold (fun s o => wObject o s) (fun _ _ => grows_object _ _) r.objs s6).len; rw [← hs7] at this; omega
  have l5 : s5.1.length < 140737488350000 := by have := (grows_N r.objs.length 2 65535 s5).len; rw [← hs6] at this; omega
  have l4 : s4.1.length < 140737488350000 := by have := (grows_stripes r.strs s4).len; rw [← hs5] at this; omega
  have l3 : s3.1.length < 140737488350000 := by have := (grows_key r.key s3).len; rw [← hs4] at this; omega
  have l2 : s2.1.length < 140737488350000 := by have := (grows_N r.size 4 1073741824 s2).len; rw [← hs3] at this; omega
  have l0 : s0.1.length < 140737488350000 := by have := (grows_N r.id 4 1073741824 s0).len; rw [← hs2] at this; omega
  have hll : r.objs.length < 140737488350000 := by
   have := objs_len r.objs s5
   have e : wObjs r.objs s5 = s7 := by rw [hs7, hs6]; rfl
   rw [e] at this; omega
  have HGF := Aside0.mk (fold_le (fun s o => wObject o s) (fun _ _ => grows_object _ _) r.objs s6)
  rw [← hs7] at HGF
  have HL := Aside0.mk hl
  have HL0 := Aside0.mk l0
  have HL2 := Aside0.mk l2
  have HL3 := Aside0.mk l3
  have HL4 := Aside0.mk l4
  have HL5 := Aside0.mk l5
  have HL6 := Aside0.mk l6
  have HL7 := Aside0.mk l7
  have HS0 := Aside0.mk hs0
  have HS2 := Aside0.mk hs2
  have HS3 := Aside0.mk hs3
  have HS4 := Aside0.mk hs4
  have HS5 := Aside0.mk hs5
  have HS6 := Aside0.mk hs6
  have HS7 := Aside0.mk hs7
  have HS8 := Aside0.mk hs8
  clear hk hl l0 l2 l3 l4 l5 l6 l7 hs0 hs2 hs3 hs4 hs5 hs6 hs7 hs8 hR hw0
  go_enter Try.func11, Try.ntmps11
  go_upto_region 1 with fail
  rw [← HWA.out]
  go_upto_region 2 with fail
  rw [← HWO.out]
  obtain ⟨g, hg⟩ : ∃ g, g = wa.heap.size := ⟨_, rfl⟩
  rw [← hg] at HP1
  simp only [← hg]
  have HGg := Aside0.mk hg
  clear hg
  have HN : Aside0 _ := ⟨wnum_calls w wo _ g r.kind 1 1 rfl 5 (by decide) ([], false) HP1.out (by decide) (by decide)⟩
  go_wp2_with fail
  refine HN.out.mono ?_
  rintro e w2 ⟨rfl, hp, hv⟩
  have HP2 := Aside0.mk hp
  have HV2 : Aside0 (Vs (fun k => False ∨ k = w.heap.size) wo w2) := ⟨hv⟩
  have hb2 : w2.heap[w.heap.size]? = _ := (HV2.out _ (.inr rfl)).trans HBk.out
  clear d0 d1 d2 d3 d4 d5 d6
  have d0 : w2.cell? ⟨w.heap.size, 0, none⟩ = some (.int .i64 r.kind) := (blk_cell hb2 0).trans rfl
  have d1 : w2.cell? ⟨w.heap.size, 1, none⟩ = some (.int .i64 r.id) := (blk_cell hb2 1).trans rfl
  have d2 : w2.cell? ⟨w.heap.size, 2, none⟩ = some (.int .i64 r.size) := (blk_cell hb2 2).trans rfl
  have d3 : w2.cell? ⟨w.heap.size, 3, none⟩ = some (.string r.key) := (blk_cell hb2 3).trans rfl
  have d4 : w2.cell? ⟨w.heap.size, 4, none⟩ = some (.slice A4 r.strs.length c4) := (blk_cell hb2 4).trans rfl
  have d5 : w2.cell? ⟨w.heap.size, 5, none⟩ = some (.slice A5 r.objs.length c5) := (blk_cell hb2 5).trans rfl
  have d6 : w2.cell? ⟨w.heap.size, 6, none⟩ = some (.slice A6 r.drv.length c6) := (blk_cell hb2 6).trans rfl
  rw [← HS0.out] at HP2
  clear hp hv HN hb2
  have HN : Aside0 _ := ⟨wnum_calls w w2 _ g r.id 4 4 rfl 1073741824 (by decide) s0 HP2.out (by decide) HL0.out⟩
  go_wp2_with fail
  refine HN.out.mono ?_
  rintro e w3 ⟨rfl, hp, hv⟩
  have HP3 := Aside0.mk hp
  have HV3 : Aside0 (Vs (fun k => False ∨ k = w.heap.size) wo w3) := ⟨fun k hk => (hv k hk).trans (HV2.out k hk)⟩
  have hb3 : w3.heap[w.heap.size]? = _ := (HV3.out _ (.inr rfl)).trans HBk.out
  clear d0 d1 d2 d3 d4 d5 d6
  have d0 : w3.cell? ⟨w.heap.size, 0, none⟩ = some (.int .i64 r.kind) := (blk_cell hb3 0).trans rfl
  have d1 : w3.cell? ⟨w.heap.size, 1, none⟩ = some (.int .i64 r.id) := (blk_cell hb3 1).trans rfl
  have d2 : w3.cell? ⟨w.heap.size, 2, none⟩ = some (.int .i64 r.size) := (blk_cell hb3 2).trans rfl
  have d3 : w3.cell? ⟨w.heap.size, 3, none⟩ = some (.string r.key) := (blk_cell hb3 3).trans rfl
  have d4 : w3.cell? ⟨w.heap.size, 4, none⟩ = some (.slice A4 r.strs.length c4) := (blk_cell hb3 4).trans rfl
  have d5 : w3.cell? ⟨w.heap.size, 5, none⟩ = some (.slice A5 r.objs.length c5) := (blk_cell hb3 5).trans rfl
  have d6 : w3.cell? ⟨w.heap.size, 6, none⟩ = some (.slice A6 r.drv.length c6) := (blk_cell hb3 6).trans rfl
  rw [← HS2.out] at HP3
  clear hp hv HN hb3
  have HN : Aside0 _ := ⟨wnum_calls w w3 _ g r.size 4 4 rfl 1073741824 (by decide) s2 HP3.out (by decide) HL2.out⟩
  go_wp2_with fail
  refine HN.out.mono ?_
  rintro e w4 ⟨rfl, hp, hv⟩
  have HP4 := Aside0.mk hp
  have HV4 : Aside0 (Vs (fun k => False ∨ k = w.heap.size) wo w4) := ⟨fun k hk => (hv k hk).trans (HV3.out k hk)⟩
  have hb4 : w4.heap[w.heap.size]? = _ := (HV4.out _ (.inr rfl)).trans HBk.out
  clear d0 d1 d2 d3 d4 d5 d6
  have d0 : w4.cell? ⟨w.heap.size, 0, none⟩ = some (.int .i64 r.kind) := (blk_cell hb4 0).trans rfl
  have d1 : w4.cell? ⟨w.heap.size, 1, none⟩ = some (.int .i64 r.id) := (blk_cell hb4 1).trans rfl
  have d2 : w4.cell? ⟨w.heap.size, 2, none⟩ = some (.int .i64 r.size) := (blk_cell hb4 2).trans rfl
  have d3 : w4.cell? ⟨w.heap.size, 3, none⟩ = some (.string r.key) := (blk_cell hb4 3).trans rfl
  have d4 : w4.cell? ⟨w.heap.size, 4, none⟩ = some (.slice A4 r.strs.length c4) := (blk_cell hb4 4).trans rfl
  have d5 : w4.cell? ⟨w.heap.size, 5, none⟩ = some (.slice A5 r.objs.length c5) := (blk_cell hb4 5).trans rfl
  have d6 : w4.cell? ⟨w.heap.size, 6, none⟩ = some (.slice A6 r.drv.length c6) := (blk_cell hb4 6).trans rfl
  rw [← HS3.out] at HP4
  clear hp hv HN hb4
  have HN : Aside0 _ := ⟨wkey_calls w w4 _ g r.key s3 HP4.out (by rw [← HS4.out]; exact HL4.out)⟩
  go_wp2_with fail
  refine HN.out.mono ?_
  rintro e w5 ⟨rfl, hp, hv⟩
  have HP5 := Aside0.mk hp
  have HV5 : Aside0 (Vs (fun k => False ∨ k = w.heap.size) wo w5) := ⟨fun k hk => (hv k hk).trans (HV4.out k hk)⟩
  have hb5 : w5.heap[w.heap.size]? = _ := (HV5.out _ (.inr rfl)).trans HBk.out
  clear d0 d1 d2 d3 d4 d5 d6
  have d0 : w5.cell? ⟨w.heap.size, 0, none⟩ = some (.int .i64 r.kind) := (blk_cell hb5 0).trans rfl
  have d1 : w5.cell? ⟨w.heap.size, 1, none⟩ = some (.int .i64 r.id) := (blk_cell hb5 1).trans rfl
  have d2 : w5.cell? ⟨w.heap.size, 2, none⟩ = some (.int .i64 r.size) := (blk_cell hb5 2).trans rfl
  have d3 : w5.cell? ⟨w.heap.size, 3, none⟩ = some (.string r.key) := (blk_cell hb5 3).trans rfl
  have d4 : w5.cell? ⟨w.heap.size, 4, none⟩ = some (.slice A4 r.strs.length c4) := (blk_cell hb5 4).trans rfl
  have d5 : w5.cell? ⟨w.heap.size, 5, none⟩ = some (.slice A5 r.objs.length c5) := (blk_cell hb5 5).trans rfl
  have d6 : w5.cell? ⟨w.heap.size, 6, none⟩ = some (.slice A6 r.drv.length c6) := (blk_cell hb5 6).trans rfl
  rw [← HS4.out] at HP5
  clear hp hv HN hb5
  have HN : Aside0 _ := ⟨wstripes_calls w w5 _ g A4 c4 r.strs s4 HP5.out HC4.out (by rw [← HS5.out]; exact HL5.out)⟩
  go_wp2_with fail
  refine HN.out.mono ?_
  rintro e w6 ⟨rfl, hp, hv⟩
  have HP6 := Aside0.mk hp
  have HV6 : Aside0 (Vs (fun k => False ∨ k = w.heap.size) wo w6) := ⟨fun k hk => (hv k hk).trans (HV5.out k hk)⟩
  have hb6 : w6.heap[w.heap.size]? = _ := (HV6.out _ (.inr rfl)).trans HBk.out
  clear d0 d1 d2 d3 d4 d5 d6
  have d0 : w6.cell? ⟨w.heap.size, 0, none⟩ = some (.int .i64 r.kind) := (blk_cell hb6 0).trans rfl
  have d1 : w6.cell? ⟨w.heap.size, 1, none⟩ = some (.int .i64 r.id) := (blk_cell hb6 1).trans rfl
  have d2 : w6.cell? ⟨w.heap.size, 2, none⟩ = some (.int .i64 r.size) := (blk_cell hb6 2).trans rfl
  have d3 : w6.cell? ⟨w.heap.size, 3, none⟩ = some (.string r.key) := (blk_cell hb6 3).trans rfl
  have d4 : w6.cell? ⟨w.heap.size, 4, none⟩ = some (.slice A4 r.strs.length c4) := (blk_cell hb6 4).trans rfl
  have d5 : w6.cell? ⟨w.heap.size, 5, none⟩ = some (.slice A5 r.objs.length c5) := (blk_cell hb6 5).trans rfl
  have d6 : w6.cell? ⟨w.heap.size, 6, none⟩ = some (.slice A6 r.drv.length c6) := (blk_cell hb6 6).trans rfl
  rw [← HS5.out] at HP6
  clear hp hv HN hb6
  have HN : Aside0 _ := ⟨wnum_calls w w6 _ g r.objs.length 2 2 rfl 65535 (by decide) s5 HP6.out (by decide) HL5.out⟩
  go_wp2_with fail
  refine HN.out.mono ?_
  rintro e w7 ⟨rfl, hp, hv⟩
  have HP7 := Aside0.mk hp
  have HV7 : Aside0 (Vs (fun k => False ∨ k = w.heap.size) wo w7) := ⟨fun k hk => (hv k hk).trans (HV6.out k hk)⟩
  have hb7 : w7.heap[w.heap.size]? = _ := (HV7.out _ (.inr rfl)).trans HBk.out
  clear d0 d1 d2 d3 d4 d5 d6
  have d0 : w7.cell? ⟨w.heap.size, 0, none⟩ = some (.int .i64 r.kind) := (blk_cell hb7 0).trans rfl
  have d1 : w7.cell? ⟨w.heap.size, 1, none⟩ = some (.int .i64 r.id) := (blk_cell hb7 1).trans rfl
  have d2 : w7.cell? ⟨w.heap.size, 2, none⟩ = some (.int .i64 r.size) := (blk_cell hb7 2).trans rfl
  have d3 : w7.cell? ⟨w.heap.size, 3, none⟩ = some (.string r.key) := (blk_cell hb7 3).trans rfl
  have d4 : w7.cell? ⟨w.heap.size, 4, none⟩ = some (.slice A4 r.strs.length c4) := (blk_cell hb7 4).trans rfl
  have d5 : w7.cell? ⟨w.heap.size, 5, none⟩ = some (.slice A5 r.objs.length c5) := (blk_cell hb7 5).trans rfl
  have d6 : w7.cell? ⟨w.heap.size, 6, none⟩ = some (.slice A6 r.drv.length c6) := (blk_cell hb7 6).trans rfl
  rw [← HS6.out] at HP7
  clear hp hv HN hb7
  go_wp2
  go_loopw [5, 6, 37, 38, 39, 40, 41, 42, 43, 44, 45, 46, 47, 48, 49, 50, 51, 52, 53, 54, 55, 56, 57, 58, 59, 60, 61, 62, 63, 64, 65, 66, 67, 68, 69, 70, 71] (fun x5 x6 x37 x38 x39 x40 x41 x42 x43 x44 x45 x46 x47 x48 x49 x50 x51 x52 x53 x54 x55 x56 x57 x58 x59 x60 x61 x62 x63 x64 x65 x66 x67 x68 x69 x70 x71 wr => ∃ k : Nat, k ≤ r.objs.length ∧ x5 = .int .i64 k ∧ Aside0 (Ww w wr (fun k => False ∨ k = w.heap.size) g ((r.objs.take k).foldl (fun s o => wObject o s) s6)) ∧ Aside0 (Vs (fun k => False ∨ k = w.heap.size) wo wr)) (fun x5 _ _ _ _ _ _ _ _ _ _ _ _ _ _ _ _ _ _ _ _ _ _ _ _ _ _ _ _ _ _ _ _ _ _ _ _ _ => r.objs.length - (intOf x5).toNat)
  case atStart => exact ⟨0, Nat.zero_le _, rfl, ⟨by simpa using HP7.out⟩, HV7⟩
  case round =>
   obtain ⟨k, hk, rfl, HPr, HVr⟩ := hrel
   clear d0 d1 d2 d3 d4 d5 d6
   have hb7 : wr.heap[w.heap.size]? = _ := (HVr.out _ (.inr rfl)).trans HBk.out
   have d5 : wr.cell? ⟨w.heap.size, 5, none⟩ = some (.slice A5 r.objs.length c5) := (blk_cell hb7 5).trans rfl
   obtain ⟨v0, l0, hblk, _⟩ := HPr.out.ex
   clear hb7
   by_cases hlt : k < r.objs.length
   ·obtain ⟨t, ht⟩ : ∃ t, t = (r.objs.take k).foldl (fun s o => wObject o s) s6 := ⟨_, rfl⟩
    have HF := Aside0.mk (foldl_take (fun s o => wObject o s) r.objs s6 k z44 hlt)
    have hGk := HGF.out k
    have HGk := Aside0.mk (HGF.out (k + 1))
    rw [HF.out] at HGk
    rw [← ht] at HPr HF hGk hblk HGk
    have c1 : wr.cell? ⟨g, 1, none⟩ = some (.bool t.2) := (blk_cell hblk 1).trans rfl
    clear hblk
    cases hbad : t.2 with
    | true =>
     have HPq : Aside0 (Ww w wr (fun k => False ∨ k = w.heap.size) g s7) := ⟨HPr.out.later hGk hbad⟩
     rw [hbad] at c1
     clear hbad ht hGk
     have hb9 : wr.heap[w.heap.size]? = _ := (HVr.out _ (.inr rfl)).trans HBk.out
     have d6 : wr.cell? ⟨w.heap.size, 6, none⟩ = some (.slice A6 r.drv.length c6) := (blk_cell hb9 6).trans rfl
     have HN : Aside0 _ := ⟨wints_calls w wr _ g A6 c6 r.drv s7 HPq.out HC6.out (by rw [← HS8.out]; exact HL.out)⟩
     clear hb9
     go_wp2_with fail
     refine HN.out.mono ?_
     rintro e w9 ⟨rfl, hp, hv⟩
     rw [← HS8.out] at hp
     obtain ⟨v8, l8, hb8, hR8, hle, _⟩ := hp.ex
     obtain ⟨A8, c8, e8⟩ := Kd.R_slice hR8
     subst e8
     have c0 : w9.cell? ⟨g, 0, none⟩ = some (.slice A8 l8.length c8) := (blk_cell hb8 0).trans rfl
     have c1 : w9.cell? ⟨g, 1, none⟩ = some (.bool s8.2) := (blk_cell hb8 1).trans rfl
     have HR8 := Aside0.mk (Kd.R_mono hR8 (fun _ _ => trivial))
     have HB8 := Aside0.mk hp.hb
     have HLE := Aside0.mk hle
     clear hp hv hb8 hR8 HN d6 hle
     cases hbad : s8.2
     ·rw [hbad] at c1
      have hl8 := HLE.out hbad
      by_cases hbig : 8192 < l8.length
      ·have h1 : decide ((8192 : Int) < (l8.length : Int)) = true := decide_eq_true (by omega)
       have h2 : decide (8192 < l8.length) = true := decide_eq_true hbig
       have HEc : Aside0 (encO r = ([], 4)) := ⟨by rw [HE.out, hbad, if_neg Bool.false_ne_true, ← hl8, if_pos hbig]⟩
       clear hbad hbig hl8
       go_wp2
       go_ret2
       rw [HEc.out]
       exact ⟨_, rfl, Kd.R_nil _ _ _ _ _, HB8.out⟩
      ·have h1 : decide ((8192 : Int) < (l8.length : Int)) = false := decide_eq_false (by omega)
       have h2 : decide (8192 < l8.length) = false := decide_eq_false hbig
       have HEc : Aside0 (encO r = (l8, 0)) := ⟨by rw [HE.out, hbad, if_neg Bool.false_ne_true, ← hl8, if_neg hbig]⟩
       clear hbad hbig hl8
       go_wp2
       go_ret2
       rw [HEc.out]
       exact ⟨_, rfl, HR8.out, HB8.out⟩
     ·rw [hbad] at c1
      have HEc : Aside0 (encO r = ([], 2)) := ⟨by rw [HE.out, hbad, if_pos rfl]⟩
      clear hbad
      go_wp2
      go_ret2
      rw [HEc.out]
      exact ⟨_, rfl, Kd.R_nil _ _ _ _ _, HB8.out⟩
    | false =>
     rw [hbad] at c1
     obtain ⟨ad, B, cb, hA5, hr0, hr1, hr2, hr3, hcb, hCB⟩ := object_at HC5.out k hlt
     have hq0 := pw_cell_below HPr.out.hb hr0
     have hq1 := pw_cell_below HPr.out.hb hr1
     have hq2 := pw_cell_below HPr.out.hb hr2
     have hq3 := pw_cell_below HPr.out.hb hr3
     have HCB := Aside0.mk hCB
     have HA5 := Aside0.mk hA5
     obtain ⟨x, hx⟩ : ∃ x, x = r.objs.getD k z44 := ⟨_, rfl⟩
     rw [← hx] at hq0 hq1 hq2 hq3 HCB HF HGk
     have HE2 : Aside0 (wObject x t = wStripes x.f3 (wN x.f2 4 1073741824 (wN x.f1 4 1073741824 (wKey x.f0 t)))) := ⟨rfl⟩
     have hlen : (wStripes x.f3 (wN x.f2 4 1073741824 (wN x.f1 4 1073741824 (wKey x.f0 t)))).1.length < 140737488350000 := by have := HGk.out.len; have := HL7.out; rw [HE2.out] at *; omega
     have hl2 : (wN x.f2 4 1073741824 (wN x.f1 4 1073741824 (wKey x.f0 t))).1.length < 140737488350000 := by have := (grows_stripes x.f3 (wN x.f2 4 1073741824 (wN x.f1 4 1073741824 (wKey x.f0 t)))).len; omega
     have hl1 : (wN x.f1 4 1073741824 (wKey x.f0 t)).1.length < 140737488350000 := by have := (grows_N x.f2 4 1073741824 (wN x.f1 4 1073741824 (wKey x.f0 t))).len; omega
     have hl0 : (wKey x.f0 t).1.length < 140737488350000 := by have := (grows_N x.f1 4 1073741824 (wKey x.f0 t)).len; omega
     have HLN := Aside0.mk hlen
     have HLK1 := Aside0.mk hl1
     have HLK := Aside0.mk hl0
     obtain ⟨wv, hwv⟩ : ∃ wv, wv = wr.alloc (.cells #[.string x.f0, .int .i64 x.f1, .int .i64 x.f2, .slice B x.f3.length cb] 44) := ⟨_, rfl⟩
     have hBv : Below wr.heap.size wr wv := by rw [hwv]; exact (Below.refl _ _).alloc (Nat.le_refl _) _
     have hblv : wv.heap[wr.heap.size]? = some (.cells #[.string x.f0, .int .i64 x.f1, .int .i64 x.f2, .slice B x.f3.length cb] 44 (0, 0)) := by rw [hwv]; exact heap_alloc_new wr _
     have HBv := Aside0.mk hBv
     have HBv2 := Aside0.mk hblv
     have HWV := Aside0.mk hwv
     have HPv : Aside0 (Ww w wv (fun k => (False ∨ k = w.heap.size) ∨ k = wr.heap.size) g t) := ⟨HPr.out.guard_ hBv (fun k hk => by rcases hk with h1 | h1; exact .inl h1; subst h1; exact .inr ⟨Nat.le_refl _, _, _, hblv, by decide⟩)⟩
     have f0 : wv.cell? ⟨wr.heap.size, 0, none⟩ = some (.string x.f0) := (blk_cell hblv 0).trans rfl
     have f1 : wv.cell? ⟨wr.heap.size, 1, none⟩ = some (.int .i64 x.f1) := (blk_cell hblv 1).trans rfl
     have f2 : wv.cell? ⟨wr.heap.size, 2, none⟩ = some (.int .i64 x.f2) := (blk_cell hblv 2).trans rfl
     have f3 : wv.cell? ⟨wr.heap.size, 3, none⟩ = some (.slice B x.f3.length cb) := (blk_cell hblv 3).trans rfl
     clear hbad ht hGk hx hlen hl0 hl1 hl2 hwv hBv hblv hCB hr0 hr1 hr2 hr3 hcb
     rw [hA5] at d5
     clear hA5
     go_upto_region 14 with fail
     rw [← HWV.out]
     clear d5 c1 hq0 hq1 hq2 hq3
     have HN : Aside0 _ := ⟨wkey_calls w wv (fun k => (False ∨ k = w.heap.size) ∨ k = wr.heap.size) g x.f0 t HPv.out HLK.out⟩
     go_wp2_with fail
     refine HN.out.mono ?_
     rintro e w12 ⟨rfl, hp, hv⟩
     have HP12 := Aside0.mk hp
     have HV12 : Aside0 (Vs (fun k => (False ∨ k = w.heap.size) ∨ k = wr.heap.size) wv w12) := ⟨hv⟩
     have hb12 : w12.heap[wr.heap.size]? = _ := (HV12.out _ (.inr rfl)).trans HBv2.out
     clear f0 f1 f2 f3
     have f0 : w12.cell? ⟨wr.heap.size, 0, none⟩ = some (.string x.f0) := (blk_cell hb12 0).trans rfl
     have f1 : w12.cell? ⟨wr.heap.size, 1, none⟩ = some (.int .i64 x.f1) := (blk_cell hb12 1).trans rfl
     have f2 : w12.cell? ⟨wr.heap.size, 2, none⟩ = some (.int .i64 x.f2) := (blk_cell hb12 2).trans rfl
     have f3 : w12.cell? ⟨wr.heap.size, 3, none⟩ = some (.slice B x.f3.length cb) := (blk_cell hb12 3).trans rfl
     clear hp hv HN hb12
     have HN : Aside0 _ := ⟨wnum_calls w w12 (fun k => (False ∨ k = w.heap.size) ∨ k = wr.heap.size) g x.f1 4 4 rfl 1073741824 (by decide) _ HP12.out (by decide) HLK.out⟩
     go_wp2_with fail
     refine HN.out.mono ?_
     rintro e w13 ⟨rfl, hp, hv⟩
     have HP13 := Aside0.mk hp
     have HV13 : Aside0 (Vs (fun k => (False ∨ k = w.heap.size) ∨ k = wr.heap.size) wv w13) := ⟨fun k hk => (hv k hk).trans (HV12.out k hk)⟩
     have hb13 : w13.heap[wr.heap.size]? = _ := (HV13.out _ (.inr rfl)).trans HBv2.out
     clear f0 f1 f2 f3
     have f0 : w13.cell? ⟨wr.heap.size, 0, none⟩ = some (.string x.f0) := (blk_cell hb13 0).trans rfl
     have f1 : w13.cell? ⟨wr.heap.size, 1, none⟩ = some (.int .i64 x.f1) := (blk_cell hb13 1).trans rfl
     have f2 : w13.cell? ⟨wr.heap.size, 2, none⟩ = some (.int .i64 x.f2) := (blk_cell hb13 2).trans rfl
     have f3 : w13.cell? ⟨wr.heap.size, 3, none⟩ = some (.slice B x.f3.length cb) := (blk_cell hb13 3).trans rfl
     clear hp hv HN hb13
     have HN : Aside0 _ := ⟨wnum_calls w w13 (fun k => (False ∨ k = w.heap.size) ∨ k = wr.heap.size) g x.f2 4 4 rfl 1073741824 (by decide) _ HP13.out (by decide) HLK1.out⟩
     go_wp2_with fail
     refine HN.out.mono ?_
     rintro e w14 ⟨rfl, hp, hv⟩
     have HP14 := Aside0.mk hp
     have HV14 : Aside0 (Vs (fun k => (False ∨ k = w.heap.size) ∨ k = wr.heap.size) wv w14) := ⟨fun k hk => (hv k hk).trans (HV13.out k hk)⟩
     have hb14 : w14.heap[wr.heap.size]? = _ := (HV14.out _ (.inr rfl)).trans HBv2.out
     clear f0 f1 f2 f3
     have f0 : w14.cell? ⟨wr.heap.size, 0, none⟩ = some (.string x.f0) := (blk_cell hb14 0).trans rfl
     have f1 : w14.cell? ⟨wr.heap.size, 1, none⟩ = some (.int .i64 x.f1) := (blk_cell hb14 1).trans rfl
     have f2 : w14.cell? ⟨wr.heap.size, 2, none⟩ = some (.int .i64 x.f2) := (blk_cell hb14 2).trans rfl
     have f3 : w14.cell? ⟨wr.heap.size, 3, none⟩ = some (.slice B x.f3.length cb) := (blk_cell hb14 3).trans rfl
     clear hp hv HN hb14
     have HN : Aside0 _ := ⟨wstripes_calls w w14 (fun k => (False ∨ k = w.heap.size) ∨ k = wr.heap.size) g B cb x.f3 _ HP14.out HCB.out HLN.out⟩
     go_wp2_with fail
     refine HN.out.mono ?_
     rintro e w15 ⟨rfl, hp, hv⟩
     have HP15 := Aside0.mk hp
     have HV15 : Aside0 (Vs (fun k => (False ∨ k = w.heap.size) ∨ k = wr.heap.size) wv w15) := ⟨fun k hk => (hv k hk).trans (HV14.out k hk)⟩
     have hb15 : w15.heap[wr.heap.size]? = _ := (HV15.out _ (.inr rfl)).trans HBv2.out
     clear f0 f1 f2 f3
     have f0 : w15.cell? ⟨wr.heap.size, 0, none⟩ = some (.string x.f0) := (blk_cell hb15 0).trans rfl
     have f1 : w15.cell? ⟨wr.heap.size, 1, none⟩ = some (.int .i64 x.f1) := (blk_cell hb15 1).trans rfl
     have f2 : w15.cell? ⟨wr.heap.size, 2, none⟩ = some (.int .i64 x.f2) := (blk_cell hb15 2).trans rfl
     have f3 : w15.cell? ⟨wr.heap.size, 3, none⟩ = some (.slice B x.f3.length cb) := (blk_cell hb15 3).trans rfl
     clear hp hv HN hb15
     go_wp2
     go_roundw
     case rel => exact ⟨k + 1, by omega, by go_num, ⟨by rw [HF.out, HE2.out]; exact HP15.out.less (fun k hk => .inl hk)⟩, ⟨fun k hk => (HV15.out k (.inl hk)).trans ((HBv.out.block k (HPr.out.vb k hk)).trans (HVr.out k hk))⟩⟩
     case measure => simp [intOf]; omega
   ·obtain rfl : k = r.objs.length := by omega
    have hd : decide (r.objs.length < r.objs.length) = false := decide_eq_false (Nat.lt_irrefl _)
    have HPq : Aside0 (Ww w wr (fun k => False ∨ k = w.heap.size) g s7) := ⟨by have := HPr.out; rw [List.take_of_length_le (Nat.le_refl _), ← HS7.out] at this; exact this⟩
    clear hk hlt hblk
    have hb9 : wr.heap[w.heap.size]? = _ := (HVr.out _ (.inr rfl)).trans HBk.out
    have d6 : wr.cell? ⟨w.heap.size, 6, none⟩ = some (.slice A6 r.drv.length c6) := (blk_cell hb9 6).trans rfl
    have HN : Aside0 _ := ⟨wints_calls w wr _ g A6 c6 r.drv s7 HPq.out HC6.out (by rw [← HS8.out]; exact HL.out)⟩
    clear hb9
    go_wp2_with fail
    refine HN.out.mono ?_
    rintro e w9 ⟨rfl, hp, hv⟩
    rw [← HS8.out] at hp
    obtain ⟨v8, l8, hb8, hR8, hle, _⟩ := hp.ex
    obtain ⟨A8, c8, e8⟩ := Kd.R_slice hR8
    subst e8
    have c0 : w9.cell? ⟨g, 0, none⟩ = some (.slice A8 l8.length c8) := (blk_cell hb8 0).trans rfl
    have c1 : w9.cell? ⟨g, 1, none⟩ = some (.bool s8.2) := (blk_cell hb8 1).trans rfl
    have HR8 := Aside0.mk (Kd.R_mono hR8 (fun _ _ => trivial))
    have HB8 := Aside0.mk hp.hb
    have HLE := Aside0.mk hle
    clear hp hv hb8 hR8 HN d6 hle
    cases hbad : s8.2
    ·rw [hbad] at c1
     have hl8 := HLE.out hbad
     by_cases hbig : 8192 < l8.length
     ·have h1 : decide ((8192 : Int) < (l8.length : Int)) = true := decide_eq_true (by omega)
      have h2 : decide (8192 < l8.length) = true := decide_eq_true hbig
      have HEc : Aside0 (encO r = ([], 4)) := ⟨by rw [HE.out, hbad, if_neg Bool.false_ne_true, ← hl8, if_pos hbig]⟩
      clear hbad hbig hl8
      go_wp2
      go_ret2
      rw [HEc.out]
      exact ⟨_, rfl, Kd.R_nil _ _ _ _ _, HB8.out⟩
     ·have h1 : decide ((8192 : Int) < (l8.length : Int)) = false := decide_eq_false (by omega)
      have h2 : decide (8192 < l8.length) = false := decide_eq_false hbig
      have HEc : Aside0 (encO r = (l8, 0)) := ⟨by rw [HE.out, hbad, if_neg Bool.false_ne_true, ← hl8, if_neg hbig]⟩
      clear hbad hbig hl8
      go_wp2
      go_ret2
      rw [HEc.out]
      exact ⟨_, rfl, HR8.out, HB8.out⟩
    ·rw [hbad] at c1
     have HEc : Aside0 (encO r = ([], 2)) := ⟨by rw [HE.out, hbad, if_pos rfl]⟩
     clear hbad
     go_wp2
     go_ret2
     rw [HEc.out]
     exact ⟨_, rfl, Kd.R_nil _ _ _ _ _, HB8.out⟩
end Go.Proofs.Ythoebncbhmefmaa.Rc
