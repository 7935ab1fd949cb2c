/- Histories: Calls. -/
import Derived.Test.YtfcfiojkkpnhlaaProg
import Derived.Below
import Derived.Deep.Draws
import Derived.Deep.AppendLies
import Derived.Maps.AppendAt
import Derived.OwnWalk
import Derived.Laws.BytesArg
import Derived.Laws.MakeOwn
import Derived.Laws.OwnMore
import Derived.Deep.OwnRows
import Derived.Tactics
import Derived.Lib.ConvBytes
import Derived.Laws.Slices
import Derived.WalkKit
import Derived.KernelRfl
import Derived.RowKit3
import Derived.Deep.LoopGhost
import Derived.Deep.QuietTactic
import Derived.BigQuiet
import Derived.WideLaws
import Derived.Deep.DeepCutAuto
import Derived.Deep.CutBlock
import Derived.Deep.RegionHeld3
import Derived.Laws.Rows
import Derived.Lib.AppendStr
import Derived.ArgAppend
import Derived.Laws.IdiomCopy
import Derived.OrdersHeld
import Derived.Laws.BitsLemmas
import Derived.RowKit
import Derived.Test.YtfcfiojkkpnhlaaWWords
import Derived.Test.YtfcfiojkkpnhlaaWLast
import Derived.Test.YtfcfiojkkpnhlaaWTab
import Derived.Test.YtfcfiojkkpnhlaaWFour
import Derived.Test.YtfcfiojkkpnhlaaWQPut
import Derived.Test.YtfcfiojkkpnhlaaWApart
import Derived.Test.YtfcfiojkkpnhlaaWArr
import Derived.Test.YtfcfiojkkpnhlaaWZeros
import Derived.Test.YtfcfiojkkpnhlaaWFoot
import Derived.Test.YtfcfiojkkpnhlaaWKept
import Derived.Test.YtfcfiojkkpnhlaaWShare
import Derived.Test.YtfcfiojkkpnhlaaWN
import Derived.Test.YtfcfiojkkpnhlaaWFootNe
import Derived.Test.YtfcfiojkkpnhlaaWAt
import Derived.Test.YtfcfiojkkpnhlaaWEqStruct
import Derived.Test.YtfcfiojkkpnhlaaWRepsOne
import Derived.Test.YtfcfiojkkpnhlaaWInv
import Derived.Test.YtfcfiojkkpnhlaaWInvWords
import Derived.Test.YtfcfiojkkpnhlaaWGuard
import Derived.Test.YtfcfiojkkpnhlaaWNEv
import Derived.Test.YtfcfiojkkpnhlaaWMore
import Derived.Test.YtfcfiojkkpnhlaaHs2
namespace Go.Proofs.Ytfcfiojkkpnhlaa.Hs
open Go.RowKit Go.Proofs.YtfcfiojkkpnhlaaW.PrintWords Go.Proofs.YtfcfiojkkpnhlaaW.PrintLast Go.Proofs.YtfcfiojkkpnhlaaW.PrintMore
attribute [local go_sem] max2_int min2_int max_two min_two max_three min_three max_four min_four
set_option linter.unusedVariables false
set_option linter.unusedSimpArgs false
open Go.Proofs.Ytfcfiojkkpnhlaa.Mp
def Hst.Sm (h : Hst) : Prop := ∀ n, (h.list.getD n clz).data.length < 1000000 ∧ (h.list.getD n clz).out.length < 1000000 ∧ (h.list.getD n clz).keys.length < 1000000
theorem take_getD {l : List Cl} {k : Nat} (h : k < l.length) : l.take (k + 1) = l.take k ++ [l.getD k clz] := by
  rw [List.take_add_one, List.getD_eq_getElem?_getD, List.getElem?_eq_getElem h]; rfl
set_option maxRecDepth 100000 in
set_option maxHeartbeats 2000000 in
theorem calls_calls (g mb : Nat) (h : Hst) (ok : Nat → Prop) (w : World) (H : Hp w ok g mb h) (hl : h.list.length < 1000000) (hs : h.Sm) :
    Calls Try.prog 11 #[.pointer (some ⟨g, 0, none⟩)] w fun e w' => ∃ v0_ : Value, e = .returned v0_ ∧ Kd.N CK 40 w' w.heap.size (fun k => w.heap.size ≤ k) v0_ h.list ∧ Below w.heap.size w w' := by
  obtain ⟨v, H⟩ := H
  obtain ⟨c0, c1, c2, hfz⟩ := hv_cell H
  obtain ⟨A, cap, rfl⟩ : ∃ A c, v = .slice A h.list.length c := Kd.N_slice H.lst
  have HH := Aside0.mk H
  have HS := Aside0.mk hs
  clear hs H
  go_enter Try.func11, Try.ntmps11
  go_wp2
  go_loopw [3, 5, 13, 14, 15, 16, 17, 18, 19, 20, 21, 22, 23, 24, 25, 26, 27, 28, 29, 30, 31, 32, 33] (fun x3 x5 x13 x14 x15 x16 x17 x18 x19 x20 x21 x22 x23 x24 x25 x26 x27 x28 x29 x30 x31 x32 x33 wr => ∃ k : Nat, k ≤ h.list.length ∧ x13 = .int .i64 k ∧ Aside0 (Kd.N CK 40 wr w.heap.size (fun k => w.heap.size ≤ k) x3 (h.list.take k)) ∧ Aside0 (Below w.heap.size w wr)) (fun _ _ x13 _ _ _ _ _ _ _ _ _ _ _ _ _ _ _ _ _ _ _ _ _ => h.list.length - (intOf x13).toNat)
  case atStart => exact ⟨0, Nat.zero_le _, rfl, ⟨Kd.N_nil _ _ _ _ _⟩, ⟨Below.refl _ _⟩⟩
  case round =>
    obtain ⟨k, hk, rfl, HN, HBr⟩ := hrel
    have HHr := Aside0.mk (HH.out.below HBr.out)
    by_cases hlt : k < h.list.length
    · obtain ⟨gl, cap', e1, _, hgl, _⟩ := Kd.N_form HHr.out.lst (by omega)
      injection e1 with e1 e2 e3
      subst e1 e3
      obtain ⟨vd, vo, vk, hcc, _, hVd, hVo, hVk⟩ := hl_elem HHr.out.lst k hlt
      obtain ⟨s1, s2, s3⟩ := HS.out k
      have ht := take_getD hlt
      obtain ⟨c, hc⟩ : ∃ c, c = h.list.getD k clz := ⟨_, rfl⟩
      rw [← hc] at hcc hVd hVo hVk s1 s2 s3 ht
      obtain ⟨D, dc, rfl, hd1, hdF⟩ := vo_vb hVd
      obtain ⟨O, oc, rfl, ho1, hoF⟩ := vo_vb hVo
      clear hVd hVo
      obtain ⟨S, sc, rfl, hs1, hsF⟩ := hVk
      obtain ⟨W1, hW1⟩ : ∃ W1, W1 = wr.alloc (.cells #[.int .i64 c.task, .int .i64 c.op, .string c.key, .slice D c.data.length dc, .int .i64 c.from_, .int .i64 c.to_, .int .i64 c.at_, .int .i64 c.e, .slice O c.out.length oc, .slice S c.keys.length sc] 40) := ⟨_, rfl⟩
      have hB : Below wr.heap.size wr W1 := by rw [hW1]; exact (Below.refl _ _).alloc (Nat.le_refl _) _
      have BCW1 : Aside0 (W1.heap[wr.heap.size]? = some (.cells #[.int .i64 c.task, .int .i64 c.op, .string c.key, .slice D c.data.length dc, .int .i64 c.from_, .int .i64 c.to_, .int .i64 c.at_, .int .i64 c.e, .slice O c.out.length oc, .slice S c.keys.length sc] 40 (0, 0))) := ⟨by rw [hW1]; exact heap_alloc_new wr _⟩
      have HD1 : Aside0 (U8.C W1 D c.data.length c.data) := ⟨Kd.F_now (Kd.F_below hdF hB)⟩
      have HO1 : Aside0 (U8.C W1 O c.out.length c.out) := ⟨Kd.F_now (Kd.F_below hoF hB)⟩
      have HS1 : Aside0 (Kd.string.C W1 S c.keys.length c.keys) := ⟨Kd.F_now (Kd.F_below hsF hB)⟩
      have HB := Aside0.mk hB
      have HW1 := Aside0.mk hW1
      have HT := Aside0.mk ht
      have m0 : wr.cell? ⟨gl, k * 10, none⟩ = some (.int .i64 c.task) := hcc 0 _ rfl
      have m1 : wr.cell? ⟨gl, k * 10 + 1, none⟩ = some (.int .i64 c.op) := hcc 1 _ rfl
      have m2 : wr.cell? ⟨gl, k * 10 + 2, none⟩ = some (.string c.key) := hcc 2 _ rfl
      have m3 : wr.cell? ⟨gl, k * 10 + 3, none⟩ = some (.slice D c.data.length dc) := hcc 3 _ rfl
      have m4 : wr.cell? ⟨gl, k * 10 + 4, none⟩ = some (.int .i64 c.from_) := hcc 4 _ rfl
      have m5 : wr.cell? ⟨gl, k * 10 + 5, none⟩ = some (.int .i64 c.to_) := hcc 5 _ rfl
      have m6 : wr.cell? ⟨gl, k * 10 + 6, none⟩ = some (.int .i64 c.at_) := hcc 6 _ rfl
      have m7 : wr.cell? ⟨gl, k * 10 + 7, none⟩ = some (.int .i64 c.e) := hcc 7 _ rfl
      have m8 : wr.cell? ⟨gl, k * 10 + 8, none⟩ = some (.slice O c.out.length oc) := hcc 8 _ rfl
      have m9 : wr.cell? ⟨gl, k * 10 + 9, none⟩ = some (.slice S c.keys.length sc) := hcc 9 _ rfl
      have HL1 := Aside0.mk hd1
      have HL2 := Aside0.mk ho1
      have HL3 := Aside0.mk hs1
      clear hcc hdF hoF hsF hB hW1 ht hc hgl e2 hd1 ho1 hs1
      go_upto_region 7 with fail
      rw [← HW1.out]
      refine start_ (n := 15) (S := fun w' => w'.cell? ⟨wr.heap.size, 3, none⟩ = some (.slice D c.data.length dc) ∧ w'.cell? ⟨wr.heap.size, 8, none⟩ = some (.slice O c.out.length oc) ∧ w'.cell? ⟨wr.heap.size, 9, none⟩ = some (.slice S c.keys.length sc)) (ds := [10, 12, 14]) #[false, false, false, false, false, false, false, false, false, false, false, false, false, false, false] (by kernel_rfl) rfl rfl ⟨((blk_cell BCW1.out 3).trans rfl), ((blk_cell BCW1.out 8).trans rfl), ((blk_cell BCW1.out 9).trans rfl)⟩ (fun hHeld => ?_)
      refine pure_ (i := 0) (N := some 17) (v := ?_) (a' := ?_) #[true, false, false, false, false, false, false, false, false, false, false, false, false, false, false] rfl rfl (by kernel_rfl) (fun _ _ _ h => h) (Or.inl ⟨by rfl, ?_⟩) ?_ ?_
      rotate_left
      · intro w'
        go_simp
        with_reducible rfl
      rotate_left
      · simp only [Act.put, List.setIfInBounds_toArray, List.set_cons_zero, List.set_cons_succ, i64_w, i32_w]
        rfl
      refine pure_ (i := 3) (N := some 20) (v := ?_) (a' := ?_) #[true, false, false, true, false, false, false, false, false, false, false, false, false, false, false] rfl rfl (by kernel_rfl) (fun _ _ _ h => h) (Or.inl ⟨by rfl, ?_⟩) ?_ ?_
      rotate_left
      · intro w'
        go_simp
        with_reducible rfl
      rotate_left
      · simp only [Act.put, List.setIfInBounds_toArray, List.set_cons_zero, List.set_cons_succ, i64_w, i32_w]
        rfl
      refine pure_ (i := 6) (N := some 23) (v := ?_) (a' := ?_) #[true, false, false, true, false, false, true, false, false, false, false, false, false, false, false] rfl rfl (by kernel_rfl) (fun _ _ _ h => h) (Or.inl ⟨by rfl, ?_⟩) ?_ ?_
      rotate_left
      · intro w'
        go_simp
        with_reducible rfl
      rotate_left
      · simp only [Act.put, List.setIfInBounds_toArray, List.set_cons_zero, List.set_cons_succ, i64_w, i32_w]
        rfl
      refine take_ (i := 1) (N := some 18) (v := ?_) (a' := ?_) #[true, true, false, true, false, false, true, false, false, false, false, false, false, false, false] rfl rfl (by kernel_rfl) (fun _ _ _ h => h) (Or.inl ⟨by rfl, ?_⟩) hHeld ?_ ?_
      rotate_left
      · rintro w' ⟨s0, s1, s2⟩
        go_simp
        with_reducible rfl
      rotate_left
      · simp only [Act.put, List.setIfInBounds_toArray, List.set_cons_zero, List.set_cons_succ, i64_w, i32_w]
        rfl
      refine take_ (i := 4) (N := some 21) (v := ?_) (a' := ?_) #[true, true, false, true, true, false, true, false, false, false, false, false, false, false, false] rfl rfl (by kernel_rfl) (fun _ _ _ h => h) (Or.inl ⟨by rfl, ?_⟩) hHeld ?_ ?_
      rotate_left
      · rintro w' ⟨s0, s1, s2⟩
        go_simp
        with_reducible rfl
      rotate_left
      · simp only [Act.put, List.setIfInBounds_toArray, List.set_cons_zero, List.set_cons_succ, i64_w, i32_w]
        rfl
      refine take_ (i := 7) (N := some 24) (v := ?_) (a' := ?_) #[true, true, false, true, true, false, true, true, false, false, false, false, false, false, false] rfl rfl (by kernel_rfl) (fun _ _ _ h => h) (Or.inl ⟨by rfl, ?_⟩) hHeld ?_ ?_
      rotate_left
      · rintro w' ⟨s0, s1, s2⟩
        go_simp
        with_reducible rfl
      rotate_left
      · simp only [Act.put, List.setIfInBounds_toArray, List.set_cons_zero, List.set_cons_succ, i64_w, i32_w]
        rfl
      refine one_ (i := 2) (N := some 19) #[true, true, true, true, true, false, true, true, false, false, false, false, false, false, false] rfl rfl (by kernel_rfl) (by decide) (fun K hK => ?_)
      refine goes_ Try.func13 (by kernel_rfl) rfl #[.slice D c.data.length dc] (by rfl) rfl rfl (by simp only [List.map_toArray, List.map_cons, List.map_nil]; rfl) ?_
      with_reducible refine (clone_calls D c.data.length dc c.data _ (Kd.C_drew HD1.out) (by omega)).mono ?_
      rintro e w1 ⟨v2, rfl, ho, hb1⟩
      refine ⟨_, rfl, ?_⟩
      have HBw1 : Aside0 (Below W1.heap.size W1 w1) := ⟨⟨hb1.os, hb1.tape, hb1.output, hb1.size, hb1.block⟩⟩
      have BCw1 : Aside0 (w1.heap[wr.heap.size]? = _) := ⟨blk_below BCW1.out HBw1.out⟩
      have V1 : Aside0 (Vo w1 (fun k => W1.heap.size ≤ k) v2 c.data) := ⟨vo_new ho (fun _ h => h)⟩
      obtain ⟨A2, n2, rfl⟩ := Kd.V_slice (vo_vb V1.out)
      have HO2 : Aside0 (U8.C w1 O c.out.length c.out) := ⟨Kd.C_below HO1.out HBw1.out⟩
      clear ho hb1
      refine hK.out _ _ ⟨((blk_cell BCw1.out 3).trans rfl), ((blk_cell BCw1.out 8).trans rfl), ((blk_cell BCw1.out 9).trans rfl)⟩ (fun hHeld => ?_)
      clear hK K
      refine norm_ (a' := ?_) ?_ ?_
      rotate_left
      · show Act.put _ (some 19) _ = _
        simp only [Act.put, List.setIfInBounds_toArray, List.set_cons_zero, List.set_cons_succ, i64_w, i32_w]
        rfl
      refine pure_ (i := 9) (N := some 26) (v := ?_) (a' := ?_) #[true, true, true, true, true, false, true, true, false, true, false, false, false, false, false] rfl rfl (by kernel_rfl) (fun _ _ _ h => h) (Or.inl ⟨by rfl, ?_⟩) ?_ ?_
      rotate_left
      · intro w'
        go_simp
        with_reducible rfl
      rotate_left
      · simp only [Act.put, List.setIfInBounds_toArray, List.set_cons_zero, List.set_cons_succ, i64_w, i32_w]
        rfl
      refine one_ (i := 5) (N := some 22) #[true, true, true, true, true, true, true, true, false, true, false, false, false, false, false] rfl rfl (by kernel_rfl) (by decide) (fun K hK => ?_)
      refine goes_ Try.func13 (by kernel_rfl) rfl #[.slice O c.out.length oc] (by rfl) rfl rfl (by simp only [List.map_toArray, List.map_cons, List.map_nil]; rfl) ?_
      with_reducible refine (clone_calls O c.out.length oc c.out _ HO2.out (by omega)).mono ?_
      rintro e w2 ⟨v3, rfl, ho, hb2⟩
      refine ⟨_, rfl, ?_⟩
      have HBw2 : Aside0 (Below w1.heap.size w1 w2) := ⟨⟨hb2.os, hb2.tape, hb2.output, hb2.size, hb2.block⟩⟩
      have BCw2 : Aside0 (w2.heap[wr.heap.size]? = _) := ⟨blk_below BCw1.out HBw2.out⟩
      have V2 : Aside0 (Vo w2 (fun k => w1.heap.size ≤ k) v3 c.out) := ⟨vo_new ho (fun _ h => h)⟩
      obtain ⟨A3, n3, rfl⟩ := Kd.V_slice (vo_vb V2.out)
      have HS2 : Aside0 (Kd.string.C w2 S c.keys.length c.keys) := ⟨Kd.C_below (Kd.C_below HS1.out HBw1.out) HBw2.out⟩
      clear ho hb2
      refine hK.out _ _ ⟨((blk_cell BCw2.out 3).trans rfl), ((blk_cell BCw2.out 8).trans rfl), ((blk_cell BCw2.out 9).trans rfl)⟩ (fun hHeld => ?_)
      clear hK K
      refine norm_ (a' := ?_) ?_ ?_
      rotate_left
      · show Act.put _ (some 22) _ = _
        simp only [Act.put, List.setIfInBounds_toArray, List.set_cons_zero, List.set_cons_succ, i64_w, i32_w]
        rfl
      refine one_ (i := 8) (N := some 25) #[true, true, true, true, true, true, true, true, true, true, false, false, false, false, false] rfl rfl (by kernel_rfl) (by decide) (fun K hK => ?_)
      refine goes_ Try.func15 (by kernel_rfl) rfl #[.slice S c.keys.length sc] (by rfl) rfl rfl (by simp only [List.map_toArray, List.map_cons, List.map_nil]; rfl) ?_
      with_reducible refine (clones_calls S c.keys.length sc c.keys _ HS2.out (by omega)).mono ?_
      rintro e w3 ⟨v4, rfl, ho, hb3⟩
      refine ⟨_, rfl, ?_⟩
      have HBw3 : Aside0 (Below w2.heap.size w2 w3) := ⟨⟨hb3.os, hb3.tape, hb3.output, hb3.size, hb3.block⟩⟩
      have BCw3 : Aside0 (w3.heap[wr.heap.size]? = _) := ⟨blk_below BCw2.out HBw3.out⟩
      have V3 : Aside0 (Vs w3 (fun k => w2.heap.size ≤ k) v4 c.keys) := ⟨vs_new ho (fun _ h => h)⟩
      obtain ⟨A4, n4, rfl⟩ := Kd.V_slice V3.out
      clear ho hb3
      have cw3 : w3.cell? ⟨wr.heap.size, 3, none⟩ = some _ := (blk_cell BCw3.out 3).trans rfl
      have fw3 : w3.frozen? ⟨wr.heap.size, 3, none⟩ = false := blk_frozen BCw3.out 3
      refine hK.out _ _ ⟨((blk_cell BCw3.out 3).trans rfl), ((blk_cell BCw3.out 8).trans rfl), ((blk_cell BCw3.out 9).trans rfl)⟩ (fun hHeld => ?_)
      clear hK K
      refine norm_ (a' := ?_) ?_ ?_
      rotate_left
      · show Act.put _ (some 25) _ = _
        simp only [Act.put, List.setIfInBounds_toArray, List.set_cons_zero, List.set_cons_succ, i64_w, i32_w]
        rfl
      refine last_ (i := 10) (N := none) #[true, true, true, true, true, true, true, true, true, true, true, false, false, false, false] rfl rfl (by kernel_rfl) (by decide) (fun K hK => ?_)
      refine skip_ (w1 := ?_) (by rfl) rfl ?_ ?_
      rotate_left
      · go_simp
        rfl
      have BCw4 : Aside0 ((w3.setCell ⟨wr.heap.size, 3, none⟩ (.slice A2 c.data.length n2)).heap[wr.heap.size]? = _) := ⟨blk_set BCw3.out 3 _⟩
      have Mw4 : Aside0 (∀ k, k ≠ wr.heap.size → (w3.setCell ⟨wr.heap.size, 3, none⟩ (.slice A2 c.data.length n2)).heap[k]? = w3.heap[k]?) := ⟨fun k hk => Below.heap_setCell _ _ _ _ hk⟩
      have HUw4 : Aside0 (Below wr.heap.size w3 (w3.setCell ⟨wr.heap.size, 3, none⟩ (.slice A2 c.data.length n2))) := ⟨(Below.refl _ _).setCell (p := ⟨wr.heap.size, 3, none⟩) (Nat.le_refl _) _⟩
      obtain ⟨w4, hhw4⟩ : ∃ W, W = w3.setCell ⟨wr.heap.size, 3, none⟩ (.slice A2 c.data.length n2) := ⟨_, rfl⟩
      rw [← hhw4] at BCw4 Mw4 HUw4
      rw [← hhw4]
      clear hhw4
      have cw4 : w4.cell? ⟨wr.heap.size, 8, none⟩ = some _ := (blk_cell BCw4.out 8).trans rfl
      have fw4 : w4.frozen? ⟨wr.heap.size, 8, none⟩ = false := blk_frozen BCw4.out 8
      refine hK.out _ _ ?_
      clear hK K
      refine pure_ (i := 11) (N := some 27) (v := ?_) (a' := ?_) #[true, true, true, true, true, true, true, true, true, true, true, true, false, false, false] rfl rfl (by kernel_rfl) (fun _ _ _ h => h) (Or.inl ⟨by rfl, ?_⟩) ?_ ?_
      rotate_left
      · intro w'
        go_simp
        with_reducible rfl
      rotate_left
      · simp only [Act.put, List.setIfInBounds_toArray, List.set_cons_zero, List.set_cons_succ, i64_w, i32_w]
        rfl
      refine last_ (i := 12) (N := none) #[true, true, true, true, true, true, true, true, true, true, true, true, true, false, false] rfl rfl (by kernel_rfl) (by decide) (fun K hK => ?_)
      refine skip_ (w1 := ?_) (by rfl) rfl ?_ ?_
      rotate_left
      · go_simp
        rfl
      have BCw5 : Aside0 ((w4.setCell ⟨wr.heap.size, 8, none⟩ (.slice A3 c.out.length n3)).heap[wr.heap.size]? = _) := ⟨blk_set BCw4.out 8 _⟩
      have Mw5 : Aside0 (∀ k, k ≠ wr.heap.size → (w4.setCell ⟨wr.heap.size, 8, none⟩ (.slice A3 c.out.length n3)).heap[k]? = w4.heap[k]?) := ⟨fun k hk => Below.heap_setCell _ _ _ _ hk⟩
      have HUw5 : Aside0 (Below wr.heap.size w4 (w4.setCell ⟨wr.heap.size, 8, none⟩ (.slice A3 c.out.length n3))) := ⟨(Below.refl _ _).setCell (p := ⟨wr.heap.size, 8, none⟩) (Nat.le_refl _) _⟩
      obtain ⟨w5, hhw5⟩ : ∃ W, W = w4.setCell ⟨wr.heap.size, 8, none⟩ (.slice A3 c.out.length n3) := ⟨_, rfl⟩
      rw [← hhw5] at BCw5 Mw5 HUw5
      rw [← hhw5]
      clear hhw5
      have cw5 : w5.cell? ⟨wr.heap.size, 9, none⟩ = some _ := (blk_cell BCw5.out 9).trans rfl
      have fw5 : w5.frozen? ⟨wr.heap.size, 9, none⟩ = false := blk_frozen BCw5.out 9
      refine hK.out _ _ ?_
      clear hK K
      refine pure_ (i := 13) (N := some 28) (v := ?_) (a' := ?_) #[true, true, true, true, true, true, true, true, true, true, true, true, true, true, false] rfl rfl (by kernel_rfl) (fun _ _ _ h => h) (Or.inl ⟨by rfl, ?_⟩) ?_ ?_
      rotate_left
      · intro w'
        go_simp
        with_reducible rfl
      rotate_left
      · simp only [Act.put, List.setIfInBounds_toArray, List.set_cons_zero, List.set_cons_succ, i64_w, i32_w]
        rfl
      refine last_ (i := 14) (N := none) #[true, true, true, true, true, true, true, true, true, true, true, true, true, true, true] rfl rfl (by kernel_rfl) (by decide) (fun K hK => ?_)
      refine skip_ (w1 := ?_) (by rfl) rfl ?_ ?_
      rotate_left
      · go_simp
        rfl
      have BCw6 : Aside0 ((w5.setCell ⟨wr.heap.size, 9, none⟩ (.slice A4 c.keys.length n4)).heap[wr.heap.size]? = _) := ⟨blk_set BCw5.out 9 _⟩
      have Mw6 : Aside0 (∀ k, k ≠ wr.heap.size → (w5.setCell ⟨wr.heap.size, 9, none⟩ (.slice A4 c.keys.length n4)).heap[k]? = w5.heap[k]?) := ⟨fun k hk => Below.heap_setCell _ _ _ _ hk⟩
      have HUw6 : Aside0 (Below wr.heap.size w5 (w5.setCell ⟨wr.heap.size, 9, none⟩ (.slice A4 c.keys.length n4))) := ⟨(Below.refl _ _).setCell (p := ⟨wr.heap.size, 9, none⟩) (Nat.le_refl _) _⟩
      obtain ⟨w6, hhw6⟩ : ∃ W, W = w5.setCell ⟨wr.heap.size, 9, none⟩ (.slice A4 c.keys.length n4) := ⟨_, rfl⟩
      rw [← hhw6] at BCw6 Mw6 HUw6
      rw [← hhw6]
      clear hhw6
      refine hK.out _ _ ?_
      clear hK K
      refine done_ (by kernel_rfl) ?_
      have z1 := HB.out.size
      have z2 := HBw1.out.size
      have z3 := HBw2.out.size
      have hz1 : W1.heap.size = wr.heap.size + 1 := by rw [HW1.out]; simp
      have HB6 : Aside0 (Below wr.heap.size wr w6) := ⟨HB.out.trans ((HBw1.out.mono z1).trans ((HBw2.out.mono (by omega)).trans ((HBw3.out.mono (by omega)).trans (HUw4.out.trans (HUw5.out.trans HUw6.out)))))⟩
      have hm6 : ∀ k, k ≠ wr.heap.size → w6.heap[k]? = w3.heap[k]? := fun k hk => (Mw6.out k hk).trans ((Mw5.out k hk).trans (Mw4.out k hk))
      have VD6 : Aside0 (Vo w6 (fun k => wr.heap.size < k) (.slice A2 c.data.length n2) c.data) := ⟨Kd.FK_step (Kd.FK_mono (Kd.FK_below (Kd.FK_below V1.out HBw2.out) HBw3.out) (fun k hk => by omega)) (fun k hk _ => hm6 k (by omega))⟩
      have VO6 : Aside0 (Vo w6 (fun k => wr.heap.size < k) (.slice A3 c.out.length n3) c.out) := ⟨Kd.FK_step (Kd.FK_mono (Kd.FK_below V2.out HBw3.out) (fun k hk => by omega)) (fun k hk _ => hm6 k (by omega))⟩
      have VK6 : Aside0 (Vs w6 (fun k => wr.heap.size < k) (.slice A4 c.keys.length n4) c.keys) := ⟨Kd.V_step (Kd.V_mono V3.out (fun k hk => by omega)) (fun k hk _ => hm6 k (by omega))⟩
      have HN6 : Aside0 (Kd.N CK 40 w6 w.heap.size (fun k => w.heap.size ≤ k) u3 (h.list.take k)) := ⟨Kd.N_below HN.out HB6.out⟩
      have HO6 : Aside0 (∀ k, wr.heap.size < k → w.heap.size ≤ k ∧ some k ≠ u3.ownBlock) := ⟨fun k hk => ⟨by have := HBr.out.size; omega, fun e => by have := Kd.N_lt HN.out k e.symm; omega⟩⟩
      have HN0 : Aside0 (∀ k, w6.heap.size ≤ k → w.heap.size ≤ k) := ⟨fun k hk => by have := HBr.out.size; have := HB6.out.size; omega⟩
      have HBS : Aside0 (Below w.heap.size w w6) := ⟨HBr.out.trans (HB6.out.mono HBr.out.size)⟩
      have htl : (h.list.take k).length = k := by rw [List.length_take]; omega
      have HTL := Aside0.mk htl
      have y0 : w6.cell? ⟨wr.heap.size, 0, none⟩ = some (.int .i64 c.task) := (blk_cell BCw6.out 0).trans rfl
      have y1 : w6.cell? ⟨wr.heap.size, 1, none⟩ = some (.int .i64 c.op) := (blk_cell BCw6.out 1).trans rfl
      have y2 : w6.cell? ⟨wr.heap.size, 2, none⟩ = some (.string c.key) := (blk_cell BCw6.out 2).trans rfl
      have y3 : w6.cell? ⟨wr.heap.size, 3, none⟩ = some (.slice A2 c.data.length n2) := (blk_cell BCw6.out 3).trans rfl
      have y4 : w6.cell? ⟨wr.heap.size, 4, none⟩ = some (.int .i64 c.from_) := (blk_cell BCw6.out 4).trans rfl
      have y5 : w6.cell? ⟨wr.heap.size, 5, none⟩ = some (.int .i64 c.to_) := (blk_cell BCw6.out 5).trans rfl
      have y6 : w6.cell? ⟨wr.heap.size, 6, none⟩ = some (.int .i64 c.at_) := (blk_cell BCw6.out 6).trans rfl
      have y7 : w6.cell? ⟨wr.heap.size, 7, none⟩ = some (.int .i64 c.e) := (blk_cell BCw6.out 7).trans rfl
      have y8 : w6.cell? ⟨wr.heap.size, 8, none⟩ = some (.slice A3 c.out.length n3) := (blk_cell BCw6.out 8).trans rfl
      have y9 : w6.cell? ⟨wr.heap.size, 9, none⟩ = some (.slice A4 c.keys.length n4) := (blk_cell BCw6.out 9).trans rfl
      clear z1 z2 z3 hz1 hm6 htl m0 m1 m2 m3 m4 m5 m6 m7 m8 m9 hHeld
      go_wp2_with (at_builtin; refine Kd.N_append CK (w0 := w) w.heap.size rfl (.tmp 29) (.tmp 31) 26 40 _ 136 rfl Try.underlying26 info40' rfl (by decide) (by decide) u3 (h.list.take k) c (cc c (.slice A2 c.data.length n2) (.slice A3 c.out.length n3) (.slice A4 c.keys.length n4)) (fun k => w.heap.size ≤ k) (fun k => wr.heap.size < k) rfl rfl (cl_fk VD6.out VO6.out VK6.out) HO6.out HN0.out HN6.out HBS.out (by have := HBS.out.size; omega) (by rw [HTL.out]; omega) ?_; intro v5 w7 ho hb hg hat; have HO7 := Aside0.mk ho; have HB7 := Aside0.mk hb; clear ho hb hg hat)
      go_roundw
      case rel => exact ⟨k + 1, by omega, by go_num, ⟨by rw [HT.out]; exact HO7.out⟩, HB7⟩
      case measure => simp [intOf]; omega
    · have hkl : k = h.list.length := by omega
      subst hkl
      have HN7 : Aside0 (Kd.N CK 40 wr w.heap.size (fun k => w.heap.size ≤ k) u3 h.list) := ⟨by have := HN.out; rwa [List.take_length] at this⟩
      go_wp2
      go_ret
      exact ⟨_, rfl, HN7.out, HBr.out⟩
end Go.Proofs.Ytfcfiojkkpnhlaa.Hs
