/- Histories: New, Add. -/
import Derived.Test.YtfcfiojkkpnhlaaProg
import Derived.Below
import Derived.Deep.Draws
import Derived.Deep.AppendLies
import Derived.Maps.AppendAt
import Derived.OwnWalk
import Derived.Laws.BytesArg
import Derived.Laws.MakeOwn
import Derived.Laws.OwnMore
import Derived.Deep.OwnRows
import Derived.Tactics
import Derived.Lib.ConvBytes
import Derived.Laws.Slices
import Derived.WalkKit
import Derived.KernelRfl
import Derived.RowKit3
import Derived.Deep.LoopGhost
import Derived.Deep.QuietTactic
import Derived.BigQuiet
import Derived.WideLaws
import Derived.Deep.DeepCutAuto
import Derived.Deep.CutBlock
import Derived.Deep.RegionHeld3
import Derived.Laws.Rows
import Derived.Lib.AppendStr
import Derived.ArgAppend
import Derived.Laws.IdiomCopy
import Derived.OrdersHeld
import Derived.Laws.BitsLemmas
import Derived.RowKit
import Derived.Test.YtfcfiojkkpnhlaaWWords
import Derived.Test.YtfcfiojkkpnhlaaWLast
import Derived.Test.YtfcfiojkkpnhlaaWTab
import Derived.Test.YtfcfiojkkpnhlaaWFour
import Derived.Test.YtfcfiojkkpnhlaaWQPut
import Derived.Test.YtfcfiojkkpnhlaaWApart
import Derived.Test.YtfcfiojkkpnhlaaWArr
import Derived.Test.YtfcfiojkkpnhlaaWZeros
import Derived.Test.YtfcfiojkkpnhlaaWFoot
import Derived.Test.YtfcfiojkkpnhlaaWKept
import Derived.Test.YtfcfiojkkpnhlaaWShare
import Derived.Test.YtfcfiojkkpnhlaaWN
import Derived.Test.YtfcfiojkkpnhlaaWFootNe
import Derived.Test.YtfcfiojkkpnhlaaWAt
import Derived.Test.YtfcfiojkkpnhlaaWEqStruct
import Derived.Test.YtfcfiojkkpnhlaaWRepsOne
import Derived.Test.YtfcfiojkkpnhlaaWInv
import Derived.Test.YtfcfiojkkpnhlaaWInvWords
import Derived.Test.YtfcfiojkkpnhlaaWGuard
import Derived.Test.YtfcfiojkkpnhlaaWNEv
import Derived.Test.YtfcfiojkkpnhlaaWMore
import Derived.Test.YtfcfiojkkpnhlaaHs1
namespace Go.Proofs.Ytfcfiojkkpnhlaa.Hs
open Go.RowKit Go.Proofs.YtfcfiojkkpnhlaaW.PrintWords Go.Proofs.YtfcfiojkkpnhlaaW.PrintLast Go.Proofs.YtfcfiojkkpnhlaaW.PrintMore
attribute [local go_sem] max2_int min2_int max_two min_two max_three min_three max_four min_four
set_option linter.unusedVariables false
set_option linter.unusedSimpArgs false
open Go.Proofs.Ytfcfiojkkpnhlaa.Mp
def h0 : Hst := ⟨0, [], fun _ => none⟩
theorem mval_none : mval (fun _ => none) = fun _ => none := by
  funext v
  unfold mval
  split <;> rfl
set_option maxRecDepth 100000 in
set_option maxHeartbeats 2000000 in
theorem new_calls (w : World) : Calls Try.prog 8 #[] w fun e w' => e = .returned (.pointer (some ⟨w.heap.size + 1, 0, none⟩)) ∧ Hp w' (fun k => w.heap.size + 2 ≤ k) (w.heap.size + 1) w.heap.size h0 ∧ Below w.heap.size w w' ∧ w'.heap.size = w.heap.size + 2 := by
  have HM : Aside0 (IsM Try.prog 3 (w.alloc (.map #[] 0)) w.heap.size (mval h0.opn)) := ⟨by
    have := IsM.made w Try.prog 3
    show IsM _ _ _ _ (mval (fun _ => none))
    rw [mval_none]
    exact this⟩
  have hmm := @run_makeMap Try.prog
  go_enter Try.func8, Try.ntmps8
  go_wp2
  go_ret
  refine ⟨rfl, ⟨.slice none 0 0, ⟨?_, by omega, by omega, Kd.N_nil _ _ _ _ _, ?_⟩⟩, ?_, by simp⟩
  · have := heap_alloc_new (w.alloc (.map #[] 0)) (.cells #[.int .i64 0, .slice none 0 0, .map (some w.heap.size)] 50)
    rw [show (w.alloc (.map #[] 0)).heap.size = w.heap.size + 1 by simp] at this
    exact this
  · refine HM.out.step ?_
    exact Below.heap_alloc _ _ _ (by simp)
  · exact ((Below.refl _ _).alloc (Nat.le_refl _) _).alloc (by simp) _
def Hst.tick (h : Hst) : Hst := ⟨h.now + 1, h.list, h.opn⟩
def Hst.call (h : Hst) (x : Stp) (a : Ans) : Cl := ⟨a.task, x.a, x.key, x.data, h.now + 1, 0, 0, 0, [], []⟩
def Hst.add (h : Hst) (x : Stp) (a : Ans) : Hst :=
  if x.kind = 1 ∧ a.e = 0 then ⟨h.now + 1, h.list ++ [h.call x a], upd h.opn a.task (some h.list.length)⟩
  else if x.kind = 2 then h.tick.run x.a a
  else if x.kind = 8 then ⟨h.now + 1, h.list, fun _ => none⟩
  else h.tick
theorem info40' : (Try.prog.info? 40).map (fun i => (i.zero, i.size, i.bytes)) = some (some (.agg #[.int .i64 0, .int .i64 0, .string ⟨#[]⟩, .slice none 0 0, .int .i64 0, .int .i64 0, .int .i64 0, .int .i64 0, .slice none 0 0, .slice none 0 0]), CK.sz, 136) := info40
structure AArg (w : World) (okx : Nat → Prop) (x : Stp) (a : Ans) (vx va vk : Value) : Prop where
  fx : Vb w okx vx x.data
  fd : Vb w okx va a.data
  fk : Vs w okx vk a.keys
  lx : x.data.length < 1000000
  ld : a.data.length < 1000000
  lk : a.keys.length < 1000000
  wt : (Lit.int .i64 a.task).wf = true
  wa : (Lit.int .i64 x.a).wf = true
set_option maxRecDepth 100000 in
set_option maxHeartbeats 2000000 in
theorem add_calls (g mb : Nat) (h : Hst) (x : Stp) (a : Ans) (vx va vk : Value) (ok okx : Nat → Prop) (w : World) (H : Hp w ok g mb h) (hA : AArg w okx x a vx va vk) (hnew : ∀ k, w.heap.size ≤ k → ok k) (hfit : h.Fit) (hnow : h.now < 999999) (hx : ∀ k, okx k → k < w.heap.size → ¬ ok k ∧ k ≠ mb ∧ k ≠ g) :
    Calls Try.prog 9 #[.pointer (some ⟨g, 0, none⟩), .agg #[.int .i64 x.kind, .int .i64 x.a, .string x.key, vx, .int .u64 x.keep], .agg #[.int .i64 a.e, .int .i64 a.task, .bool a.done, .int .i64 a.mark, va, vk]] w fun e w' => e = .returned (.tuple #[]) ∧ Hp w' ok g mb (h.add x a) ∧ Kq w w' (fun k => ok k ∨ k = mb) g := by
  obtain ⟨v, H⟩ := H
  obtain ⟨⟨X0, xc, rfl, hX, hXF⟩, ⟨D, dc, rfl, hD, hDF⟩, ⟨Ks0, kc, rfl, hK, hKF⟩, lx, ld, lk, hwt, hwa⟩ := hA
  obtain ⟨hn0, hn1⟩ := hfit.now
  obtain ⟨W1, hW1⟩ : ∃ W1, W1 = w.alloc (.cells #[.int .i64 x.kind, .int .i64 x.a, .string x.key, .slice X0 x.data.length xc, .int .u64 x.keep] 31) := ⟨_, rfl⟩
  obtain ⟨W2, hW2⟩ : ∃ W2, W2 = W1.alloc (.cells #[.int .i64 a.e, .int .i64 a.task, .bool a.done, .int .i64 a.mark, .slice D a.data.length dc, .slice Ks0 a.keys.length kc] 35) := ⟨_, rfl⟩
  obtain ⟨W3, hW3⟩ : ∃ W3, W3 = W2.setCell ⟨g, 0, none⟩ (.int .i64 (h.now + 1)) := ⟨_, rfl⟩
  have hB1 : Below w.heap.size w W1 := by rw [hW1]; exact (Below.refl _ _).alloc (Nat.le_refl _) _
  have hz1 : W1.heap.size = w.heap.size + 1 := by rw [hW1]; simp
  have hB2 : Below w.heap.size w W2 := by rw [hW2]; exact hB1.alloc (by omega) _
  have hz2 : W2.heap.size = w.heap.size + 2 := by rw [hW2]; simp [hz1]
  have hz3 : W3.heap.size = w.heap.size + 2 := by rw [hW3]; simp [World.setCell, hz2]
  have hgl : g < w.heap.size := H.lt
  have HOV : Aside0 (∀ k, v.ownBlock = some k → k < w.heap.size) := ⟨fun k hk => Kd.N_lt H.lst k hk⟩
  have HMB : Aside0 (mb < w.heap.size) := ⟨H.map.lt⟩
  have b1 : W1.heap[w.heap.size]? = some (.cells #[.int .i64 x.kind, .int .i64 x.a, .string x.key, .slice X0 x.data.length xc, .int .u64 x.keep] 31 (0, 0)) := by rw [hW1]; exact heap_alloc_new w _
  have b2 : W2.heap[w.heap.size]? = some (.cells #[.int .i64 x.kind, .int .i64 x.a, .string x.key, .slice X0 x.data.length xc, .int .u64 x.keep] 31 (0, 0)) := by rw [hW2]; exact blk_alloc b1 _
  have b2a : W2.heap[w.heap.size + 1]? = some (.cells #[.int .i64 a.e, .int .i64 a.task, .bool a.done, .int .i64 a.mark, .slice D a.data.length dc, .slice Ks0 a.keys.length kc] 35 (0, 0)) := by rw [hW2, ← hz1]; exact heap_alloc_new W1 _
  have hm3 : ∀ k, k ≠ g → W3.heap[k]? = W2.heap[k]? := fun k hk => by rw [hW3]; exact Below.heap_setCell _ _ _ _ hk
  have H2 := H.below hB2
  obtain ⟨c0, c1, c2, hfz⟩ := hv_cell H2
  have f0 := hfz 0
  have BX3 : Aside0 (W3.heap[w.heap.size]? = some (.cells #[.int .i64 x.kind, .int .i64 x.a, .string x.key, .slice X0 x.data.length xc, .int .u64 x.keep] 31 (0, 0))) := ⟨(hm3 _ (by omega)).trans b2⟩
  have BA3 : Aside0 (W3.heap[w.heap.size + 1]? = some (.cells #[.int .i64 a.e, .int .i64 a.task, .bool a.done, .int .i64 a.mark, .slice D a.data.length dc, .slice Ks0 a.keys.length kc] 35 (0, 0))) := ⟨(hm3 _ (by omega)).trans b2a⟩
  have H3 : Aside0 (Hv W3 ok g mb v h.tick) := ⟨⟨by rw [hW3]; exact blk_set H2.blk 0 _, H2.ng, H2.nm, Kd.N_step H2.lst (fun k hk hl => hm3 k (fun e => H2.ng (e ▸ hk))), H2.map.step (hm3 mb (Ne.symm H2.gm))⟩⟩
  have KQ3 : Aside0 (Kq w W3 (fun k => ok k ∨ k = mb) g) := ⟨by rw [hW3]; exact (Kq.of_below hB2).set (p := ⟨g, 0, none⟩) (.inl rfl) _⟩
  have HZ3 := Aside0.mk hz3
  have HG := Aside0.mk hgl
  have HW1 := Aside0.mk hW1
  have HW2 := Aside0.mk hW2
  have HW3 := Aside0.mk hW3
  have HXF := Aside0.mk hXF
  have HDF := Aside0.mk hDF
  have HKF := Aside0.mk hKF
  have HXL := Aside0.mk hX
  have HDL := Aside0.mk hD
  have HKL := Aside0.mk hK
  have HNew := Aside0.mk hnew
  have HX := Aside0.mk hx
  have HT := Aside0.mk hwt
  have HWA := Aside0.mk hwa
  have HFit := Aside0.mk hfit
  have HN2 : Aside0 (0 ≤ h.tick.now ∧ h.tick.now < 1000000) := ⟨by show (0 : Int) ≤ h.now + 1 ∧ h.now + 1 < 1000000; omega⟩
  have q0 : W3.cell? ⟨w.heap.size, 0, none⟩ = some (.int .i64 x.kind) := (blk_cell BX3.out 0).trans rfl
  have q1 : W3.cell? ⟨w.heap.size, 1, none⟩ = some (.int .i64 x.a) := (blk_cell BX3.out 1).trans rfl
  have p0 : W3.cell? ⟨w.heap.size + 1, 0, none⟩ = some (.int .i64 a.e) := (blk_cell BA3.out 0).trans rfl
  have p1 : W3.cell? ⟨w.heap.size + 1, 1, none⟩ = some (.int .i64 a.task) := (blk_cell BA3.out 1).trans rfl
  have p2 : W3.cell? ⟨w.heap.size + 1, 2, none⟩ = some (.bool a.done) := (blk_cell BA3.out 2).trans rfl
  have p3 : W3.cell? ⟨w.heap.size + 1, 3, none⟩ = some (.int .i64 a.mark) := (blk_cell BA3.out 3).trans rfl
  have p4 : W3.cell? ⟨w.heap.size + 1, 4, none⟩ = some (.slice D a.data.length dc) := (blk_cell BA3.out 4).trans rfl
  have p5 : W3.cell? ⟨w.heap.size + 1, 5, none⟩ = some (.slice Ks0 a.keys.length kc) := (blk_cell BA3.out 5).trans rfl
  have g0 : W3.cell? ⟨g, 0, none⟩ = some (.int .i64 (h.now + 1)) := (hv_cell H3.out).1
  have g1 : W3.cell? ⟨g, 1, none⟩ = some v := (hv_cell H3.out).2.1
  have g2 : W3.cell? ⟨g, 2, none⟩ = some (.map (some mb)) := (hv_cell H3.out).2.2.1
  clear H2 H hB1 hB2 hz1 hz2 hz3 hgl b1 b2 b2a hm3 hW1 hW2 hW3 hXF hDF hKF hX hD hK hnew hx hwt hwa hfit hfz
  by_cases h1 : x.kind = 1
  · have t1 : (x.kind == 1) = true := by simpa using h1
    have t2 : (x.kind == 2) = false := by simp [h1]
    have t8 : (x.kind == 8) = false := by simp [h1]
    by_cases he : a.e = 0
    · have te : (a.e == 0) = true := by simpa using he
      have hr : h.add x a = ⟨h.now + 1, h.list ++ [h.call x a], upd h.opn a.task (some h.list.length)⟩ := by unfold Hst.add; rw [if_pos ⟨h1, he⟩]
      rw [hr]
      have HGV : Aside0 (some g ≠ v.ownBlock) := ⟨fun e => H3.out.ng (H3.out.lst.1 g e.symm)⟩
      have HMV : Aside0 (some mb ≠ v.ownBlock) := ⟨fun e => H3.out.nm (H3.out.lst.1 mb e.symm)⟩
      have hll : (h.list.length : Int) < 1000000 := by have := HFit.out.len; omega
      have hls := HFit.out.len
      have HGM : Aside0 (g ≠ mb) := ⟨H3.out.gm⟩
      clear hr h1 he
      have hnl : Kd.N CK 40 W3 0 ok v h.list := H3.out.lst
      obtain ⟨V, vc, hv⟩ : ∃ A c, v = .slice A h.list.length c := Kd.N_slice hnl
      subst hv
      have NW3 := Aside0.mk hnl
      clear hnl
      have HM3 : Aside0 (IsM Try.prog 3 W3 mb (mval h.opn)) := ⟨H3.out.map⟩
      have BG3 : Aside0 (W3.heap[g]? = some (.cells #[.int .i64 (h.now + 1), .slice V h.list.length vc, .map (some mb)] 50 (0, 0))) := ⟨H3.out.blk⟩
      have HAX : Aside0 (w.heap.size ≠ mb ∧ w.heap.size + 1 ≠ mb) := ⟨by have := HMB.out; omega⟩
      have HX3 : Aside0 (U8.F W3 (fun k => okx k ∧ k < w.heap.size) X0 x.data.length x.data) := ⟨Kd.F_step (Kd.F_bound HXF.out) (fun k hk hl => KQ3.out.block k hl (fun e => e.elim (HX.out k hk.1 hl).1 (HX.out k hk.1 hl).2.1) (HX.out k hk.1 hl).2.2)⟩
      go_enter Try.func9, Try.ntmps9
      go_upto_region 1 with fail
      rw [← HW1.out, ← HW2.out]
      go_upto_region 3 with fail
      rw [← HW3.out]
      have hF3 : Aside0 (∀ j, W3.frozen? ⟨g, j, none⟩ = false) := ⟨(hv_cell H3.out).2.2.2⟩
      go_upto_region 4 with fail
      go_still_tail 11, (by kernel_rfl)
      refine wpList_put_m rfl (.tmp 27) (.tmp 29) (.tmp 34) 48 rfl keyed3 Try.underlying48 (mval (upd h.opn a.task (some h.list.length))) rfl (HM3.out.step rfl) (.int .i64 a.task) rfl (key3 _ HT.out) (.int .i64 h.list.length) rfl (mval_at _ _ _) (mval_upd _ _ _) ?_
      intro w4 hT4 hM4
      have BG4 : Aside0 (w4.heap[g]? = _) := ⟨(hT4.block g HGM.out).trans BG3.out⟩
      have BX4 : Aside0 (w4.heap[w.heap.size]? = _) := ⟨(hT4.block _ HAX.out.1).trans BX3.out⟩
      have BA4 : Aside0 (w4.heap[w.heap.size + 1]? = _) := ⟨(hT4.block _ HAX.out.2).trans BA3.out⟩
      have NW4 : Aside0 (Kd.N CK 40 w4 0 ok (.slice V h.list.length vc) h.list) := ⟨Kd.N_step NW3.out (fun k hk hl => hT4.block k (fun e => H3.out.nm (e ▸ hk)))⟩
      have HX4 : Aside0 (U8.C w4 X0 x.data.length x.data) := ⟨Kd.F_now (Kd.F_step HX3.out (fun k hk hl => hT4.block k (HX.out k hk.1 hk.2).2.1))⟩
      have HOK4 : Aside0 (∀ k, w4.heap.size ≤ k → ok k ∧ some k ≠ (Value.slice V h.list.length vc).ownBlock) := ⟨fun k hk => ⟨HNew.out k (by have := HZ3.out; have : w4.heap.size = W3.heap.size := hT4.size; omega), fun e => by have := Kd.N_lt NW4.out k e.symm; omega⟩⟩
      have HT4 := Aside0.mk hT4
      have HM4 := Aside0.mk hM4
      clear hT4 hM4
      go_upto_region 5 with fail
      refine start_ (n := 24) (S := fun w' => w'.cell? ⟨g, 1, none⟩ = some (.slice V h.list.length vc) ∧ w'.cell? ⟨g, 0, none⟩ = some (.int .i64 (h.now + 1)) ∧ w'.cell? ⟨w.heap.size, 1, none⟩ = some (.int .i64 x.a) ∧ w'.cell? ⟨w.heap.size, 2, none⟩ = some (.string x.key) ∧ w'.cell? ⟨w.heap.size, 3, none⟩ = some (.slice X0 x.data.length xc) ∧ w'.cell? ⟨w.heap.size + 1, 1, none⟩ = some (.int .i64 a.task)) (ds := [23]) #[false, false, false, false, false, false, false, false, false, false, false, false, false, false, false, false, false, false, false, false, false, false, false, false] (by kernel_rfl) rfl rfl ⟨((blk_cell BG4.out 1).trans rfl), ((blk_cell BG4.out 0).trans rfl), ((blk_cell BX4.out 1).trans rfl), ((blk_cell BX4.out 2).trans rfl), ((blk_cell BX4.out 3).trans rfl), ((blk_cell BA4.out 1).trans rfl)⟩ (fun hHeld => ?_)
      refine pure_ (i := 0) (N := some 35) (v := ?_) (a' := ?_) #[true, false, false, false, false, false, false, false, false, false, false, false, false, false, false, false, false, false, false, false, false, false, false, false] rfl rfl (by kernel_rfl) (fun _ _ _ h => h) (Or.inl ⟨by rfl, ?_⟩) ?_ ?_
      rotate_left
      · intro w'
        go_simp
        with_reducible rfl
      rotate_left
      · simp only [Act.put, List.setIfInBounds_toArray, List.set_cons_zero, List.set_cons_succ, i64_w, i32_w]
        rfl
      refine pure_ (i := 1) (N := some 36) (v := ?_) (a' := ?_) #[true, true, false, false, false, false, false, false, false, false, false, false, false, false, false, false, false, false, false, false, false, false, false, false] rfl rfl (by kernel_rfl) (fun _ _ _ h => h) (Or.inl ⟨by rfl, ?_⟩) ?_ ?_
      rotate_left
      · intro w'
        go_simp
        with_reducible rfl
      rotate_left
      · simp only [Act.put, List.setIfInBounds_toArray, List.set_cons_zero, List.set_cons_succ, i64_w, i32_w]
        rfl
      refine pure_ (i := 2) (N := some 37) (v := ?_) (a' := ?_) #[true, true, true, false, false, false, false, false, false, false, false, false, false, false, false, false, false, false, false, false, false, false, false, false] rfl rfl (by kernel_rfl) (fun _ _ _ h => h) (Or.inl ⟨by rfl, ?_⟩) ?_ ?_
      rotate_left
      · intro w'
        go_simp
        with_reducible rfl
      rotate_left
      · simp only [Act.put, List.setIfInBounds_toArray, List.set_cons_zero, List.set_cons_succ, i64_w, i32_w]
        rfl
      refine pure_ (i := 3) (N := some 38) (v := ?_) (a' := ?_) #[true, true, true, true, false, false, false, false, false, false, false, false, false, false, false, false, false, false, false, false, false, false, false, false] rfl rfl (by kernel_rfl) (fun _ _ _ h => h) (Or.inl ⟨by rfl, ?_⟩) ?_ ?_
      rotate_left
      · intro w'
        go_simp
        with_reducible rfl
      rotate_left
      · simp only [Act.put, List.setIfInBounds_toArray, List.set_cons_zero, List.set_cons_succ, i64_w, i32_w]
        rfl
      refine pure_ (i := 5) (N := some 40) (v := ?_) (a' := ?_) #[true, true, true, true, false, true, false, false, false, false, false, false, false, false, false, false, false, false, false, false, false, false, false, false] rfl rfl (by kernel_rfl) (fun _ _ _ h => h) (Or.inl ⟨by rfl, ?_⟩) ?_ ?_
      rotate_left
      · intro w'
        go_simp
        with_reducible rfl
      rotate_left
      · simp only [Act.put, List.setIfInBounds_toArray, List.set_cons_zero, List.set_cons_succ, i64_w, i32_w]
        rfl
      refine pure_ (i := 7) (N := some 42) (v := ?_) (a' := ?_) #[true, true, true, true, false, true, false, true, false, false, false, false, false, false, false, false, false, false, false, false, false, false, false, false] rfl rfl (by kernel_rfl) (fun _ _ _ h => h) (Or.inl ⟨by rfl, ?_⟩) ?_ ?_
      rotate_left
      · intro w'
        go_simp
        with_reducible rfl
      rotate_left
      · simp only [Act.put, List.setIfInBounds_toArray, List.set_cons_zero, List.set_cons_succ, i64_w, i32_w]
        rfl
      refine pure_ (i := 9) (N := some 44) (v := ?_) (a' := ?_) #[true, true, true, true, false, true, false, true, false, true, false, false, false, false, false, false, false, false, false, false, false, false, false, false] rfl rfl (by kernel_rfl) (fun _ _ _ h => h) (Or.inl ⟨by rfl, ?_⟩) ?_ ?_
      rotate_left
      · intro w'
        go_simp
        with_reducible rfl
      rotate_left
      · simp only [Act.put, List.setIfInBounds_toArray, List.set_cons_zero, List.set_cons_succ, i64_w, i32_w]
        rfl
      refine pure_ (i := 11) (N := some 46) (v := ?_) (a' := ?_) #[true, true, true, true, false, true, false, true, false, true, false, true, false, false, false, false, false, false, false, false, false, false, false, false] rfl rfl (by kernel_rfl) (fun _ _ _ h => h) (Or.inl ⟨by rfl, ?_⟩) ?_ ?_
      rotate_left
      · intro w'
        go_simp
        with_reducible rfl
      rotate_left
      · simp only [Act.put, List.setIfInBounds_toArray, List.set_cons_zero, List.set_cons_succ, i64_w, i32_w]
        rfl
      refine pure_ (i := 14) (N := some 49) (v := ?_) (a' := ?_) #[true, true, true, true, false, true, false, true, false, true, false, true, false, false, true, false, false, false, false, false, false, false, false, false] rfl rfl (by kernel_rfl) (fun _ _ _ h => h) (Or.inl ⟨by rfl, ?_⟩) ?_ ?_
      rotate_left
      · intro w'
        go_simp
        with_reducible rfl
      rotate_left
      · simp only [Act.put, List.setIfInBounds_toArray, List.set_cons_zero, List.set_cons_succ, i64_w, i32_w]
        rfl
      refine pure_ (i := 15) (N := some 50) (v := ?_) (a' := ?_) #[true, true, true, true, false, true, false, true, false, true, false, true, false, false, true, true, false, false, false, false, false, false, false, false] rfl rfl (by kernel_rfl) (fun _ _ _ h => h) (Or.inl ⟨by rfl, ?_⟩) ?_ ?_
      rotate_left
      · intro w'
        go_simp
        with_reducible rfl
      rotate_left
      · simp only [Act.put, List.setIfInBounds_toArray, List.set_cons_zero, List.set_cons_succ, i64_w, i32_w]
        rfl
      refine pure_ (i := 16) (N := some 51) (v := ?_) (a' := ?_) #[true, true, true, true, false, true, false, true, false, true, false, true, false, false, true, true, true, false, false, false, false, false, false, false] rfl rfl (by kernel_rfl) (fun _ _ _ h => h) (Or.inl ⟨by rfl, ?_⟩) ?_ ?_
      rotate_left
      · intro w'
        go_simp
        with_reducible rfl
      rotate_left
      · simp only [Act.put, List.setIfInBounds_toArray, List.set_cons_zero, List.set_cons_succ, i64_w, i32_w]
        rfl
      refine take_ (i := 4) (N := some 39) (v := ?_) (a' := ?_) #[true, true, true, true, true, true, false, true, false, true, false, true, false, false, true, true, true, false, false, false, false, false, false, false] rfl rfl (by kernel_rfl) (fun _ _ _ h => h) (Or.inl ⟨by rfl, ?_⟩) hHeld ?_ ?_
      rotate_left
      · rintro w' ⟨s0, s1, s2, s3, s4, s5⟩
        go_simp
        with_reducible rfl
      rotate_left
      · simp only [Act.put, List.setIfInBounds_toArray, List.set_cons_zero, List.set_cons_succ, i64_w, i32_w]
        rfl
      refine take_ (i := 6) (N := some 41) (v := ?_) (a' := ?_) #[true, true, true, true, true, true, true, true, false, true, false, true, false, false, true, true, true, false, false, false, false, false, false, false] rfl rfl (by kernel_rfl) (fun _ _ _ h => h) (Or.inl ⟨by rfl, ?_⟩) hHeld ?_ ?_
      rotate_left
      · rintro w' ⟨s0, s1, s2, s3, s4, s5⟩
        go_simp
        with_reducible rfl
      rotate_left
      · simp only [Act.put, List.setIfInBounds_toArray, List.set_cons_zero, List.set_cons_succ, i64_w, i32_w]
        rfl
      refine take_ (i := 8) (N := some 43) (v := ?_) (a' := ?_) #[true, true, true, true, true, true, true, true, true, true, false, true, false, false, true, true, true, false, false, false, false, false, false, false] rfl rfl (by kernel_rfl) (fun _ _ _ h => h) (Or.inl ⟨by rfl, ?_⟩) hHeld ?_ ?_
      rotate_left
      · rintro w' ⟨s0, s1, s2, s3, s4, s5⟩
        go_simp
        with_reducible rfl
      rotate_left
      · simp only [Act.put, List.setIfInBounds_toArray, List.set_cons_zero, List.set_cons_succ, i64_w, i32_w]
        rfl
      refine take_ (i := 10) (N := some 45) (v := ?_) (a' := ?_) #[true, true, true, true, true, true, true, true, true, true, true, true, false, false, true, true, true, false, false, false, false, false, false, false] rfl rfl (by kernel_rfl) (fun _ _ _ h => h) (Or.inl ⟨by rfl, ?_⟩) hHeld ?_ ?_
      rotate_left
      · rintro w' ⟨s0, s1, s2, s3, s4, s5⟩
        go_simp
        with_reducible rfl
      rotate_left
      · simp only [Act.put, List.setIfInBounds_toArray, List.set_cons_zero, List.set_cons_succ, i64_w, i32_w]
        rfl
      refine take_ (i := 12) (N := some 47) (v := ?_) (a' := ?_) #[true, true, true, true, true, true, true, true, true, true, true, true, true, false, true, true, true, false, false, false, false, false, false, false] rfl rfl (by kernel_rfl) (fun _ _ _ h => h) (Or.inl ⟨by rfl, ?_⟩) hHeld ?_ ?_
      rotate_left
      · rintro w' ⟨s0, s1, s2, s3, s4, s5⟩
        go_simp
        with_reducible rfl
      rotate_left
      · simp only [Act.put, List.setIfInBounds_toArray, List.set_cons_zero, List.set_cons_succ, i64_w, i32_w]
        rfl
      refine take_ (i := 17) (N := some 52) (v := ?_) (a' := ?_) #[true, true, true, true, true, true, true, true, true, true, true, true, true, false, true, true, true, true, false, false, false, false, false, false] rfl rfl (by kernel_rfl) (fun _ _ _ h => h) (Or.inl ⟨by rfl, ?_⟩) hHeld ?_ ?_
      rotate_left
      · rintro w' ⟨s0, s1, s2, s3, s4, s5⟩
        go_simp
        with_reducible rfl
      rotate_left
      · simp only [Act.put, List.setIfInBounds_toArray, List.set_cons_zero, List.set_cons_succ, i64_w, i32_w]
        rfl
      refine one_ (i := 13) (N := some 48) #[true, true, true, true, true, true, true, true, true, true, true, true, true, true, true, true, true, true, false, false, false, false, false, false] rfl rfl (by kernel_rfl) (by decide) (fun K hK => ?_)
      refine goes_ Try.func13 (by kernel_rfl) rfl #[.slice X0 x.data.length xc] (by rfl) rfl rfl (by simp only [List.map_toArray, List.map_cons, List.map_nil]; rfl) ?_
      with_reducible refine (clone_calls X0 x.data.length xc x.data _ (Kd.C_drew HX4.out) (by omega)).mono ?_
      rintro e w5 ⟨v2, rfl, ho, hb5⟩
      refine ⟨_, rfl, ?_⟩
      have HB5 : Aside0 (Below w4.heap.size w4 w5) := ⟨⟨hb5.os, hb5.tape, hb5.output, hb5.size, hb5.block⟩⟩
      have HV5 : Aside0 (Vo w5 (fun k => w4.heap.size ≤ k) v2 x.data) := ⟨vo_new ho (fun _ h => h)⟩
      have BG5 : Aside0 (w5.heap[g]? = _) := ⟨blk_below BG4.out HB5.out⟩
      have BX5 : Aside0 (w5.heap[w.heap.size]? = _) := ⟨blk_below BX4.out HB5.out⟩
      have BA5 : Aside0 (w5.heap[w.heap.size + 1]? = _) := ⟨blk_below BA4.out HB5.out⟩
      obtain ⟨A2, n2, rfl⟩ := Kd.V_slice (vo_vb HV5.out)
      clear ho hb5
      refine hK.out _ _ ⟨((blk_cell BG5.out 1).trans rfl), ((blk_cell BG5.out 0).trans rfl), ((blk_cell BX5.out 1).trans rfl), ((blk_cell BX5.out 2).trans rfl), ((blk_cell BX5.out 3).trans rfl), ((blk_cell BA5.out 1).trans rfl)⟩ (fun hHeld => ?_)
      clear hK K
      refine norm_ (a' := ?_) ?_ ?_
      rotate_left
      · show Act.put _ (some 48) _ = _
        simp only [Act.put, List.setIfInBounds_toArray, List.set_cons_zero, List.set_cons_succ, i64_w, i32_w]
        rfl
      refine pure_ (i := 18) (N := some 53) (v := ?_) (a' := ?_) #[true, true, true, true, true, true, true, true, true, true, true, true, true, true, true, true, true, true, true, false, false, false, false, false] rfl rfl (by kernel_rfl) (fun _ _ _ h => h) (Or.inl ⟨by rfl, ?_⟩) ?_ ?_
      rotate_left
      · intro w'
        go_simp
        with_reducible rfl
      rotate_left
      · simp only [Act.put, List.setIfInBounds_toArray, List.set_cons_zero, List.set_cons_succ, i64_w, i32_w]
        rfl
      refine one_ (i := 19) (N := some 54) #[true, true, true, true, true, true, true, true, true, true, true, true, true, true, true, true, true, true, true, true, false, false, false, false] rfl rfl (by kernel_rfl) (by decide) (fun K hK => ?_)
      refine value_ (w1 := ?_) (v := ?_) (by rfl) rfl ?_ ?_
      rotate_left 2
      · go_simp
        constructor
        · rfl
        · rfl
      refine hK.out _ _ ⟨(pw_cell_below ((Below.refl _ _).alloc (Nat.le_refl _) _) ((blk_cell BG5.out 1).trans rfl)), (pw_cell_below ((Below.refl _ _).alloc (Nat.le_refl _) _) ((blk_cell BG5.out 0).trans rfl)), (pw_cell_below ((Below.refl _ _).alloc (Nat.le_refl _) _) ((blk_cell BX5.out 1).trans rfl)), (pw_cell_below ((Below.refl _ _).alloc (Nat.le_refl _) _) ((blk_cell BX5.out 2).trans rfl)), (pw_cell_below ((Below.refl _ _).alloc (Nat.le_refl _) _) ((blk_cell BX5.out 3).trans rfl)), (pw_cell_below ((Below.refl _ _).alloc (Nat.le_refl _) _) ((blk_cell BA5.out 1).trans rfl))⟩ (fun hHeld => ?_)
      clear hK K
      refine norm_ (a' := ?_) ?_ ?_
      rotate_left
      · show Act.put _ (some 54) _ = _
        simp only [Act.put, List.setIfInBounds_toArray, List.set_cons_zero, List.set_cons_succ, i64_w, i32_w]
        rfl
      refine one_ (i := 20) (N := some 55) #[true, true, true, true, true, true, true, true, true, true, true, true, true, true, true, true, true, true, true, true, true, false, false, false] rfl rfl (by kernel_rfl) (by decide) (fun K hK => ?_)
      refine Kd.N_append_step CK (w0 := w4) 0 (by rfl) (.tmp 39) (.tmp 54) 26 40 _ 136 (by rfl) Try.underlying26 info40' rfl (by decide) (by decide) (.slice V h.list.length vc) h.list (h.call x a) (cc (h.call x a) (.slice A2 x.data.length n2) (.slice none 0 0) (.slice none 0 0)) ok (fun k => w4.heap.size ≤ k) (by rfl) (by rfl) (cl_fk (c := h.call x a) HV5.out (vo_nil _ _) (Kd.V_nil _ _ _ _ _)) HOK4.out (fun k hk => (HOK4.out k (Nat.le_trans HB5.out.size hk)).1) (Kd.N_below NW4.out HB5.out) (HB5.out.mono (Nat.zero_le _)) (Nat.zero_le _) (by omega) ?_
      intro v3 w6 ho hb hg hat
      have BG6 : Aside0 (w6.heap[g]? = _) := ⟨blk_grown BG5.out hg HGV.out⟩
      have BX6 : Aside0 (w6.heap[w.heap.size]? = _) := ⟨blk_grown BX5.out hg (fun e => by have := HOV.out _ e.symm; omega)⟩
      have BA6 : Aside0 (w6.heap[w.heap.size + 1]? = _) := ⟨blk_grown BA5.out hg (fun e => by have := HOV.out _ e.symm; omega)⟩
      have HM6 : Aside0 (IsM Try.prog 3 w6 mb (mval (upd h.opn a.task (some h.list.length)))) := ⟨(HM4.out.step (HB5.out.block mb HM4.out.lt)).step (hg.block mb (Nat.lt_of_lt_of_le HM4.out.lt HB5.out.size) HMV.out)⟩
      have c6 : w6.cell? ⟨g, 1, none⟩ = some (.slice V h.list.length vc) := (blk_cell BG6.out 1).trans rfl
      have f6 : w6.frozen? ⟨g, 1, none⟩ = false := blk_frozen BG6.out 1
      have HO3 := Aside0.mk ho
      have HG3 := Aside0.mk hg
      have HAT := Aside0.mk hat
      obtain ⟨A3, n3, rfl⟩ := Kd.N_slice HO3.out
      clear ho hb hg hat
      refine hK.out _ _ ⟨((blk_cell BG6.out 1).trans rfl), ((blk_cell BG6.out 0).trans rfl), ((blk_cell BX6.out 1).trans rfl), ((blk_cell BX6.out 2).trans rfl), ((blk_cell BX6.out 3).trans rfl), ((blk_cell BA6.out 1).trans rfl)⟩ (fun hHeld => ?_)
      clear hK K
      refine norm_ (a' := ?_) ?_ ?_
      rotate_left
      · show Act.put _ (some 55) _ = _
        simp only [Act.put, List.setIfInBounds_toArray, List.set_cons_zero, List.set_cons_succ, i64_w, i32_w]
        rfl
      refine pure_ (i := 21) (N := some 56) (v := ?_) (a' := ?_) #[true, true, true, true, true, true, true, true, true, true, true, true, true, true, true, true, true, true, true, true, true, true, false, false] rfl rfl (by kernel_rfl) (fun _ _ _ h => h) (Or.inl ⟨by rfl, ?_⟩) ?_ ?_
      rotate_left
      · intro w'
        go_simp
        with_reducible rfl
      rotate_left
      · simp only [Act.put, List.setIfInBounds_toArray, List.set_cons_zero, List.set_cons_succ, i64_w, i32_w]
        rfl
      refine pure_ (i := 22) (N := some 57) (v := ?_) (a' := ?_) #[true, true, true, true, true, true, true, true, true, true, true, true, true, true, true, true, true, true, true, true, true, true, true, false] rfl rfl (by kernel_rfl) (fun _ _ _ h => h) (Or.inl ⟨by rfl, ?_⟩) ?_ ?_
      rotate_left
      · intro w'
        go_simp
        with_reducible rfl
      rotate_left
      · simp only [Act.put, List.setIfInBounds_toArray, List.set_cons_zero, List.set_cons_succ, i64_w, i32_w]
        rfl
      refine last_ (i := 23) (N := none) #[true, true, true, true, true, true, true, true, true, true, true, true, true, true, true, true, true, true, true, true, true, true, true, true] rfl rfl (by kernel_rfl) (by decide) (fun K hK => ?_)
      refine skip_ (w1 := ?_) (by rfl) rfl ?_ ?_
      rotate_left
      · go_simp
        rfl
      refine hK.out _ _ ?_
      clear hK K
      refine done_ (by kernel_rfl) ?_
      have hlen : (h.list ++ [h.call x a]).length = h.list.length + 1 := by simp
      rw [hlen] at HO3 HAT
      have HL := Aside0.mk hlen
      clear hlen
      clear hHeld
      go_wp2
      go_end0
      refine ⟨rfl, ⟨.slice A3 (h.list.length + 1) n3, ⟨blk_set BG6.out 1 _, H3.out.ng, H3.out.nm, ?_, ?_⟩⟩, ?_⟩
      · exact Kd.N_far HO3.out (p := ⟨g, 1, none⟩) (fun k hk e => H3.out.ng (by have e' : k = g := e; exact e' ▸ hk)) _
      · exact HM6.out.step (Below.heap_setCell _ _ _ _ (Ne.symm HGM.out))
      · exact (((((KQ3.out.drewN 1).then_ (turned_kq HT4.out (.inr rfl))).below HB5.out).grown HG3.out (fun k hk => .inl (.inl (H3.out.lst.1 k hk)))).set (p := ⟨g, 1, none⟩) (.inl rfl) _)
    · have te : (a.e == 0) = false := by simpa using he
      have hr : h.add x a = h.tick := by unfold Hst.add; rw [if_neg (fun e => he e.2), if_neg (by omega), if_neg (by omega)]
      rw [hr]
      clear hr h1 he
      go_enter Try.func9, Try.ntmps9
      go_upto_region 1 with fail
      rw [← HW1.out, ← HW2.out]
      go_upto_region 3 with fail
      rw [← HW3.out]
      go_wp2_with fail
      go_end0
      exact ⟨rfl, ⟨v, H3.out⟩, KQ3.out⟩
  · have t1 : (x.kind == 1) = false := by simpa using h1
    by_cases h2 : x.kind = 2
    · have t2 : (x.kind == 2) = true := by simpa using h2
      have hr : h.add x a = h.tick.run x.a a := by unfold Hst.add; rw [if_neg (fun e => h1 e.1), if_pos h2]
      rw [hr]
      clear hr h1 h2
      go_enter Try.func9, Try.ntmps9
      go_upto_region 1 with fail
      rw [← HW1.out, ← HW2.out]
      go_upto_region 3 with fail
      rw [← HW3.out]
      go_wp2_with fail
      have hok3 : Aside0 (∀ k, W3.heap.size ≤ k → ok k) := ⟨fun k hk => HNew.out k (by have := HZ3.out; omega)⟩
      have hx3 : Aside0 (∀ k, okx k ∧ k < w.heap.size → k < W3.heap.size → ¬ ok k ∧ k ≠ mb ∧ k ≠ g) := ⟨fun k hk _ => HX.out k hk.1 hk.2⟩
      have hA4 : Aside0 (Vb W3 (fun k => okx k ∧ k < w.heap.size) (.slice D a.data.length dc) a.data ∧ Vs W3 (fun k => okx k ∧ k < w.heap.size) (.slice Ks0 a.keys.length kc) a.keys) := ⟨by
        have hk : ∀ k, (okx k ∧ k < w.heap.size) → k < w.heap.size → W3.heap[k]? = w.heap[k]? := fun k hk hl => KQ3.out.block k hl (fun e => e.elim (HX.out k hk.1 hl).1 (HX.out k hk.1 hl).2.1) (HX.out k hk.1 hl).2.2
        exact ⟨⟨D, dc, rfl, HDL.out, Kd.F_step (Kd.F_bound HDF.out) hk⟩, ⟨Ks0, kc, rfl, HKL.out, Kd.F_step (Kd.F_bound HKF.out) hk⟩⟩⟩
      refine (run_calls g mb h.tick x.a a (.slice D a.data.length dc) (.slice Ks0 a.keys.length kc) ok (fun k => okx k ∧ k < w.heap.size) W3 ⟨v, H3.out⟩ hA4.out.1 hA4.out.2 hok3.out ⟨HFit.out.opn, HFit.out.len, HN2.out⟩ hx3.out HWA.out ld lk).mono ?_
      rintro e w4 ⟨rfl, hp, hk⟩
      have HP4 := Aside0.mk hp
      have HK4 := Aside0.mk hk
      clear hp hk
      go_wp2
      go_end0
      exact ⟨rfl, HP4.out, KQ3.out.then_ HK4.out⟩
    · have t2 : (x.kind == 2) = false := by simpa using h2
      by_cases h8 : x.kind = 8
      · have t8 : (x.kind == 8) = true := by simpa using h8
        have hr : h.add x a = ⟨h.now + 1, h.list, fun _ => none⟩ := by unfold Hst.add; rw [if_neg (fun e => h1 e.1), if_neg h2, if_pos h8]
        rw [hr]
        have HGM : Aside0 (g ≠ mb) := ⟨H3.out.gm⟩
        have HMN : Aside0 (∀ q, mval (fun _ => none) q = none) := ⟨fun q => by rw [mval_none]⟩
        have HM3 : Aside0 (IsM Try.prog 3 W3 mb (mval h.opn)) := ⟨H3.out.map⟩
        clear hr h1 h2 h8
        go_enter Try.func9, Try.ntmps9
        go_upto_region 1 with fail
        rw [← HW1.out, ← HW2.out]
        go_upto_region 3 with fail
        rw [← HW3.out]
        go_wp2_with ((with_reducible refine gate_builtin (b := .clear) (xs := #[.tmp 74]) rfl ?_); refine wpList_clear_m rfl (.tmp 74) 48 rfl Try.underlying48 (mval (fun _ => none)) rfl HM3.out HMN.out ?_; intro w7 hT7 hM7; have HT7 := Aside0.mk hT7; have HM7 := Aside0.mk hM7; clear hT7 hM7)
        go_end0
        refine ⟨rfl, ⟨v, ⟨(HT7.out.block g HGM.out).trans H3.out.blk, H3.out.ng, H3.out.nm, ?_, HM7.out⟩⟩, KQ3.out.then_ (turned_kq HT7.out (.inr rfl))⟩
        exact Kd.N_step H3.out.lst (fun k hk hl => HT7.out.block k (fun e => H3.out.nm (e ▸ hk)))
      · have t8 : (x.kind == 8) = false := by simpa using h8
        have hr : h.add x a = h.tick := by unfold Hst.add; rw [if_neg (fun e => h1 e.1), if_neg h2, if_neg h8]
        rw [hr]
        clear hr h1 h2 h8
        go_enter Try.func9, Try.ntmps9
        go_upto_region 1 with fail
        rw [← HW1.out, ← HW2.out]
        go_upto_region 3 with fail
        rw [← HW3.out]
        go_wp2_with fail
        go_end0
        exact ⟨rfl, ⟨v, H3.out⟩, KQ3.out⟩
end Go.Proofs.Ytfcfiojkkpnhlaa.Hs
