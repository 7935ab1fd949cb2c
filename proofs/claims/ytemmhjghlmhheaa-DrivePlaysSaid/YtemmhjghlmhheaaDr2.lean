/- Drives: the contracts of do, Write. -/
import Derived.Test.YtemmhjghlmhheaaProg
import Derived.Below
import Derived.Deep.Draws
import Derived.Deep.AppendLies
import Derived.Maps.AppendAt
import Derived.OwnWalk
import Derived.Laws.BytesArg
import Derived.Laws.MakeOwn
import Derived.Laws.OwnMore
import Derived.Deep.OwnRows
import Derived.Tactics
import Derived.Lib.ConvBytes
import Derived.Laws.Slices
import Derived.WalkKit
import Derived.KernelRfl
import Derived.RowKit3
import Derived.Deep.LoopGhost
import Derived.Deep.QuietTactic
import Derived.BigQuiet
import Derived.WideLaws
import Derived.Deep.DeepCutAuto
import Derived.Deep.CutBlock
import Derived.Deep.RegionHeld3
import Derived.Laws.Rows
import Derived.Lib.AppendStr
import Derived.ArgAppend
import Derived.Laws.IdiomCopy
import Derived.OrdersHeld
import Derived.Laws.BitsLemmas
import Derived.RowKit
import Derived.Test.YtemmhjghlmhheaaWWords
import Derived.Test.YtemmhjghlmhheaaWLast
import Derived.Test.YtemmhjghlmhheaaWTab
import Derived.Test.YtemmhjghlmhheaaWFour
import Derived.Test.YtemmhjghlmhheaaWQPut
import Derived.Test.YtemmhjghlmhheaaWApart
import Derived.Test.YtemmhjghlmhheaaWArr
import Derived.Test.YtemmhjghlmhheaaWZeros
import Derived.Test.YtemmhjghlmhheaaWFoot
import Derived.Test.YtemmhjghlmhheaaWKept
import Derived.Test.YtemmhjghlmhheaaWShare
import Derived.Test.YtemmhjghlmhheaaWN
import Derived.Test.YtemmhjghlmhheaaWFootNe
import Derived.Test.YtemmhjghlmhheaaWAt
import Derived.Test.YtemmhjghlmhheaaWEqStruct
import Derived.Test.YtemmhjghlmhheaaWRepsOne
import Derived.Test.YtemmhjghlmhheaaWInv
import Derived.Test.YtemmhjghlmhheaaWInvWords
import Derived.Test.YtemmhjghlmhheaaWGuard
import Derived.Test.YtemmhjghlmhheaaWNEv
import Derived.Test.YtemmhjghlmhheaaWMore
import Derived.Test.YtemmhjghlmhheaaDr1
namespace Go.Proofs.Ytemmhjghlmhheaa.Dr
open Go.RowKit Go.Proofs.YtemmhjghlmhheaaW.PrintWords Go.Proofs.YtemmhjghlmhheaaW.PrintLast Go.Proofs.YtemmhjghlmhheaaW.PrintMore
attribute [local go_sem] max2_int min2_int max_two min_two max_three min_three max_four min_four
set_option linter.unusedVariables false
set_option linter.unusedSimpArgs false
section
variable {T Tw : Nat} {W : World} {ok okx : Nat → Prop} {g gv cap : Nat} {v u x y : Value} {d : Dr} {xs : List Int}
theorem dv_slotN (h : Dv T Tw W ok g v u d) (j : Nat) (h1 : j < d.slots.length) :
    ∃ gv cap x, v = .slice (some ⟨gv, 0, none⟩) d.slots.length cap ∧ W.cell? ⟨gv, j, none⟩ = some x ∧ W.frozen? ⟨gv, j, none⟩ = false ∧ Vb W (fun k => (ok k ∧ some k ≠ u.ownBlock) ∧ k ≠ gv) x (d.slots.getD j []) := dv_slot h (j : Int) (by omega) (by omega)
theorem dv_looseN (h : Dv T Tw W ok g v u d) (j : Nat) (h1 : j < d.loose.length) :
    ∃ gu cap x, u = .slice (some ⟨gu, 0, none⟩) d.loose.length cap ∧ W.cell? ⟨gu, j * 2, none⟩ = some (.int .i64 (d.loose.getD j (0, [])).1) ∧ W.cell? ⟨gu, j * 2 + 1, none⟩ = some x ∧ Vb W (fun k => (ok k ∧ some k ≠ v.ownBlock) ∧ k ≠ gu) x (d.loose.getD j (0, [])).2 := dv_loose h (j : Int) (by omega) (by omega)
theorem dv_putN (h : Dv T Tw W ok g (.slice (some ⟨gv, 0, none⟩) d.slots.length cap) u d) (j : Nat) (h1 : j < d.slots.length)
    (hc : W.cell? ⟨gv, j, none⟩ = some y) (hx : Vb W okx x xs) (hok : ∀ k, okx k → (ok k ∧ some k ≠ u.ownBlock) ∧ k ≠ gv) : Dv T Tw (W.setCell ⟨gv, j, none⟩ x) ok g (.slice (some ⟨gv, 0, none⟩) d.slots.length cap) u { d with slots := d.slots.set j xs } := dv_put h (j : Int) (by omega) (by omega) hc hx hok
end
set_option maxRecDepth 100000 in
theorem do_calls (g gv cap : Nat) (u x : Value) (d : Dr) (xs : List Int) (j : Nat) (ok okx : Nat → Prop) (w : World) (h : Dv 55 58 w ok g (.slice (some ⟨gv, 0, none⟩) d.slots.length cap) u d) (h1 : j < d.slots.length)
    (hx : Vb w okx x xs) (hok : ∀ k, okx k → (ok k ∧ some k ≠ u.ownBlock) ∧ k ≠ gv) :
    Calls Try.prog 28 #[.pointer (some ⟨g, 0, none⟩), .agg #[.int .i64 (j : Int), x]] w fun e w' => e = .returned (.tuple #[]) ∧ Dv 55 58 w' ok g (.slice (some ⟨gv, 0, none⟩) d.slots.length cap) u { d with slots := d.slots.set j xs } ∧ Kq w w' ok g := by
  obtain ⟨A, c, rfl⟩ := Kd.V_slice hx
  obtain ⟨W1, hW1⟩ : ∃ W1, W1 = w.alloc (.cells #[.int .i64 (j : Int), .slice A xs.length c] 58) := ⟨_, rfl⟩
  have hB : Below w.heap.size w W1 := by rw [hW1]; exact (Below.refl _ _).alloc (Nat.le_refl _) _
  have h' := h.below hB
  obtain ⟨c0, c1, c2, hfz⟩ := dv_cell h'
  obtain ⟨gv', cap', y, hv, hc, hf, _⟩ := dv_slotN h' j h1
  injection hv with e1 e2 e3
  injection e1 with e1
  injection e1 with e1
  subst e1
  have hn0 : W1.cell? ⟨w.heap.size, 0, none⟩ = some (.int .i64 (j : Int)) := by rw [hW1]; exact (blk_cell (heap_alloc_new w _) 0).trans rfl
  have hn1 : W1.cell? ⟨w.heap.size, 1, none⟩ = some (.slice A xs.length c) := by rw [hW1]; exact (blk_cell (heap_alloc_new w _) 1).trans rfl
  have HX := Aside0.mk (Kd.V_below hx hB)
  have HOK := Aside0.mk hok
  have HD := Aside0.mk h'
  have HB := Aside0.mk hB
  have hm := (dv_len h').choose_spec
  have hlen : d.slots.length ≤ 9223372036854775807 := by
    obtain ⟨_, _, _, _, _, _, h, _⟩ := dv_len h'
    exact h
  have hi2 : (j : Int) < (d.slots.length : Int) := by omega
  have H1 := Aside0.mk h1
  have HC := Aside0.mk hc
  have HW1 := Aside0.mk hW1
  clear h h' hx hok hB h1 e2 e3 hm hW1
  go_enter Try.func28, Try.ntmps28
  go_wp2_with fail
  rw [← HW1.out]
  go_still_tail 9, (by kernel_rfl)
  go_wp2
  go_end0
  have hgv : ok gv := (HD.out.hv.1 gv (by simp [Value.ownBlock])).1
  have hd : Dv 55 58 W1.drew ok g (.slice (some ⟨gv, 0, none⟩) d.slots.length cap) u d := HD.out.step (fun _ _ _ => rfl) rfl
  refine ⟨rfl, dv_putN hd j H1.out (y := y) HC.out HX.out HOK.out, ?_⟩
  exact ((Kq.of_below HB.out).drewN 1).set (p := ⟨gv, j, none⟩) (.inr (.inl hgv)) _

/-- Writes, one behind the other. -/
def runw (s : List (List Int)) (l : List (Int × List Int)) : List (List Int) := l.foldl (fun s p => s.set p.1.toNat p.2) s
theorem runw_len (l : List (Int × List Int)) : ∀ s, (runw s l).length = s.length := by
  induction l with
  | nil => intro s; rfl
  | cons p l ih => intro s; show (runw (s.set p.1.toNat p.2) l).length = _; rw [ih, List.length_set]
theorem runw_snoc (s : List (List Int)) (l : List (Int × List Int)) (p : Int × List Int) : runw s (l ++ [p]) = (runw s l).set p.1.toNat p.2 := by unfold runw; rw [List.foldl_append]; rfl
theorem runw_take (s : List (List Int)) (l : List (Int × List Int)) (k : Nat) (h : k < l.length) : runw s (l.take (k + 1)) = (runw s (l.take k)).set (l.getD k (0, [])).1.toNat (l.getD k (0, [])).2 := by
  rw [List.take_succ_eq_append_getElem h, runw_snoc, List.getD_eq_getElem?_getD, List.getElem?_eq_getElem h]; rfl
/-- What is loose is of slots that there are. -/
def Dr.Fits (d : Dr) : Prop := ∀ p, p ∈ d.loose → 0 ≤ p.1 ∧ p.1 < d.slots.length
theorem fits_at {d : Dr} (h : d.Fits) (k : Nat) (hk : k < d.loose.length) : 0 ≤ (d.loose.getD k (0, [])).1 ∧ (d.loose.getD k (0, [])).1 < d.slots.length := by
  rw [List.getD_eq_getElem?_getD, List.getElem?_eq_getElem hk]
  exact h _ (List.getElem_mem hk)
def Dr.flush (d : Dr) : Dr := if d.lost then d else ⟨runw d.slots d.loose, [], false⟩
def Dr.flushE (d : Dr) : Int := if d.lost then 8 else 0
set_option maxRecDepth 100000 in
set_option maxHeartbeats 1000000 in
theorem flush_calls (g : Nat) (d : Dr) (ok : Nat → Prop) (w : World) (h : Dp 55 58 w ok g d) (hfit : d.Fits) (hnew : ∀ k, w.heap.size ≤ k → ok k) :
    Calls Try.prog 14 #[.pointer (some ⟨g, 0, none⟩)] w fun e w' => e = .returned (.int .i64 d.flushE) ∧ Dp 55 58 w' ok g d.flush ∧ Kq w w' ok g := by
  obtain ⟨v, u, h⟩ := h
  obtain ⟨A, c, B, cu, rfl, rfl, hl1, hl2⟩ := dv_len h
  obtain ⟨c0, c1, c2, hfz⟩ := dv_cell h
  obtain ⟨sl, lo, lost⟩ := d
  simp only at c0 c1 c2 hl1 hl2
  have HD := Aside0.mk h
  have HF := Aside0.mk hfit
  have HN := Aside0.mk hnew
  clear h hfit hnew
  cases lost with
  | true =>
    go_enter Try.func14, Try.ntmps14
    go_wp2
    go_ret
    exact ⟨rfl, ⟨_, _, HD.out⟩, Kq.refl _ _ _⟩
  | false =>
    go_enter Try.func14, Try.ntmps14
    go_wp2
    go_loopw [4, 18, 20, 21, 22, 23, 24, 25] (fun p i a b c' d' e' f' wr => ∃ k : Nat, k ≤ lo.length ∧ i = .int .i64 k ∧ Aside0 (Dv 55 58 wr ok g (.slice A sl.length c) (.slice B lo.length cu) ⟨runw sl (lo.take k), lo, false⟩) ∧ Aside0 (Kq w wr ok g)) (fun _ i _ _ _ _ _ _ _ => lo.length - (intOf i).toNat)
    case atStart => exact ⟨0, Nat.zero_le _, rfl, HD, ⟨Kq.refl _ _ _⟩⟩
    case round =>
      obtain ⟨k, hk, rfl, HDr, HKr⟩ := hrel
      have e0 := runw_len (lo.take k) sl
      by_cases hlt : k < lo.length
      · obtain ⟨h0, h1⟩ := fits_at HF.out k hlt
        obtain ⟨gu, cu', x, hu, hc0, hc1, hx⟩ := dv_looseN HDr.out k hlt
        have hs := runw_take sl lo k hlt
        obtain ⟨p, hp⟩ : ∃ p, p = lo.getD k (0, []) := ⟨_, rfl⟩
        obtain ⟨s, hs0⟩ : ∃ s, s = runw sl (lo.take k) := ⟨_, rfl⟩
        simp only at h0 h1 hc0 hx
        rw [← hp] at h0 h1 hc0 hx hs
        rw [← hs0] at HDr e0 hs
        obtain ⟨pi, pb⟩ := p
        obtain ⟨j, rfl⟩ : ∃ j : Nat, pi = (j : Int) := ⟨pi.toNat, by simp only at h0; omega⟩
        simp only [Int.toNat_natCast] at h0 h1 hc0 hx hs
        have hj : j < s.length := by omega
        obtain ⟨gv, cv, y, hv, _, _, _⟩ := dv_slotN HDr.out j hj
        injection hu with e1 e2 e3
        subst e1
        injection hv with e4 e5 e6
        subst e4
        obtain ⟨Ax, cx, rfl⟩ := Kd.V_slice hx
        have HS := Aside0.mk hs
        have HX := Aside0.mk hx
        have HE := Aside0.mk e0
        have HJ := Aside0.mk hj
        clear hp hs0 hs e2 e3 e5 e6 hx e0 hj h0 h1
        have hB : Below wr.heap.size wr (wr.alloc (.cells #[.int .i64 (j : Int), .slice Ax pb.length cx] 58)) := (Below.refl _ _).alloc (Nat.le_refl _) _
        have hD1 := HDr.out.below hB
        rw [← HE.out] at hD1
        have HA : Aside0 _ := ⟨do_calls g gv c (.slice (some ⟨gu, 0, none⟩) lo.length cu) (.slice Ax pb.length cx) ⟨s, lo, false⟩ pb j ok _ _ hD1 HJ.out (Kd.V_below HX.out hB) (fun k hk => ⟨⟨hk.1.1, fun e => hk.2 (by simpa [Value.ownBlock] using e)⟩, fun e => hk.1.2 (by simp [Value.ownBlock, e])⟩)⟩
        have HB := Aside0.mk hB
        clear hB hD1
        go_wp2_with fail
        refine HA.out.mono ?_
        rintro e w1 ⟨rfl, hD2, hK2⟩
        have HD2 : Aside0 (Dv 55 58 w1 ok g (.slice (some ⟨gv, 0, none⟩) s.length c) (.slice (some ⟨gu, 0, none⟩) lo.length cu) ⟨s.set j pb, lo, false⟩) := ⟨hD2⟩
        have HK2 : Aside0 (Kq w w1 ok g) := ⟨(HKr.out.below HB.out).then_ hK2⟩
        clear hD2 hK2 HA
        go_wp2
        go_roundw
        case rel => exact ⟨k + 1, by omega, by go_num, ⟨by rw [HS.out, ← HE.out]; exact HD2.out⟩, HK2⟩
        case measure => simp [intOf]; omega
      · obtain rfl : k = lo.length := by omega
        have hd : decide (lo.length < lo.length) = false := decide_eq_false (Nat.lt_irrefl _)
        obtain ⟨c0', c1', c2', hfz'⟩ := dv_cell HDr.out
        rw [List.take_length] at HDr
        clear hk hlt c0 c1 c2 hfz e0
        go_wp2
        go_ret
        refine ⟨rfl, ⟨_, _, (show Dv 55 58 _ ok g (.slice A sl.length c) (.slice none 0 0) ⟨runw sl lo, [], false⟩ from ⟨blk_set HDr.out.blk 1 _, HDr.out.ng, ?_, Kd.N_nil _ _ _ _ _⟩)⟩, HKr.out.set (p := ⟨g, 1, none⟩) (.inl rfl) _⟩
        exact Kd.N_mono (Kd.N_far HDr.out.hv (p := ⟨g, 1, none⟩) (fun k hk e => HDr.out.ng (by have e' : k = g := e; exact e' ▸ hk.1)) _) (fun k hk => ⟨hk.1, by simp [Value.ownBlock]⟩)
end Go.Proofs.Ytemmhjghlmhheaa.Dr
