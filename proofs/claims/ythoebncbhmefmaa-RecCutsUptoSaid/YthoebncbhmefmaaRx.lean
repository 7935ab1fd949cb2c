/- Records: the contracts of the reference's writer. -/
import Derived.Test.YthoebncbhmefmaaProg
import Derived.Below
import Derived.Deep.Draws
import Derived.Deep.AppendLies
import Derived.Maps.AppendAt
import Derived.OwnWalk
import Derived.Laws.BytesArg
import Derived.Laws.MakeOwn
import Derived.Laws.OwnMore
import Derived.Deep.OwnRows
import Derived.Tactics
import Derived.Lib.ConvBytes
import Derived.Laws.Slices
import Derived.WalkKit
import Derived.KernelRfl
import Derived.RowKit3
import Derived.Deep.LoopGhost
import Derived.Deep.QuietTactic
import Derived.BigQuiet
import Derived.WideLaws
import Derived.Deep.DeepCutAuto
import Derived.Deep.CutBlock
import Derived.Deep.RegionHeld3
import Derived.Laws.Rows
import Derived.Lib.AppendStr
import Derived.ArgAppend
import Derived.Laws.IdiomCopy
import Derived.OrdersHeld
import Derived.Laws.BitsLemmas
import Derived.RowKit
import Derived.Test.YthoebncbhmefmaaWWords
import Derived.Test.YthoebncbhmefmaaWLast
import Derived.Test.YthoebncbhmefmaaWTab
import Derived.Test.YthoebncbhmefmaaWFour
import Derived.Test.YthoebncbhmefmaaWQPut
import Derived.Test.YthoebncbhmefmaaWApart
import Derived.Test.YthoebncbhmefmaaWArr
import Derived.Test.YthoebncbhmefmaaWZeros
import Derived.Test.YthoebncbhmefmaaWFoot
import Derived.Test.YthoebncbhmefmaaWKept
import Derived.Test.YthoebncbhmefmaaWShare
import Derived.Test.YthoebncbhmefmaaWN
import Derived.Test.YthoebncbhmefmaaWFootNe
import Derived.Test.YthoebncbhmefmaaWAt
import Derived.Test.YthoebncbhmefmaaWEqStruct
import Derived.Test.YthoebncbhmefmaaWRepsOne
import Derived.Test.YthoebncbhmefmaaWInv
import Derived.Test.YthoebncbhmefmaaWInvWords
import Derived.Test.YthoebncbhmefmaaWGuard
import Derived.Test.YthoebncbhmefmaaWNEv
import Derived.Test.YthoebncbhmefmaaWMore
import Derived.Test.YthoebncbhmefmaaRu
import Derived.Test.YthoebncbhmefmaaOp
namespace Go.Proofs.Ythoebncbhmefmaa.Rc
open Go.RowKit Go.Proofs.YthoebncbhmefmaaW.PrintWords Go.Proofs.YthoebncbhmefmaaW.PrintLast Go.Proofs.YthoebncbhmefmaaW.PrintMore
attribute [local go_sem] max2_int min2_int max_two min_two max_three min_three max_four min_four
set_option linter.unusedVariables false
set_option linter.unusedSimpArgs false
theorem num_step (k : Nat) (x : Int) (l : List Int) (j : Nat) (hj : j < l.length) (hl : l.length ≤ 8) (hx : 0 ≤ x) (hx2 : x < 18446744073709551616) :
  flittingref01_Num.l0 (k + 1) x l (j : Int) = flittingref01_Num.l0 k (x / 256) (l.set j (x % 256)) ((j : Int) - 1) := by
 simp only [flittingref01_Num.l0]
 rw [if_pos (by omega), if_pos (by omega), if_pos (by omega), Int.toNat_natCast, show wrap64 ((j : Int) - 1) = (j : Int) - 1 from by unfold wrap64; omega]
 rw [show IntKind.u64.wrap (Int.tdiv x 256) = x / 256 from by rw [IntKind.wrap_u64, Int.tdiv_eq_ediv_of_nonneg hx]; omega]
theorem num_l0 : ∀ (n k : Nat) (x : Int) (t : List Int), n + t.length ≤ 8 → n < k → 0 ≤ x → x < 18446744073709551616 → flittingref01_Num.l0 k x (List.replicate n 0 ++ t) ((n : Int) - 1) = some (numB x n ++ t)
 | 0, k, x, t, hn, hk, hx, hx2 => by
  obtain ⟨k, rfl⟩ : ∃ m, k = m + 1 := ⟨k - 1, by omega⟩
  simp only [flittingref01_Num.l0]
  rw [if_neg (by omega)]; rfl
 | n + 1, k, x, t, hn, hk, hx, hx2 => by
  obtain ⟨k, rfl⟩ : ∃ m, k = m + 1 := ⟨k - 1, by omega⟩
  rw [show ((n + 1 : Nat) : Int) - 1 = (n : Int) by omega, num_step k x _ n (by simp; omega) (by simp; omega) hx hx2]
  have e : (List.replicate (n + 1) (0 : Int) ++ t).set n (x % 256) = List.replicate n 0 ++ (x % 256 :: t) := by
   rw [List.replicate_succ', List.append_assoc, List.set_append_right _ _ (by simp)]
   simp
  rw [e, num_l0 n k (x / 256) (x % 256 :: t) (by simp; omega) (by omega) (by omega) (by omega)]
  simp [numB]
theorem num_f (x : Int) (n : Nat) (ni : Int) (hi : ni = (n : Int)) (hn : n ≤ 8) (hx : 0 ≤ x) (hx2 : x < 18446744073709551616) : flittingref01_Num.f 20 x ni = some (numB x n) := by
 subst hi
 unfold flittingref01_Num.f
 rw [if_pos (by omega), if_pos (by omega), Int.toNat_natCast, show wrap64 ((n : Int) - 1) = (n : Int) - 1 from by unfold wrap64; omega]
 have := num_l0 n 20 x [] (by simp; omega) (by omega) hx hx2
 simpa using this
/-- The reference's writer: where it is not bad its bytes are these. -/
structure Ww (w0 W : World) (V : Nat → Prop) (g : Nat) (s : St) : Prop where
 hb : Below w0.heap.size w0 W
 hg : w0.heap.size ≤ g
 vt : ∀ k, V k → ∃ cs t, W.heap[k]? = some (.cells cs t (0, 0)) ∧ t ≠ 5
 vg : ¬ V g
 ex : ∃ v l, W.heap[g]? = some (.cells #[v, .bool s.2] 55 (0, 0)) ∧ U8.R 5 W w0.heap.size (fun k => k ≠ g ∧ ¬ V k) v l ∧ (s.2 = false → l = s.1) ∧ l.length ≤ s.1.length
theorem Ww.vb {w0 W : World} {V : Nat → Prop} {g : Nat} {s : St} (h : Ww w0 W V g s) : ∀ k, V k → k < W.heap.size := fun k hk => by
 obtain ⟨cs, t, h1, _⟩ := h.vt k hk
 exact blk_lt h1
theorem Ww.lt {w0 W : World} {V : Nat → Prop} {g : Nat} {s : St} (h : Ww w0 W V g s) : g < W.heap.size := by
 obtain ⟨v, l, hb, _⟩ := h.ex
 exact blk_lt hb
theorem Ww.below {w0 W W' : World} {V : Nat → Prop} {g : Nat} {s : St} (h : Ww w0 W V g s) (hb : Below W.heap.size W W') : Ww w0 W' V g s := by
 obtain ⟨v, l, h1, h2, h3⟩ := h.ex
 exact ⟨h.hb.trans (hb.mono h.hb.size), h.hg, fun k hk => by obtain ⟨cs, t, h1, h2⟩ := h.vt k hk; exact ⟨cs, t, blk_below h1 hb, h2⟩, h.vg, v, l, blk_below h1 hb, Kd.R_below h2 hb, h3⟩
theorem Ww.guard_ {w0 W W' : World} {V V' : Nat → Prop} {g : Nat} {s : St} (h : Ww w0 W V g s) (hb : Below W.heap.size W W') (hv : ∀ k, V' k → V k ∨ (W.heap.size ≤ k ∧ ∃ cs t, W'.heap[k]? = some (.cells cs t (0, 0)) ∧ t ≠ 5)) : Ww w0 W' V' g s := by
 have hlt := h.lt
 obtain ⟨v, l, h1, h2, h0⟩ := h.ex
 refine ⟨h.hb.trans (hb.mono h.hb.size), h.hg, fun k hk => ?_, fun hk => ?_, v, l, blk_below h1 hb, Kd.R_below (Kd.R_mono (Kd.R_bound h2) (fun k hk => ⟨hk.1.1, fun h3 => ?_⟩)) hb, h0⟩
 ·rcases hv k hk with h3 | h3
  ·obtain ⟨cs, t, h4, h5⟩ := h.vt k h3; exact ⟨cs, t, blk_below h4 hb, h5⟩
  ·exact h3.2
 ·rcases hv g hk with h3 | h3
  ·exact h.vg h3
  ·omega
 ·rcases hv k h3 with h4 | h4
  ·exact hk.1.2 h4
  ·have := hk.2.2.1; omega
theorem Ww.less {w0 W : World} {V V' : Nat → Prop} {g : Nat} {s : St} (h : Ww w0 W V g s) (hv : ∀ k, V' k → V k) : Ww w0 W V' g s := h.guard_ (Below.refl _ _) (fun k hk => .inl (hv k hk))
/-- A state that is bad already, later. -/
theorem Ww.later {w0 W : World} {V : Nat → Prop} {g : Nat} {s t : St} (h : Ww w0 W V g s) (hg : Grows s t) (hs : s.2 = true) : Ww w0 W V g t := by
 obtain ⟨v, l, h1, h2, h3, h4⟩ := h.ex
 have ht := hg.bad hs
 exact ⟨h.hb, h.hg, h.vt, h.vg, v, l, by rw [ht]; rw [hs] at h1; exact h1, h2, (fun h5 => by rw [ht] at h5; cases h5), Nat.le_trans h4 hg.len⟩
/-- The blocks of a writer, changed: the flag, the row. -/
theorem Ww.put {w0 W W1 W' : World} {V : Nat → Prop} {g : Nat} {s t : St} {v : Value} {l : List Int} (h : Ww w0 W V g s) (hb1 : Below w0.heap.size w0 W1) (hv1 : Vs V W W1) (hblk : W1.heap[g]? = some (.cells #[v, .bool t.2] 55 (0, 0))) (hR : U8.R 5 W1 w0.heap.size (fun k => k ≠ g ∧ ¬ V k) v l) (hl : t.2 = false → l = t.1) (hl2 : l.length ≤ t.1.length) : Ww w0 W1 V g t ∧ Vs V W W1 :=
 ⟨⟨hb1, h.hg, fun k hk => by obtain ⟨cs, t, h1, h2⟩ := h.vt k hk; exact ⟨cs, t, (hv1 k hk).trans h1, h2⟩, h.vg, v, l, hblk, hR, hl, hl2⟩, hv1⟩
set_option maxHeartbeats 4000000 in
set_option maxRecDepth 100000 in
theorem wnum_calls (w0 W : World) (V : Nat → Prop) (g : Nat) (v : Int) (n : Nat) (ni : Int) (hi : ni = (n : Int)) (most : Int) (hmost : most < 9223372036854775808) (s : St) (h : Ww w0 W V g s) (hn : n ≤ 8) (hl : s.1.length < 140737488350000) :
  Calls Try.prog 21 #[.pointer (some ⟨g, 0, none⟩), .int .i64 v, .int .i64 ni, .int .i64 most] W fun e w' => e = .returned (.tuple #[]) ∧ Ww w0 w' V g (wN v n most s) ∧ Vs V W w' := by
 subst hi
 obtain ⟨v0, l, hblk, hR, hle, hle2⟩ := h.ex
 obtain ⟨A, c, rfl⟩ := Kd.R_slice hR
 have HH := Aside0.mk h
 have HK := Aside0.mk hblk
 have HR := Aside0.mk hR
 have HLE := Aside0.mk hle2
 have HEQ := Aside0.mk hle
 have HLT := Aside0.mk h.lt
 have HL : Aside0 (l.length + n < 140737488355328) := ⟨by omega⟩
 have c0 : W.cell? ⟨g, 0, none⟩ = some (.slice A l.length c) := (blk_cell hblk 0).trans rfl
 have c1 : W.cell? ⟨g, 1, none⟩ = some (.bool s.2) := (blk_cell hblk 1).trans rfl
 have hfz : ∀ j, W.frozen? ⟨g, j, none⟩ = false := fun j => blk_frozen hblk j
 clear h hblk hR hle hle2 hl
 by_cases hneg : v < 0
 ·have h1 : decide (v < 0) = true := decide_eq_true hneg
  have HP : Aside0 (Ww w0 (W.setCell ⟨g, 1, none⟩ (.bool true)) V g (wN v n most s) ∧ Vs V W (W.setCell ⟨g, 1, none⟩ (.bool true))) := by
   have hne : ∀ k, V k → k ≠ g := fun k hk e => HH.out.vg (by rw [← e]; exact hk)
   have hbd : (wN v n most s).2 = true := by simp [wN, hneg]
   exact ⟨HH.out.put (W' := W) (HH.out.hb.setCell HH.out.hg _) (fun k hk => Below.heap_setCell _ _ _ _ (hne k hk)) (by rw [hbd]; exact blk_set HK.out 1 _) (Kd.R_far HR.out (fun _ h => h.1) _) (fun h5 => by rw [hbd] at h5; cases h5) (Nat.le_trans HLE.out (grows_N v n most s).len)⟩
  clear hneg
  go_enter Try.func21, Try.ntmps21
  go_wp2
  refine bodyPost_ret (results_none rfl _ _ _) rfl ?_
  exact ⟨rfl, HP.out⟩
 ·have h1 : decide (v < 0) = false := decide_eq_false hneg
  by_cases hbig : most < v
  ·have h2 : decide (most < v) = true := decide_eq_true hbig
   have HP : Aside0 (Ww w0 (W.setCell ⟨g, 1, none⟩ (.bool true)) V g (wN v n most s) ∧ Vs V W (W.setCell ⟨g, 1, none⟩ (.bool true))) := by
    have hne : ∀ k, V k → k ≠ g := fun k hk e => HH.out.vg (by rw [← e]; exact hk)
    have hbd : (wN v n most s).2 = true := by simp [wN, hbig]
    exact ⟨HH.out.put (W' := W) (HH.out.hb.setCell HH.out.hg _) (fun k hk => Below.heap_setCell _ _ _ _ (hne k hk)) (by rw [hbd]; exact blk_set HK.out 1 _) (Kd.R_far HR.out (fun _ h => h.1) _) (fun h5 => by rw [hbd] at h5; cases h5) (Nat.le_trans HLE.out (grows_N v n most s).len)⟩
   clear hneg hbig
   go_enter Try.func21, Try.ntmps21
   go_wp2
   refine bodyPost_ret (results_none rfl _ _ _) rfl ?_
   exact ⟨rfl, HP.out⟩
  ·have h2 : decide (most < v) = false := decide_eq_false hbig
   have hv0 : 0 ≤ v := by omega
   have hv1 : v < 18446744073709551616 := by omega
   have hwu : IntKind.u64.wrap v = v := by rw [IntKind.wrap_u64]; omega
   have HNF := Aside0.mk (num_f v n n rfl hn hv0 hv1)
   have HW : Aside0 (wN v n most s = (s.1 ++ numB v n, s.2)) := ⟨by unfold wN; rw [show u64 v = v from by show v % 18446744073709551616 = v; omega]; simp [hneg, hbig]⟩
   clear hneg hbig hmost
   go_enter Try.func21, Try.ntmps21
   go_upto_region 2 with fail
   refine start_ (n := 13) (S := fun w' => w'.cell? ⟨g, 0, none⟩ = some (.slice A l.length c)) (ds := [12]) #[false, false, false, false, false, false, false, false, false, false, false, false, false] (by kernel_rfl) rfl rfl (c0) (fun hHeld => ?_)
   refine pure_ (i := 0) (N := some 18) (v := ?_) (a' := ?_) #[true, false, false, false, false, false, false, false, false, false, false, false, false] rfl rfl (by kernel_rfl) (fun _ _ _ h => h) (Or.inl ⟨by rfl, ?_⟩) ?_ ?_
   rotate_left
   ·intro w'
    go_simp
    with_reducible rfl
   rotate_left
   ·simp only [Act.put, List.setIfInBounds_toArray, List.set_cons_zero, List.set_cons_succ, i64_w, i32_w]
    rfl
   refine pure_ (i := 1) (N := some 19) (v := ?_) (a' := ?_) #[true, true, false, false, false, false, false, false, false, false, false, false, false] rfl rfl (by kernel_rfl) (fun _ _ _ h => h) (Or.inl ⟨by rfl, ?_⟩) ?_ ?_
   rotate_left
   ·intro w'
    go_simp
    with_reducible rfl
   rotate_left
   ·simp only [Act.put, List.setIfInBounds_toArray, List.set_cons_zero, List.set_cons_succ, i64_w, i32_w]
    rfl
   refine pure_ (i := 2) (N := some 20) (v := ?_) (a' := ?_) #[true, true, true, false, false, false, false, false, false, false, false, false, false] rfl rfl (by kernel_rfl) (fun _ _ _ h => h) (Or.inl ⟨by rfl, ?_⟩) ?_ ?_
   rotate_left
   ·intro w'
    go_simp
    with_reducible rfl
   rotate_left
   ·simp only [Act.put, List.setIfInBounds_toArray, List.set_cons_zero, List.set_cons_succ, i64_w, i32_w]
    rfl
   refine pure_ (i := 3) (N := some 21) (v := ?_) (a' := ?_) #[true, true, true, true, false, false, false, false, false, false, false, false, false] rfl rfl (by kernel_rfl) (fun _ _ _ h => h) (Or.inl ⟨by rfl, ?_⟩) ?_ ?_
   rotate_left
   ·intro w'
    go_simp
    with_reducible rfl
   rotate_left
   ·simp only [Act.put, List.setIfInBounds_toArray, List.set_cons_zero, List.set_cons_succ, i64_w, i32_w]
    rfl
   refine pure_ (i := 5) (N := some 23) (v := ?_) (a' := ?_) #[true, true, true, true, false, true, false, false, false, false, false, false, false] rfl rfl (by kernel_rfl) (fun _ _ _ h => h) (Or.inl ⟨by rfl, ?_⟩) ?_ ?_
   rotate_left
   ·intro w'
    go_simp
    with_reducible rfl
   rotate_left
   ·simp only [Act.put, List.setIfInBounds_toArray, List.set_cons_zero, List.set_cons_succ, i64_w, i32_w]
    rfl
   refine pure_ (i := 6) (N := some 24) (v := ?_) (a' := ?_) #[true, true, true, true, false, true, true, false, false, false, false, false, false] rfl rfl (by kernel_rfl) (fun _ _ _ h => h) (Or.inl ⟨by rfl, ?_⟩) ?_ ?_
   rotate_left
   ·intro w'
    go_simp
    with_reducible rfl
   rotate_left
   ·simp only [Act.put, List.setIfInBounds_toArray, List.set_cons_zero, List.set_cons_succ, i64_w, i32_w]
    rfl
   refine pure_ (i := 7) (N := some 25) (v := ?_) (a' := ?_) #[true, true, true, true, false, true, true, true, false, false, false, false, false] rfl rfl (by kernel_rfl) (fun _ _ _ h => h) (Or.inl ⟨by rfl, ?_⟩) ?_ ?_
   rotate_left
   ·intro w'
    go_simp
    with_reducible rfl
   rotate_left
   ·simp only [Act.put, List.setIfInBounds_toArray, List.set_cons_zero, List.set_cons_succ, i64_w, i32_w]
    rfl
   refine take_ (i := 4) (N := some 22) (v := ?_) (a' := ?_) #[true, true, true, true, true, true, true, true, false, false, false, false, false] rfl rfl (by kernel_rfl) (fun _ _ _ h => h) (Or.inl ⟨by rfl, ?_⟩) hHeld ?_ ?_
   rotate_left
   ·intro w' s0
    go_simp
    with_reducible rfl
   rotate_left
   ·simp only [Act.put, List.setIfInBounds_toArray, List.set_cons_zero, List.set_cons_succ, i64_w, i32_w]
    rfl
   refine one_ (i := 8) (N := some 26) #[true, true, true, true, true, true, true, true, true, false, false, false, false] rfl rfl (by kernel_rfl) (by decide) (fun K hK => ?_)
   refine goes_ Try.func43 (by kernel_rfl) rfl #[.int .u64 v, .int .i64 (n : Int)] (by rfl) rfl rfl (by simp only [List.map_toArray, List.map_cons, List.map_nil]; rfl) ?_
   with_reducible refine (flittingref01_Num.calls 20 v (n : Int) (numB v n) _ HNF.out).mono ?_
   rintro e w1 ⟨v1, rfl, ho1, hb1⟩
   refine ⟨_, rfl, ?_⟩
   obtain ⟨A1, n1, e1⟩ := Kd.R_slice ho1
   subst e1
   have HB1 : Aside0 (Below W.heap.size W w1) := ⟨(below_drew (Below.refl _ _)).trans (hb1.mono (Nat.le_refl _))⟩
   have HO1 := Aside0.mk ho1
   have HRw : Aside0 (U8.R 5 w1 w0.heap.size (fun k => k ≠ g ∧ ¬ V k) (.slice A l.length c) l) := ⟨Kd.R_below HR.out HB1.out⟩
   clear ho1 hb1
   refine hK.out _ _ ((pw_cell_below HB1.out c0)) (fun hHeld => ?_)
   clear hK K
   refine norm_ (a' := ?_) ?_ ?_
   rotate_left
   ·show Act.put _ (some 26) _ = _
    simp only [Act.put, List.setIfInBounds_toArray, List.set_cons_zero, List.set_cons_succ, i64_w, i32_w]
    rfl
   refine one_ (i := 9) (N := some 27) #[true, true, true, true, true, true, true, true, true, true, false, false, false] rfl rfl (by kernel_rfl) (by decide) (fun K hK => ?_)
   refine Kd.R_append_rows_step U8 (w0 := w0) (Rr := U8.K w1) w0.heap.size (by rfl) (.tmp 22) (.tmp 26) 29 5 (.int .u8 0) 1 rfl Try.underlying29 info5 rfl (by decide) (by decide) (.slice A l.length c) l (numB v n) A1 (numB v n).length n1 (fun k => k ≠ g ∧ ¬ V k) (fun _ => False) (by rfl) (by rfl) HRw.out (Kd.F_now (Kd.R_F HO1.out)) (fun _ _ h => h) (fun _ h => h.elim) (fun k hk => ⟨by have := HLT.out; have := HB1.out.size; omega, fun h3 => by have := HH.out.vb k h3; have := HB1.out.size; omega⟩) (HH.out.hb.trans (HB1.out.mono HH.out.hb.size)) (Nat.le_trans HH.out.hb.size HB1.out.size) (by have := HL.out; rw [numB_len]; omega) ?_
   intro v2 w2 ho hb hg hat
   obtain ⟨A2, n2, e2⟩ := Kd.R_slice ho
   subst e2
   have HO2 := Aside0.mk ho
   have HB2 := Aside0.mk hb
   have HVS : Aside0 (Vs V W w2) := ⟨fun k hk => (hg.block k (Nat.lt_of_lt_of_le (HH.out.vb k hk) HB1.out.size) (fun e => (HR.out.1 k e.symm).2 hk)).trans (HB1.out.block k (HH.out.vb k hk))⟩
   have hbk2 : w2.heap[g]? = some (.cells #[.slice A l.length c, .bool s.2] 55 (0, 0)) := (hg.block g (Nat.lt_of_lt_of_le HLT.out HB1.out.size) (fun e => (HR.out.1 g e.symm).1 rfl)).trans ((HB1.out.block g HLT.out).trans HK.out)
   have HK2 := Aside0.mk hbk2
   have d0 : w2.cell? ⟨g, 0, none⟩ = some (.slice A l.length c) := (blk_cell hbk2 0).trans rfl
   have dfz : ∀ j, w2.frozen? ⟨g, j, none⟩ = false := fun j => blk_frozen hbk2 j
   clear ho hb hg hat hbk2
   refine hK.out _ _ (d0) (fun hHeld => ?_)
   clear hK K
   refine norm_ (a' := ?_) ?_ ?_
   rotate_left
   ·show Act.put _ (some 27) _ = _
    simp only [Act.put, List.setIfInBounds_toArray, List.set_cons_zero, List.set_cons_succ, i64_w, i32_w]
    rfl
   refine pure_ (i := 10) (N := some 28) (v := ?_) (a' := ?_) #[true, true, true, true, true, true, true, true, true, true, true, false, false] rfl rfl (by kernel_rfl) (fun _ _ _ h => h) (Or.inl ⟨by rfl, ?_⟩) ?_ ?_
   rotate_left
   ·intro w'
    go_simp
    with_reducible rfl
   rotate_left
   ·simp only [Act.put, List.setIfInBounds_toArray, List.set_cons_zero, List.set_cons_succ, i64_w, i32_w]
    rfl
   refine pure_ (i := 11) (N := some 29) (v := ?_) (a' := ?_) #[true, true, true, true, true, true, true, true, true, true, true, true, false] rfl rfl (by kernel_rfl) (fun _ _ _ h => h) (Or.inl ⟨by rfl, ?_⟩) ?_ ?_
   rotate_left
   ·intro w'
    go_simp
    with_reducible rfl
   rotate_left
   ·simp only [Act.put, List.setIfInBounds_toArray, List.set_cons_zero, List.set_cons_succ, i64_w, i32_w]
    rfl
   refine last_ (i := 12) (N := none) #[true, true, true, true, true, true, true, true, true, true, true, true, true] rfl rfl (by kernel_rfl) (by decide) (fun K hK => ?_)
   refine skip_ (w1 := ?_) (by rfl) rfl ?_ ?_
   rotate_left
   ·go_simp
    rfl
   refine hK.out _ _ ?_
   clear hK K
   refine done_ (by kernel_rfl) ?_
   clear hHeld
   (try go_wp2)
   go_end0
   have hne : ∀ k, V k → k ≠ g := fun k hk e => HH.out.vg (by rw [← e]; exact hk)
   rw [HW.out]
   refine ⟨rfl, HH.out.put (W' := W) (l := l ++ numB v n) (v := .slice A2 (l ++ numB v n).length n2) (HB2.out.setCell HH.out.hg _) (fun k hk => (Below.heap_setCell _ _ _ _ (hne k hk)).trans (HVS.out k hk)) ?_ (Kd.R_far (by simpa using HO2.out) (fun _ h => h.1) _) (fun h5 => by rw [HEQ.out h5]) (by have := HLE.out; simp; omega)⟩
   simpa using blk_set HK2.out 0 (.slice A2 (l ++ numB v n).length n2)
set_option maxHeartbeats 4000000 in
set_option maxRecDepth 100000 in
theorem wkey_calls (w0 W : World) (V : Nat → Prop) (g : Nat) (k : ByteArray) (s : St) (h : Ww w0 W V g s) (hl : (wKey k s).1.length < 140737488350000) :
  Calls Try.prog 22 #[.pointer (some ⟨g, 0, none⟩), .string k] W fun e w' => e = .returned (.tuple #[]) ∧ Ww w0 w' V g (wKey k s) ∧ Vs V W w' := by
 have HK : Aside0 (wKey k s = ((wN k.size 1 16 s).1 ++ bytesOf k, (wN k.size 1 16 s).2)) := ⟨rfl⟩
 have hl1 : (wN k.size 1 16 s).1.length + k.size < 140737488350000 := by have := hl; simp only [wKey, List.length_append, bytesOf_length] at this; exact this
 have hl0 := (grows_N k.size 1 16 s).len
 have HN : Aside0 _ := ⟨wnum_calls w0 W V g k.size 1 1 rfl 16 (by decide) s h (by decide) (by omega)⟩
 obtain ⟨t, ht⟩ : ∃ t, t = wN k.size 1 16 s := ⟨_, rfl⟩
 rw [← ht] at hl1 HN HK
 have HL := Aside0.mk hl1
 clear h hl hl1 hl0 ht
 go_enter Try.func22, Try.ntmps22
 go_wp2_with fail
 refine HN.out.mono ?_
 rintro e w1 ⟨rfl, hp, hv⟩
 have HV := Aside0.mk hv
 have HP := Aside0.mk hp
 have hlt := hp.lt
 obtain ⟨hb, hg, hvt, hvg, u, l, hblk, hR, hle, hle2⟩ := hp
 have HLE := Aside0.mk hle
 have HLE2 := Aside0.mk hle2
 clear hle hle2
 obtain ⟨A, c, rfl⟩ := Kd.R_slice hR
 have c0 : w1.cell? ⟨g, 0, none⟩ = some (.slice A l.length c) := (blk_cell hblk 0).trans rfl
 have HB := Aside0.mk hblk
 have HR := Aside0.mk hR
 have HRo : Aside0 (w1.ownsRow w0.heap.size 5 1 (.slice A l.length c) l.length (nums .u8 l)) := ⟨Kd.own_of_R hR⟩
 clear hb hg hvt hvg hblk hR hv HN
 go_wp2_with (at_builtin; refine print_append_str (w0 := w0) w0.heap.size rfl (.tmp 12) (.tmp 13) 29 9 5 rfl Try.underlying29 Try.underlying9 info5 (.slice A l.length c) l k rfl rfl HRo.out HP.out.hb HP.out.hb.size ?aL ?_; (case aL => have := HL.out; have := HLE2.out; omega); intro v2 w2 ho hb2 hg2; obtain ⟨A2, n2, e2⟩ := Kd.R_slice (Kd.R_of_own (enc := Value.int .u8) (h1 := fun _ => rfl) (ok := fun _ => True) ho (fun _ _ => trivial)); subst e2; have HO := Aside0.mk ho; have HB2 := Aside0.mk hb2; have HG2 := Aside0.mk hg2; have hblk2 : w2.heap[g]? = _ := (hg2.block g hlt (fun e => (HR.out.1 g e.symm).1 rfl)).trans HB.out; have HK2 := Aside0.mk hblk2; have d0 : w2.cell? ⟨g, 0, none⟩ = some (.slice A l.length c) := (blk_cell hblk2 0).trans rfl; have dfz : ∀ j, w2.frozen? ⟨g, j, none⟩ = false := fun j => blk_frozen hblk2 j; clear ho hb2 hg2 hblk2 c0)
 go_end0
 rw [HK.out]
 have hvs : Vs V w1 w2 := fun k hk => HG2.out.block k (HP.out.vb k hk) (fun e => (HR.out.1 k e.symm).2 hk)
 have hok : ∀ j, (Value.slice A2 (l ++ bytesOf k).length n2).ownBlock = some j → j ≠ g ∧ ¬ V j := by
  intro j hk
  obtain ⟨cells, hc⟩ := own_typed HO.out j hk
  refine ⟨fun e => ?_, fun hV => ?_⟩
  ·rw [e, HK2.out] at hc
   injection hc with hc; injection hc with _ h2 _; cases h2
  ·obtain ⟨cs, tt, h1, h2⟩ := HP.out.vt j hV
   rw [hvs j hV, h1] at hc
   injection hc with hc; injection hc with _ h3 _; exact h2 h3
 have hne : ∀ k, V k → k ≠ g := fun k hk e => HP.out.vg (by rw [← e]; exact hk)
 exact ⟨rfl, ⟨HB2.out.setCell HP.out.hg _, HP.out.hg, fun k hk => by obtain ⟨cs, tt, h1, h2⟩ := HP.out.vt k hk; exact ⟨cs, tt, ((Below.heap_setCell _ _ _ _ (hne k hk)).trans (hvs k hk)).trans h1, h2⟩, HP.out.vg, _, l ++ bytesOf k, by simpa using blk_set HK2.out 0 (.slice A2 (l ++ bytesOf k).length n2), Kd.R_far (Kd.R_of_own HO.out hok) (fun _ h => h.1) _, (fun h5 => by rw [HLE.out h5]), by have := HLE2.out; simp; omega⟩, fun k hk => ((Below.heap_setCell _ _ _ _ (hne k hk)).trans (hvs k hk)).trans (HV.out k hk)⟩
set_option maxHeartbeats 4000000 in
set_option maxRecDepth 100000 in
theorem wints_calls (w0 W : World) (V : Nat → Prop) (g : Nat) (A : Option Addr) (c : Nat) (l : List Int) (s : St) (h : Ww w0 W V g s) (hC : (Kd.int .i64).C w0 A l.length l) (hl : (wInts l s).1.length < 140737488350000) :
  Calls Try.prog 24 #[.pointer (some ⟨g, 0, none⟩), .slice A l.length c] W fun e w' => e = .returned (.tuple #[]) ∧ Ww w0 w' V g (wInts l s) ∧ Vs V W w' := by
 have HL := Aside0.mk hl
 have HC := Aside0.mk hC
 have HG := Aside0.mk (fold_le (fun s v => wN v 4 1073741824 s) (fun _ _ => grows_N _ _ _ _) l (wN l.length 1 255 s))
 have hll : l.length < 140737488350000 := by have := ints_len l s; omega
 have HE : Aside0 (wInts l s = l.foldl (fun s v => wN v 4 1073741824 s) (wN l.length 1 255 s)) := ⟨rfl⟩
 have HN : Aside0 _ := ⟨wnum_calls w0 W V g l.length 1 1 rfl 255 (by decide) s h (by decide) (by have := (grows_ints l s).len; omega)⟩
 clear h hC hl
 go_enter Try.func24, Try.ntmps24
 go_wp2_with fail
 refine HN.out.mono ?_
 rintro e w1 ⟨rfl, hp, hv⟩
 have HP := Aside0.mk hp
 have HV := Aside0.mk hv
 clear hp hv HN
 go_wp2
 go_loopw [4, 9, 10, 11, 12, 13, 14, 15, 16, 17, 18, 19, 20, 21, 22, 23, 24, 25, 26, 27] (fun x4 x9 x10 x11 x12 x13 x14 x15 x16 x17 x18 x19 x20 x21 x22 x23 x24 x25 x26 x27 wr => ∃ k : Nat, k ≤ l.length ∧ x4 = .int .i64 k ∧ Aside0 (Ww w0 wr V g ((l.take k).foldl (fun s v => wN v 4 1073741824 s) (wN l.length 1 255 s))) ∧ Aside0 (Vs V W wr)) (fun x4 _ _ _ _ _ _ _ _ _ _ _ _ _ _ _ _ _ _ _ _ => l.length - (intOf x4).toNat)
 case atStart => exact ⟨0, Nat.zero_le _, rfl, ⟨by simpa using HP.out⟩, HV⟩
 case round =>
  obtain ⟨k, hk, rfl, HPr, HVr⟩ := hrel
  obtain ⟨v0, l0, hblk, _⟩ := HPr.out.ex
  by_cases hlt : k < l.length
  ·obtain ⟨t, ht⟩ : ∃ t, t = (l.take k).foldl (fun s v => wN v 4 1073741824 s) (wN l.length 1 255 s) := ⟨_, rfl⟩
   have HF := Aside0.mk (foldl_take (fun s v => wN v 4 1073741824 s) l (wN l.length 1 255 s) k 0 hlt)
   have hGk := HG.out k
   rw [← ht] at HPr HF hGk hblk
   have c1 : wr.cell? ⟨g, 1, none⟩ = some (.bool t.2) := (blk_cell hblk 1).trans rfl
   cases hbad : t.2 with
   | true =>
    have HT : Aside0 (Ww w0 wr V g (wInts l s)) := ⟨HPr.out.later (by rw [HE.out]; exact hGk) hbad⟩
    rw [hbad] at c1
    clear hbad ht hGk hblk
    go_wp2
    go_end0
    exact ⟨rfl, HT.out, HVr.out⟩
   | false =>
    obtain ⟨ad, rfl, hq⟩ := int_at (Kd.C_below HC.out HPr.out.hb) k hlt
    have HN : Aside0 _ := ⟨wnum_calls w0 wr V g (l.getD k 0) 4 4 rfl 1073741824 (by decide) _ HPr.out (by decide) (by have := hGk.len; have := HL.out; rw [HE.out] at this; omega)⟩
    obtain ⟨y, hy⟩ : ∃ y, y = l.getD k 0 := ⟨_, rfl⟩
    rw [← hy] at hq HN HF
    rw [hbad] at c1
    clear hy hbad ht hGk hblk
    go_wp2_with fail
    refine HN.out.mono ?_
    rintro e w2 ⟨rfl, hp, hv⟩
    have HP2 := Aside0.mk hp
    have HV2 := Aside0.mk hv
    clear hp hv HN
    go_wp2
    go_roundw
    case rel => exact ⟨k + 1, by omega, by go_num, ⟨by rw [HF.out]; exact HP2.out⟩, ⟨fun k hk => (HV2.out k hk).trans (HVr.out k hk)⟩⟩
    case measure => simp [intOf]; omega
  ·obtain rfl : k = l.length := by omega
   have hd : decide (l.length < l.length) = false := decide_eq_false (Nat.lt_irrefl _)
   clear hk hlt hblk
   go_wp2
   go_end0
   exact ⟨rfl, by rw [HE.out]; have := HPr.out; rwa [List.take_of_length_le (Nat.le_refl _)] at this, HVr.out⟩
set_option maxHeartbeats 4000000 in
set_option maxRecDepth 100000 in
theorem wstripes_calls (w0 W : World) (V : Nat → Prop) (g : Nat) (A : Option Addr) (c : Nat) (l : List S41) (s : St) (h : Ww w0 W V g s) (hC : k41.C w0 A l.length l) (hl : (wStripes l s).1.length < 140737488350000) :
  Calls Try.prog 23 #[.pointer (some ⟨g, 0, none⟩), .slice A l.length c] W fun e w' => e = .returned (.tuple #[]) ∧ Ww w0 w' V g (wStripes l s) ∧ Vs V W w' := by
 have HL := Aside0.mk hl
 have HC := Aside0.mk hC
 have HG := Aside0.mk (fold_le (fun s x => wStripe x s) (fun _ _ => grows_stripe _ _) l (wN l.length 1 255 s))
 have hll : l.length < 140737488350000 := by have := stripes_len l s; omega
 have HE : Aside0 (wStripes l s = l.foldl (fun s x => wStripe x s) (wN l.length 1 255 s)) := ⟨rfl⟩
 have HN : Aside0 _ := ⟨wnum_calls w0 W V g l.length 1 1 rfl 255 (by decide) s h (by decide) (by have := (grows_stripes l s).len; omega)⟩
 clear h hC hl
 go_enter Try.func23, Try.ntmps23
 go_wp2_with fail
 refine HN.out.mono ?_
 rintro e w1 ⟨rfl, hp, hv⟩
 have HP := Aside0.mk hp
 have HV := Aside0.mk hv
 clear hp hv HN
 go_wp2
 go_loopw [4, 9, 10, 11, 12, 13, 14, 15, 16, 17, 18, 19, 20, 21, 22, 23, 24, 25, 26, 27, 28, 29, 30, 31, 32, 33, 34, 35, 36, 37, 38, 39, 40, 41, 42] (fun x4 x9 x10 x11 x12 x13 x14 x15 x16 x17 x18 x19 x20 x21 x22 x23 x24 x25 x26 x27 x28 x29 x30 x31 x32 x33 x34 x35 x36 x37 x38 x39 x40 x41 x42 wr => ∃ k : Nat, k ≤ l.length ∧ x4 = .int .i64 k ∧ Aside0 (Ww w0 wr V g ((l.take k).foldl (fun s x => wStripe x s) (wN l.length 1 255 s))) ∧ Aside0 (Vs V W wr)) (fun x4 _ _ _ _ _ _ _ _ _ _ _ _ _ _ _ _ _ _ _ _ _ _ _ _ _ _ _ _ _ _ _ _ _ _ _ => l.length - (intOf x4).toNat)
 case atStart => exact ⟨0, Nat.zero_le _, rfl, ⟨by simpa using HP.out⟩, HV⟩
 case round =>
  obtain ⟨k, hk, rfl, HPr, HVr⟩ := hrel
  obtain ⟨v0, l0, hblk, _⟩ := HPr.out.ex
  by_cases hlt : k < l.length
  ·obtain ⟨t, ht⟩ : ∃ t, t = (l.take k).foldl (fun s x => wStripe x s) (wN l.length 1 255 s) := ⟨_, rfl⟩
   have HF := Aside0.mk (foldl_take (fun s x => wStripe x s) l (wN l.length 1 255 s) k z41 hlt)
   have hGk := HG.out k
   have HGk := Aside0.mk (HG.out (k + 1))
   rw [HF.out] at HGk
   rw [← ht] at HPr HF hGk hblk HGk
   have c1 : wr.cell? ⟨g, 1, none⟩ = some (.bool t.2) := (blk_cell hblk 1).trans rfl
   cases hbad : t.2 with
   | true =>
    have HT : Aside0 (Ww w0 wr V g (wStripes l s)) := ⟨HPr.out.later (by rw [HE.out]; exact hGk) hbad⟩
    rw [hbad] at c1
    clear hbad ht hGk hblk
    go_wp2
    go_end0
    exact ⟨rfl, HT.out, HVr.out⟩
   | false =>
    obtain ⟨ad, B, cb, rfl, hr0, hr1, hr2, hcb, hCB⟩ := stripe_at HC.out k hlt
    have HCB := Aside0.mk hCB
    obtain ⟨x, hx⟩ : ∃ x, x = l.getD k z41 := ⟨_, rfl⟩
    rw [← hx] at hr0 hr1 hr2 HCB HF HGk
    have HR0 := Aside0.mk hr0
    have HR1 := Aside0.mk hr1
    have HR2 := Aside0.mk hr2
    have hq0 := pw_cell_below HPr.out.hb hr0
    have hq1 := pw_cell_below HPr.out.hb hr1
    have hq2 := pw_cell_below HPr.out.hb hr2
    have hlen : (wStripe x t).1.length < 140737488350000 := by have := HGk.out.len; have := HL.out; rw [HE.out] at this; omega
    have HE2 : Aside0 (wStripe x t = wInts x.f2 (wN x.f1 4 1073741824 (wN x.f0 4 1073741824 t))) := ⟨rfl⟩
    have hl2 : (wN x.f1 4 1073741824 (wN x.f0 4 1073741824 t)).1.length < 140737488350000 := by have := (grows_ints x.f2 (wN x.f1 4 1073741824 (wN x.f0 4 1073741824 t))).len; rw [HE2.out] at hlen; omega
    have hl1 : (wN x.f0 4 1073741824 t).1.length < 140737488350000 := by have := (grows_N x.f1 4 1073741824 (wN x.f0 4 1073741824 t)).len; omega
    have hl0 : t.1.length < 140737488350000 := by have := (grows_N x.f0 4 1073741824 t).len; omega
    have HL0 := Aside0.mk hl0
    have HL1 := Aside0.mk hl1
    have HL2 := Aside0.mk hlen
    rw [hbad] at c1
    clear hbad ht hGk hblk hx hr0 hr1 hr2 hlen hl0 hl1 hl2 hcb hCB
    have HN : Aside0 _ := ⟨wnum_calls w0 wr V g x.f0 4 4 rfl 1073741824 (by decide) t HPr.out (by decide) HL0.out⟩
    go_wp2_with fail
    refine HN.out.mono ?_
    rintro e w2 ⟨rfl, hp, hv⟩
    have HP2 := Aside0.mk hp
    have HV2 : Aside0 (Vs V W w2) := ⟨fun k hk => (hv k hk).trans (HVr.out k hk)⟩
    clear hq0 hq1 hq2
    have hq0 := pw_cell_below hp.hb HR0.out
    have hq1 := pw_cell_below hp.hb HR1.out
    have hq2 := pw_cell_below hp.hb HR2.out
    clear hp hv HN
    have HN : Aside0 _ := ⟨wnum_calls w0 w2 V g x.f1 4 4 rfl 1073741824 (by decide) _ HP2.out (by decide) HL1.out⟩
    go_wp2_with fail
    refine HN.out.mono ?_
    rintro e w3 ⟨rfl, hp, hv⟩
    have HP3 := Aside0.mk hp
    have HV3 : Aside0 (Vs V W w3) := ⟨fun k hk => (hv k hk).trans (HV2.out k hk)⟩
    clear hq0 hq1 hq2
    have hq0 := pw_cell_below hp.hb HR0.out
    have hq1 := pw_cell_below hp.hb HR1.out
    have hq2 := pw_cell_below hp.hb HR2.out
    clear hp hv HN
    have HN : Aside0 _ := ⟨wints_calls w0 w3 V g B cb x.f2 _ HP3.out HCB.out HL2.out⟩
    go_wp2_with fail
    refine HN.out.mono ?_
    rintro e w4 ⟨rfl, hp, hv⟩
    have HP4 := Aside0.mk hp
    have HV4 : Aside0 (Vs V W w4) := ⟨fun k hk => (hv k hk).trans (HV3.out k hk)⟩
    clear hq0 hq1 hq2
    have hq0 := pw_cell_below hp.hb HR0.out
    have hq1 := pw_cell_below hp.hb HR1.out
    have hq2 := pw_cell_below hp.hb HR2.out
    clear hp hv HN
    go_wp2
    go_roundw
    case rel => exact ⟨k + 1, by omega, by go_num, ⟨by rw [HF.out]; exact HP4.out⟩, HV4⟩
    case measure => simp [intOf]; omega
  ·obtain rfl : k = l.length := by omega
   have hd : decide (l.length < l.length) = false := decide_eq_false (Nat.lt_irrefl _)
   clear hk hlt hblk
   go_wp2
   go_end0
   exact ⟨rfl, by rw [HE.out]; have := HPr.out; rwa [List.take_of_length_le (Nat.le_refl _)] at this, HVr.out⟩
end Go.Proofs.Ythoebncbhmefmaa.Rc
