/- Drives: the contracts of Lasts, Read. -/
import Derived.Test.YtemmhjghlmhheaaProg
import Derived.Below
import Derived.Deep.Draws
import Derived.Deep.AppendLies
import Derived.Maps.AppendAt
import Derived.OwnWalk
import Derived.Laws.BytesArg
import Derived.Laws.MakeOwn
import Derived.Laws.OwnMore
import Derived.Deep.OwnRows
import Derived.Tactics
import Derived.Lib.ConvBytes
import Derived.Laws.Slices
import Derived.WalkKit
import Derived.KernelRfl
import Derived.RowKit3
import Derived.Deep.LoopGhost
import Derived.Deep.QuietTactic
import Derived.BigQuiet
import Derived.WideLaws
import Derived.Deep.DeepCutAuto
import Derived.Deep.CutBlock
import Derived.Deep.RegionHeld3
import Derived.Laws.Rows
import Derived.Lib.AppendStr
import Derived.ArgAppend
import Derived.Laws.IdiomCopy
import Derived.OrdersHeld
import Derived.Laws.BitsLemmas
import Derived.RowKit
import Derived.Test.YtemmhjghlmhheaaWWords
import Derived.Test.YtemmhjghlmhheaaWLast
import Derived.Test.YtemmhjghlmhheaaWTab
import Derived.Test.YtemmhjghlmhheaaWFour
import Derived.Test.YtemmhjghlmhheaaWQPut
import Derived.Test.YtemmhjghlmhheaaWApart
import Derived.Test.YtemmhjghlmhheaaWArr
import Derived.Test.YtemmhjghlmhheaaWZeros
import Derived.Test.YtemmhjghlmhheaaWFoot
import Derived.Test.YtemmhjghlmhheaaWKept
import Derived.Test.YtemmhjghlmhheaaWShare
import Derived.Test.YtemmhjghlmhheaaWN
import Derived.Test.YtemmhjghlmhheaaWFootNe
import Derived.Test.YtemmhjghlmhheaaWAt
import Derived.Test.YtemmhjghlmhheaaWEqStruct
import Derived.Test.YtemmhjghlmhheaaWRepsOne
import Derived.Test.YtemmhjghlmhheaaWInv
import Derived.Test.YtemmhjghlmhheaaWInvWords
import Derived.Test.YtemmhjghlmhheaaWGuard
import Derived.Test.YtemmhjghlmhheaaWNEv
import Derived.Test.YtemmhjghlmhheaaWMore
import Derived.Test.YtemmhjghlmhheaaDr3
namespace Go.Proofs.Ytemmhjghlmhheaa.Dr
open Go.RowKit Go.Proofs.YtemmhjghlmhheaaW.PrintWords Go.Proofs.YtemmhjghlmhheaaW.PrintLast Go.Proofs.YtemmhjghlmhheaaW.PrintMore
attribute [local go_sem] max2_int min2_int max_two min_two max_three min_three max_four min_four
set_option linter.unusedVariables false
set_option linter.unusedSimpArgs false
/-- Bytes are few, what is loose is of slots that there are. -/
structure Dr.Fit (d : Dr) : Prop where
  fits : d.Fits
  sl : ∀ b, b ∈ d.slots → b.length ≤ 64
  lo : ∀ p, p ∈ d.loose → p.2.length ≤ 64
theorem fit_slot {d : Dr} (h : d.Fit) (k : Nat) : (d.slots.getD k []).length ≤ 64 := by
  rw [List.getD_eq_getElem?_getD]
  rcases Nat.lt_or_ge k d.slots.length with hk | hk
  · rw [List.getElem?_eq_getElem hk]
    exact h.sl _ (List.getElem_mem hk)
  · rw [List.getElem?_eq_none hk]
    exact Nat.zero_le _
theorem fit_loose {d : Dr} (h : d.Fit) (k : Nat) : (d.loose.getD k (0, [])).2.length ≤ 64 := by
  rw [List.getD_eq_getElem?_getD]
  rcases Nat.lt_or_ge k d.loose.length with hk | hk
  · rw [List.getElem?_eq_getElem hk]
    exact h.lo _ (List.getElem_mem hk)
  · rw [List.getElem?_eq_none hk]
    exact Nat.zero_le _
theorem check_ok {d : Dr} {i : Int} (h : d.check i = 0) : d.lost = false ∧ ∃ j : Nat, i = (j : Int) ∧ j < d.slots.length := by
  unfold Dr.check at h
  split at h
  · cases h
  · rename_i hl
    split at h
    · cases h
    · rename_i h2
      exact ⟨by simpa using hl, i.toNat, by omega, by omega⟩
set_option maxRecDepth 100000 in
set_option maxHeartbeats 1000000 in
theorem lasts_bad (g : Nat) (d : Dr) (i : Int) (ok : Nat → Prop) (w : World) (h : Dp 55 58 w ok g d) (hc : ¬ d.check i = 0) :
    Calls Try.prog 15 #[.pointer (some ⟨g, 0, none⟩), .int .i64 i] w fun e w' => e = .returned (.tuple #[.slice none 0 0, .int .i64 (d.check i)]) ∧ w' = w := by
  have HC := Aside0.mk (check_calls g d i ok w h)
  have h1 : (d.check i == 0) = false := by simpa using hc
  have h2 : (d.check i != 0) = true := by simpa using hc
  obtain ⟨x, hx⟩ : ∃ x, x = d.check i := ⟨_, rfl⟩
  rw [← hx] at HC h1 h2 ⊢
  clear hc hx h
  go_enter Try.func15, Try.ntmps15
  go_wp2_with fail
  refine HC.out.mono ?_
  rintro e w' ⟨rfl, rfl⟩
  go_wp2
  go_ret2
  exact ⟨rfl, rfl⟩
theorem lasts_nil (i : Int) (w : World) :
    Calls Try.prog 15 #[.pointer none, .int .i64 i] w fun e w' => e = .returned (.tuple #[.slice none 0 0, .int .i64 1]) ∧ w' = w := by
  go_enter Try.func15, Try.ntmps15
  go_wp2_with fail
  refine (check_nil i w).mono ?_
  rintro e w' ⟨rfl, rfl⟩
  go_wp2
  go_ret2
  exact ⟨rfl, rfl⟩
set_option maxRecDepth 100000 in
set_option maxHeartbeats 1000000 in
theorem lasts_ok (g : Nat) (d : Dr) (j : Nat) (ok : Nat → Prop) (w : World) (h : Dp 55 58 w ok g d) (hfit : d.Fit) (hc : d.check j = 0) (hj : j < d.slots.length) :
    Calls Try.prog 15 #[.pointer (some ⟨g, 0, none⟩), .int .i64 (j : Int)] w fun e w' => ∃ v_, e = .returned (.tuple #[v_, .int .i64 0]) ∧ U8.R 5 w' w.heap.size (fun _ => True) v_ (d.slots.getD j []) ∧ Below w.heap.size w w' := by
  have HC := Aside0.mk (check_calls g d j ok w h)
  rw [hc] at HC
  have hl := fit_slot hfit j
  obtain ⟨v, u, h⟩ := h
  obtain ⟨c0, c1, c2, hfz⟩ := dv_cell h
  obtain ⟨gv, cap, x, rfl, hx1, hx2, hV⟩ := dv_slotN h j hj
  have hlen : d.slots.length ≤ 9223372036854775807 := by
    obtain ⟨_, _, _, _, _, _, h, _⟩ := dv_len h
    exact h
  obtain ⟨b, hb⟩ : ∃ b, b = d.slots.getD j [] := ⟨_, rfl⟩
  rw [← hb] at hV hl ⊢
  obtain ⟨A, c, rfl⟩ := Kd.V_slice hV
  have HF : Aside0 (U8.C w A b.length b) := ⟨Kd.F_now (Kd.V_F hV)⟩
  have hj2 : (j : Int) < (d.slots.length : Int) := by omega
  clear h hV hb hfit hc
  go_enter Try.func15, Try.ntmps15
  go_wp2_with fail
  refine HC.out.mono ?_
  rintro e w' ⟨rfl, rfl⟩
  go_wp2_with fail
  refine (clone_calls A _ c b _ HF.out (by omega)).mono ?_
  rintro e w1 ⟨v2, rfl, ho, hb1⟩
  have HO := Aside0.mk ho
  have HB := Aside0.mk hb1
  clear ho hb1
  go_wp2
  go_ret2
  exact ⟨_, rfl, HO.out, HB.out⟩
def getw (b : List Int) (l : List (Int × List Int)) (i : Int) : List Int := l.foldl (fun b p => if p.1 = i then p.2 else b) b
theorem getw_take (b : List Int) (l : List (Int × List Int)) (i : Int) (k : Nat) (h : k < l.length) : getw b (l.take (k + 1)) i = if (l.getD k (0, [])).1 = i then (l.getD k (0, [])).2 else getw b (l.take k) i := by
  unfold getw
  rw [List.take_succ_eq_append_getElem h, List.foldl_append, List.getD_eq_getElem?_getD, List.getElem?_eq_getElem h]; rfl
/-- What a slot has. -/
def Dr.get (d : Dr) (j : Nat) : List Int := getw (d.slots.getD j []) d.loose j
set_option maxRecDepth 100000 in
set_option maxHeartbeats 1000000 in
theorem read_bad (g : Nat) (d : Dr) (i : Int) (ok : Nat → Prop) (w : World) (h : Dp 55 58 w ok g d) (hc : ¬ d.check i = 0) :
    Calls Try.prog 13 #[.pointer (some ⟨g, 0, none⟩), .int .i64 i] w fun e w' => e = .returned (.tuple #[.slice none 0 0, .int .i64 (d.check i)]) ∧ w' = w := by
  have HC := Aside0.mk (lasts_bad g d i ok w h hc)
  have h1 : (d.check i == 0) = false := by simpa using hc
  have h2 : (d.check i != 0) = true := by simpa using hc
  obtain ⟨x, hx⟩ : ∃ x, x = d.check i := ⟨_, rfl⟩
  rw [← hx] at HC h1 h2 ⊢
  clear hc hx h
  go_enter Try.func13, Try.ntmps13
  go_wp2_with fail
  refine HC.out.mono ?_
  rintro e w' ⟨rfl, rfl⟩
  go_wp2
  go_ret2
  exact ⟨rfl, rfl⟩
theorem read_nil (i : Int) (w : World) :
    Calls Try.prog 13 #[.pointer none, .int .i64 i] w fun e w' => e = .returned (.tuple #[.slice none 0 0, .int .i64 1]) ∧ w' = w := by
  go_enter Try.func13, Try.ntmps13
  go_wp2_with fail
  refine (lasts_nil i w).mono ?_
  rintro e w' ⟨rfl, rfl⟩
  go_wp2
  go_ret2
  exact ⟨rfl, rfl⟩
set_option maxRecDepth 100000 in
set_option maxHeartbeats 2000000 in
theorem read_ok (g : Nat) (d : Dr) (j : Nat) (ok : Nat → Prop) (w : World) (h : Dp 55 58 w ok g d) (hfit : d.Fit) (hc : d.check j = 0) (hj : j < d.slots.length) :
    Calls Try.prog 13 #[.pointer (some ⟨g, 0, none⟩), .int .i64 (j : Int)] w fun e w' => ∃ v_, e = .returned (.tuple #[v_, .int .i64 0]) ∧ U8.R 5 w' w.heap.size (fun _ => True) v_ (d.get j) ∧ Below w.heap.size w w' := by
  have HC := Aside0.mk (lasts_ok g d j ok w h hfit hc hj)
  obtain ⟨v, u, h⟩ := h
  obtain ⟨A, c, B, cu, rfl, rfl, hl1, hl2⟩ := dv_len h
  have HD := Aside0.mk h
  have HF := Aside0.mk hfit
  obtain ⟨b0, hb0⟩ : ∃ b0, b0 = d.slots.getD j [] := ⟨_, rfl⟩
  have hg : d.get j = getw b0 d.loose j := by rw [hb0]; rfl
  rw [hg]
  rw [← hb0] at HC
  clear h hfit hc hj hb0 hg
  go_enter Try.func13, Try.ntmps13
  go_wp2_with fail
  refine HC.out.mono ?_
  rintro e w1 ⟨v1, rfl, ho1, hb1⟩
  have HO1 := Aside0.mk ho1
  have HB1 := Aside0.mk hb1
  have HD1 := Aside0.mk (HD.out.below hb1)
  obtain ⟨c0, c1, c2, hfz⟩ := dv_cell HD1.out
  clear ho1 hb1
  go_wp2
  go_loopw [6, 9, 24, 25, 26, 27, 28, 29, 30, 31, 32, 33, 34, 35] (fun b p i q1 q2 q3 q4 q5 q6 q7 q8 q9 q10 q11 wr => ∃ k : Nat, k ≤ d.loose.length ∧ i = .int .i64 k ∧ Aside0 (U8.R 5 wr w.heap.size (fun _ => True) b (getw b0 (d.loose.take k) j)) ∧ Aside0 (Dv 55 58 wr ok g (.slice A d.slots.length c) (.slice B d.loose.length cu) d) ∧ Aside0 (Below w.heap.size w wr)) (fun _ _ i _ _ _ _ _ _ _ _ _ _ _ _ => d.loose.length - (intOf i).toNat)
  case atStart => exact ⟨0, Nat.zero_le _, rfl, HO1, HD1, HB1⟩
  case round =>
    obtain ⟨k, hk, rfl, HO, HDr, HBr⟩ := hrel
    by_cases hlt : k < d.loose.length
    · have hgt := getw_take b0 d.loose j k hlt
      have hl64 := fit_loose HF.out k
      obtain ⟨gu, cu', x, hu, hc0, hc1, hx⟩ := dv_looseN HDr.out k hlt
      obtain ⟨p, hp⟩ : ∃ p, p = d.loose.getD k (0, []) := ⟨_, rfl⟩
      rw [← hp] at hc0 hx hgt hl64
      obtain ⟨pi, pb⟩ := p
      simp only at hc0 hx hgt hl64
      injection hu with e1 e2 e3
      subst e1
      obtain ⟨Ax, cx, rfl⟩ := Kd.V_slice hx
      have hB : Below wr.heap.size wr (wr.alloc (.cells #[.int .i64 pi, .slice Ax pb.length cx] 58)) := (Below.refl _ _).alloc (Nat.le_refl _) _
      have HB := Aside0.mk hB
      have HX : Aside0 (U8.C (wr.alloc (.cells #[.int .i64 pi, .slice Ax pb.length cx] 58)) Ax pb.length pb) := ⟨Kd.C_below (Kd.F_now (Kd.V_F hx)) hB⟩
      have HG := Aside0.mk hgt
      clear hp hgt hx e2 e3 hB
      by_cases hq : pi = (j : Int)
      · subst hq
        go_wp2_with fail
        refine (clone_calls Ax _ cx pb _ HX.out (by omega)).mono ?_
        rintro e w2 ⟨v2, rfl, ho2, hb2⟩
        have HB2 : Aside0 (Below wr.heap.size wr w2) := ⟨HB.out.trans (hb2.mono HB.out.size)⟩
        have HO2 := Aside0.mk ho2
        have HZ := Aside0.mk HBr.out.size
        clear ho2 hb2
        go_wp2
        go_roundw
        case rel => exact ⟨k + 1, by omega, by go_num, ⟨by rw [HG.out, if_pos trivial]; exact Kd.R_lower HO2.out (Nat.le_trans HZ.out HB.out.size)⟩, ⟨HDr.out.below HB2.out⟩, ⟨HBr.out.trans (HB2.out.mono HZ.out)⟩⟩
        case measure => simp [intOf]; omega
      · have hq1 : (pi == (j : Int)) = false := by simpa using hq
        have HQ := Aside0.mk hq
        have HZ := Aside0.mk HBr.out.size
        clear hq
        go_wp2
        go_roundw
        case rel => exact ⟨k + 1, by omega, by go_num, ⟨by rw [HG.out, if_neg HQ.out]; exact Kd.R_below HO.out HB.out⟩, ⟨HDr.out.below HB.out⟩, ⟨HBr.out.trans (HB.out.mono HZ.out)⟩⟩
        case measure => simp [intOf]; omega
    · obtain rfl : k = d.loose.length := by omega
      have hd : decide (d.loose.length < d.loose.length) = false := decide_eq_false (Nat.lt_irrefl _)
      rw [List.take_length] at HO
      clear hk hlt
      go_wp2
      go_ret2
      exact ⟨_, rfl, HO.out, HBr.out⟩
end Go.Proofs.Ytemmhjghlmhheaa.Dr
