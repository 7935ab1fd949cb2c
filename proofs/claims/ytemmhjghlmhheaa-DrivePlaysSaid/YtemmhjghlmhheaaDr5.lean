/- Drives: the contracts of Crash, New. -/
import Derived.Test.YtemmhjghlmhheaaProg
import Derived.Below
import Derived.Deep.Draws
import Derived.Deep.AppendLies
import Derived.Maps.AppendAt
import Derived.OwnWalk
import Derived.Laws.BytesArg
import Derived.Laws.MakeOwn
import Derived.Laws.OwnMore
import Derived.Deep.OwnRows
import Derived.Tactics
import Derived.Lib.ConvBytes
import Derived.Laws.Slices
import Derived.WalkKit
import Derived.KernelRfl
import Derived.RowKit3
import Derived.Deep.LoopGhost
import Derived.Deep.QuietTactic
import Derived.BigQuiet
import Derived.WideLaws
import Derived.Deep.DeepCutAuto
import Derived.Deep.CutBlock
import Derived.Deep.RegionHeld3
import Derived.Laws.Rows
import Derived.Lib.AppendStr
import Derived.ArgAppend
import Derived.Laws.IdiomCopy
import Derived.OrdersHeld
import Derived.Laws.BitsLemmas
import Derived.RowKit
import Derived.Test.YtemmhjghlmhheaaWWords
import Derived.Test.YtemmhjghlmhheaaWLast
import Derived.Test.YtemmhjghlmhheaaWTab
import Derived.Test.YtemmhjghlmhheaaWFour
import Derived.Test.YtemmhjghlmhheaaWQPut
import Derived.Test.YtemmhjghlmhheaaWApart
import Derived.Test.YtemmhjghlmhheaaWArr
import Derived.Test.YtemmhjghlmhheaaWZeros
import Derived.Test.YtemmhjghlmhheaaWFoot
import Derived.Test.YtemmhjghlmhheaaWKept
import Derived.Test.YtemmhjghlmhheaaWShare
import Derived.Test.YtemmhjghlmhheaaWN
import Derived.Test.YtemmhjghlmhheaaWFootNe
import Derived.Test.YtemmhjghlmhheaaWAt
import Derived.Test.YtemmhjghlmhheaaWEqStruct
import Derived.Test.YtemmhjghlmhheaaWRepsOne
import Derived.Test.YtemmhjghlmhheaaWInv
import Derived.Test.YtemmhjghlmhheaaWInvWords
import Derived.Test.YtemmhjghlmhheaaWGuard
import Derived.Test.YtemmhjghlmhheaaWNEv
import Derived.Test.YtemmhjghlmhheaaWMore
import Derived.Test.YtemmhjghlmhheaaDr4
import Derived.Laws.BitsAllLaws
namespace Go.Proofs.Ytemmhjghlmhheaa.Dr
open Go.RowKit Go.Proofs.YtemmhjghlmhheaaW.PrintWords Go.Proofs.YtemmhjghlmhheaaW.PrintLast Go.Proofs.YtemmhjghlmhheaaW.PrintMore
attribute [local go_sem] max2_int min2_int max_two min_two max_three min_three max_four min_four
set_option linter.unusedVariables false
set_option linter.unusedSimpArgs false
def bitK (keep : Int) (k : Nat) : Bool := decide (k < 64) && decide (keep / 2 ^ k % 2 = 1)
/-- The slots behind the first k loose writes, of which those last that keep tells. -/
def crashTo (keep : Int) (s : List (List Int)) (l : List (Int × List Int)) : Nat → List (List Int)
  | 0 => s
  | k + 1 => if bitK keep k then (crashTo keep s l k).set (l.getD k (0, [])).1.toNat (l.getD k (0, [])).2 else crashTo keep s l k
theorem crashTo_len (keep : Int) (s : List (List Int)) (l : List (Int × List Int)) : ∀ k, (crashTo keep s l k).length = s.length
  | 0 => rfl
  | k + 1 => by
    unfold crashTo
    split
    · rw [List.length_set, crashTo_len keep s l k]
    · exact crashTo_len keep s l k
def Dr.crash (d : Dr) (keep : Int) : Dr := ⟨crashTo keep d.slots d.loose d.loose.length, [], d.lost⟩
theorem and1 (x : Int) (h0 : 0 ≤ x) (h1 : x < 18446744073709551616) : bits .and .u64 x 1 = x % 2 := by
  rw [u64_and x 1 h0 h1 (by decide) (by decide), show (1 : Int).toNat = 1 from rfl, Nat.and_one_is_mod]
  omega
theorem shr_le (keep : Int) (k : Nat) (h0 : 0 ≤ keep) (h1 : keep < 18446744073709551616) : 0 ≤ keep / 2 ^ k ∧ keep / 2 ^ k < 18446744073709551616 := by
  have hp : (0 : Int) < 2 ^ k := Int.pow_pos (by decide)
  refine ⟨Int.ediv_nonneg h0 (Int.le_of_lt hp), Int.lt_of_le_of_lt (Int.ediv_le_self _ h0) h1⟩
theorem bit_and (keep : Int) (k : Nat) (h0 : 0 ≤ keep) (h1 : keep < 18446744073709551616) (hk : k < 64) : (bits .and .u64 (keep / 2 ^ k) 1 == 1) = bitK keep k := by
  obtain ⟨a, b⟩ := shr_le keep k h0 h1
  rw [and1 _ a b]
  unfold bitK
  rw [decide_eq_true hk, Bool.true_and]
  rfl
theorem bit_rem (keep : Int) (k : Nat) (hk : k < 64) : (keep / 2 ^ k % 2 == 1) = bitK keep k := by
  unfold bitK
  rw [decide_eq_true hk, Bool.true_and]
  rfl
theorem bit_far (keep : Int) (k : Nat) (hk : ¬ k < 64) : bitK keep k = false := by
  unfold bitK
  rw [decide_eq_false hk]; rfl
theorem crash_nil (keep : Int) (w : World) : Calls Try.prog 12 #[.pointer none, .int .u64 keep] w fun e w' => e = .returned (.tuple #[]) ∧ w' = w := by
  go_enter Try.func12, Try.ntmps12
  go_wp2
  refine bodyPost_ret (results_none rfl _ _ _) rfl ?_
  exact ⟨rfl, rfl⟩
set_option maxRecDepth 100000 in
set_option maxHeartbeats 1000000 in
theorem crash_calls (g : Nat) (d : Dr) (keep : Int) (ok : Nat → Prop) (w : World) (h : Dp 55 58 w ok g d) (hfit : d.Fits) (hnew : ∀ k, w.heap.size ≤ k → ok k) (hk0 : 0 ≤ keep) (hk1 : keep < 18446744073709551616) :
    Calls Try.prog 12 #[.pointer (some ⟨g, 0, none⟩), .int .u64 keep] w fun e w' => e = .returned (.tuple #[]) ∧ Dp 55 58 w' ok g (d.crash keep) ∧ Kq w w' ok g := by
  obtain ⟨v, u, h⟩ := h
  obtain ⟨A, c, B, cu, rfl, rfl, hl1, hl2⟩ := dv_len h
  obtain ⟨c0, c1, c2, hfz⟩ := dv_cell h
  obtain ⟨sl, lo, lost⟩ := d
  simp only at c0 c1 c2 hl1 hl2
  have HD := Aside0.mk h
  have HF := Aside0.mk hfit
  have HN := Aside0.mk hnew
  clear h hfit hnew
  go_enter Try.func12, Try.ntmps12
  go_wp2
  go_loopw [4, 5, 13, 14, 15, 16, 17, 18, 19, 20, 21, 22, 23, 24, 25, 26, 27, 28, 29, 30] (fun n p i q1 q2 q3 q4 q5 q6 q7 q8 q9 q10 q11 q12 q13 q14 q15 q16 q17 wr => ∃ k : Nat, k ≤ lo.length ∧ i = .int .i64 k ∧ Aside0 (Dv 55 58 wr ok g (.slice A sl.length c) (.slice B lo.length cu) ⟨crashTo keep sl lo k, lo, lost⟩) ∧ Aside0 (Kq w wr ok g)) (fun _ _ i _ _ _ _ _ _ _ _ _ _ _ _ _ _ _ _ _ _ => lo.length - (intOf i).toNat)
  case atStart => exact ⟨0, Nat.zero_le _, rfl, HD, ⟨Kq.refl _ _ _⟩⟩
  case round =>
    obtain ⟨k, hk, rfl, HDr, HKr⟩ := hrel
    have e0 := crashTo_len keep sl lo k
    by_cases hlt : k < lo.length
    · obtain ⟨h0, h1⟩ := fits_at HF.out k hlt
      obtain ⟨gu, cu', x, hu, hc0, hc1, hx⟩ := dv_looseN HDr.out k hlt
      have hs : crashTo keep sl lo (k + 1) = if bitK keep k then (crashTo keep sl lo k).set (lo.getD k (0, [])).1.toNat (lo.getD k (0, [])).2 else crashTo keep sl lo k := rfl
      obtain ⟨p, hp⟩ : ∃ p, p = lo.getD k (0, []) := ⟨_, rfl⟩
      obtain ⟨s, hs0⟩ : ∃ s, s = crashTo keep sl lo k := ⟨_, rfl⟩
      simp only at h0 h1 hc0 hx
      rw [← hp] at h0 h1 hc0 hx hs
      rw [← hs0] at HDr e0 hs
      obtain ⟨pi, pb⟩ := p
      obtain ⟨j, rfl⟩ : ∃ j : Nat, pi = (j : Int) := ⟨pi.toNat, by simp only at h0; omega⟩
      simp only [Int.toNat_natCast] at h0 h1 hc0 hx hs
      have hj : j < s.length := by omega
      obtain ⟨gv, cv, y, hv, _, _, _⟩ := dv_slotN HDr.out j hj
      injection hu with e1 e2 e3
      subst e1
      injection hv with e4 e5 e6
      subst e4
      obtain ⟨Ax, cx, rfl⟩ := Kd.V_slice hx
      have HS := Aside0.mk hs
      have HX := Aside0.mk hx
      have HE := Aside0.mk e0
      have HJ := Aside0.mk hj
      have hB : Below wr.heap.size wr (wr.alloc (.cells #[.int .i64 (j : Int), .slice Ax pb.length cx] 58)) := (Below.refl _ _).alloc (Nat.le_refl _) _
      have hD1 := HDr.out.below hB
      rw [← HE.out] at hD1
      have HA : Aside0 _ := ⟨do_calls g gv c (.slice (some ⟨gu, 0, none⟩) lo.length cu) (.slice Ax pb.length cx) ⟨s, lo, lost⟩ pb j ok _ _ hD1 HJ.out (Kd.V_below HX.out hB) (fun k hk => ⟨⟨hk.1.1, fun e => hk.2 (by simpa [Value.ownBlock] using e)⟩, fun e => hk.1.2 (by simp [Value.ownBlock, e])⟩)⟩
      have HB := Aside0.mk hB
      clear hp hs0 hs e2 e3 e5 e6 hx e0 hj h0 h1 hB hD1
      by_cases h64 : k < 64
      · have b1 : decide ((k : Int) < 64) = true := decide_eq_true (by omega)
        have b2 : decide (k < 64) = true := decide_eq_true h64
        have hbit : (bits .and .u64 (keep / 2 ^ min k 64) 1 == 1) = bitK keep k := by rw [Nat.min_eq_left (by omega)]; exact bit_and keep k hk0 hk1 h64
        cases hbk : bitK keep k with
        | true =>
          rw [hbk] at hbit HS
          clear h64 hbk
          go_wp2_with fail
          refine HA.out.mono ?_
          rintro e w1 ⟨rfl, hD2, hK2⟩
          have HD2 : Aside0 (Dv 55 58 w1 ok g (.slice (some ⟨gv, 0, none⟩) s.length c) (.slice (some ⟨gu, 0, none⟩) lo.length cu) ⟨s.set j pb, lo, lost⟩) := ⟨hD2⟩
          have HK2 : Aside0 (Kq w w1 ok g) := ⟨(HKr.out.below HB.out).then_ hK2⟩
          clear hD2 hK2 HA
          go_wp2
          go_roundw
          case rel => exact ⟨k + 1, by omega, by go_num, ⟨by rw [HS.out]; (first | rw [if_pos rfl] | rw [if_pos trivial]); rw [← HE.out]; exact HD2.out⟩, HK2⟩
          case measure => simp [intOf]; omega
        | false =>
          rw [hbk] at hbit HS
          clear h64 hbk
          go_wp2
          go_roundw
          case rel => exact ⟨k + 1, by omega, by go_num, ⟨by rw [HS.out, if_neg (by decide)]; exact HDr.out.below HB.out⟩, ⟨HKr.out.below HB.out⟩⟩
          case measure => simp [intOf]; omega
      · have b1 : decide ((k : Int) < 64) = false := decide_eq_false (by omega)
        have b2 : decide (k < 64) = false := decide_eq_false h64
        have hbk := bit_far keep k h64
        rw [hbk] at HS
        clear h64 hbk
        go_wp2
        go_roundw
        case rel => exact ⟨k + 1, by omega, by go_num, ⟨by rw [HS.out, if_neg (by decide)]; exact HDr.out.below HB.out⟩, ⟨HKr.out.below HB.out⟩⟩
        case measure => simp [intOf]; omega
    · obtain rfl : k = lo.length := by omega
      have hd : decide (lo.length < lo.length) = false := decide_eq_false (Nat.lt_irrefl _)
      obtain ⟨c0', c1', c2', hfz'⟩ := dv_cell HDr.out
      clear hk hlt c0 c1 c2 hfz e0
      go_wp2
      go_end0
      refine ⟨rfl, ⟨_, _, (show Dv 55 58 _ ok g (.slice A sl.length c) (.slice none 0 0) ⟨crashTo keep sl lo lo.length, [], lost⟩ from ⟨blk_set HDr.out.blk 1 _, HDr.out.ng, ?_, Kd.N_nil _ _ _ _ _⟩)⟩, HKr.out.set (p := ⟨g, 1, none⟩) (.inl rfl) _⟩
      exact Kd.N_mono (Kd.N_far HDr.out.hv (p := ⟨g, 1, none⟩) (fun k hk e => HDr.out.ng (by have e' : k = g := e; exact e' ▸ hk.1)) _) (fun k hk => ⟨hk.1, by simp [Value.ownBlock]⟩)
def slotsOf (n : Int) : Nat := if n < 0 then 0 else if n.toNat ≤ 128 then n.toNat else 128
def Dr.new (n : Int) : Dr := ⟨List.replicate (slotsOf n) [], [], false⟩
theorem new_end {m : Nat} (w w1 : World) (v : Value) (T : Nat) {Tw : Nat} (hN : Kd.N By 22 w1 w.heap.size (fun k => w.heap.size ≤ k) v (List.replicate m [])) (hB : Below w.heap.size w w1) :
    ∃ g, Ending.returned (.pointer (some ⟨w1.heap.size, 0, none⟩)) = .returned (.pointer (some ⟨g, 0, none⟩)) ∧ Dp T Tw (w1.alloc (.cells #[v, .slice none 0 0, .bool false] T)) (fun k => w.heap.size ≤ k ∧ k < g) g ⟨List.replicate m [], [], false⟩ ∧ Below w.heap.size w (w1.alloc (.cells #[v, .slice none 0 0, .bool false] T)) ∧ w.heap.size ≤ g := by
  refine ⟨_, rfl, ⟨v, .slice none 0 0, heap_alloc_new w1 _, fun h => Nat.lt_irrefl _ h.2, Kd.N_mono (Kd.N_alloc (Kd.N_bound (Kd.N_lower hN (Nat.zero_le _))) _) (fun k hk => ⟨hk, by simp [Value.ownBlock]⟩), Kd.N_nil _ _ _ _ _⟩, hB.alloc hB.size _, hB.size⟩
set_option maxHeartbeats 400000 in
set_option maxRecDepth 100000 in
theorem new_calls (n : Int) (w : World) (hn0 : -9223372036854775808 ≤ n) (hn1 : n < 9223372036854775808) :
    Calls Try.prog 9 #[.int .i64 n] w fun e w' => ∃ g, e = .returned (.pointer (some ⟨g, 0, none⟩)) ∧ Dp 55 58 w' (fun k => w.heap.size ≤ k ∧ k < g) g (Dr.new n) ∧ Below w.heap.size w w' ∧ w.heap.size ≤ g := by
  have hz : Kd.FK By w (fun _ => False) [] [.slice none 0 0] := vb_fk (Kd.V_nil U8 5 w 0 _)
  have HZ := Aside0.mk hz
  clear hz
  by_cases h0 : n < 0
  · have hs : Dr.new n = ⟨List.replicate (0 : Int).toNat [], [], false⟩ := by unfold Dr.new slotsOf; rw [if_pos h0]; rfl
    have h1 : ¬ 0 ≤ n := by omega
    rw [hs]
    clear hs h0
    go_enter Try.func9, Try.ntmps9
    go_wp2_with (at_make; refine Kd.N_make By (w0 := w) w.heap.size 22 rfl rfl 44 (.tmp 5) (.tmp 5) rfl 0 rfl rfl Try.underlying44 (.slice none 0 0) 24 info22 rfl (by decide) (by decide) [] (ok := fun k => w.heap.size ≤ k) (okp := fun _ => False) HZ.out (fun _ h => h.elim) (Nat.le_refl _) (by omega) (by omega) (Below.refl _ _) (Nat.le_refl _) ?_; intro v1 w1 ho hb hg hat; have HO := Aside0.mk ho; have HB := Aside0.mk hb; obtain ⟨A1, n1, hv1⟩ := Kd.N_slice ho; rw [List.length_replicate] at hv1; subst hv1; clear ho hb hg hat)
    go_ret
    exact new_end w w1 _ _ HO.out HB.out
  by_cases h2 : n ≤ 128
  · have hs : Dr.new n = ⟨List.replicate n.toNat [], [], false⟩ := by unfold Dr.new slotsOf; rw [if_neg h0, if_pos (by omega)]
    have h4 : 0 ≤ n := by omega
    rw [hs]
    clear hs h0
    go_enter Try.func9, Try.ntmps9
    go_wp2_with (at_make; refine Kd.N_make By (w0 := w) w.heap.size 22 rfl rfl 44 (.tmp 5) (.tmp 5) rfl n rfl rfl Try.underlying44 (.slice none 0 0) 24 info22 rfl (by decide) (by decide) [] (ok := fun k => w.heap.size ≤ k) (okp := fun _ => False) HZ.out (fun _ h => h.elim) (Nat.le_refl _) (by omega) (by omega) (Below.refl _ _) (Nat.le_refl _) ?_; intro v1 w1 ho hb hg hat; have HO := Aside0.mk ho; have HB := Aside0.mk hb; obtain ⟨A1, n1, hv1⟩ := Kd.N_slice ho; rw [List.length_replicate] at hv1; subst hv1; clear ho hb hg hat)
    go_ret
    exact new_end w w1 _ _ HO.out HB.out
  · have hs : Dr.new n = ⟨List.replicate (128 : Int).toNat [], [], false⟩ := by unfold Dr.new slotsOf; rw [if_neg h0, if_neg (by omega)]; rfl
    have h3 : ¬ n ≤ 128 := h2
    have h4 : 0 ≤ n := by omega
    rw [hs]
    clear hs h0
    go_enter Try.func9, Try.ntmps9
    go_wp2_with (at_make; refine Kd.N_make By (w0 := w) w.heap.size 22 rfl rfl 44 (.tmp 5) (.tmp 5) rfl 128 rfl rfl Try.underlying44 (.slice none 0 0) 24 info22 rfl (by decide) (by decide) [] (ok := fun k => w.heap.size ≤ k) (okp := fun _ => False) HZ.out (fun _ h => h.elim) (Nat.le_refl _) (by omega) (by omega) (Below.refl _ _) (Nat.le_refl _) ?_; intro v1 w1 ho hb hg hat; have HO := Aside0.mk ho; have HB := Aside0.mk hb; obtain ⟨A1, n1, hv1⟩ := Kd.N_slice ho; rw [List.length_replicate] at hv1; subst hv1; clear ho hb hg hat)
    go_ret
    exact new_end w w1 _ _ HO.out HB.out
end Go.Proofs.Ytemmhjghlmhheaa.Dr
