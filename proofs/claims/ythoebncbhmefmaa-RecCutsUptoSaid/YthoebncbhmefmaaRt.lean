/- Records: the contracts of rec.Object and rec.Same. -/
import Derived.Test.YthoebncbhmefmaaProg
import Derived.Below
import Derived.Deep.Draws
import Derived.Deep.AppendLies
import Derived.Maps.AppendAt
import Derived.OwnWalk
import Derived.Laws.BytesArg
import Derived.Laws.MakeOwn
import Derived.Laws.OwnMore
import Derived.Deep.OwnRows
import Derived.Tactics
import Derived.Lib.ConvBytes
import Derived.Laws.Slices
import Derived.WalkKit
import Derived.KernelRfl
import Derived.RowKit3
import Derived.Deep.LoopGhost
import Derived.Deep.QuietTactic
import Derived.BigQuiet
import Derived.WideLaws
import Derived.Deep.DeepCutAuto
import Derived.Deep.CutBlock
import Derived.Deep.RegionHeld3
import Derived.Laws.Rows
import Derived.Lib.AppendStr
import Derived.ArgAppend
import Derived.Laws.IdiomCopy
import Derived.OrdersHeld
import Derived.Laws.BitsLemmas
import Derived.RowKit
import Derived.Test.YthoebncbhmefmaaWWords
import Derived.Test.YthoebncbhmefmaaWLast
import Derived.Test.YthoebncbhmefmaaWTab
import Derived.Test.YthoebncbhmefmaaWFour
import Derived.Test.YthoebncbhmefmaaWQPut
import Derived.Test.YthoebncbhmefmaaWApart
import Derived.Test.YthoebncbhmefmaaWArr
import Derived.Test.YthoebncbhmefmaaWZeros
import Derived.Test.YthoebncbhmefmaaWFoot
import Derived.Test.YthoebncbhmefmaaWKept
import Derived.Test.YthoebncbhmefmaaWShare
import Derived.Test.YthoebncbhmefmaaWN
import Derived.Test.YthoebncbhmefmaaWFootNe
import Derived.Test.YthoebncbhmefmaaWAt
import Derived.Test.YthoebncbhmefmaaWEqStruct
import Derived.Test.YthoebncbhmefmaaWRepsOne
import Derived.Test.YthoebncbhmefmaaWInv
import Derived.Test.YthoebncbhmefmaaWInvWords
import Derived.Test.YthoebncbhmefmaaWGuard
import Derived.Test.YthoebncbhmefmaaWNEv
import Derived.Test.YthoebncbhmefmaaWMore
import Derived.Test.YthoebncbhmefmaaRs
namespace Go.Proofs.Ythoebncbhmefmaa.Rc
open Go.RowKit Go.Proofs.YthoebncbhmefmaaW.PrintWords Go.Proofs.YthoebncbhmefmaaW.PrintLast Go.Proofs.YthoebncbhmefmaaW.PrintMore
attribute [local go_sem] max2_int min2_int max_two min_two max_three min_three max_four min_four
set_option linter.unusedVariables false
set_option linter.unusedSimpArgs false
set_option maxHeartbeats 4000000 in
set_option maxRecDepth 100000 in
theorem eqSs_calls (N : Nat) (hN : N < 140737488350000) (A1 A2 : Option Addr) (c1 c2 : Nat) (l1 l2 : List S41) (w : World) (hC1 : k41.C w A1 l1.length l1) (hC2 : k41.C w A2 l2.length l2) (hf1 : FewS N l1) :
    Calls Try.prog 37 #[.slice A1 l1.length c1, .slice A2 l2.length c2, .func (.func 38) #[] #[]] w fun e w' => e = .returned (.bool (eqSs l1 l2)) ∧ Below w.heap.size w w' := by
  have HC1 := Aside0.mk hC1
  have HC2 := Aside0.mk hC2
  have HF1 := Aside0.mk hf1
  have hlN := hf1.1
  have HNN := Aside0.mk hN
  by_cases hlen : l1.length = l2.length
  · have hne : (((l1.length : Nat) : Int) != ((l2.length : Nat) : Int)) = false := by rw [hlen]; simp
    have hl2 : decide (l1.length < l1.length) = false := decide_eq_false (Nat.lt_irrefl _)
    have HLE := Aside0.mk hlen
    have hll : l1.length < 140737488350000 := by omega
    clear hC1 hC2 hf1 hlN hN hlen
    go_enter Try.func37, Try.ntmps37
    go_wp2
    go_loopw [7, 8, 9, 17, 18, 19, 20, 21, 22, 23, 24, 25, 26, 27, 28, 29, 30, 31] (fun x7 x8 x9 x17 x18 x19 x20 x21 x22 x23 x24 x25 x26 x27 x28 x29 x30 x31 wr => ∃ k : Nat, k ≤ l1.length ∧ x17 = .int .i64 k ∧ Aside0 (Below w.heap.size w wr) ∧ Aside0 (eqSs l1 l2 = eqSs (l1.drop k) (l2.drop k))) (fun _ _ _ x17 _ _ _ _ _ _ _ _ _ _ _ _ _ _ _ => l1.length - (intOf x17).toNat)
    case atStart => exact ⟨0, Nat.zero_le _, rfl, ⟨Below.refl _ _⟩, ⟨by simp⟩⟩
    case round =>
      obtain ⟨k, hk, rfl, HB, HE⟩ := hrel
      by_cases hlt : k < l1.length
      · have hlt2 : k < l2.length := by have := HLE.out; omega
        obtain ⟨ad1, B1, b1, rfl, p10, p11, p12, hb1, hB1⟩ := stripe_at (Kd.C_below HC1.out HB.out) k hlt
        obtain ⟨ad2, B2, b2, rfl, p20, p21, p22, hb2, hB2⟩ := stripe_at (Kd.C_below HC2.out HB.out) k hlt2
        have HD := Aside0.mk (eqSs_drop l1 l2 k hlt hlt2)
        have hfx := HF1.out.2 _ (getD_mem l1 k z41 hlt)
        obtain ⟨x, hx⟩ : ∃ x, x = l1.getD k z41 := ⟨_, rfl⟩
        obtain ⟨y, hy⟩ : ∃ y, y = l2.getD k z41 := ⟨_, rfl⟩
        rw [← hx] at p10 p11 p12 hb1 hB1 HD hfx
        rw [← hy] at p20 p21 p22 hb2 hB2 HD
        have HFX := Aside0.mk hfx
        obtain ⟨wo, hwo⟩ : ∃ wo, wo = wr.alloc (.cells #[.int .i64 x.f0, .int .i64 x.f1, .slice B1 x.f2.length b1] 41) := ⟨_, rfl⟩
        have hBo : Below wr.heap.size wr wo := by rw [hwo]; exact (Below.refl _ _).alloc (Nat.le_refl _) _
        have hbk : wo.heap[wr.heap.size]? = some (.cells #[.int .i64 x.f0, .int .i64 x.f1, .slice B1 x.f2.length b1] 41 (0, 0)) := by rw [hwo]; exact heap_alloc_new wr _
        obtain ⟨wv, hwv⟩ : ∃ wv, wv = wo.alloc (.cells #[.int .i64 y.f0, .int .i64 y.f1, .slice B2 y.f2.length b2] 41) := ⟨_, rfl⟩
        have hBv : Below wo.heap.size wo wv := by rw [hwv]; exact (Below.refl _ _).alloc (Nat.le_refl _) _
        have hbv : wv.heap[wo.heap.size]? = some (.cells #[.int .i64 y.f0, .int .i64 y.f1, .slice B2 y.f2.length b2] 41 (0, 0)) := by rw [hwv]; exact heap_alloc_new wo _
        have hbk2 := blk_below hbk hBv
        have HWO := Aside0.mk hwo
        have HWV := Aside0.mk hwv
        have HB2 : Aside0 (Below w.heap.size w wv) := ⟨(HB.out.trans (hBo.mono HB.out.size)).trans (hBv.mono (Nat.le_trans HB.out.size hBo.size))⟩
        have d0 : wv.cell? ⟨wr.heap.size, 0, none⟩ = some (.int .i64 x.f0) := (blk_cell hbk2 0).trans rfl
        have d1 : wv.cell? ⟨wr.heap.size, 1, none⟩ = some (.int .i64 x.f1) := (blk_cell hbk2 1).trans rfl
        have d2 : wv.cell? ⟨wr.heap.size, 2, none⟩ = some (.slice B1 x.f2.length b1) := (blk_cell hbk2 2).trans rfl
        have e0 : wv.cell? ⟨wo.heap.size, 0, none⟩ = some (.int .i64 y.f0) := (blk_cell hbv 0).trans rfl
        have e1 : wv.cell? ⟨wo.heap.size, 1, none⟩ = some (.int .i64 y.f1) := (blk_cell hbv 1).trans rfl
        have e2 : wv.cell? ⟨wo.heap.size, 2, none⟩ = some (.slice B2 y.f2.length b2) := (blk_cell hbv 2).trans rfl
        have hlo : wr.heap.size < wo.heap.size := blk_lt hbk
        have hX1 := Kd.C_below (Kd.C_below hB1 hBo) hBv
        have hX2 := Kd.C_below (Kd.C_below hB2 hBo) hBv
        replace p20 := pw_cell_below hBo p20
        replace p21 := pw_cell_below hBo p21
        replace p22 := pw_cell_below hBo p22
        have HCA : Aside0 _ := ⟨rec_Stripe.calls (N + 1) x.f0 x.f1 B1 b1 x.f2 y.f0 y.f1 B2 b2 y.f2 (eqS x y) wv hX1 hb1 hX2 hb2 (rstripe_f x y (by have := HFX.out; have := HNN.out; omega) (N + 1) (by have := HFX.out; omega))⟩
        clear hx hy hfx hwo hBo hbk hwv hBv hbv hbk2 hlo hb1 hB1 hb2 hB2 hX1 hX2
        go_upto_region 6 with fail
        rw [← HWO.out]
        go_upto_region 7 with fail
        rw [← HWV.out]
        go_wp2_with fail
        refine HCA.out.mono ?_
        rintro e w5 ⟨rfl, hb5⟩
        have HB5 : Aside0 (Below w.heap.size w w5) := ⟨HB2.out.trans (hb5.mono HB2.out.size)⟩
        clear hb5 HCA
        cases hq : eqS x y with
        | false =>
          have HR : Aside0 (eqSs l1 l2 = false) := ⟨by rw [HE.out, HD.out, hq]; rfl⟩
          clear hq
          go_wp2
          go_ret
          exact ⟨by rw [HR.out]; rfl, HB5.out⟩
        | true =>
          have HR : Aside0 (eqSs l1 l2 = eqSs (l1.drop (k + 1)) (l2.drop (k + 1))) := ⟨by rw [HE.out, HD.out, hq]; rfl⟩
          clear hq
          go_wp2
          go_roundw
          case rel => exact ⟨k + 1, by omega, by go_num, HB5, HR⟩
          case measure => simp [intOf]; omega
      · obtain rfl : k = l1.length := by omega
        have HR : Aside0 (eqSs l1 l2 = true) := ⟨by rw [HE.out, List.drop_of_length_le (Nat.le_refl _), List.drop_of_length_le (by have := HLE.out; omega)]; rfl⟩
        clear hk hlt
        go_wp2
        go_ret
        exact ⟨by rw [HR.out]; rfl, HB.out⟩
  · have hne : (((l1.length : Nat) : Int) != ((l2.length : Nat) : Int)) = true := by rw [bne_iff_ne]; omega
    have hne2 : (((l1.length : Nat) : Int) == ((l2.length : Nat) : Int)) = false := by rw [beq_eq_false_iff_ne]; omega
    have HR := Aside0.mk (eqSs_len l1 l2 hlen)
    clear hC1 hC2 hf1 hlN hN hlen
    go_enter Try.func37, Try.ntmps37
    go_wp2
    go_ret
    exact ⟨by rw [HR.out]; rfl, Below.refl _ _⟩
set_option maxHeartbeats 4000000 in
set_option maxRecDepth 100000 in
theorem object_same (N : Nat) (hN : N < 140737488350000) (B1 B2 : Option Addr) (b1 b2 : Nat) (x y : S44) (w : World) (hC1 : k41.C w B1 x.f3.length x.f3) (hC2 : k41.C w B2 y.f3.length y.f3) (hf : FewS N x.f3) :
    Calls Try.prog 40 #[.agg #[.string x.f0, .int .i64 x.f1, .int .i64 x.f2, .slice B1 x.f3.length b1], .agg #[.string y.f0, .int .i64 y.f1, .int .i64 y.f2, .slice B2 y.f3.length b2]] w fun e w' => e = .returned (.bool (eqO x y)) ∧ Below w.heap.size w w' := by
  have HC1 := Aside0.mk hC1
  have HC2 := Aside0.mk hC2
  have HF := Aside0.mk hf
  have HNN := Aside0.mk hN
  clear hC1 hC2 hf hN
  obtain ⟨wo, hwo⟩ : ∃ wo, wo = w.alloc (.cells #[.string x.f0, .int .i64 x.f1, .int .i64 x.f2, .slice B1 x.f3.length b1] 44) := ⟨_, rfl⟩
  have hBo : Below w.heap.size w wo := by rw [hwo]; exact (Below.refl _ _).alloc (Nat.le_refl _) _
  have hbk : wo.heap[w.heap.size]? = some (.cells #[.string x.f0, .int .i64 x.f1, .int .i64 x.f2, .slice B1 x.f3.length b1] 44 (0, 0)) := by rw [hwo]; exact heap_alloc_new w _
  obtain ⟨wv, hwv⟩ : ∃ wv, wv = wo.alloc (.cells #[.string y.f0, .int .i64 y.f1, .int .i64 y.f2, .slice B2 y.f3.length b2] 44) := ⟨_, rfl⟩
  have hBv : Below wo.heap.size wo wv := by rw [hwv]; exact (Below.refl _ _).alloc (Nat.le_refl _) _
  have hbv : wv.heap[wo.heap.size]? = some (.cells #[.string y.f0, .int .i64 y.f1, .int .i64 y.f2, .slice B2 y.f3.length b2] 44 (0, 0)) := by rw [hwv]; exact heap_alloc_new wo _
  have hsz : wo.heap.size = w.heap.size + 1 := by rw [hwo]; exact Array.size_push ..
  rw [hsz] at hbv
  have hbk2 := blk_below hbk hBv
  have HWO := Aside0.mk hwo
  have HWV := Aside0.mk hwv
  have HB0 : Aside0 (Below w.heap.size w wv) := ⟨hBo.trans (hBv.mono hBo.size)⟩
  have d0 : wv.cell? ⟨w.heap.size, 0, none⟩ = some (.string x.f0) := (blk_cell hbk2 0).trans rfl
  have d1 : wv.cell? ⟨w.heap.size, 1, none⟩ = some (.int .i64 x.f1) := (blk_cell hbk2 1).trans rfl
  have d2 : wv.cell? ⟨w.heap.size, 2, none⟩ = some (.int .i64 x.f2) := (blk_cell hbk2 2).trans rfl
  have d3 : wv.cell? ⟨w.heap.size, 3, none⟩ = some (.slice B1 x.f3.length b1) := (blk_cell hbk2 3).trans rfl
  have e0 : wv.cell? ⟨w.heap.size + 1, 0, none⟩ = some (.string y.f0) := (blk_cell hbv 0).trans rfl
  have e1 : wv.cell? ⟨w.heap.size + 1, 1, none⟩ = some (.int .i64 y.f1) := (blk_cell hbv 1).trans rfl
  have e2 : wv.cell? ⟨w.heap.size + 1, 2, none⟩ = some (.int .i64 y.f2) := (blk_cell hbv 2).trans rfl
  have e3 : wv.cell? ⟨w.heap.size + 1, 3, none⟩ = some (.slice B2 y.f3.length b2) := (blk_cell hbv 3).trans rfl
  clear hsz hwo hBo hbk hwv hBv hbv hbk2
  by_cases h0 : x.f0.toList = y.f0.toList
  rotate_left
  · skip
    have HR : Aside0 (eqO x y = false) := ⟨by unfold eqO; simp only [h0, decide_true, decide_false, Bool.true_and, Bool.false_and, Bool.and_false]⟩
    have tb0 : (x.f0.toList == y.f0.toList) = false := by simpa using h0
    have tc0 : decide (x.f0.toList = y.f0.toList) = false := by simpa using h0
    clear h0
    go_enter Try.func40, Try.ntmps40
    go_upto_region 1 with fail
    rw [← HWO.out, ← HWV.out]
    go_wp2
    go_ret
    exact ⟨by rw [HR.out]; rfl, HB0.out⟩
  have tb0 : (x.f0.toList == y.f0.toList) = true := by simpa using h0
  have tc0 : decide (x.f0.toList = y.f0.toList) = true := by simpa using h0
  by_cases h1 : x.f1 = y.f1
  rotate_left
  · skip
    have HR : Aside0 (eqO x y = false) := ⟨by unfold eqO; simp only [h0, h1, decide_true, decide_false, Bool.true_and, Bool.false_and, Bool.and_false]⟩
    have tb1 : (x.f1 == y.f1) = false := by simpa using h1
    have tc1 : decide (x.f1 = y.f1) = false := by simpa using h1
    clear h0 h1
    go_enter Try.func40, Try.ntmps40
    go_upto_region 1 with fail
    rw [← HWO.out, ← HWV.out]
    go_wp2
    go_ret
    exact ⟨by rw [HR.out]; rfl, HB0.out⟩
  have tb1 : (x.f1 == y.f1) = true := by simpa using h1
  have tc1 : decide (x.f1 = y.f1) = true := by simpa using h1
  by_cases h2 : x.f2 = y.f2
  rotate_left
  · skip
    have HR : Aside0 (eqO x y = false) := ⟨by unfold eqO; simp only [h0, h1, h2, decide_true, decide_false, Bool.true_and, Bool.false_and, Bool.and_false]⟩
    have tb2 : (x.f2 == y.f2) = false := by simpa using h2
    have tc2 : decide (x.f2 = y.f2) = false := by simpa using h2
    clear h0 h1 h2
    go_enter Try.func40, Try.ntmps40
    go_upto_region 1 with fail
    rw [← HWO.out, ← HWV.out]
    go_wp2
    go_ret
    exact ⟨by rw [HR.out]; rfl, HB0.out⟩
  have tb2 : (x.f2 == y.f2) = true := by simpa using h2
  have tc2 : decide (x.f2 = y.f2) = true := by simpa using h2
  have HR : Aside0 (eqO x y = eqSs x.f3 y.f3) := ⟨by unfold eqO; simp only [h0, h1, h2, decide_true, Bool.true_and]⟩
  have HCA : Aside0 _ := ⟨eqSs_calls N HNN.out B1 B2 b1 b2 x.f3 y.f3 wv (Kd.C_below HC1.out HB0.out) (Kd.C_below HC2.out HB0.out) HF.out⟩
  clear h0 h1 h2
  go_enter Try.func40, Try.ntmps40
  go_upto_region 1 with fail
  rw [← HWO.out, ← HWV.out]
  obtain ⟨q, hq⟩ : ∃ q, q = eqSs x.f3 y.f3 := ⟨_, rfl⟩
  rw [← hq] at HR HCA
  clear hq
  go_wp2_with fail
  refine HCA.out.mono ?_
  rintro e w5 ⟨rfl, hb5⟩
  have HB5 : Aside0 (Below w.heap.size w w5) := ⟨HB0.out.trans (hb5.mono HB0.out.size)⟩
  clear hb5
  go_wp2
  go_ret
  exact ⟨by rw [HR.out]; rfl, HB5.out⟩
set_option maxHeartbeats 4000000 in
set_option maxRecDepth 100000 in
theorem eqOs_calls (N : Nat) (hN : N < 140737488350000) (A1 A2 : Option Addr) (c1 c2 : Nat) (l1 l2 : List S44) (w : World) (hC1 : k44.C w A1 l1.length l1) (hC2 : k44.C w A2 l2.length l2) (hf1 : FewO N l1) :
    Calls Try.prog 39 #[.slice A1 l1.length c1, .slice A2 l2.length c2, .func (.func 40) #[] #[]] w fun e w' => e = .returned (.bool (eqOs l1 l2)) ∧ Below w.heap.size w w' := by
  have HC1 := Aside0.mk hC1
  have HC2 := Aside0.mk hC2
  have HF1 := Aside0.mk hf1
  have hlN := hf1.1
  have HNN := Aside0.mk hN
  by_cases hlen : l1.length = l2.length
  · have hne : (((l1.length : Nat) : Int) != ((l2.length : Nat) : Int)) = false := by rw [hlen]; simp
    have hl2 : decide (l1.length < l1.length) = false := decide_eq_false (Nat.lt_irrefl _)
    have HLE := Aside0.mk hlen
    have hll : l1.length < 140737488350000 := by omega
    clear hC1 hC2 hf1 hlN hN hlen
    go_enter Try.func39, Try.ntmps39
    go_wp2
    go_loopw [7, 8, 9, 17, 18, 19, 20, 21, 22, 23, 24, 25, 26, 27, 28, 29, 30, 31] (fun x7 x8 x9 x17 x18 x19 x20 x21 x22 x23 x24 x25 x26 x27 x28 x29 x30 x31 wr => ∃ k : Nat, k ≤ l1.length ∧ x17 = .int .i64 k ∧ Aside0 (Below w.heap.size w wr) ∧ Aside0 (eqOs l1 l2 = eqOs (l1.drop k) (l2.drop k))) (fun _ _ _ x17 _ _ _ _ _ _ _ _ _ _ _ _ _ _ _ => l1.length - (intOf x17).toNat)
    case atStart => exact ⟨0, Nat.zero_le _, rfl, ⟨Below.refl _ _⟩, ⟨by simp⟩⟩
    case round =>
      obtain ⟨k, hk, rfl, HB, HE⟩ := hrel
      by_cases hlt : k < l1.length
      · have hlt2 : k < l2.length := by have := HLE.out; omega
        obtain ⟨ad1, B1, b1, rfl, p10, p11, p12, p13, hb1, hB1⟩ := object_at (Kd.C_below HC1.out HB.out) k hlt
        obtain ⟨ad2, B2, b2, rfl, p20, p21, p22, p23, hb2, hB2⟩ := object_at (Kd.C_below HC2.out HB.out) k hlt2
        have HD := Aside0.mk (eqOs_drop l1 l2 k hlt hlt2)
        have hfx := HF1.out.2 _ (getD_mem l1 k z44 hlt)
        obtain ⟨x, hx⟩ : ∃ x, x = l1.getD k z44 := ⟨_, rfl⟩
        obtain ⟨y, hy⟩ : ∃ y, y = l2.getD k z44 := ⟨_, rfl⟩
        rw [← hx] at p10 p11 p12 p13 hb1 hB1 HD hfx
        rw [← hy] at p20 p21 p22 p23 hb2 hB2 HD
        have HFX := Aside0.mk hfx
        obtain ⟨wo, hwo⟩ : ∃ wo, wo = wr.alloc (.cells #[.string x.f0, .int .i64 x.f1, .int .i64 x.f2, .slice B1 x.f3.length b1] 44) := ⟨_, rfl⟩
        have hBo : Below wr.heap.size wr wo := by rw [hwo]; exact (Below.refl _ _).alloc (Nat.le_refl _) _
        have hbk : wo.heap[wr.heap.size]? = some (.cells #[.string x.f0, .int .i64 x.f1, .int .i64 x.f2, .slice B1 x.f3.length b1] 44 (0, 0)) := by rw [hwo]; exact heap_alloc_new wr _
        obtain ⟨wv, hwv⟩ : ∃ wv, wv = wo.alloc (.cells #[.string y.f0, .int .i64 y.f1, .int .i64 y.f2, .slice B2 y.f3.length b2] 44) := ⟨_, rfl⟩
        have hBv : Below wo.heap.size wo wv := by rw [hwv]; exact (Below.refl _ _).alloc (Nat.le_refl _) _
        have hbv : wv.heap[wo.heap.size]? = some (.cells #[.string y.f0, .int .i64 y.f1, .int .i64 y.f2, .slice B2 y.f3.length b2] 44 (0, 0)) := by rw [hwv]; exact heap_alloc_new wo _
        have hbk2 := blk_below hbk hBv
        have HWO := Aside0.mk hwo
        have HWV := Aside0.mk hwv
        have HB2 : Aside0 (Below w.heap.size w wv) := ⟨(HB.out.trans (hBo.mono HB.out.size)).trans (hBv.mono (Nat.le_trans HB.out.size hBo.size))⟩
        have d0 : wv.cell? ⟨wr.heap.size, 0, none⟩ = some (.string x.f0) := (blk_cell hbk2 0).trans rfl
        have d1 : wv.cell? ⟨wr.heap.size, 1, none⟩ = some (.int .i64 x.f1) := (blk_cell hbk2 1).trans rfl
        have d2 : wv.cell? ⟨wr.heap.size, 2, none⟩ = some (.int .i64 x.f2) := (blk_cell hbk2 2).trans rfl
        have d3 : wv.cell? ⟨wr.heap.size, 3, none⟩ = some (.slice B1 x.f3.length b1) := (blk_cell hbk2 3).trans rfl
        have e0 : wv.cell? ⟨wo.heap.size, 0, none⟩ = some (.string y.f0) := (blk_cell hbv 0).trans rfl
        have e1 : wv.cell? ⟨wo.heap.size, 1, none⟩ = some (.int .i64 y.f1) := (blk_cell hbv 1).trans rfl
        have e2 : wv.cell? ⟨wo.heap.size, 2, none⟩ = some (.int .i64 y.f2) := (blk_cell hbv 2).trans rfl
        have e3 : wv.cell? ⟨wo.heap.size, 3, none⟩ = some (.slice B2 y.f3.length b2) := (blk_cell hbv 3).trans rfl
        have hlo : wr.heap.size < wo.heap.size := blk_lt hbk
        have hX1 := Kd.C_below (Kd.C_below hB1 hBo) hBv
        have hX2 := Kd.C_below (Kd.C_below hB2 hBo) hBv
        replace p20 := pw_cell_below hBo p20
        replace p21 := pw_cell_below hBo p21
        replace p22 := pw_cell_below hBo p22
        replace p23 := pw_cell_below hBo p23
        have HCA : Aside0 _ := ⟨object_same N HNN.out B1 B2 b1 b2 x y wv hX1 hX2 HFX.out⟩
        clear hx hy hfx hwo hBo hbk hwv hBv hbv hbk2 hlo hb1 hB1 hb2 hB2 hX1 hX2
        go_upto_region 6 with fail
        rw [← HWO.out]
        go_upto_region 7 with fail
        rw [← HWV.out]
        go_wp2_with fail
        refine HCA.out.mono ?_
        rintro e w5 ⟨rfl, hb5⟩
        have HB5 : Aside0 (Below w.heap.size w w5) := ⟨HB2.out.trans (hb5.mono HB2.out.size)⟩
        clear hb5 HCA
        cases hq : eqO x y with
        | false =>
          have HR : Aside0 (eqOs l1 l2 = false) := ⟨by rw [HE.out, HD.out, hq]; rfl⟩
          clear hq
          go_wp2
          go_ret
          exact ⟨by rw [HR.out]; rfl, HB5.out⟩
        | true =>
          have HR : Aside0 (eqOs l1 l2 = eqOs (l1.drop (k + 1)) (l2.drop (k + 1))) := ⟨by rw [HE.out, HD.out, hq]; rfl⟩
          clear hq
          go_wp2
          go_roundw
          case rel => exact ⟨k + 1, by omega, by go_num, HB5, HR⟩
          case measure => simp [intOf]; omega
      · obtain rfl : k = l1.length := by omega
        have HR : Aside0 (eqOs l1 l2 = true) := ⟨by rw [HE.out, List.drop_of_length_le (Nat.le_refl _), List.drop_of_length_le (by have := HLE.out; omega)]; rfl⟩
        clear hk hlt
        go_wp2
        go_ret
        exact ⟨by rw [HR.out]; rfl, HB.out⟩
  · have hne : (((l1.length : Nat) : Int) != ((l2.length : Nat) : Int)) = true := by rw [bne_iff_ne]; omega
    have hne2 : (((l1.length : Nat) : Int) == ((l2.length : Nat) : Int)) = false := by rw [beq_eq_false_iff_ne]; omega
    have HR := Aside0.mk (eqOs_len l1 l2 hlen)
    clear hC1 hC2 hf1 hlN hN hlen
    go_enter Try.func39, Try.ntmps39
    go_wp2
    go_ret
    exact ⟨by rw [HR.out]; rfl, Below.refl _ _⟩
set_option maxHeartbeats 4000000 in
set_option maxRecDepth 100000 in
theorem rsame_calls (N : Nat) (hN : N < 140737488350000) (P1 Q1 D1 P2 Q2 D2 : Option Addr) (p1 q1 d1_ p2 q2 d2_ : Nat) (x y : Rc) (w : World) (hf : FewR N x)
    (hP1 : k41.C w P1 x.strs.length x.strs) (hQ1 : k44.C w Q1 x.objs.length x.objs) (hD1 : (Kd.int .i64).C w D1 x.drv.length x.drv) (hP2 : k41.C w P2 y.strs.length y.strs) (hQ2 : k44.C w Q2 y.objs.length y.objs) (hD2 : (Kd.int .i64).C w D2 y.drv.length y.drv) (hd1 : x.drv.length ≤ d1_) (hd2 : y.drv.length ≤ d2_) :
    Calls Try.prog 15 #[.agg #[.int .i64 x.kind, .int .i64 x.id, .int .i64 x.size, .string x.key, .slice P1 x.strs.length p1, .slice Q1 x.objs.length q1, .slice D1 x.drv.length d1_], .agg #[.int .i64 y.kind, .int .i64 y.id, .int .i64 y.size, .string y.key, .slice P2 y.strs.length p2, .slice Q2 y.objs.length q2, .slice D2 y.drv.length d2_]] w fun e w' => e = .returned (.bool (eqR x y)) ∧ Below w.heap.size w w' := by
  have HP1 := Aside0.mk hP1
  have HQ1 := Aside0.mk hQ1
  have HD1 := Aside0.mk hD1
  have HP2 := Aside0.mk hP2
  have HQ2 := Aside0.mk hQ2
  have HD2 := Aside0.mk hD2
  have Hd1 := Aside0.mk hd1
  have Hd2 := Aside0.mk hd2
  have HF := Aside0.mk hf
  have HNN := Aside0.mk hN
  clear hP1 hQ1 hD1 hP2 hQ2 hD2 hf hN hd1 hd2
  obtain ⟨wo, hwo⟩ : ∃ wo, wo = w.alloc (.cells #[.int .i64 x.kind, .int .i64 x.id, .int .i64 x.size, .string x.key, .slice P1 x.strs.length p1, .slice Q1 x.objs.length q1, .slice D1 x.drv.length d1_] 26) := ⟨_, rfl⟩
  have hBo : Below w.heap.size w wo := by rw [hwo]; exact (Below.refl _ _).alloc (Nat.le_refl _) _
  have hbk : wo.heap[w.heap.size]? = some (.cells #[.int .i64 x.kind, .int .i64 x.id, .int .i64 x.size, .string x.key, .slice P1 x.strs.length p1, .slice Q1 x.objs.length q1, .slice D1 x.drv.length d1_] 26 (0, 0)) := by rw [hwo]; exact heap_alloc_new w _
  obtain ⟨wv, hwv⟩ : ∃ wv, wv = wo.alloc (.cells #[.int .i64 y.kind, .int .i64 y.id, .int .i64 y.size, .string y.key, .slice P2 y.strs.length p2, .slice Q2 y.objs.length q2, .slice D2 y.drv.length d2_] 26) := ⟨_, rfl⟩
  have hBv : Below wo.heap.size wo wv := by rw [hwv]; exact (Below.refl _ _).alloc (Nat.le_refl _) _
  have hbv : wv.heap[wo.heap.size]? = some (.cells #[.int .i64 y.kind, .int .i64 y.id, .int .i64 y.size, .string y.key, .slice P2 y.strs.length p2, .slice Q2 y.objs.length q2, .slice D2 y.drv.length d2_] 26 (0, 0)) := by rw [hwv]; exact heap_alloc_new wo _
  have hsz : wo.heap.size = w.heap.size + 1 := by rw [hwo]; exact Array.size_push ..
  rw [hsz] at hbv
  have hbk2 := blk_below hbk hBv
  have HWO := Aside0.mk hwo
  have HWV := Aside0.mk hwv
  have HB0 : Aside0 (Below w.heap.size w wv) := ⟨hBo.trans (hBv.mono hBo.size)⟩
  have d0 : wv.cell? ⟨w.heap.size, 0, none⟩ = some (.int .i64 x.kind) := (blk_cell hbk2 0).trans rfl
  have d1 : wv.cell? ⟨w.heap.size, 1, none⟩ = some (.int .i64 x.id) := (blk_cell hbk2 1).trans rfl
  have d2 : wv.cell? ⟨w.heap.size, 2, none⟩ = some (.int .i64 x.size) := (blk_cell hbk2 2).trans rfl
  have d3 : wv.cell? ⟨w.heap.size, 3, none⟩ = some (.string x.key) := (blk_cell hbk2 3).trans rfl
  have d4 : wv.cell? ⟨w.heap.size, 4, none⟩ = some (.slice P1 x.strs.length p1) := (blk_cell hbk2 4).trans rfl
  have d5 : wv.cell? ⟨w.heap.size, 5, none⟩ = some (.slice Q1 x.objs.length q1) := (blk_cell hbk2 5).trans rfl
  have d6 : wv.cell? ⟨w.heap.size, 6, none⟩ = some (.slice D1 x.drv.length d1_) := (blk_cell hbk2 6).trans rfl
  have e0 : wv.cell? ⟨w.heap.size + 1, 0, none⟩ = some (.int .i64 y.kind) := (blk_cell hbv 0).trans rfl
  have e1 : wv.cell? ⟨w.heap.size + 1, 1, none⟩ = some (.int .i64 y.id) := (blk_cell hbv 1).trans rfl
  have e2 : wv.cell? ⟨w.heap.size + 1, 2, none⟩ = some (.int .i64 y.size) := (blk_cell hbv 2).trans rfl
  have e3 : wv.cell? ⟨w.heap.size + 1, 3, none⟩ = some (.string y.key) := (blk_cell hbv 3).trans rfl
  have e4 : wv.cell? ⟨w.heap.size + 1, 4, none⟩ = some (.slice P2 y.strs.length p2) := (blk_cell hbv 4).trans rfl
  have e5 : wv.cell? ⟨w.heap.size + 1, 5, none⟩ = some (.slice Q2 y.objs.length q2) := (blk_cell hbv 5).trans rfl
  have e6 : wv.cell? ⟨w.heap.size + 1, 6, none⟩ = some (.slice D2 y.drv.length d2_) := (blk_cell hbv 6).trans rfl
  clear hsz hwo hBo hbk hwv hBv hbv hbk2
  by_cases h0 : x.kind = y.kind
  rotate_left
  · skip
    have HR : Aside0 (eqR x y = false) := ⟨by unfold eqR; simp only [h0, decide_true, decide_false, Bool.true_and, Bool.false_and, Bool.and_false]⟩
    have tb0 : (x.kind == y.kind) = false := by simpa using h0
    have tc0 : decide (x.kind = y.kind) = false := by simpa using h0
    clear h0
    go_enter Try.func15, Try.ntmps15
    go_upto_region 1 with fail
    rw [← HWO.out, ← HWV.out]
    go_wp2
    go_ret
    exact ⟨by rw [HR.out]; rfl, HB0.out⟩
  have tb0 : (x.kind == y.kind) = true := by simpa using h0
  have tc0 : decide (x.kind = y.kind) = true := by simpa using h0
  by_cases h1 : x.id = y.id
  rotate_left
  · skip
    have HR : Aside0 (eqR x y = false) := ⟨by unfold eqR; simp only [h0, h1, decide_true, decide_false, Bool.true_and, Bool.false_and, Bool.and_false]⟩
    have tb1 : (x.id == y.id) = false := by simpa using h1
    have tc1 : decide (x.id = y.id) = false := by simpa using h1
    clear h0 h1
    go_enter Try.func15, Try.ntmps15
    go_upto_region 1 with fail
    rw [← HWO.out, ← HWV.out]
    go_wp2
    go_ret
    exact ⟨by rw [HR.out]; rfl, HB0.out⟩
  have tb1 : (x.id == y.id) = true := by simpa using h1
  have tc1 : decide (x.id = y.id) = true := by simpa using h1
  by_cases h2 : x.size = y.size
  rotate_left
  · skip
    have HR : Aside0 (eqR x y = false) := ⟨by unfold eqR; simp only [h0, h1, h2, decide_true, decide_false, Bool.true_and, Bool.false_and, Bool.and_false]⟩
    have tb2 : (x.size == y.size) = false := by simpa using h2
    have tc2 : decide (x.size = y.size) = false := by simpa using h2
    clear h0 h1 h2
    go_enter Try.func15, Try.ntmps15
    go_upto_region 1 with fail
    rw [← HWO.out, ← HWV.out]
    go_wp2
    go_ret
    exact ⟨by rw [HR.out]; rfl, HB0.out⟩
  have tb2 : (x.size == y.size) = true := by simpa using h2
  have tc2 : decide (x.size = y.size) = true := by simpa using h2
  by_cases h3 : x.key.toList = y.key.toList
  rotate_left
  · skip
    have HR : Aside0 (eqR x y = false) := ⟨by unfold eqR; simp only [h0, h1, h2, h3, decide_true, decide_false, Bool.true_and, Bool.false_and, Bool.and_false]⟩
    have tb3 : (x.key.toList == y.key.toList) = false := by simpa using h3
    have tc3 : decide (x.key.toList = y.key.toList) = false := by simpa using h3
    clear h0 h1 h2 h3
    go_enter Try.func15, Try.ntmps15
    go_upto_region 1 with fail
    rw [← HWO.out, ← HWV.out]
    go_wp2
    go_ret
    exact ⟨by rw [HR.out]; rfl, HB0.out⟩
  have tb3 : (x.key.toList == y.key.toList) = true := by simpa using h3
  have tc3 : decide (x.key.toList = y.key.toList) = true := by simpa using h3
  obtain ⟨qs, hqs⟩ : ∃ q, q = eqSs x.strs y.strs := ⟨_, rfl⟩
  obtain ⟨qo, hqo⟩ : ∃ q, q = eqOs x.objs y.objs := ⟨_, rfl⟩
  obtain ⟨qi, hqi⟩ : ∃ q, q = decide (x.drv = y.drv) := ⟨_, rfl⟩
  have HR : Aside0 (eqR x y = (qs && (qo && qi))) := ⟨by unfold eqR; simp only [h0, h1, h2, h3, decide_true, Bool.true_and, hqs, hqo, hqi]⟩
  have HO := Aside0.mk hqo
  have HI := Aside0.mk hqi
  have HCA : Aside0 _ := ⟨eqSs_calls N HNN.out P1 P2 p1 p2 x.strs y.strs wv (Kd.C_below HP1.out HB0.out) (Kd.C_below HP2.out HB0.out) HF.out.s⟩
  rw [← hqs] at HCA
  clear h0 h1 h2 h3 hqs hqo hqi
  go_enter Try.func15, Try.ntmps15
  go_upto_region 1 with fail
  rw [← HWO.out, ← HWV.out]
  go_wp2_with fail
  refine HCA.out.mono ?_
  rintro e w5 ⟨rfl, hb5⟩
  have HB5 : Aside0 (Below wv.heap.size wv w5) := ⟨hb5⟩
  have HCB : Aside0 _ := ⟨eqOs_calls N HNN.out Q1 Q2 q1 q2 x.objs y.objs w5 (Kd.C_below (Kd.C_below HQ1.out HB0.out) HB5.out) (Kd.C_below (Kd.C_below HQ2.out HB0.out) HB5.out) HF.out.o⟩
  rw [← HO.out] at HCB
  replace d0 := pw_cell_below hb5 d0
  replace d1 := pw_cell_below hb5 d1
  replace d2 := pw_cell_below hb5 d2
  replace d3 := pw_cell_below hb5 d3
  replace d4 := pw_cell_below hb5 d4
  replace d5 := pw_cell_below hb5 d5
  replace d6 := pw_cell_below hb5 d6
  replace e0 := pw_cell_below hb5 e0
  replace e1 := pw_cell_below hb5 e1
  replace e2 := pw_cell_below hb5 e2
  replace e3 := pw_cell_below hb5 e3
  replace e4 := pw_cell_below hb5 e4
  replace e5 := pw_cell_below hb5 e5
  replace e6 := pw_cell_below hb5 e6
  clear hb5
  cases qs with
  | false =>
    go_wp2
    go_ret
    exact ⟨by rw [HR.out]; rfl, HB0.out.trans (HB5.out.mono HB0.out.size)⟩
  | true =>
    go_wp2_with fail
    refine HCB.out.mono ?_
    rintro e w6 ⟨rfl, hb6⟩
    have HB6 : Aside0 (Below wv.heap.size wv w6) := ⟨HB5.out.trans (hb6.mono HB5.out.size)⟩
    have HCC : Aside0 _ := ⟨slices_Equal_int_int.calls (N + 1) D1 d1_ x.drv D2 d2_ y.drv _ w6 (Kd.C_below (Kd.C_below HD1.out HB0.out) HB6.out) Hd1.out (Kd.C_below (Kd.C_below HD2.out HB0.out) HB6.out) Hd2.out (esame_f x.drv y.drv (by have := HF.out.d; have := HNN.out; omega) (N + 1) (by have := HF.out.d; omega))⟩
    rw [← HI.out] at HCC
    replace d0 := pw_cell_below hb6 d0
    replace d1 := pw_cell_below hb6 d1
    replace d2 := pw_cell_below hb6 d2
    replace d3 := pw_cell_below hb6 d3
    replace d4 := pw_cell_below hb6 d4
    replace d5 := pw_cell_below hb6 d5
    replace d6 := pw_cell_below hb6 d6
    replace e0 := pw_cell_below hb6 e0
    replace e1 := pw_cell_below hb6 e1
    replace e2 := pw_cell_below hb6 e2
    replace e3 := pw_cell_below hb6 e3
    replace e4 := pw_cell_below hb6 e4
    replace e5 := pw_cell_below hb6 e5
    replace e6 := pw_cell_below hb6 e6
    clear hb6
    cases qo with
    | false =>
      go_wp2
      go_ret
      exact ⟨by rw [HR.out]; rfl, HB0.out.trans (HB6.out.mono HB0.out.size)⟩
    | true =>
      go_wp2_with fail
      refine HCC.out.mono ?_
      rintro e w7 ⟨rfl, hd7⟩
      obtain ⟨nq, hnq⟩ := hd7
      subst hnq
      have HB7 : Aside0 (Below wv.heap.size wv (w6.drewN nq)) := ⟨pw_below_drewN HB6.out nq⟩
      go_wp2
      go_ret
      exact ⟨by rw [HR.out]; simp, HB0.out.trans (HB7.out.mono HB0.out.size)⟩
end Go.Proofs.Ythoebncbhmefmaa.Rc
