/- Scripts: which line is the first that is none. -/
import Derived.Test.YtganhhhkmcmngaaDoorProg
import Derived.Below
import Derived.Deep.Draws
import Derived.Deep.AppendLies
import Derived.Maps.AppendAt
import Derived.OwnWalk
import Derived.Laws.BytesArg
import Derived.Laws.MakeOwn
import Derived.Laws.OwnMore
import Derived.Deep.OwnRows
import Derived.Tactics
import Derived.Lib.ConvBytes
import Derived.Laws.Slices
import Derived.WalkKit
import Derived.KernelRfl
import Derived.RowKit3
import Derived.Deep.LoopGhost
import Derived.Deep.QuietTactic
import Derived.BigQuiet
import Derived.WideLaws
import Derived.Deep.DeepCutAuto
import Derived.Deep.CutBlock
import Derived.Deep.RegionHeld3
import Derived.Laws.Rows
import Derived.Lib.AppendStr
import Derived.ArgAppend
import Derived.Laws.IdiomCopy
import Derived.OrdersHeld
import Derived.Laws.BitsLemmas
import Derived.RowKit
import Derived.Test.YtganhhhkmcmngaaDoorWWords
import Derived.Test.YtganhhhkmcmngaaDoorWLast
import Derived.Test.YtganhhhkmcmngaaDoorWTab
import Derived.Test.YtganhhhkmcmngaaDoorWFour
import Derived.Test.YtganhhhkmcmngaaDoorWQPut
import Derived.Test.YtganhhhkmcmngaaDoorWApart
import Derived.Test.YtganhhhkmcmngaaDoorWArr
import Derived.Test.YtganhhhkmcmngaaDoorWZeros
import Derived.Test.YtganhhhkmcmngaaDoorWFoot
import Derived.Test.YtganhhhkmcmngaaDoorWKept
import Derived.Test.YtganhhhkmcmngaaDoorWShare
import Derived.Test.YtganhhhkmcmngaaDoorWN
import Derived.Test.YtganhhhkmcmngaaDoorWFootNe
import Derived.Test.YtganhhhkmcmngaaDoorWAt
import Derived.Test.YtganhhhkmcmngaaDoorWEqStruct
import Derived.Test.YtganhhhkmcmngaaDoorWRepsOne
import Derived.Test.YtganhhhkmcmngaaDoorWInv
import Derived.Test.YtganhhhkmcmngaaDoorWInvWords
import Derived.Test.YtganhhhkmcmngaaDoorWGuard
import Derived.Test.YtganhhhkmcmngaaDoorWNEv
import Derived.Test.YtganhhhkmcmngaaDoorWMore
import Derived.Test.YtganhhhkmcmngaaDoorSc12
namespace Go.Proofs.YtganhhhkmcmngaaDoor.Sc
open Go.RowKit Go.Proofs.YtganhhhkmcmngaaDoorW.PrintWords Go.Proofs.YtganhhhkmcmngaaDoorW.PrintLast Go.Proofs.YtganhhhkmcmngaaDoorW.PrintMore
attribute [local go_sem] max2_int min2_int max_two min_two max_three min_three max_four min_four
set_option linter.unusedVariables false
set_option linter.unusedSimpArgs false
open Go.Shelf
def tails : List ByteArray := [⟨#[]⟩, ⟨#[49]⟩, ⟨#[49, 32, 50, 32, 51, 32, 120]⟩, ⟨#[49, 32, 50, 32, 51, 32, 120, 32, 120, 32, 120]⟩, ⟨#[48, 49, 32, 50, 32, 51, 32, 120, 32, 120]⟩, ⟨#[49, 32, 43, 50, 32, 51, 32, 120, 32, 120]⟩, ⟨#[49, 32, 50, 32, 45, 51, 32, 120, 32, 120]⟩, ⟨#[49, 32, 50, 32, 51, 32, 120, 49, 32, 120]⟩, ⟨#[49, 32, 50, 32, 51, 32, 120, 65, 66, 32, 120]⟩, ⟨#[49, 32, 50, 32, 51, 32, 54, 98, 32, 120]⟩, ⟨#[49, 32, 50, 32, 51, 32, 120, 32, 120, 32]⟩, ⟨#[49, 32, 50, 32, 32, 51, 32, 120, 32, 120]⟩]
theorem small_line : lineU ⟨1, 2, strOfNums [], [], 3⟩ = [49, 32, 50, 32, 51, 32, 120, 32, 120] := by
  have h1 : Lib.itoa 1 = [49] := by rw [show (1 : Int) = ((1 : Nat) : Int) from rfl, Lib.itoa_nonneg, Lib.decDigits_one (by decide)]; rfl
  have h2 : Lib.itoa 2 = [50] := by rw [show (2 : Int) = ((2 : Nat) : Int) from rfl, Lib.itoa_nonneg, Lib.decDigits_one (by decide)]; rfl
  have h3 : Lib.decDigits 3 = [51] := by rw [Lib.decDigits_one (by decide)]; rfl
  unfold lineU
  simp only
  rw [h1, h2, show ((3 : Int).toNat) = 3 from rfl, h3]
  rfl
theorem none_of {l : List UInt8} (h : (stepP l).isNone = true) : stepP l = none := Option.isNone_iff_eq_none.mp h
theorem none_if (l : List UInt8) (h : stepP l = if lineU ⟨1, 2, strOfNums [], [], 3⟩ = l then some ⟨1, 2, strOfNums [], [], 3⟩ else none) (hl : ([49, 32, 50, 32, 51, 32, 120, 32, 120] : List UInt8) ≠ l) : stepP l = none := by
  rw [h, small_line, if_neg hl]
theorem tails_bad : ∀ t, t ∈ tails → stepP t.data.toList = none ∧ (10 : UInt8) ∉ t.data.toList ∧ t.size ≤ 12 := by
  intro t ht
  simp only [tails, List.mem_cons, List.mem_nil_iff, or_false] at ht
  rcases ht with rfl | rfl | rfl | rfl | rfl | rfl | rfl | rfl | rfl | rfl | rfl | rfl
  · exact ⟨none_of (by decide +kernel), by decide, by decide⟩
  · exact ⟨none_of (by decide +kernel), by decide, by decide⟩
  · exact ⟨none_of (by decide +kernel), by decide, by decide⟩
  · exact ⟨none_of (by decide +kernel), by decide, by decide⟩
  · exact ⟨none_if _ (by kernel_rfl) (by decide), by decide, by decide⟩
  · exact ⟨none_if _ (by kernel_rfl) (by decide), by decide, by decide⟩
  · exact ⟨none_of (by decide +kernel), by decide, by decide⟩
  · exact ⟨none_of (by decide +kernel), by decide, by decide⟩
  · exact ⟨none_of (by decide +kernel), by decide, by decide⟩
  · exact ⟨none_of (by decide +kernel), by decide, by decide⟩
  · exact ⟨none_of (by decide +kernel), by decide, by decide⟩
  · exact ⟨none_of (by decide +kernel), by decide, by decide⟩
theorem cut32 (A : Option Addr) (n c m : Nat) (hm : m ≤ n) (hc : n ≤ c) :
    ∃ A' : Option Addr, (∀ W : World, (Instr.slice 22 (.slice A n c) (some (.int .i64 (m : Int))) none none).run Tryd.prog W = .ok (.slice A' (n - m) (c - m)) W) ∧
      ∀ (w : World) (xs : List S32), Kd.C k32 w A n xs → Kd.C k32 w A' (n - m) (xs.drop m) := by
  refine ⟨if c = m then A else A.map (·.add (m * 5)), fun W => ?_, fun w xs h => ⟨by rw [List.length_drop, h.1], by have := h.2.1; omega, fun hp => ?_⟩⟩
  · have hel : Tryd.prog.elem 22 = 32 := by simp [Program.elem, Tryd.underlying22]
    have hu : Tryd.prog.underlying 22 = some (.slice (Tryd.prog.elem 22)) := by rw [hel]; exact Tryd.underlying22
    rw [run_slice_l W 22 A n c hu .i64 (m : Int) (Int.natCast_nonneg _) (by omega), hel]
    simp [Tryd.sizeOf32, sliced, Result.andThen]
  · obtain ⟨ad, rfl, hcell⟩ := h.2.2 (by omega)
    rw [if_neg (by omega)]
    refine ⟨ad.add (m * 5), rfl, fun j p hj => ?_⟩
    rw [List.getElem?_drop] at hj
    obtain ⟨cs, hl, hK, hu⟩ := hcell (m + j) p hj
    refine ⟨cs, hl, hK, fun i u hi => ?_⟩
    rw [← hu i u hi]
    congr 1
    unfold Addr.add
    simp only [show k32.sz = 5 from rfl]
    by_cases h1 : m * 5 = 0
    · have : m = 0 := by omega
      subst this
      simp
    · simp [h1]
      by_cases h2 : j * 5 + i = 0
      · have e1 : j = 0 := by omega
        have e2 : i = 0 := by omega
        subst e1 e2
        simp <;> omega
      · rw [if_neg (by omega), if_neg (by omega)]
        simp <;> omega
theorem mod_n (aa : Int) (n : Nat) (ha : 0 ≤ aa) : ∃ kk : Nat, kk ≤ n ∧ aa.tmod ((n : Int) + 1) = (kk : Int) := ⟨aa.toNat % (n + 1), Nat.lt_succ_iff.mp (Nat.mod_lt _ (Nat.succ_pos n)), by
  rw [Int.tmod_eq_emod_of_nonneg ha, Int.natCast_emod, Int.toNat_of_nonneg ha]; rfl⟩
theorem mod_12 (b : Int) (hb : 0 ≤ b) : ∃ tb : Nat, tb < 12 ∧ b.tmod 12 = (tb : Int) := ⟨b.toNat % 12, Nat.mod_lt _ (by decide), by
  rw [Int.tmod_eq_emod_of_nonneg hb, Int.natCast_emod, Int.toNat_of_nonneg hb]; rfl⟩
theorem take32 {w : World} {A : Option Addr} {n : Nat} {xs : List S32} (h : Kd.C k32 w A n xs) (i : Nat) (hi : i ≤ n) : Kd.C k32 w A i (xs.take i) := by
  refine ⟨by rw [List.length_take, h.1]; omega, by have := h.2.1; omega, fun hp => ?_⟩
  obtain ⟨ad, e, hc⟩ := h.2.2 (by omega)
  refine ⟨ad, e, fun j p hj => ?_⟩
  rw [List.getElem?_take] at hj
  split at hj
  · exact hc j p hj
  · cases hj
theorem tails_cells (w : World) : ∃ ad : Addr, some (⟨w.heap.size, 0, none⟩ : Addr) = some ad ∧ ∃ W, w.alloc (.cells #[.string ⟨#[]⟩, .string ⟨#[49]⟩, .string ⟨#[49, 32, 50, 32, 51, 32, 120]⟩, .string ⟨#[49, 32, 50, 32, 51, 32, 120, 32, 120, 32, 120]⟩, .string ⟨#[48, 49, 32, 50, 32, 51, 32, 120, 32, 120]⟩, .string ⟨#[49, 32, 43, 50, 32, 51, 32, 120, 32, 120]⟩, .string ⟨#[49, 32, 50, 32, 45, 51, 32, 120, 32, 120]⟩, .string ⟨#[49, 32, 50, 32, 51, 32, 120, 49, 32, 120]⟩, .string ⟨#[49, 32, 50, 32, 51, 32, 120, 65, 66, 32, 120]⟩, .string ⟨#[49, 32, 50, 32, 51, 32, 54, 98, 32, 120]⟩, .string ⟨#[49, 32, 50, 32, 51, 32, 120, 32, 120, 32]⟩, .string ⟨#[49, 32, 50, 32, 32, 51, 32, 120, 32, 120]⟩] 9) = W ∧ Below w.heap.size w W ∧ ∀ q : Nat, q < 12 → ∃ t, t ∈ tails ∧ W.cell? (ad.add q) = some (.string t) := by
  refine ⟨_, rfl, _, rfl, (Below.refl _ _).alloc (Nat.le_refl _) _, fun q hq => ?_⟩
  have h := heap_alloc_new w (.cells #[.string ⟨#[]⟩, .string ⟨#[49]⟩, .string ⟨#[49, 32, 50, 32, 51, 32, 120]⟩, .string ⟨#[49, 32, 50, 32, 51, 32, 120, 32, 120, 32, 120]⟩, .string ⟨#[48, 49, 32, 50, 32, 51, 32, 120, 32, 120]⟩, .string ⟨#[49, 32, 43, 50, 32, 51, 32, 120, 32, 120]⟩, .string ⟨#[49, 32, 50, 32, 45, 51, 32, 120, 32, 120]⟩, .string ⟨#[49, 32, 50, 32, 51, 32, 120, 49, 32, 120]⟩, .string ⟨#[49, 32, 50, 32, 51, 32, 120, 65, 66, 32, 120]⟩, .string ⟨#[49, 32, 50, 32, 51, 32, 54, 98, 32, 120]⟩, .string ⟨#[49, 32, 50, 32, 51, 32, 120, 32, 120, 32]⟩, .string ⟨#[49, 32, 50, 32, 32, 51, 32, 120, 32, 120]⟩] 9)
  have hl : tails.length = 12 := rfl
  refine ⟨tails[q], List.getElem_mem _, ?_⟩
  rw [add_plain]
  simp only [World.cell?, h]
  rcases q with _ | _ | _ | _ | _ | _ | _ | _ | _ | _ | _ | _ | q <;> first | rfl | omega
set_option maxHeartbeats 4000000 in
set_option maxRecDepth 100000 in
theorem line_law (A : Option Addr) (c n : Nat) (l : List S32) (aa bb : Int) (w : World) (hT : Tb w) (hn : l.length = n) (hC : Kd.C k32 w A n l) (hc : n ≤ c) (hl : n ≤ 9223372036854775000) (hz : ∀ x, x ∈ l → WfB x) (ha : 0 ≤ aa ∧ aa < 256) (hb : 0 ≤ bb ∧ bb < 256) :
    Calls Tryd.prog 7 #[.slice A n c, .int .u8 aa, .int .u8 bb] w fun e w' => e = .returned (.bool true) ∧ Below w.heap.size w w' := by
  have HT := Aside0.mk hT
  have HN := Aside0.mk hn
  have HC := Aside0.mk hC
  have HZ := Aside0.mk hz
  have HSM := Aside0.mk (small_calls A c n l w hn hC hc hl hz)
  have HCC : Aside0 (n ≤ c) := ⟨hc⟩
  clear hT hn hC hz
  go_enter Tryd.func7, Tryd.ntmps7
  go_wp2_with fail
  refine HSM.out.mono ?_
  rintro e w1 ⟨r, rfl, hr, hb1⟩
  have HB1 : Aside0 (Below w.heap.size w w1) := ⟨hb1⟩
  have HR := Aside0.mk hr
  clear hb1 hr
  cases r with
  | false =>
    clear ha hb hc
    go_wp2_with fail
    refine (answers_calls w1 (HT.out.below HB1.out)).mono ?_
    rintro e w2 ⟨rfl, hb⟩
    have HB2 : Aside0 (Below w.heap.size w w2) := ⟨HB1.out.trans (hb.mono HB1.out.size)⟩
    clear hb
    go_wp2_with fail
    go_ret
    exact ⟨rfl, HB2.out⟩
  | true =>
    obtain ⟨h100, hsm⟩ := HR.out rfl
    obtain ⟨kk, hkn, hmod⟩ := mod_n aa n ha.1
    obtain ⟨tb, htb12, hmod2⟩ := mod_12 bb hb.1
    have HM1 := Aside0.mk hmod
    have HM2 := Aside0.mk hmod2
    clear hmod hmod2
    have hwn : wrap64 ((n : Int) + 1) = (n : Int) + 1 := wrap64_in _ (by omega)
    have hwk : wrap64 ((kk : Int) + 1) = (kk : Int) + 1 := wrap64_in _ (by omega)
    have hwkk : wrap64 (kk : Int) = (kk : Int) := wrap64_in _ (by omega)
    have hwa : wrap64 aa = aa := wrap64_in _ (by omega)
    have hw8 : IntKind.u8.wrap (tb : Int) = (tb : Int) := by rw [IntKind.wrap_u8]; omega
    have hnz : ((n : Int) + 1 == 0) = false := by simp; omega
    have HW : Aside0 (∀ x, x ∈ l → WfS x) := ⟨fun x hx => (HZ.out x hx).wf (hsm x hx)⟩
    have hlk : (l.take kk).length = kk := by rw [List.length_take, HN.out]; exact Nat.min_eq_left hkn
    have hld : (l.drop kk).length = n - kk := by rw [List.length_drop, HN.out]
    obtain ⟨z1, hz1e, hz1⟩ : ∃ z1, (textU (l.take kk)).length = z1 ∧ z1 ≤ 670 * kk := ⟨_, rfl, by
      have h := textU_small (l.take kk) fun x hx => ⟨HW.out x (List.mem_of_mem_take hx), hsm x (List.mem_of_mem_take hx)⟩
      rw [hlk] at h
      exact h⟩
    obtain ⟨z2, hz2e, hz2⟩ : ∃ z2, (textU (l.drop kk)).length = z2 ∧ z2 ≤ 670 * (n - kk) := ⟨_, rfl, by
      have h := textU_small (l.drop kk) fun x hx => ⟨HW.out x (List.mem_of_mem_drop hx), hsm x (List.mem_of_mem_drop hx)⟩
      rw [hld] at h
      exact h⟩
    have HZ1 := Aside0.mk hz1e
    have HZ2 := Aside0.mk hz2e
    have HLK := Aside0.mk hlk
    have HLD := Aside0.mk hld
    have hkb : kk ≤ 100000 := by omega
    have hnb : n - kk ≤ 100000 := by omega
    have hzz : z1 + z2 ≤ 67000 := by omega
    clear hz1e hz2e hlk hld hz1 hz2
    obtain ⟨A2, hcut, hA2⟩ := cut32 A n c kk hkn HCC.out
    have HX1 := Aside0.mk fun (W : World) (hb : Below w.heap.size w W) => text_calls A c kk (l.take kk) W HLK.out (take32 (Kd.C_below HC.out hb) kk hkn) (fun x hx => HW.out x (List.mem_of_mem_take hx)) hkb
    have HX2 := Aside0.mk fun (W : World) (hb : Below w.heap.size w W) => text_calls A2 (c - kk) (n - kk) (l.drop kk) W HLD.out (hA2 W l (Kd.C_below HC.out hb)) (fun x hx => HW.out x (List.mem_of_mem_drop hx)) hnb
    obtain ⟨adt, hadt, W2, hW2, hb2, htl⟩ := tails_cells w1
    obtain ⟨tl, htm, hcell⟩ := htl tb htb12
    obtain ⟨b1, b2, b3⟩ := tails_bad tl htm
    have hPR : Prs (textU (l.take kk) ++ (tl.data.toList ++ 10 :: textU (l.drop kk))) 1 (l.take kk ++ []) (some (1 + (l.take kk).length)) := prs_app _ [] _ (l.take kk) 1 (fun x hx => HW.out x (List.mem_of_mem_take hx)) (Prs.bad _ _ b2 b1)
    rw [HLK.out, Nat.add_comm] at hPR
    have HPR3 := Aside0.mk hPR
    clear hPR
    obtain ⟨s1, hs1, hz1⟩ := mk_str (textU (l.take kk))
    obtain ⟨s2, hs2, hz2⟩ := mk_str (textU (l.drop kk))
    rw [HZ1.out] at hz1
    rw [HZ2.out] at hz2
    rw [hs1] at HX1
    rw [hs2] at HX2
    have cat : ∀ a b : ByteArray, (a ++ b).size = a.size + b.size := fun a b => ByteArray.size_append
    obtain ⟨P1, hP1⟩ : ∃ P, s1 ++ tl = P := ⟨_, rfl⟩
    obtain ⟨P2, hP2⟩ : ∃ P, P1 ++ (⟨#[10]⟩ : ByteArray) = P := ⟨_, rfl⟩
    obtain ⟨P3, hP3⟩ : ∃ P, P2 ++ s2 = P := ⟨_, rfl⟩
    have q1 : P1.size = s1.size + tl.size := by rw [← hP1, cat]
    have q2 : P2.size = P1.size + 1 := by rw [← hP2, cat]; rfl
    have q3 : P3.size = P2.size + s2.size := by rw [← hP3, cat]
    have hd3 : P3.data.toList = textU (l.take kk) ++ (tl.data.toList ++ 10 :: textU (l.drop kk)) := by
      rw [← hP3, ← hP2, ← hP1, ← hs1, ← hs2]; simp
    have HD3 := Aside0.mk hd3
    have HS1 := Aside0.mk hs1
    have HS2 := Aside0.mk hs2
    clear hd3 hs1 hs2
    have r1 : (9223372036854775807 < s1.size + tl.size) = False := eq_false (by omega)
    have r2 : (9223372036854775807 < P1.size + 1) = False := eq_false (by omega)
    have r3 : (9223372036854775807 < P2.size + s2.size) = False := eq_false (by omega)
    have hp3 : P3.size ≤ 100000 := by omega
    have HPA : Aside0 (∀ W, Below w.heap.size w W → Calls Tryd.prog 11 #[.string P3] W fun e w' => e = .returned (.tuple #[.slice none 0 0, .int .i64 ((kk : Int) + 1), .int .i64 13]) ∧ Below W.heap.size W w') := ⟨fun W hb => parse_bad P3 hp3 W (HT.out.below hb) _ (kk + 1) (by rw [HD3.out]; exact HPR3.out)⟩
    have HTC0 : Aside0 (W2.cell? (adt.add tb) = some (.string tl)) := ⟨hcell⟩
    have e1 : decide ((kk : Int) ≤ (c : Int)) = true := decide_eq_true (by omega)
    have e2 : decide ((kk : Int) ≤ (n : Int)) = true := decide_eq_true (by omega)
    have e3 : decide ((tb : Int) < 12) = true := decide_eq_true (by omega)
    have e4 : ((tb : Int) < 12) = True := eq_true (by omega)
    have hkc : kk ≤ c := by omega
    have HB2' : Aside0 (Below w.heap.size w W2) := ⟨HB1.out.trans (hb2.mono HB1.out.size)⟩
    have hget : some (⟨w1.heap.size, 0, none⟩ : Addr) = some adt := hadt
    clear hsm hA2 htl htm hcell b1 b2 b3 hz1 hz2 cat q1 q2 q3 hb2 hget hp3 hzz hkb hnb
    have hmod := HM1.out
    have hmod2 := HM2.out
    go_upto_region 5 with fail
    have HTC := HTC0
    have HB2 := HB2'
    clear HTC0 HB2'
    refine start_ (n := 24) (S := fun w' => w'.cell? (adt.add tb) = some (.string tl)) (ds := []) #[false, false, false, false, false, false, false, false, false, false, false, false, false, false, false, false, false, false, false, false, false, false, false, false] (by kernel_rfl) rfl rfl (HTC.out) (fun hHeld => ?_)
    obtain ⟨w20, hw20⟩ : ∃ w20, w20 = W2.drew := ⟨_, rfl⟩
    have HB20 : Aside0 (Below w.heap.size w w20) := ⟨by rw [hw20]; exact HB2.out.drew⟩
    have HQ20 : Aside0 (Below W2.heap.size W2 w20) := ⟨by rw [hw20]; exact (Below.refl _ _).drew⟩
    rw [← hw20] at hHeld ⊢
    clear hw20
    refine pure_ (i := 0) (N := some 24) (v := ?_) (a' := ?_) #[true, false, false, false, false, false, false, false, false, false, false, false, false, false, false, false, false, false, false, false, false, false, false, false] rfl rfl (by kernel_rfl) (fun _ _ _ h => h) (Or.inl ⟨by rfl, ?_⟩) ?_ ?_
    rotate_left
    · intro w'
      go_simp
      with_reducible rfl
    rotate_left
    · simp only [Act.put, List.setIfInBounds_toArray, List.set_cons_zero, List.set_cons_succ, i64_w, i32_w]
      rfl
    refine pure_ (i := 1) (N := some 25) (v := ?_) (a' := ?_) #[true, true, false, false, false, false, false, false, false, false, false, false, false, false, false, false, false, false, false, false, false, false, false, false] rfl rfl (by kernel_rfl) (fun _ _ _ h => h) (Or.inl ⟨by rfl, ?_⟩) ?_ ?_
    rotate_left
    · intro w'
      go_simp
      with_reducible rfl
    rotate_left
    · simp only [Act.put, List.setIfInBounds_toArray, List.set_cons_zero, List.set_cons_succ, i64_w, i32_w]
      rfl
    refine pure_ (i := 2) (N := some 26) (v := ?_) (a' := ?_) #[true, true, true, false, false, false, false, false, false, false, false, false, false, false, false, false, false, false, false, false, false, false, false, false] rfl rfl (by kernel_rfl) (fun _ _ _ h => h) (Or.inl ⟨by rfl, ?_⟩) ?_ ?_
    rotate_left
    · intro w'
      go_simp
      with_reducible rfl
    rotate_left
    · simp only [Act.put, List.setIfInBounds_toArray, List.set_cons_zero, List.set_cons_succ, i64_w, i32_w]
      rfl
    refine pure_ (i := 4) (N := some 28) (v := ?_) (a' := ?_) #[true, true, true, false, true, false, false, false, false, false, false, false, false, false, false, false, false, false, false, false, false, false, false, false] rfl rfl (by kernel_rfl) (fun _ _ _ h => h) (Or.inl ⟨by rfl, ?_⟩) ?_ ?_
    rotate_left
    · intro w'
      go_simp
      with_reducible rfl
    rotate_left
    · simp only [Act.put, List.setIfInBounds_toArray, List.set_cons_zero, List.set_cons_succ, i64_w, i32_w]
      rfl
    refine pure_ (i := 5) (N := some 29) (v := ?_) (a' := ?_) #[true, true, true, false, true, true, false, false, false, false, false, false, false, false, false, false, false, false, false, false, false, false, false, false] rfl rfl (by kernel_rfl) (fun _ _ _ h => h) (Or.inl ⟨by rfl, ?_⟩) ?_ ?_
    rotate_left
    · intro w'
      go_simp
      with_reducible rfl
    rotate_left
    · simp only [Act.put, List.setIfInBounds_toArray, List.set_cons_zero, List.set_cons_succ, i64_w, i32_w]
      rfl
    refine pure_ (i := 6) (N := some 30) (v := ?_) (a' := ?_) #[true, true, true, false, true, true, true, false, false, false, false, false, false, false, false, false, false, false, false, false, false, false, false, false] rfl rfl (by kernel_rfl) (fun _ _ _ h => h) (Or.inl ⟨by rfl, ?_⟩) ?_ ?_
    rotate_left
    · intro w'
      go_simp
      with_reducible rfl
    rotate_left
    · simp only [Act.put, List.setIfInBounds_toArray, List.set_cons_zero, List.set_cons_succ, i64_w, i32_w]
      rfl
    refine pure_ (i := 7) (N := some 31) (v := ?_) (a' := ?_) #[true, true, true, false, true, true, true, true, false, false, false, false, false, false, false, false, false, false, false, false, false, false, false, false] rfl rfl (by kernel_rfl) (fun _ _ _ h => h) (Or.inl ⟨by rfl, ?_⟩) ?_ ?_
    rotate_left
    · intro w'
      go_simp
      with_reducible rfl
    rotate_left
    · simp only [Act.put, List.setIfInBounds_toArray, List.set_cons_zero, List.set_cons_succ, i64_w, i32_w]
      rfl
    refine pure_ (i := 11) (N := some 35) (v := ?_) (a' := ?_) #[true, true, true, false, true, true, true, true, false, false, false, true, false, false, false, false, false, false, false, false, false, false, false, false] rfl rfl (by kernel_rfl) (fun _ _ _ h => h) (Or.inl ⟨by rfl, ?_⟩) ?_ ?_
    rotate_left
    · intro w'
      go_simp
      with_reducible rfl
    rotate_left
    · simp only [Act.put, List.setIfInBounds_toArray, List.set_cons_zero, List.set_cons_succ, i64_w, i32_w]
      rfl
    refine pure_ (i := 12) (N := some 36) (v := ?_) (a' := ?_) #[true, true, true, false, true, true, true, true, false, false, false, true, true, false, false, false, false, false, false, false, false, false, false, false] rfl rfl (by kernel_rfl) (fun _ _ _ h => h) (Or.inl ⟨by rfl, ?_⟩) ?_ ?_
    rotate_left
    · intro w'
      go_simp
      with_reducible rfl
    rotate_left
    · simp only [Act.put, List.setIfInBounds_toArray, List.set_cons_zero, List.set_cons_succ, i64_w, i32_w]
      rfl
    refine pure_ (i := 13) (N := some 37) (v := ?_) (a' := ?_) #[true, true, true, false, true, true, true, true, false, false, false, true, true, true, false, false, false, false, false, false, false, false, false, false] rfl rfl (by kernel_rfl) (fun _ _ _ h => h) (Or.inl ⟨by rfl, ?_⟩) ?_ ?_
    rotate_left
    · intro w'
      go_simp
      with_reducible rfl
    rotate_left
    · simp only [Act.put, List.setIfInBounds_toArray, List.set_cons_zero, List.set_cons_succ, i64_w, i32_w]
      rfl
    refine take_ (i := 8) (N := some 32) (v := ?_) (a' := ?_) #[true, true, true, false, true, true, true, true, true, false, false, true, true, true, false, false, false, false, false, false, false, false, false, false] rfl rfl (by kernel_rfl) (fun _ _ _ h => h) (Or.inl ⟨by rfl, ?_⟩) hHeld ?_ ?_
    rotate_left
    · intro w' s0
      go_simp
      with_reducible rfl
    rotate_left
    · simp only [Act.put, List.setIfInBounds_toArray, List.set_cons_zero, List.set_cons_succ, i64_w, i32_w]
      rfl
    refine one_ (i := 3) (N := some 27) #[true, true, true, true, true, true, true, true, true, false, false, true, true, true, false, false, false, false, false, false, false, false, false, false] rfl rfl (by kernel_rfl) (by decide) (fun K hK => ?_)
    refine goes_ Tryd.func10 (by kernel_rfl) rfl #[.slice A kk c] (by rfl) rfl rfl (by simp only [List.map_toArray, List.map_cons, List.map_nil]; rfl) ?_
    with_reducible refine (HX1.out _ HB20.out).mono ?_
    rintro e w21 ⟨rfl, hb⟩
    refine ⟨_, rfl, ?_⟩
    have HB21 : Aside0 (Below w.heap.size w w21) := ⟨HB20.out.trans (hb.mono HB20.out.size)⟩
    have HQ21 : Aside0 (Below W2.heap.size W2 w21) := ⟨HQ20.out.trans (hb.mono HQ20.out.size)⟩
    clear hb
    refine hK.out _ _ (pw_cell_below HQ21.out HTC.out) (fun hHeld => ?_)
    clear hK K
    refine norm_ (a' := ?_) ?_ ?_
    rotate_left
    · show Act.put _ (some 27) _ = _
      simp only [Act.put, List.setIfInBounds_toArray, List.set_cons_zero, List.set_cons_succ, i64_w, i32_w]
      rfl
    refine pure_ (i := 9) (N := some 33) (v := ?_) (a' := ?_) #[true, true, true, true, true, true, true, true, true, true, false, true, true, true, false, false, false, false, false, false, false, false, false, false] rfl rfl (by kernel_rfl) (fun _ _ _ h => h) (Or.inl ⟨by rfl, ?_⟩) ?_ ?_
    rotate_left
    · intro w'
      go_simp
      with_reducible rfl
    rotate_left
    · simp only [Act.put, List.setIfInBounds_toArray, List.set_cons_zero, List.set_cons_succ, i64_w, i32_w]
      rfl
    refine pure_ (i := 10) (N := some 34) (v := ?_) (a' := ?_) #[true, true, true, true, true, true, true, true, true, true, true, true, true, true, false, false, false, false, false, false, false, false, false, false] rfl rfl (by kernel_rfl) (fun _ _ _ h => h) (Or.inl ⟨by rfl, ?_⟩) ?_ ?_
    rotate_left
    · intro w'
      go_simp
      with_reducible rfl
    rotate_left
    · simp only [Act.put, List.setIfInBounds_toArray, List.set_cons_zero, List.set_cons_succ, i64_w, i32_w]
      rfl
    refine one_ (i := 14) (N := some 38) #[true, true, true, true, true, true, true, true, true, true, true, true, true, true, true, false, false, false, false, false, false, false, false, false] rfl rfl (by kernel_rfl) (by decide) (fun K hK => ?_)
    refine goes_ Tryd.func10 (by kernel_rfl) rfl #[.slice A2 (n - kk) (c - kk)] (by rfl) rfl rfl (by simp only [List.map_toArray, List.map_cons, List.map_nil]; rfl) ?_
    with_reducible refine (HX2.out _ HB21.out).mono ?_
    rintro e w22 ⟨rfl, hb⟩
    refine ⟨_, rfl, ?_⟩
    have HB22 : Aside0 (Below w.heap.size w w22) := ⟨HB21.out.trans (hb.mono HB21.out.size)⟩
    have HQ22 : Aside0 (Below W2.heap.size W2 w22) := ⟨HQ21.out.trans (hb.mono HQ21.out.size)⟩
    clear hb
    refine hK.out _ _ (pw_cell_below HQ22.out HTC.out) (fun hHeld => ?_)
    clear hK K
    refine norm_ (a' := ?_) ?_ ?_
    rotate_left
    · show Act.put _ (some 38) _ = _
      simp only [Act.put, List.setIfInBounds_toArray, List.set_cons_zero, List.set_cons_succ, i64_w, i32_w]
      rfl
    refine pure_ (i := 15) (N := some 39) (v := ?_) (a' := ?_) #[true, true, true, true, true, true, true, true, true, true, true, true, true, true, true, true, false, false, false, false, false, false, false, false] rfl rfl (by kernel_rfl) (fun _ _ _ h => h) (Or.inl ⟨by rfl, ?_⟩) ?_ ?_
    rotate_left
    · intro w'
      go_simp
      with_reducible rfl
    rotate_left
    · simp only [Act.put, List.setIfInBounds_toArray, List.set_cons_zero, List.set_cons_succ, i64_w, i32_w]
      rfl
    refine one_ (i := 16) (N := some 40) #[true, true, true, true, true, true, true, true, true, true, true, true, true, true, true, true, true, false, false, false, false, false, false, false] rfl rfl (by kernel_rfl) (by decide) (fun K hK => ?_)
    refine goes_ Tryd.func11 (by kernel_rfl) rfl #[.string P3] (by rfl) rfl rfl (by simp only [List.map_toArray, List.map_cons, List.map_nil]; rfl) ?_
    with_reducible refine (HPA.out _ HB22.out).mono ?_
    rintro e w23 ⟨rfl, hb⟩
    refine ⟨_, rfl, ?_⟩
    have HB23 : Aside0 (Below w.heap.size w w23) := ⟨HB22.out.trans (hb.mono HB22.out.size)⟩
    have HQ23 : Aside0 (Below W2.heap.size W2 w23) := ⟨HQ22.out.trans (hb.mono HQ22.out.size)⟩
    clear hb
    refine hK.out _ _ (pw_cell_below HQ23.out HTC.out) (fun hHeld => ?_)
    clear hK K
    refine norm_ (a' := ?_) ?_ ?_
    rotate_left
    · show Act.put _ (some 40) _ = _
      simp only [Act.put, List.setIfInBounds_toArray, List.set_cons_zero, List.set_cons_succ, i64_w, i32_w]
      rfl
    refine pure_ (i := 17) (N := some 23) (v := ?_) (a' := ?_) #[true, true, true, true, true, true, true, true, true, true, true, true, true, true, true, true, true, true, false, false, false, false, false, false] rfl rfl (by kernel_rfl) (fun _ _ _ h => h) (Or.inl ⟨by rfl, ?_⟩) ?_ ?_
    rotate_left
    · intro w'
      go_simp
      with_reducible rfl
    rotate_left
    · simp only [Act.put, List.setIfInBounds_toArray, List.set_cons_zero, List.set_cons_succ, i64_w, i32_w]
      rfl
    refine pure_ (i := 18) (N := some 41) (v := ?_) (a' := ?_) #[true, true, true, true, true, true, true, true, true, true, true, true, true, true, true, true, true, true, true, false, false, false, false, false] rfl rfl (by kernel_rfl) (fun _ _ _ h => h) (Or.inl ⟨by rfl, ?_⟩) ?_ ?_
    rotate_left
    · intro w'
      go_simp
      with_reducible rfl
    rotate_left
    · simp only [Act.put, List.setIfInBounds_toArray, List.set_cons_zero, List.set_cons_succ, i64_w, i32_w]
      rfl
    refine pure_ (i := 19) (N := some 42) (v := ?_) (a' := ?_) #[true, true, true, true, true, true, true, true, true, true, true, true, true, true, true, true, true, true, true, true, false, false, false, false] rfl rfl (by kernel_rfl) (fun _ _ _ h => h) (Or.inl ⟨by rfl, ?_⟩) ?_ ?_
    rotate_left
    · intro w'
      go_simp
      with_reducible rfl
    rotate_left
    · simp only [Act.put, List.setIfInBounds_toArray, List.set_cons_zero, List.set_cons_succ, i64_w, i32_w]
      rfl
    refine pure_ (i := 20) (N := some 43) (v := ?_) (a' := ?_) #[true, true, true, true, true, true, true, true, true, true, true, true, true, true, true, true, true, true, true, true, true, false, false, false] rfl rfl (by kernel_rfl) (fun _ _ _ h => h) (Or.inl ⟨by rfl, ?_⟩) ?_ ?_
    rotate_left
    · intro w'
      go_simp
      with_reducible rfl
    rotate_left
    · simp only [Act.put, List.setIfInBounds_toArray, List.set_cons_zero, List.set_cons_succ, i64_w, i32_w]
      rfl
    refine pure_ (i := 21) (N := some 9) (v := ?_) (a' := ?_) #[true, true, true, true, true, true, true, true, true, true, true, true, true, true, true, true, true, true, true, true, true, true, false, false] rfl rfl (by kernel_rfl) (fun _ _ _ h => h) (Or.inl ⟨by rfl, ?_⟩) ?_ ?_
    rotate_left
    · intro w'
      go_simp
      with_reducible rfl
    rotate_left
    · simp only [Act.put, List.setIfInBounds_toArray, List.set_cons_zero, List.set_cons_succ, i64_w, i32_w]
      rfl
    refine pure_ (i := 22) (N := some 10) (v := ?_) (a' := ?_) #[true, true, true, true, true, true, true, true, true, true, true, true, true, true, true, true, true, true, true, true, true, true, true, false] rfl rfl (by kernel_rfl) (fun _ _ _ h => h) (Or.inl ⟨by rfl, ?_⟩) ?_ ?_
    rotate_left
    · intro w'
      go_simp
      with_reducible rfl
    rotate_left
    · simp only [Act.put, List.setIfInBounds_toArray, List.set_cons_zero, List.set_cons_succ, i64_w, i32_w]
      rfl
    refine pure_ (i := 23) (N := some 11) (v := ?_) (a' := ?_) #[true, true, true, true, true, true, true, true, true, true, true, true, true, true, true, true, true, true, true, true, true, true, true, true] rfl rfl (by kernel_rfl) (fun _ _ _ h => h) (Or.inl ⟨by rfl, ?_⟩) ?_ ?_
    rotate_left
    · intro w'
      go_simp
      with_reducible rfl
    rotate_left
    · simp only [Act.put, List.setIfInBounds_toArray, List.set_cons_zero, List.set_cons_succ, i64_w, i32_w]
      rfl
    refine done_ (by kernel_rfl) ?_
    go_wp2_with fail
    refine (answers_calls w23 (HT.out.below HB23.out)).mono ?_
    rintro e w5 ⟨rfl, hb⟩
    have HB5 : Aside0 (Below w.heap.size w w5) := ⟨HB23.out.trans (hb.mono HB23.out.size)⟩
    clear hb
    go_wp2_with fail
    go_ret
    exact ⟨rfl, HB5.out⟩
end Go.Proofs.YtganhhhkmcmngaaDoor.Sc
