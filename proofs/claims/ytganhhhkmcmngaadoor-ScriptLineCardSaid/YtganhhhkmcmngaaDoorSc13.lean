/- Scripts: any text is read, or has a line that is none. -/
import Derived.Test.YtganhhhkmcmngaaDoorProg
import Derived.Below
import Derived.Deep.Draws
import Derived.Deep.AppendLies
import Derived.Maps.AppendAt
import Derived.OwnWalk
import Derived.Laws.BytesArg
import Derived.Laws.MakeOwn
import Derived.Laws.OwnMore
import Derived.Deep.OwnRows
import Derived.Tactics
import Derived.Lib.ConvBytes
import Derived.Laws.Slices
import Derived.WalkKit
import Derived.KernelRfl
import Derived.RowKit3
import Derived.Deep.LoopGhost
import Derived.Deep.QuietTactic
import Derived.BigQuiet
import Derived.WideLaws
import Derived.Deep.DeepCutAuto
import Derived.Deep.CutBlock
import Derived.Deep.RegionHeld3
import Derived.Laws.Rows
import Derived.Lib.AppendStr
import Derived.ArgAppend
import Derived.Laws.IdiomCopy
import Derived.OrdersHeld
import Derived.Laws.BitsLemmas
import Derived.RowKit
import Derived.Test.YtganhhhkmcmngaaDoorWWords
import Derived.Test.YtganhhhkmcmngaaDoorWLast
import Derived.Test.YtganhhhkmcmngaaDoorWTab
import Derived.Test.YtganhhhkmcmngaaDoorWFour
import Derived.Test.YtganhhhkmcmngaaDoorWQPut
import Derived.Test.YtganhhhkmcmngaaDoorWApart
import Derived.Test.YtganhhhkmcmngaaDoorWArr
import Derived.Test.YtganhhhkmcmngaaDoorWZeros
import Derived.Test.YtganhhhkmcmngaaDoorWFoot
import Derived.Test.YtganhhhkmcmngaaDoorWKept
import Derived.Test.YtganhhhkmcmngaaDoorWShare
import Derived.Test.YtganhhhkmcmngaaDoorWN
import Derived.Test.YtganhhhkmcmngaaDoorWFootNe
import Derived.Test.YtganhhhkmcmngaaDoorWAt
import Derived.Test.YtganhhhkmcmngaaDoorWEqStruct
import Derived.Test.YtganhhhkmcmngaaDoorWRepsOne
import Derived.Test.YtganhhhkmcmngaaDoorWInv
import Derived.Test.YtganhhhkmcmngaaDoorWInvWords
import Derived.Test.YtganhhhkmcmngaaDoorWGuard
import Derived.Test.YtganhhhkmcmngaaDoorWNEv
import Derived.Test.YtganhhhkmcmngaaDoorWMore
import Derived.Test.YtganhhhkmcmngaaDoorSc12
namespace Go.Proofs.YtganhhhkmcmngaaDoor.Sc
open Go.RowKit Go.Proofs.YtganhhhkmcmngaaDoorW.PrintWords Go.Proofs.YtganhhhkmcmngaaDoorW.PrintLast Go.Proofs.YtganhhhkmcmngaaDoorW.PrintMore
attribute [local go_sem] max2_int min2_int max_two min_two max_three min_three max_four min_four
set_option linter.unusedVariables false
set_option linter.unusedSimpArgs false
open Go.Shelf
theorem count_step (L : List UInt8) (q : Nat) (hq : q < L.length) : (L.take (q + 1)).count 10 = (L.take q).count 10 + (if L[q] = 10 then 1 else 0) := by
  rw [List.take_succ_eq_append_getElem hq, List.count_append]
  congr 1
  rw [List.count_singleton]
  by_cases h : L[q] = 10
  · rw [h]; rfl
  · rw [if_neg h]; simp [h]
set_option maxHeartbeats 4000000 in
set_option maxRecDepth 100000 in
theorem reads_calls (s : ByteArray) (hs0 : s.size ≤ 140737488351232) (w : World) (hT : Tb w) :
    Calls Tryd.prog 6 #[.string s] w fun e w' => e = .returned (.bool true) ∧ Below w.heap.size w w' := by
  have HT := Aside0.mk hT
  clear hT
  by_cases h4 : 4000 < s.size
  · have d0 : decide (4000 < s.size) = true := decide_eq_true h4
    have d1 : decide (4000 < (s.size : Int)) = true := decide_eq_true (by omega)
    clear h4
    go_enter Tryd.func6, Tryd.ntmps6
    go_wp2_with fail
    refine (answers_calls w HT.out).mono ?_
    rintro e w2 ⟨rfl, hb⟩
    have HB2 := Aside0.mk hb
    clear hb
    go_wp2_with fail
    go_ret
    exact ⟨rfl, HB2.out⟩
  · have d0 : decide (4000 < s.size) = false := decide_eq_false h4
    have d1 : decide (4000 < (s.size : Int)) = false := decide_eq_false (by omega)
    have hsl : s.data.toList.length = s.size := data_length s
    obtain ⟨XS, RR, hP⟩ := prs_ex _ s.data.toList 1 (Nat.le_refl _)
    obtain ⟨r1, r2, r3, r4⟩ := prs_reads hP
    cases RR with
    | none =>
      have htx := r1 rfl
      have HW : Aside0 (∀ x, x ∈ XS → WfS x) := ⟨r3 (by omega)⟩
      have HPA := Aside0.mk (parse_ok s (by omega) w HT.out XS hP)
      obtain ⟨n, hn⟩ : ∃ n, XS.length = n := ⟨_, rfl⟩
      rw [hn] at HPA r4
      have HTX : Aside0 (∀ (A2 : Option Addr) (c2 : Nat) (W : World), Kd.C k32 W A2 n XS → Calls Tryd.prog 10 #[.slice A2 n c2] W fun e w' => e = .returned (.string s) ∧ Below W.heap.size W w') := ⟨fun A2 c2 W hc => by
        have h := text_calls A2 c2 n XS W hn hc HW.out (by omega)
        rwa [htx, show (⟨s.data.toList.toArray⟩ : ByteArray) = s from by cases s; simp] at h⟩
      clear hP r1 r2 r3 r4 htx hn hsl h4
      go_enter Tryd.func6, Tryd.ntmps6
      go_wp2_with fail
      refine HPA.out.mono ?_
      rintro e w2 ⟨⟨A, c, rfl, hC⟩, hb⟩
      have HB2 := Aside0.mk hb
      have HC2 := Aside0.mk hC
      clear hb hC
      go_wp2_with fail
      refine (answers_calls w2 (HT.out.below HB2.out)).mono ?_
      rintro e w3 ⟨rfl, hb⟩
      have HB3 : Aside0 (Below w.heap.size w w3) := ⟨HB2.out.trans (hb.mono HB2.out.size)⟩
      have HC3 := Aside0.mk (Kd.C_below HC2.out hb)
      clear hb
      go_wp2_with fail
      refine (HTX.out A c w3 HC3.out).mono ?_
      rintro e w4 ⟨rfl, hb⟩
      have HB4 : Aside0 (Below w.heap.size w w4) := ⟨HB3.out.trans (hb.mono HB3.out.size)⟩
      clear hb
      go_wp2_with fail
      go_ret
      exact ⟨rfl, HB4.out⟩
    | some k =>
      obtain ⟨hk1, hk2⟩ := r2 k rfl
      have HPA := Aside0.mk (parse_bad s (by omega) w HT.out XS k hP)
      have HK : Aside0 (k ≤ 1 + s.data.toList.count 10) := ⟨hk2⟩
      have HSL := Aside0.mk hsl
      have HCL : Aside0 (∀ q, (s.data.toList.take q).count 10 ≤ 4000) := ⟨fun q => by
        have h1 : (s.data.toList.take q).count 10 ≤ (s.data.toList.take q).length := List.count_le_length
        rw [List.length_take] at h1
        omega⟩
      have hk4 : k ≤ 4001 := by
        have h1 : s.data.toList.count 10 ≤ s.data.toList.length := List.count_le_length
        omega
      have hzz : s.size ≤ 4000 := by omega
      clear hP r1 r2 r3 r4 hsl h4 hk2
      go_enter Tryd.func6, Tryd.ntmps6
      go_wp2_with fail
      refine HPA.out.mono ?_
      rintro e w2 ⟨rfl, hb⟩
      have HB2 := Aside0.mk hb
      clear hb
      go_wp2_with fail
      go_loopw [6, 7] (fun c i wr => ∃ q : Nat, q ≤ s.size ∧ i = .int .i64 q ∧ c = .int .i64 ((s.data.toList.take q).count 10 : Nat) ∧ wr = w2) (fun _ i _ => s.size - (intOf i).toNat)
      case atStart => exact ⟨0, Nat.zero_le _, rfl, rfl, rfl⟩
      case round =>
        obtain ⟨q, hq, rfl, rfl, rfl⟩ := hrel
        have hcq := HCL.out q
        by_cases hlt : q < s.size
        · have hd : decide (q < s.size) = true := decide_eq_true hlt
          have hql : q < s.data.toList.length := by rw [HSL.out]; exact hlt
          have hst := count_step s.data.toList q hql
          have HST := Aside0.mk hst
          obtain ⟨b, hb⟩ : ∃ b, s.data.toList[q] = b := ⟨_, rfl⟩
          have hx : ∀ (h : q < s.size), ((s[q]'h).toNat : Int) = (b.toNat : Int) := fun h => by rw [← hb]; rfl
          rw [hb] at hst
          have HST2 := Aside0.mk hst
          clear hb hst HST
          generalize (s.data.toList.take q).count 10 = cn at *
          by_cases h10 : b = 10
          · subst h10
            have hst2 := HST2.out
            rw [if_pos rfl] at hst2
            have HST3 := Aside0.mk hst2
            clear hst2 HST2
            go_wp2_with fail
            exact ⟨⟨q + 1, by omega, by go_num, by rw [HST3.out]; rfl, trivial⟩, by simp [intOf]; omega⟩
          · have hst2 := HST2.out
            rw [if_neg h10] at hst2
            have HST3 := Aside0.mk hst2
            have hbn : b.toNat ≠ 10 := fun e => h10 (UInt8.toNat_inj.mp e)
            have f1 : (b.toNat == 10) = false := by simpa using hbn
            have f2 : ((b.toNat : Int) == 10) = false := by simp; omega
            clear hst2 HST2 h10
            go_wp2_with fail
            exact ⟨⟨q + 1, by omega, by go_num, by rw [HST3.out]; rfl, trivial⟩, by simp [intOf]; omega⟩
        · obtain rfl : q = s.size := by omega
          have hd : decide (s.size < s.size) = false := decide_eq_false (Nat.lt_irrefl _)
          have htk : s.data.toList.take s.size = s.data.toList := List.take_of_length_le (by rw [HSL.out]; exact Nat.le_refl _)
          rw [htk] at hcq ⊢
          have hk2 := HK.out
          generalize s.data.toList.count 10 = cn at *
          have e1 : decide (1 ≤ k) = true := decide_eq_true hk1
          have e2 : decide (k ≤ cn + 1) = true := decide_eq_true (by omega)
          have e1' : decide (1 ≤ (k : Int)) = true := decide_eq_true (by omega)
          have e2' : decide ((k : Int) ≤ (cn : Int) + 1) = true := decide_eq_true (by omega)
          have hwc : wrap64 ((cn : Int) + 1) = (cn : Int) + 1 := wrap64_in _ (by omega)
          clear htk
          go_wp2_with fail
          refine (answers_calls wr (HT.out.below HB2.out)).mono ?_
          rintro e w3 ⟨rfl, hb⟩
          have HB3 : Aside0 (Below w.heap.size w w3) := ⟨HB2.out.trans (hb.mono HB2.out.size)⟩
          clear hb
          go_wp2_with fail
          go_ret
          exact ⟨rfl, HB3.out⟩
end Go.Proofs.YtganhhhkmcmngaaDoor.Sc
