/- Scripts: three of the laws. -/
import Derived.Test.YtganhhhkmcmngaaDoorProg
import Derived.Below
import Derived.Deep.Draws
import Derived.Deep.AppendLies
import Derived.Maps.AppendAt
import Derived.OwnWalk
import Derived.Laws.BytesArg
import Derived.Laws.MakeOwn
import Derived.Laws.OwnMore
import Derived.Deep.OwnRows
import Derived.Tactics
import Derived.Lib.ConvBytes
import Derived.Laws.Slices
import Derived.WalkKit
import Derived.KernelRfl
import Derived.RowKit3
import Derived.Deep.LoopGhost
import Derived.Deep.QuietTactic
import Derived.BigQuiet
import Derived.WideLaws
import Derived.Deep.DeepCutAuto
import Derived.Deep.CutBlock
import Derived.Deep.RegionHeld3
import Derived.Laws.Rows
import Derived.Lib.AppendStr
import Derived.ArgAppend
import Derived.Laws.IdiomCopy
import Derived.OrdersHeld
import Derived.Laws.BitsLemmas
import Derived.RowKit
import Derived.Test.YtganhhhkmcmngaaDoorWWords
import Derived.Test.YtganhhhkmcmngaaDoorWLast
import Derived.Test.YtganhhhkmcmngaaDoorWTab
import Derived.Test.YtganhhhkmcmngaaDoorWFour
import Derived.Test.YtganhhhkmcmngaaDoorWQPut
import Derived.Test.YtganhhhkmcmngaaDoorWApart
import Derived.Test.YtganhhhkmcmngaaDoorWArr
import Derived.Test.YtganhhhkmcmngaaDoorWZeros
import Derived.Test.YtganhhhkmcmngaaDoorWFoot
import Derived.Test.YtganhhhkmcmngaaDoorWKept
import Derived.Test.YtganhhhkmcmngaaDoorWShare
import Derived.Test.YtganhhhkmcmngaaDoorWN
import Derived.Test.YtganhhhkmcmngaaDoorWFootNe
import Derived.Test.YtganhhhkmcmngaaDoorWAt
import Derived.Test.YtganhhhkmcmngaaDoorWEqStruct
import Derived.Test.YtganhhhkmcmngaaDoorWRepsOne
import Derived.Test.YtganhhhkmcmngaaDoorWInv
import Derived.Test.YtganhhhkmcmngaaDoorWInvWords
import Derived.Test.YtganhhhkmcmngaaDoorWGuard
import Derived.Test.YtganhhhkmcmngaaDoorWNEv
import Derived.Test.YtganhhhkmcmngaaDoorWMore
import Derived.Test.YtganhhhkmcmngaaDoorSc11
namespace Go.Proofs.YtganhhhkmcmngaaDoor.Sc
open Go.RowKit Go.Proofs.YtganhhhkmcmngaaDoorW.PrintWords Go.Proofs.YtganhhhkmcmngaaDoorW.PrintLast Go.Proofs.YtganhhhkmcmngaaDoorW.PrintMore
attribute [local go_sem] max2_int min2_int max_two min_two max_three min_three max_four min_four
set_option linter.unusedVariables false
set_option linter.unusedSimpArgs false
open Go.Shelf
/-- A step that comes in. -/
structure WfB (x : S32) : Prop where
  a0 : -9223372036854775808 ≤ x.f0
  a1 : x.f0 ≤ 9223372036854775807
  b0 : -9223372036854775808 ≤ x.f1
  b1 : x.f1 ≤ 9223372036854775807
  k0 : 0 ≤ x.f4
  k1 : x.f4 < 18446744073709551616
  key : x.f2.size ≤ 140737488351232
  len : x.f3.length ≤ 140737488351232
  byt : Byt x.f3
def Sm (x : S32) : Prop := x.f2.size + x.f3.length ≤ 300
theorem WfB.wf {x : S32} (h : WfB x) (hs : Sm x) : WfS x := ⟨h.a0, h.a1, h.b0, h.b1, h.k0, h.k1, by unfold Sm at hs; omega, by unfold Sm at hs; omega, h.byt⟩
theorem wrap64_in (n : Int) (h : -9223372036854775808 ≤ n ∧ n ≤ 9223372036854775807) : wrap64 n = n := by unfold wrap64; omega
theorem small_aux (l : List S32) (hl : l.length ≤ 9223372036854775000) (hz : ∀ x, x ∈ l → WfB x) : ∀ (k i : Nat), l.length ≤ i + k → ∃ r, flittinglaw24_small.l0 (k + 1) l (i : Int) = some r ∧ (r = true → i < l.length → l.length ≤ 100 ∧ ∀ j, i ≤ j → j < l.length → Sm (rd_T32 l (j : Int)))
  | 0, i, h => by
    refine ⟨true, ?_, fun _ hi => by omega⟩
    unfold flittinglaw24_small.l0
    rw [if_neg (by omega)]
  | k + 1, i, h => by
    by_cases hi : i < l.length
    · by_cases h100 : (l.length : Int) > 100
      · refine ⟨false, ?_, fun h => by cases h⟩
        unfold flittinglaw24_small.l0
        rw [if_pos (by omega), if_pos h100]
      · have hx : WfB (rd_T32 l (i : Int)) := by
          have e : rd_T32 l (i : Int) = l[i] := by simp [rd_T32, hi]
          rw [e]; exact hz _ (List.getElem_mem hi)
        have hw : wrap64 (((rd_T32 l (i : Int)).f2.size : Int) + ((rd_T32 l (i : Int)).f3.length : Int)) = ((rd_T32 l (i : Int)).f2.size : Int) + ((rd_T32 l (i : Int)).f3.length : Int) := wrap64_in _ (by have := hx.key; have := hx.len; omega)
        by_cases h300 : wrap64 (((rd_T32 l (i : Int)).f2.size : Int) + ((rd_T32 l (i : Int)).f3.length : Int)) > 300
        · refine ⟨false, ?_, fun h => by cases h⟩
          unfold flittinglaw24_small.l0
          rw [if_pos (by omega), if_neg h100, if_pos (by omega), if_pos h300]
        · obtain ⟨r, hr, hr2⟩ := small_aux l hl hz k (i + 1) (by omega)
          refine ⟨r, ?_, fun ht _ => ⟨by omega, fun j hj hj2 => ?_⟩⟩
          · rw [flittinglaw24_small.l0]
            rw [if_pos (by omega), if_neg h100, if_pos (by omega), if_neg h300, wrap64_in _ (by omega)]
            exact_mod_cast hr
          · rcases Nat.eq_or_lt_of_le hj with rfl | hj3
            · unfold Sm; rw [hw] at h300; omega
            · exact (hr2 ht (by omega)).2 j hj3 hj2
    · refine ⟨true, ?_, fun _ h => absurd h hi⟩
      unfold flittinglaw24_small.l0
      rw [if_neg (by omega)]
theorem small_calls (A : Option Addr) (c n : Nat) (l : List S32) (w : World) (hn : l.length = n) (hC : Kd.C k32 w A n l) (hc : n ≤ c) (hl : n ≤ 9223372036854775000) (hz : ∀ x, x ∈ l → WfB x) :
    Calls Tryd.prog 8 #[.slice A n c] w fun e w' => ∃ r, e = .returned (.bool r) ∧ (r = true → n ≤ 100 ∧ ∀ x, x ∈ l → Sm x) ∧ Below w.heap.size w w' := by
  subst hn
  obtain ⟨r, hr, hr2⟩ := small_aux l hl hz l.length 0 (by omega)
  refine (flittinglaw24_small.calls (l.length + 1) A c l r w hC hc hr).mono ?_
  rintro e w' ⟨rfl, k, rfl⟩
  refine ⟨r, rfl, fun ht => ?_, below_drewN w k⟩
  by_cases h0 : 0 < l.length
  · obtain ⟨h1, h2⟩ := hr2 ht h0
    refine ⟨h1, fun x hx => ?_⟩
    obtain ⟨j, hj, rfl⟩ := List.getElem_of_mem hx
    have := h2 j (Nat.zero_le _) hj
    have e : rd_T32 l (j : Int) = l[j] := by simp [rd_T32, hj]
    rwa [e] at this
  · have : l = [] := List.length_eq_zero_iff.mp (by omega)
    subst this
    exact ⟨by simp, fun x hx => by simp at hx⟩
theorem textU_small (l : List S32) (h : ∀ x, x ∈ l → WfS x ∧ Sm x) : (textU l).length ≤ 670 * l.length := by
  induction l with
  | nil => exact Nat.zero_le _
  | cons x l ih =>
    obtain ⟨hw, hs⟩ := h x (List.mem_cons_self ..)
    have h1 := itoa_len x.f0 hw.a0 hw.a1
    have h2 := itoa_len x.f1 hw.b0 hw.b1
    have h3 := dec_short x.f4.toNat (by have := hw.k0; have := hw.k1; omega)
    have h4 := hexU_len (bytesOf x.f2)
    rw [bytesOf_length] at h4
    have h5 := hexU_len x.f3
    unfold Sm at hs
    have i2 := ih fun y hy => h y (List.mem_cons_of_mem _ hy)
    have hl : (lineU x).length ≤ 668 := by
      unfold lineU
      simp only [List.length_append, h4, h5]
      show _ + 1 + _ + 1 + _ + 2 + _ + 2 + _ ≤ _
      omega
    unfold textU at i2 ⊢
    rw [List.flatMap_cons, List.length_append, List.length_append]
    show _ + 1 + _ ≤ 670 * (l.length + 1)
    omega
set_option maxHeartbeats 4000000 in
set_option maxRecDepth 100000 in
theorem back_calls (A : Option Addr) (c n : Nat) (l : List S32) (w : World) (hT : Tb w) (hn : l.length = n) (hC : Kd.C k32 w A n l) (hc : n ≤ c) (hl : n ≤ 9223372036854775000) (hz : ∀ x, x ∈ l → WfB x) :
    Calls Tryd.prog 5 #[.slice A n c] w fun e w' => e = .returned (.bool true) ∧ Below w.heap.size w w' := by
  have HT := Aside0.mk hT
  have HN := Aside0.mk hn
  have HC := Aside0.mk hC
  have HZ := Aside0.mk hz
  have HSM := Aside0.mk (small_calls A c n l w hn hC hc hl hz)
  clear hT hn hC hz hc
  go_enter Tryd.func5, Tryd.ntmps5
  go_wp2_with fail
  refine HSM.out.mono ?_
  rintro e w1 ⟨r, rfl, hr, hb⟩
  have HB1 : Aside0 (Below w.heap.size w w1) := ⟨hb⟩
  have HR := Aside0.mk hr
  clear hb hr
  cases r with
  | false =>
    go_wp2_with fail
    refine (answers_calls w1 (HT.out.below HB1.out)).mono ?_
    rintro e w2 ⟨rfl, hb⟩
    have HB2 : Aside0 (Below w.heap.size w w2) := ⟨HB1.out.trans (hb.mono HB1.out.size)⟩
    clear hb
    go_wp2_with fail
    go_ret
    exact ⟨rfl, HB2.out⟩
  | true =>
    obtain ⟨h100, hsm⟩ := HR.out rfl
    have HW : Aside0 (∀ x, x ∈ l → WfS x) := ⟨fun x hx => (HZ.out x hx).wf (hsm x hx)⟩
    have htl := textU_small l fun x hx => ⟨HW.out x hx, hsm x hx⟩
    rw [HN.out] at htl
    have HP := Aside0.mk (prs_text l 1 HW.out)
    have HPR := Aside0.mk fun (W : World) (hb : Below w.heap.size w W) => print_calls A c n l W HN.out (Kd.C_below HC.out hb) HW.out (by omega) (HT.out.below hb)
    have HTX := Aside0.mk fun (W : World) (hb : Below w.heap.size w W) => text_calls A c n l W HN.out (Kd.C_below HC.out hb) HW.out (by omega)
    have HTX2 := Aside0.mk fun (A2 : Option Addr) (c2 : Nat) (W : World) (hc : Kd.C k32 W A2 n l) => text_calls A2 c2 n l W HN.out hc HW.out (by omega)
    obtain ⟨sx, hsx, hsz⟩ := mk_str (textU l)
    have hsd : sx.data.toList = textU l := by rw [← hsx]
    rw [hsx] at HPR HTX HTX2
    have HPA : Aside0 (∀ W, Below w.heap.size w W → Calls Tryd.prog 11 #[.string sx] W fun e w' => (∃ A c, e = .returned (.tuple #[.slice A n c, .int .i64 0, .int .i64 0]) ∧ Kd.C k32 w' A n l) ∧ Below W.heap.size W w') := ⟨fun W hb => by
      have h := parse_ok sx (by rw [hsz]; omega) W (HT.out.below hb) l (by rw [hsd]; exact HP.out)
      rwa [HN.out] at h⟩
    clear hsm htl hsx hsz hsd
    go_wp2_with fail
    refine (HPR.out w1 HB1.out).mono ?_
    rintro e w2 ⟨rfl, hb⟩
    have HB2 : Aside0 (Below w.heap.size w w2) := ⟨HB1.out.trans (hb.mono HB1.out.size)⟩
    clear hb
    go_wp2_with fail
    refine (HPA.out w2 HB2.out).mono ?_
    rintro e w3 ⟨⟨A2, c2, rfl, hC2⟩, hb⟩
    have HB3 : Aside0 (Below w.heap.size w w3) := ⟨HB2.out.trans (hb.mono HB2.out.size)⟩
    have HC2 := Aside0.mk hC2
    clear hb hC2
    go_wp2_with fail
    refine (answers_calls w3 (HT.out.below HB3.out)).mono ?_
    rintro e w4 ⟨rfl, hb⟩
    have HB4 : Aside0 (Below w.heap.size w w4) := ⟨HB3.out.trans (hb.mono HB3.out.size)⟩
    have HC4 := Aside0.mk (Kd.C_below HC2.out hb)
    clear hb
    go_wp2_with fail
    refine (HTX.out w4 HB4.out).mono ?_
    rintro e w5 ⟨rfl, hb⟩
    have HB5 : Aside0 (Below w.heap.size w w5) := ⟨HB4.out.trans (hb.mono HB4.out.size)⟩
    have HC5 := Aside0.mk (Kd.C_below HC4.out hb)
    clear hb
    go_wp2_with fail
    refine (HTX2.out A2 c2 w5 HC5.out).mono ?_
    rintro e w6 ⟨rfl, hb⟩
    have HB6 : Aside0 (Below w.heap.size w w6) := ⟨HB5.out.trans (hb.mono HB5.out.size)⟩
    clear hb
    go_wp2_with fail
    go_ret
    exact ⟨rfl, HB6.out⟩
set_option maxHeartbeats 4000000 in
set_option maxRecDepth 100000 in
theorem ends_calls (A : Option Addr) (c n : Nat) (l : List S32) (w : World) (hT : Tb w) (hn : l.length = n) (hC : Kd.C k32 w A n l) (hc : n ≤ c) (hl : n ≤ 9223372036854775000) (hz : ∀ x, x ∈ l → WfB x) :
    Calls Tryd.prog 3 #[.slice A n c] w fun e w' => e = .returned (.bool true) ∧ Below w.heap.size w w' := by
  have HT := Aside0.mk hT
  have HN := Aside0.mk hn
  have HC := Aside0.mk hC
  have HZ := Aside0.mk hz
  have HSM := Aside0.mk (small_calls A c n l w hn hC hc hl hz)
  clear hT hn hC hz hc
  go_enter Tryd.func3, Tryd.ntmps3
  go_wp2_with fail
  refine HSM.out.mono ?_
  rintro e w1 ⟨r, rfl, hr, hb⟩
  have HB1 : Aside0 (Below w.heap.size w w1) := ⟨hb⟩
  have HR := Aside0.mk hr
  clear hb hr
  cases r with
  | false =>
    go_wp2_with fail
    refine (answers_calls w1 (HT.out.below HB1.out)).mono ?_
    rintro e w2 ⟨rfl, hb⟩
    have HB2 : Aside0 (Below w.heap.size w w2) := ⟨HB1.out.trans (hb.mono HB1.out.size)⟩
    clear hb
    go_wp2_with fail
    go_ret
    exact ⟨rfl, HB2.out⟩
  | true =>
    by_cases h0 : n = 0
    · subst h0
      go_wp2_with fail
      refine (answers_calls w1 (HT.out.below HB1.out)).mono ?_
      rintro e w2 ⟨rfl, hb⟩
      have HB2 : Aside0 (Below w.heap.size w w2) := ⟨HB1.out.trans (hb.mono HB1.out.size)⟩
      clear hb
      go_wp2_with fail
      go_ret
      exact ⟨rfl, HB2.out⟩
    · obtain ⟨h100, hsm⟩ := HR.out rfl
      have HW : Aside0 (∀ x, x ∈ l → WfS x) := ⟨fun x hx => (HZ.out x hx).wf (hsm x hx)⟩
      have htl := textU_small l fun x hx => ⟨HW.out x hx, hsm x hx⟩
      rw [HN.out] at htl
      have HTX := Aside0.mk fun (W : World) (hb : Below w.heap.size w W) => text_calls A c n l W HN.out (Kd.C_below HC.out hb) HW.out (by omega)
      obtain ⟨l1, x, hlx⟩ : ∃ l1 x, l = l1 ++ [x] := ⟨l.dropLast, l.getLast (fun e => h0 (by rw [← HN.out, e]; rfl)), (List.dropLast_concat_getLast _).symm⟩
      have hn1 : n = l1.length + 1 := by rw [← HN.out, hlx]; simp
      have htx : textU l = textU l1 ++ lineU x ++ [10] := by rw [hlx]; simp [textU]
      have hwx := HW.out x (by rw [hlx]; simp)
      have hpr : Prs (textU l1 ++ lineU x) 1 (l1 ++ []) (some n) := prs_app (lineU x) [] (some n) l1 1 (fun y hy => HW.out y (by rw [hlx]; simp [hy])) (by
        rw [hn1, Nat.add_comm]
        refine Prs.cut _ (fun e => ?_) (line_no x hwx)
        have := congrArg List.length e
        rw [lineU_eq2] at this
        simp at this)
      obtain ⟨sx, hsx, hsz⟩ := mk_str (textU l)
      have hsd : sx.data.toList = textU l := by rw [← hsx]
      rw [hsx] at HTX
      obtain ⟨m, hm⟩ : ∃ m, sx.size = m + 1 := ⟨(textU l1 ++ lineU x).length, by rw [hsz, htx, List.length_append]; rfl⟩
      obtain ⟨s2, hs2⟩ : ∃ s2, sx.extract 0 m = s2 := ⟨_, rfl⟩
      have hmm : m = (textU l1 ++ lineU x).length := by rw [hsz, htx, List.length_append] at hm; exact (Nat.succ.inj hm).symm
      have hd2 : s2.data.toList = textU l1 ++ lineU x := by
        rw [← hs2, Lib.extract_from_zero, hsd, htx, hmm]
        exact List.take_left ..
      have HPA : Aside0 (∀ W, Below w.heap.size w W → Calls Tryd.prog 11 #[.string s2] W fun e w' => e = .returned (.tuple #[.slice none 0 0, .int .i64 n, .int .i64 13]) ∧ Below W.heap.size W w') := ⟨fun W hb => parse_bad s2 (by rw [← data_length, hd2, ← hmm]; omega) W (HT.out.below hb) _ n (by rw [hd2]; exact hpr)⟩
      have d0 : (n == 0) = false := by simpa using h0
      have d1 : ((n : Int) == 0) = false := by simp; omega
      have hwm : wrap64 (m : Int) = (m : Int) := wrap64_in _ (by omega)
      clear hsm htl hsx hsz hsd hlx hn1 htx hwx hpr hmm hd2 h0
      go_wp2_with fail
      refine (HTX.out w1 HB1.out).mono ?_
      rintro e w2 ⟨rfl, hb⟩
      have HB2 : Aside0 (Below w.heap.size w w2) := ⟨HB1.out.trans (hb.mono HB1.out.size)⟩
      clear hb
      go_wp2_with fail
      refine (HPA.out w2 HB2.out).mono ?_
      rintro e w3 ⟨rfl, hb⟩
      have HB3 : Aside0 (Below w.heap.size w w3) := ⟨HB2.out.trans (hb.mono HB2.out.size)⟩
      clear hb
      go_wp2_with fail
      refine (answers_calls w3 (HT.out.below HB3.out)).mono ?_
      rintro e w4 ⟨rfl, hb⟩
      have HB4 : Aside0 (Below w.heap.size w w4) := ⟨HB3.out.trans (hb.mono HB3.out.size)⟩
      clear hb
      go_wp2_with fail
      go_ret
      exact ⟨rfl, HB4.out⟩
end Go.Proofs.YtganhhhkmcmngaaDoor.Sc
