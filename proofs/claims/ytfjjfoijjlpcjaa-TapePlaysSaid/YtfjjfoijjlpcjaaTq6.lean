/- Tapes: the contracts of the reference's tape. -/
import Derived.Test.YtfjjfoijjlpcjaaProg
import Derived.Below
import Derived.Deep.Draws
import Derived.Deep.AppendLies
import Derived.Maps.AppendAt
import Derived.OwnWalk
import Derived.Laws.BytesArg
import Derived.Laws.MakeOwn
import Derived.Laws.OwnMore
import Derived.Deep.OwnRows
import Derived.Tactics
import Derived.Lib.ConvBytes
import Derived.Laws.Slices
import Derived.WalkKit
import Derived.KernelRfl
import Derived.RowKit3
import Derived.Deep.LoopGhost
import Derived.Deep.QuietTactic
import Derived.BigQuiet
import Derived.WideLaws
import Derived.Deep.DeepCutAuto
import Derived.Deep.CutBlock
import Derived.Deep.RegionHeld3
import Derived.Laws.Rows
import Derived.Lib.AppendStr
import Derived.ArgAppend
import Derived.Laws.IdiomCopy
import Derived.OrdersHeld
import Derived.Laws.BitsLemmas
import Derived.RowKit
import Derived.Test.YtfjjfoijjlpcjaaWWords
import Derived.Test.YtfjjfoijjlpcjaaWLast
import Derived.Test.YtfjjfoijjlpcjaaWTab
import Derived.Test.YtfjjfoijjlpcjaaWFour
import Derived.Test.YtfjjfoijjlpcjaaWQPut
import Derived.Test.YtfjjfoijjlpcjaaWApart
import Derived.Test.YtfjjfoijjlpcjaaWArr
import Derived.Test.YtfjjfoijjlpcjaaWZeros
import Derived.Test.YtfjjfoijjlpcjaaWFoot
import Derived.Test.YtfjjfoijjlpcjaaWKept
import Derived.Test.YtfjjfoijjlpcjaaWShare
import Derived.Test.YtfjjfoijjlpcjaaWN
import Derived.Test.YtfjjfoijjlpcjaaWFootNe
import Derived.Test.YtfjjfoijjlpcjaaWAt
import Derived.Test.YtfjjfoijjlpcjaaWEqStruct
import Derived.Test.YtfjjfoijjlpcjaaWRepsOne
import Derived.Test.YtfjjfoijjlpcjaaWInv
import Derived.Test.YtfjjfoijjlpcjaaWInvWords
import Derived.Test.YtfjjfoijjlpcjaaWGuard
import Derived.Test.YtfjjfoijjlpcjaaWNEv
import Derived.Test.YtfjjfoijjlpcjaaWMore
import Derived.Test.YtfjjfoijjlpcjaaTq5
import Derived.Lib.SliceRun
import Derived.Outline
import Derived.StillTailTactics
import Derived.Lib.SlBytesConst
import Derived.Deep.DeepCutAuto
import Derived.Deep.CutBlock
namespace Go.Proofs.Ytfjjfoijjlpcjaa.Tp
open Go.RowKit Go.Proofs.YtfjjfoijjlpcjaaW.PrintWords Go.Proofs.YtfjjfoijjlpcjaaW.PrintLast Go.Proofs.YtfjjfoijjlpcjaaW.PrintMore
attribute [local go_sem] max2_int min2_int max_two min_two max_three min_three max_four min_four
set_option linter.unusedVariables false
set_option linter.unusedSimpArgs false
theorem alloc_sz (w : World) (o : Obj) : (w.alloc o).heap.size = w.heap.size + 1 := Array.size_push ..
theorem tmod2_odd {k : Int} (h : k % 2 = 1) : (k.tmod 2 == 0) = false := by
  rw [beq_eq_false_iff_ne]
  intro e
  have h2 := Int.dvd_of_tmod_eq_zero e
  omega
theorem tmod2_even {k : Int} (h : ¬ k % 2 = 1) : (k.tmod 2 == 0) = true := by
  rw [beq_iff_eq]
  exact Int.tmod_eq_zero_of_dvd (by omega)
set_option maxHeartbeats 4000000 in
set_option maxRecDepth 100000 in
theorem all_calls (s : Sd) (v0 u0 : Value) (k : Int) (ok : Nat → Prop) (w : World) (hv : Vb w ok v0 s.b) (hu : Vb w ok u0 s.l) (hnew : ∀ k, w.heap.size ≤ k → ok k) (hL : s.b.length + s.l.length < 1099511627776) :
    Calls Try.prog 19 #[.agg #[v0, u0, .bool s.wet, .bool s.sw, .bool s.lost], .int .i64 k] w fun e w' => ∃ v, e = .returned v ∧ Vb w' ok v (s.crB k) ∧ Below w.heap.size w w' := by
  obtain ⟨b, l, sw, wet, lost⟩ := s
  simp only at hv hu hL
  obtain ⟨A1, d1, rfl⟩ := Kd.V_slice hu
  have hld : l.length ≤ d1 := (Kd.V_at hu).2.1
  obtain ⟨A0, d0, rfl, hl0, hF0⟩ := hv
  have HV := Aside0.mk hF0
  have HVV : Aside0 (Vb w ok (.slice A0 b.length d0) b) := ⟨_, _, rfl, hl0, hF0⟩
  have HU := Aside0.mk hu
  have HN := Aside0.mk hnew
  have HL := Aside0.mk hL
  have HBb : Aside0 (Below w.heap.size w (w.alloc (.cells #[.slice A0 b.length d0, .slice A1 l.length d1, .bool wet, .bool sw, .bool lost] 37))) := ⟨(Below.refl _ _).alloc (Nat.le_refl _) _⟩
  have HM : Aside0 (U8.R 5 ((w.alloc (.cells #[.slice A0 b.length d0, .slice A1 l.length d1, .bool wet, .bool sw, .bool lost] 37)).alloc (.cells #[] 5)) (w.alloc (.cells #[.slice A0 b.length d0, .slice A1 l.length d1, .bool wet, .bool sw, .bool lost] 37)).heap.size (fun _ => True) (.slice (some ⟨(w.alloc (.cells #[.slice A0 b.length d0, .slice A1 l.length d1, .bool wet, .bool sw, .bool lost] 37)).heap.size, 0, none⟩) 0 0) []) := ⟨⟨fun _ _ => trivial, [], World.ownsRow_made (w.alloc (.cells #[.slice A0 b.length d0, .slice A1 l.length d1, .bool wet, .bool sw, .bool lost] 37)) #[] 0 (Nat.le_refl _) (Nat.zero_le _) rfl, Reps.none _ _⟩⟩
  have HBm : Aside0 (Below (w.alloc (.cells #[.slice A0 b.length d0, .slice A1 l.length d1, .bool wet, .bool sw, .bool lost] 37)).heap.size (w.alloc (.cells #[.slice A0 b.length d0, .slice A1 l.length d1, .bool wet, .bool sw, .bool lost] 37)) ((w.alloc (.cells #[.slice A0 b.length d0, .slice A1 l.length d1, .bool wet, .bool sw, .bool lost] 37)).alloc (.cells #[] 5))) := ⟨(Below.refl _ _).alloc (Nat.le_refl _) _⟩
  clear hu hnew hL hl0 hF0
  cases wet
  · have hc : Sd.crB ⟨b, l, sw, false, lost⟩ k = b := rfl
    rw [hc]
    clear hc
    go_enter Try.func19, Try.ntmps19
    go_wp2
    go_ret
    exact ⟨_, rfl, Kd.V_below HVV.out HBb.out, HBb.out⟩
  · cases sw
    · by_cases hk : k < 0
      · by_cases hl : 0 < l.length
        · have hc : Sd.crB ⟨b, l, false, true, lost⟩ k = b ++ l.take 0 := by show b ++ l.take (keeps k l.length) = _; rw [show keeps k l.length = 0 from if_pos hk]
          rw [hc]
          clear hc
          have hl1 : decide ((0 : Int) < (l.length : Int)) = true := decide_eq_true (by omega)
          have hl2 : decide (0 < l.length) = true := decide_eq_true hl
          have hd3 : (0 : Int) ≤ (d1 : Int) := by omega
          have HX : Aside0 (Kd.F U8 w ok A1 0 (l.take 0)) := ⟨ftake (Kd.V_F (e := 5) (base := 0) HU.out) (by omega)⟩
          have hsz : (w.alloc (.cells #[.slice A0 b.length d0, .slice A1 l.length d1, .bool true, .bool false, .bool lost] 37)).heap.size = w.heap.size + 1 := alloc_sz _ _
          rw [hsz] at HM HBm
          have HS1 : Aside0 (w.heap.size + 1 ≤ (w.alloc (.cells #[.slice A0 b.length d0, .slice A1 l.length d1, .bool true, .bool false, .bool lost] 37)).heap.size) := ⟨Nat.le_of_eq hsz.symm⟩
          clear hsz
          simp only
          go_enter Try.func19, Try.ntmps19
          go_wp2_with (first | (at_builtin; refine Kd.R_append_rows U8 (w0 := (w.alloc (.cells #[.slice A0 b.length d0, .slice A1 l.length d1, .bool true, .bool false, .bool lost] 37))) (Rr := U8.K w) (w.heap.size + 1) rfl (.tmp 30) (.tmp 32) 22 5 (.int .u8 0) 1 rfl Try.underlying22 info5 rfl (by decide) (by decide) (.slice (some ⟨w.heap.size + 1, 0, none⟩) 0 0) [] b A0 b.length d0 (fun _ => True) (fun _ => False) rfl rfl HM.out (Kd.C_below (Kd.F_now HV.out) (HBb.out.trans (HBm.out.mono (by omega)))) (fun _ _ h => h) (fun _ hk => hk.elim) (fun _ _ => trivial) HBm.out (Nat.le_trans HS1.out HBm.out.size) ?aL ?_; (case aL => have := HL.out; simp only [List.length_nil]; omega); intro v2 w1 ho hb hg hat; have HO1 : Aside0 (U8.R 5 w1 (w.heap.size + 1) (fun _ => True) v2 b) := ⟨ho⟩; have HB1 := Aside0.mk hb; clear ho hb hg hat HM HBm) | (at_builtin; refine Kd.R_append_rows U8 (w0 := (w.alloc (.cells #[.slice A0 b.length d0, .slice A1 l.length d1, .bool true, .bool false, .bool lost] 37))) (Rr := U8.K w) (w.heap.size + 1) rfl (.tmp 33) (.tmp 34) 22 5 (.int .u8 0) 1 rfl Try.underlying22 info5 rfl (by decide) (by decide) v2 b (l.take 0) A1 0 d1 (fun _ => True) (fun _ => False) rfl rfl HO1.out (Kd.C_below (Kd.F_now HX.out) (HBb.out.trans (HB1.out.mono (by omega)))) (fun _ _ h => h) (fun _ hk => hk.elim) (fun _ _ => trivial) HB1.out (Nat.le_trans HS1.out HB1.out.size) ?aL ?_; (case aL => have := HL.out; omega); intro v3 w2 ho hb hg hat; have HO2 : Aside0 (U8.R 5 w2 (w.heap.size + 1) (fun _ => True) v3 (b ++ (l.take 0))) := ⟨ho⟩; have HB2 := Aside0.mk hb; clear ho hb hg hat))
          go_ret
          exact ⟨_, rfl, vb_new HO2.out (fun k hk => HN.out k (by omega)), HBb.out.trans (HB2.out.mono (by omega))⟩
        · have hc : Sd.crB ⟨b, l, false, true, lost⟩ k = b ++ l := by show b ++ l.take (keeps k l.length) = _; rw [List.take_of_length_le (by omega)]
          rw [hc]
          clear hc
          have hl1 : decide ((0 : Int) < (l.length : Int)) = false := decide_eq_false (by omega)
          have hl2 : decide (0 < l.length) = false := decide_eq_false hl
          have HX : Aside0 (Kd.F U8 w ok A1 l.length l) := ⟨Kd.V_F (e := 5) (base := 0) HU.out⟩
          have hsz : (w.alloc (.cells #[.slice A0 b.length d0, .slice A1 l.length d1, .bool true, .bool false, .bool lost] 37)).heap.size = w.heap.size + 1 := alloc_sz _ _
          rw [hsz] at HM HBm
          have HS1 : Aside0 (w.heap.size + 1 ≤ (w.alloc (.cells #[.slice A0 b.length d0, .slice A1 l.length d1, .bool true, .bool false, .bool lost] 37)).heap.size) := ⟨Nat.le_of_eq hsz.symm⟩
          clear hsz
          simp only
          go_enter Try.func19, Try.ntmps19
          go_wp2_with (first | (at_builtin; refine Kd.R_append_rows U8 (w0 := (w.alloc (.cells #[.slice A0 b.length d0, .slice A1 l.length d1, .bool true, .bool false, .bool lost] 37))) (Rr := U8.K w) (w.heap.size + 1) rfl (.tmp 30) (.tmp 32) 22 5 (.int .u8 0) 1 rfl Try.underlying22 info5 rfl (by decide) (by decide) (.slice (some ⟨w.heap.size + 1, 0, none⟩) 0 0) [] b A0 b.length d0 (fun _ => True) (fun _ => False) rfl rfl HM.out (Kd.C_below (Kd.F_now HV.out) (HBb.out.trans (HBm.out.mono (by omega)))) (fun _ _ h => h) (fun _ hk => hk.elim) (fun _ _ => trivial) HBm.out (Nat.le_trans HS1.out HBm.out.size) ?aL ?_; (case aL => have := HL.out; simp only [List.length_nil]; omega); intro v2 w1 ho hb hg hat; have HO1 : Aside0 (U8.R 5 w1 (w.heap.size + 1) (fun _ => True) v2 b) := ⟨ho⟩; have HB1 := Aside0.mk hb; clear ho hb hg hat HM HBm) | (at_builtin; refine Kd.R_append_rows U8 (w0 := (w.alloc (.cells #[.slice A0 b.length d0, .slice A1 l.length d1, .bool true, .bool false, .bool lost] 37))) (Rr := U8.K w) (w.heap.size + 1) rfl (.tmp 33) (.tmp 34) 22 5 (.int .u8 0) 1 rfl Try.underlying22 info5 rfl (by decide) (by decide) v2 b l A1 l.length d1 (fun _ => True) (fun _ => False) rfl rfl HO1.out (Kd.C_below (Kd.F_now HX.out) (HBb.out.trans (HB1.out.mono (by omega)))) (fun _ _ h => h) (fun _ hk => hk.elim) (fun _ _ => trivial) HB1.out (Nat.le_trans HS1.out HB1.out.size) ?aL ?_; (case aL => have := HL.out; omega); intro v3 w2 ho hb hg hat; have HO2 : Aside0 (U8.R 5 w2 (w.heap.size + 1) (fun _ => True) v3 (b ++ l)) := ⟨ho⟩; have HB2 := Aside0.mk hb; clear ho hb hg hat))
          go_ret
          exact ⟨_, rfl, vb_new HO2.out (fun k hk => HN.out k (by omega)), HBb.out.trans (HB2.out.mono (by omega))⟩
      · by_cases hm : k.toNat < l.length
        · have hc : Sd.crB ⟨b, l, false, true, lost⟩ k = b ++ l.take k.toNat := by show b ++ l.take (keeps k l.length) = _; unfold keeps; rw [if_neg hk, if_pos hm]
          rw [hc]
          clear hc
          have hk1 : 0 ≤ k := by omega
          have hk2 : decide (k < (l.length : Int)) = true := decide_eq_true (by omega)
          have hk3 : k ≤ (l.length : Int) := by omega
          have hk4 : k ≤ (d1 : Int) := by omega
          clear hk
          have HX : Aside0 (Kd.F U8 w ok A1 k.toNat (l.take k.toNat)) := ⟨ftake (Kd.V_F (e := 5) (base := 0) HU.out) (by omega)⟩
          have hsz : (w.alloc (.cells #[.slice A0 b.length d0, .slice A1 l.length d1, .bool true, .bool false, .bool lost] 37)).heap.size = w.heap.size + 1 := alloc_sz _ _
          rw [hsz] at HM HBm
          have HS1 : Aside0 (w.heap.size + 1 ≤ (w.alloc (.cells #[.slice A0 b.length d0, .slice A1 l.length d1, .bool true, .bool false, .bool lost] 37)).heap.size) := ⟨Nat.le_of_eq hsz.symm⟩
          clear hsz
          simp only
          go_enter Try.func19, Try.ntmps19
          go_wp2_with (first | (at_builtin; refine Kd.R_append_rows U8 (w0 := (w.alloc (.cells #[.slice A0 b.length d0, .slice A1 l.length d1, .bool true, .bool false, .bool lost] 37))) (Rr := U8.K w) (w.heap.size + 1) rfl (.tmp 30) (.tmp 32) 22 5 (.int .u8 0) 1 rfl Try.underlying22 info5 rfl (by decide) (by decide) (.slice (some ⟨w.heap.size + 1, 0, none⟩) 0 0) [] b A0 b.length d0 (fun _ => True) (fun _ => False) rfl rfl HM.out (Kd.C_below (Kd.F_now HV.out) (HBb.out.trans (HBm.out.mono (by omega)))) (fun _ _ h => h) (fun _ hk => hk.elim) (fun _ _ => trivial) HBm.out (Nat.le_trans HS1.out HBm.out.size) ?aL ?_; (case aL => have := HL.out; simp only [List.length_nil]; omega); intro v2 w1 ho hb hg hat; have HO1 : Aside0 (U8.R 5 w1 (w.heap.size + 1) (fun _ => True) v2 b) := ⟨ho⟩; have HB1 := Aside0.mk hb; clear ho hb hg hat HM HBm) | (at_builtin; refine Kd.R_append_rows U8 (w0 := (w.alloc (.cells #[.slice A0 b.length d0, .slice A1 l.length d1, .bool true, .bool false, .bool lost] 37))) (Rr := U8.K w) (w.heap.size + 1) rfl (.tmp 33) (.tmp 34) 22 5 (.int .u8 0) 1 rfl Try.underlying22 info5 rfl (by decide) (by decide) v2 b (l.take k.toNat) A1 k.toNat d1 (fun _ => True) (fun _ => False) rfl rfl HO1.out (Kd.C_below (Kd.F_now HX.out) (HBb.out.trans (HB1.out.mono (by omega)))) (fun _ _ h => h) (fun _ hk => hk.elim) (fun _ _ => trivial) HB1.out (Nat.le_trans HS1.out HB1.out.size) ?aL ?_; (case aL => have := HL.out; omega); intro v3 w2 ho hb hg hat; have HO2 : Aside0 (U8.R 5 w2 (w.heap.size + 1) (fun _ => True) v3 (b ++ (l.take k.toNat))) := ⟨ho⟩; have HB2 := Aside0.mk hb; clear ho hb hg hat))
          go_ret
          exact ⟨_, rfl, vb_new HO2.out (fun k hk => HN.out k (by omega)), HBb.out.trans (HB2.out.mono (by omega))⟩
        · have hc : Sd.crB ⟨b, l, false, true, lost⟩ k = b ++ l := by show b ++ l.take (keeps k l.length) = _; unfold keeps; rw [if_neg hk, if_neg hm, List.take_of_length_le (Nat.le_refl _)]
          rw [hc]
          clear hc
          have hk1 : 0 ≤ k := by omega
          have hk2 : decide (k < (l.length : Int)) = false := decide_eq_false (by omega)
          clear hk hm
          have HX : Aside0 (Kd.F U8 w ok A1 l.length l) := ⟨Kd.V_F (e := 5) (base := 0) HU.out⟩
          have hsz : (w.alloc (.cells #[.slice A0 b.length d0, .slice A1 l.length d1, .bool true, .bool false, .bool lost] 37)).heap.size = w.heap.size + 1 := alloc_sz _ _
          rw [hsz] at HM HBm
          have HS1 : Aside0 (w.heap.size + 1 ≤ (w.alloc (.cells #[.slice A0 b.length d0, .slice A1 l.length d1, .bool true, .bool false, .bool lost] 37)).heap.size) := ⟨Nat.le_of_eq hsz.symm⟩
          clear hsz
          simp only
          go_enter Try.func19, Try.ntmps19
          go_wp2_with (first | (at_builtin; refine Kd.R_append_rows U8 (w0 := (w.alloc (.cells #[.slice A0 b.length d0, .slice A1 l.length d1, .bool true, .bool false, .bool lost] 37))) (Rr := U8.K w) (w.heap.size + 1) rfl (.tmp 30) (.tmp 32) 22 5 (.int .u8 0) 1 rfl Try.underlying22 info5 rfl (by decide) (by decide) (.slice (some ⟨w.heap.size + 1, 0, none⟩) 0 0) [] b A0 b.length d0 (fun _ => True) (fun _ => False) rfl rfl HM.out (Kd.C_below (Kd.F_now HV.out) (HBb.out.trans (HBm.out.mono (by omega)))) (fun _ _ h => h) (fun _ hk => hk.elim) (fun _ _ => trivial) HBm.out (Nat.le_trans HS1.out HBm.out.size) ?aL ?_; (case aL => have := HL.out; simp only [List.length_nil]; omega); intro v2 w1 ho hb hg hat; have HO1 : Aside0 (U8.R 5 w1 (w.heap.size + 1) (fun _ => True) v2 b) := ⟨ho⟩; have HB1 := Aside0.mk hb; clear ho hb hg hat HM HBm) | (at_builtin; refine Kd.R_append_rows U8 (w0 := (w.alloc (.cells #[.slice A0 b.length d0, .slice A1 l.length d1, .bool true, .bool false, .bool lost] 37))) (Rr := U8.K w) (w.heap.size + 1) rfl (.tmp 33) (.tmp 34) 22 5 (.int .u8 0) 1 rfl Try.underlying22 info5 rfl (by decide) (by decide) v2 b l A1 l.length d1 (fun _ => True) (fun _ => False) rfl rfl HO1.out (Kd.C_below (Kd.F_now HX.out) (HBb.out.trans (HB1.out.mono (by omega)))) (fun _ _ h => h) (fun _ hk => hk.elim) (fun _ _ => trivial) HB1.out (Nat.le_trans HS1.out HB1.out.size) ?aL ?_; (case aL => have := HL.out; omega); intro v3 w2 ho hb hg hat; have HO2 : Aside0 (U8.R 5 w2 (w.heap.size + 1) (fun _ => True) v3 (b ++ l)) := ⟨ho⟩; have HB2 := Aside0.mk hb; clear ho hb hg hat))
          go_ret
          exact ⟨_, rfl, vb_new HO2.out (fun k hk => HN.out k (by omega)), HBb.out.trans (HB2.out.mono (by omega))⟩
    · by_cases hk : k % 2 = 1
      · have hc : Sd.crB ⟨b, l, true, true, lost⟩ k = l := by show (if k % 2 = 1 then l else b) = _; rw [if_pos hk]
        rw [hc]
        clear hc
        have hr : (k.tmod 2 == 0) = false := tmod2_odd hk
        clear hk
        go_enter Try.func19, Try.ntmps19
        go_wp2
        go_ret
        exact ⟨_, rfl, Kd.V_below HU.out HBb.out, HBb.out⟩
      · have hc : Sd.crB ⟨b, l, true, true, lost⟩ k = b := by show (if k % 2 = 1 then l else b) = _; rw [if_neg hk]
        rw [hc]
        clear hc
        have hr : (k.tmod 2 == 0) = true := tmod2_even hk
        clear hk
        go_enter Try.func19, Try.ntmps19
        go_wp2
        go_ret
        exact ⟨_, rfl, Kd.V_below HVV.out HBb.out, HBb.out⟩
end Go.Proofs.Ytfjjfoijjlpcjaa.Tp
