/- Tapes: Append, Replace, Read, at, Spoil, Lose, Fuse, Crash, New. -/
import Derived.Test.YtfjjfoijjlpcjaaProg
import Derived.Below
import Derived.Deep.Draws
import Derived.Deep.AppendLies
import Derived.Maps.AppendAt
import Derived.OwnWalk
import Derived.Laws.BytesArg
import Derived.Laws.MakeOwn
import Derived.Laws.OwnMore
import Derived.Deep.OwnRows
import Derived.Tactics
import Derived.Lib.ConvBytes
import Derived.Laws.Slices
import Derived.WalkKit
import Derived.KernelRfl
import Derived.RowKit3
import Derived.Deep.LoopGhost
import Derived.Deep.QuietTactic
import Derived.BigQuiet
import Derived.WideLaws
import Derived.Deep.DeepCutAuto
import Derived.Deep.CutBlock
import Derived.Deep.RegionHeld3
import Derived.Laws.Rows
import Derived.Lib.AppendStr
import Derived.ArgAppend
import Derived.Laws.IdiomCopy
import Derived.OrdersHeld
import Derived.Laws.BitsLemmas
import Derived.RowKit
import Derived.Test.YtfjjfoijjlpcjaaWWords
import Derived.Test.YtfjjfoijjlpcjaaWLast
import Derived.Test.YtfjjfoijjlpcjaaWTab
import Derived.Test.YtfjjfoijjlpcjaaWFour
import Derived.Test.YtfjjfoijjlpcjaaWQPut
import Derived.Test.YtfjjfoijjlpcjaaWApart
import Derived.Test.YtfjjfoijjlpcjaaWArr
import Derived.Test.YtfjjfoijjlpcjaaWZeros
import Derived.Test.YtfjjfoijjlpcjaaWFoot
import Derived.Test.YtfjjfoijjlpcjaaWKept
import Derived.Test.YtfjjfoijjlpcjaaWShare
import Derived.Test.YtfjjfoijjlpcjaaWN
import Derived.Test.YtfjjfoijjlpcjaaWFootNe
import Derived.Test.YtfjjfoijjlpcjaaWAt
import Derived.Test.YtfjjfoijjlpcjaaWEqStruct
import Derived.Test.YtfjjfoijjlpcjaaWRepsOne
import Derived.Test.YtfjjfoijjlpcjaaWInv
import Derived.Test.YtfjjfoijjlpcjaaWInvWords
import Derived.Test.YtfjjfoijjlpcjaaWGuard
import Derived.Test.YtfjjfoijjlpcjaaWNEv
import Derived.Test.YtfjjfoijjlpcjaaWMore
import Derived.Test.YtfjjfoijjlpcjaaTq2
namespace Go.Proofs.Ytfjjfoijjlpcjaa.Tp
open Go.RowKit Go.Proofs.YtfjjfoijjlpcjaaW.PrintWords Go.Proofs.YtfjjfoijjlpcjaaW.PrintLast Go.Proofs.YtfjjfoijjlpcjaaW.PrintMore
attribute [local go_sem] max2_int min2_int max_two min_two max_three min_three max_four min_four
set_option linter.unusedVariables false
set_option linter.unusedSimpArgs false
theorem write_calls (g : Nat) (t : Ta) (lb : List Int) (A : Option Addr) (n c : Nat) (sw : Bool) (ok okb : Nat → Prop) (w : World)
    (hT : Tp w ok g t) (hF : Kd.F U8 w okb A n lb) (hg : ∀ k, ok k → k ≠ g) (hgb : ∀ k, okb k → k ≠ g) (hnew : ∀ k, w.heap.size ≤ k → ok k) (hfit : t.Fit n) :
    Calls Try.prog 20 #[.pointer (some ⟨g, 0, none⟩), .slice A n c, .bool sw] w fun e w' => e = .returned (.int .i64 (t.write lb sw).2) ∧ Tp w' ok g (t.write lb sw).1 ∧ Kp w w' g := by
  obtain ⟨⟨b0, l0, sw0, we0, lo0⟩, ⟨b1, l1, sw1, we1, lo1⟩, fu, dn⟩ := t
  cases dn
  · cases lo0
    · cases lo1
      · exact write_fff g b0 l0 b1 l1 sw0 we0 sw1 we1 fu lb A n c sw ok okb w hT hF hg hgb hnew hfit
      · exact write_ftf g b0 l0 b1 l1 sw0 we0 sw1 we1 fu lb A n c sw ok okb w hT hF hg hgb hnew hfit
    · cases lo1
      · exact write_tff g b0 l0 b1 l1 sw0 we0 sw1 we1 fu lb A n c sw ok okb w hT hF hg hgb hnew hfit
      · exact write_ttf g b0 l0 b1 l1 sw0 we0 sw1 we1 fu lb A n c sw ok okb w hT hF hg hgb hnew hfit
  · exact write_down g b0 l0 b1 l1 sw0 we0 sw1 we1 lo0 lo1 fu lb A n c sw ok okb w hT hF hg hgb hnew hfit
set_option maxHeartbeats 8000000 in
set_option maxRecDepth 100000 in
theorem append_nil (A : Option Addr) (n c : Nat) (w : World) : Calls Try.prog 9 #[.pointer none, .slice A n c] w fun e w' => e = .returned (.int .i64 1) ∧ w' = w := by
  go_enter Try.func9, Try.ntmps9
  go_wp2_with fail
  refine (write_nil A n c false w).mono ?_
  rintro e w1 ⟨rfl, rfl⟩
  go_wp2
  go_ret
  exact ⟨rfl, rfl⟩
set_option maxHeartbeats 8000000 in
set_option maxRecDepth 100000 in
theorem append_calls (g : Nat) (t : Ta) (lb : List Int) (A : Option Addr) (n c : Nat) (ok okb : Nat → Prop) (w : World)
    (hT : Tp w ok g t) (hF : Kd.F U8 w okb A n lb) (hg : ∀ k, ok k → k ≠ g) (hgb : ∀ k, okb k → k ≠ g) (hnew : ∀ k, w.heap.size ≤ k → ok k) (hfit : t.Fit n) :
    Calls Try.prog 9 #[.pointer (some ⟨g, 0, none⟩), .slice A n c] w fun e w' => e = .returned (.int .i64 (t.write lb false).2) ∧ Tp w' ok g (t.write lb false).1 ∧ Kp w w' g := by
  have HC := Aside0.mk (write_calls g t lb A n c false ok okb w hT hF hg hgb hnew hfit)
  clear hT hF hg hnew hfit
  generalize t.write lb false = r at *
  go_enter Try.func9, Try.ntmps9
  go_wp2_with fail
  refine HC.out.mono ?_
  rintro e w1 ⟨rfl, hT1, hk1⟩
  have HT1 := Aside0.mk hT1
  have HK1 := Aside0.mk hk1
  clear hT1 hk1
  go_wp2
  go_ret
  exact ⟨rfl, HT1.out, HK1.out⟩
set_option maxHeartbeats 8000000 in
set_option maxRecDepth 100000 in
theorem replace_nil (A : Option Addr) (n c : Nat) (w : World) : Calls Try.prog 14 #[.pointer none, .slice A n c] w fun e w' => e = .returned (.int .i64 1) ∧ w' = w := by
  go_enter Try.func14, Try.ntmps14
  go_wp2_with fail
  refine (write_nil A n c true w).mono ?_
  rintro e w1 ⟨rfl, rfl⟩
  go_wp2
  go_ret
  exact ⟨rfl, rfl⟩
set_option maxHeartbeats 8000000 in
set_option maxRecDepth 100000 in
theorem replace_calls (g : Nat) (t : Ta) (lb : List Int) (A : Option Addr) (n c : Nat) (ok okb : Nat → Prop) (w : World)
    (hT : Tp w ok g t) (hF : Kd.F U8 w okb A n lb) (hg : ∀ k, ok k → k ≠ g) (hgb : ∀ k, okb k → k ≠ g) (hnew : ∀ k, w.heap.size ≤ k → ok k) (hfit : t.Fit n) :
    Calls Try.prog 14 #[.pointer (some ⟨g, 0, none⟩), .slice A n c] w fun e w' => e = .returned (.int .i64 (t.write lb true).2) ∧ Tp w' ok g (t.write lb true).1 ∧ Kp w w' g := by
  have HC := Aside0.mk (write_calls g t lb A n c true ok okb w hT hF hg hgb hnew hfit)
  clear hT hF hg hnew hfit
  generalize t.write lb true = r at *
  go_enter Try.func14, Try.ntmps14
  go_wp2_with fail
  refine HC.out.mono ?_
  rintro e w1 ⟨rfl, hT1, hk1⟩
  have HT1 := Aside0.mk hT1
  have HK1 := Aside0.mk hk1
  clear hT1 hk1
  go_wp2
  go_ret
  exact ⟨rfl, HT1.out, HK1.out⟩
/-- A side's bytes, with what is loose. -/
def Sd.all (s : Sd) : List Int := if s.wet then (s.apply s.l s.sw).b else s.b
set_option maxHeartbeats 8000000 in
set_option maxRecDepth 100000 in
theorem read_nil (i : Int) (w : World) : Calls Try.prog 12 #[.pointer none, .int .i64 i] w fun e w' => e = .returned (.tuple #[.slice none 0 0, .int .i64 1]) ∧ w' = w := by
  go_enter Try.func12, Try.ntmps12
  go_wp2
  go_ret2
  exact ⟨rfl, rfl⟩
set_option maxHeartbeats 8000000 in
set_option maxRecDepth 100000 in
theorem read_two (g : Nat) (w : World) : Calls Try.prog 12 #[.pointer (some ⟨g, 0, none⟩), .int .i64 2] w fun e w' => e = .returned (.tuple #[.slice none 0 0, .int .i64 1]) ∧ w' = w := by
  go_enter Try.func12, Try.ntmps12
  go_wp2
  go_ret2
  exact ⟨rfl, rfl⟩
set_option maxHeartbeats 8000000 in
set_option maxRecDepth 100000 in
theorem read0_lost (g : Nat) (t : Ta) (ok : Nat → Prop) (w : World) (hT : Tp w ok g t) (hl : t.s0.lost = true) :
    Calls Try.prog 12 #[.pointer (some ⟨g, 0, none⟩), .int .i64 0] w fun e w' => e = .returned (.tuple #[.slice none 0 0, .int .i64 8]) ∧ w' = w := by
  obtain ⟨v0, u0, v1, u1, hT⟩ := hT
  obtain ⟨c0, c1, c2, c3, c4, c5, c6, c7, c8, c9, c10, c11, hfz⟩ := tc_cell hT.blk
  simp only [hl] at c0 c1 c2 c3 c4 c5 c6 c7 c8 c9 c10 c11
  clear hT hl
  go_enter Try.func12, Try.ntmps12
  go_wp2
  go_ret2
  exact ⟨rfl, rfl⟩
set_option maxHeartbeats 8000000 in
set_option maxRecDepth 100000 in
theorem read0_calls (g : Nat) (t : Ta) (ok : Nat → Prop) (w : World) (hT : Tp w ok g t) (hl : t.s0.lost = false) (hL : t.s0.b.length + t.s0.l.length < 1099511627776) :
    Calls Try.prog 12 #[.pointer (some ⟨g, 0, none⟩), .int .i64 0] w fun e w' => ∃ v : Value, e = .returned (.tuple #[v, .int .i64 0]) ∧ U8.R 5 w' w.heap.size (fun _ => True) v t.s0.all ∧ Below w.heap.size w w' := by
  obtain ⟨v0, u0, v1, u1, hT⟩ := hT
  have HT := Aside0.mk hT
  obtain ⟨c0, c1, c2, c3, c4, c5, c6, c7, c8, c9, c10, c11, hfz⟩ := tc_cell hT.blk
  obtain ⟨⟨b0, l0, sw0, we0, lo0⟩, ⟨b1, l1, sw1, we1, lo1⟩, fu, dn⟩ := t
  simp only at c0 c1 c2 c3 c4 c5 c6 c7 c8 c9 c10 c11 hl hL
  subst hl
  obtain ⟨A2, d2, e2⟩ := Kd.V_slice HT.out.a0
  subst e2
  obtain ⟨A3, d3, e3⟩ := Kd.V_slice HT.out.a1
  subst e3
  simp only at c0 c1 c5 c6
  clear hT
  cases we0
  · have HC : Aside0 _ := ⟨clone_calls A2 b0.length d2 b0 (w.alloc (.cells #[.slice A2 b0.length d2, .slice A3 l0.length d3, .bool sw0, .bool false, .bool false] 49)) (Kd.F_now (Kd.V_F (Kd.V_alloc HT.out.a0 _))) (by omega)⟩
    clear hL
    go_enter Try.func12, Try.ntmps12
    go_wp2_with fail
    refine HC.out.mono ?_
    rintro e w1 ⟨v2, rfl, ho, hb⟩
    have HO := Aside0.mk (Kd.R_lower ho (base' := w.heap.size) (by simp))
    have HB := Aside0.mk (((Below.refl w.heap.size w).alloc (Nat.le_refl _) (.cells #[.slice A2 b0.length d2, .slice A3 l0.length d3, .bool sw0, .bool false, .bool false] 49)).trans (hb.mono (by simp)))
    clear ho hb HC
    go_wp2
    go_ret2
    exact ⟨_, rfl, HO.out, HB.out⟩
  · have hblk : (w.alloc (.cells #[.slice A2 b0.length d2, .slice A3 l0.length d3, .bool sw0, .bool true, .bool false] 49)).heap[w.heap.size]? = some (.cells #[.slice A2 b0.length d2, .slice A3 l0.length d3, .bool sw0, .bool true, .bool false] 49 (0, 0)) := blk_new _ _
    have hV2 := Kd.V_alloc (Kd.V_mono (Kd.V_bound HT.out.a0) (ok' := fun k => k ≠ w.heap.size) (fun k hk => Nat.ne_of_lt hk.2)) (.cells #[.slice A2 b0.length d2, .slice A3 l0.length d3, .bool sw0, .bool true, .bool false] 49)
    have hV3 := Kd.V_alloc (Kd.V_mono (Kd.V_bound HT.out.a1) (ok' := fun k => k ≠ w.heap.size) (fun k hk => Nat.ne_of_lt hk.2)) (.cells #[.slice A2 b0.length d2, .slice A3 l0.length d3, .bool sw0, .bool true, .bool false] 49)
    have HC : Aside0 _ := ⟨apply_calls w.heap.size 0 _ 49 _ b0 l0 A3 l0.length d3 sw0 _ _ _ hblk rfl hV2 (Kd.V_F hV3) (fun _ hk => hk) (fun _ hk => hk) (fun k hk => by simp at hk; omega) hL⟩
    have hs : Sd.all ⟨b0, l0, sw0, true, false⟩ = (if sw0 then l0 else b0 ++ l0) := rfl
    have hle : (if sw0 then l0 else b0 ++ l0).length ≤ b0.length + l0.length := by split <;> simp
    rw [hs]
    generalize (if sw0 then l0 else b0 ++ l0) = r at *
    have HR : Aside0 (r.length < 17592186044416) := ⟨by omega⟩
    clear hL hs hle hV2 hV3 hblk
    go_enter Try.func12, Try.ntmps12
    go_wp2_with fail
    refine HC.out.mono ?_
    rintro e w1 ⟨rfl, v2, hb2, hv2, hk2⟩
    obtain ⟨A4, d4, e4⟩ := Kd.V_slice hv2
    subst e4
    have hc2 : w1.cell? ⟨w.heap.size, 0, none⟩ = some (.slice A4 r.length d4) := (blk_cell hb2 0).trans rfl
    have HB1 := Aside0.mk (hk2.under ((Below.refl w.heap.size w).alloc (Nat.le_refl _) _) (Nat.le_refl _))
    have HC2 : Aside0 _ := ⟨clone_calls A4 r.length d4 r w1 (Kd.F_now (Kd.V_F hv2)) HR.out⟩
    clear hb2 hv2 hk2 HC
    go_wp2_with fail
    refine HC2.out.mono ?_
    rintro e w2 ⟨v3, rfl, ho, hb⟩
    have HO := Aside0.mk (Kd.R_lower ho HB1.out.size)
    have HB := Aside0.mk (HB1.out.trans (hb.mono HB1.out.size))
    clear ho hb HC2
    go_wp2
    go_ret2
    exact ⟨_, rfl, HO.out, HB.out⟩
set_option maxHeartbeats 8000000 in
set_option maxRecDepth 100000 in
theorem read1_lost (g : Nat) (t : Ta) (ok : Nat → Prop) (w : World) (hT : Tp w ok g t) (hl : t.s1.lost = true) :
    Calls Try.prog 12 #[.pointer (some ⟨g, 0, none⟩), .int .i64 1] w fun e w' => e = .returned (.tuple #[.slice none 0 0, .int .i64 8]) ∧ w' = w := by
  obtain ⟨v0, u0, v1, u1, hT⟩ := hT
  obtain ⟨c0, c1, c2, c3, c4, c5, c6, c7, c8, c9, c10, c11, hfz⟩ := tc_cell hT.blk
  simp only [hl] at c0 c1 c2 c3 c4 c5 c6 c7 c8 c9 c10 c11
  clear hT hl
  go_enter Try.func12, Try.ntmps12
  go_wp2
  go_ret2
  exact ⟨rfl, rfl⟩
set_option maxHeartbeats 8000000 in
set_option maxRecDepth 100000 in
theorem read1_calls (g : Nat) (t : Ta) (ok : Nat → Prop) (w : World) (hT : Tp w ok g t) (hl : t.s1.lost = false) (hL : t.s1.b.length + t.s1.l.length < 1099511627776) :
    Calls Try.prog 12 #[.pointer (some ⟨g, 0, none⟩), .int .i64 1] w fun e w' => ∃ v : Value, e = .returned (.tuple #[v, .int .i64 0]) ∧ U8.R 5 w' w.heap.size (fun _ => True) v t.s1.all ∧ Below w.heap.size w w' := by
  obtain ⟨v0, u0, v1, u1, hT⟩ := hT
  have HT := Aside0.mk hT
  obtain ⟨c0, c1, c2, c3, c4, c5, c6, c7, c8, c9, c10, c11, hfz⟩ := tc_cell hT.blk
  obtain ⟨⟨b0, l0, sw0, we0, lo0⟩, ⟨b1, l1, sw1, we1, lo1⟩, fu, dn⟩ := t
  simp only at c0 c1 c2 c3 c4 c5 c6 c7 c8 c9 c10 c11 hl hL
  subst hl
  obtain ⟨A2, d2, e2⟩ := Kd.V_slice HT.out.a2
  subst e2
  obtain ⟨A3, d3, e3⟩ := Kd.V_slice HT.out.a3
  subst e3
  simp only at c0 c1 c5 c6
  clear hT
  cases we1
  · have HC : Aside0 _ := ⟨clone_calls A2 b1.length d2 b1 (w.alloc (.cells #[.slice A2 b1.length d2, .slice A3 l1.length d3, .bool sw1, .bool false, .bool false] 49)) (Kd.F_now (Kd.V_F (Kd.V_alloc HT.out.a2 _))) (by omega)⟩
    clear hL
    go_enter Try.func12, Try.ntmps12
    go_wp2_with fail
    refine HC.out.mono ?_
    rintro e w1 ⟨v2, rfl, ho, hb⟩
    have HO := Aside0.mk (Kd.R_lower ho (base' := w.heap.size) (by simp))
    have HB := Aside0.mk (((Below.refl w.heap.size w).alloc (Nat.le_refl _) (.cells #[.slice A2 b1.length d2, .slice A3 l1.length d3, .bool sw1, .bool false, .bool false] 49)).trans (hb.mono (by simp)))
    clear ho hb HC
    go_wp2
    go_ret2
    exact ⟨_, rfl, HO.out, HB.out⟩
  · have hblk : (w.alloc (.cells #[.slice A2 b1.length d2, .slice A3 l1.length d3, .bool sw1, .bool true, .bool false] 49)).heap[w.heap.size]? = some (.cells #[.slice A2 b1.length d2, .slice A3 l1.length d3, .bool sw1, .bool true, .bool false] 49 (0, 0)) := blk_new _ _
    have hV2 := Kd.V_alloc (Kd.V_mono (Kd.V_bound HT.out.a2) (ok' := fun k => k ≠ w.heap.size) (fun k hk => Nat.ne_of_lt hk.2)) (.cells #[.slice A2 b1.length d2, .slice A3 l1.length d3, .bool sw1, .bool true, .bool false] 49)
    have hV3 := Kd.V_alloc (Kd.V_mono (Kd.V_bound HT.out.a3) (ok' := fun k => k ≠ w.heap.size) (fun k hk => Nat.ne_of_lt hk.2)) (.cells #[.slice A2 b1.length d2, .slice A3 l1.length d3, .bool sw1, .bool true, .bool false] 49)
    have HC : Aside0 _ := ⟨apply_calls w.heap.size 0 _ 49 _ b1 l1 A3 l1.length d3 sw1 _ _ _ hblk rfl hV2 (Kd.V_F hV3) (fun _ hk => hk) (fun _ hk => hk) (fun k hk => by simp at hk; omega) hL⟩
    have hs : Sd.all ⟨b1, l1, sw1, true, false⟩ = (if sw1 then l1 else b1 ++ l1) := rfl
    have hle : (if sw1 then l1 else b1 ++ l1).length ≤ b1.length + l1.length := by split <;> simp
    rw [hs]
    generalize (if sw1 then l1 else b1 ++ l1) = r at *
    have HR : Aside0 (r.length < 17592186044416) := ⟨by omega⟩
    clear hL hs hle hV2 hV3 hblk
    go_enter Try.func12, Try.ntmps12
    go_wp2_with fail
    refine HC.out.mono ?_
    rintro e w1 ⟨rfl, v2, hb2, hv2, hk2⟩
    obtain ⟨A4, d4, e4⟩ := Kd.V_slice hv2
    subst e4
    have hc2 : w1.cell? ⟨w.heap.size, 0, none⟩ = some (.slice A4 r.length d4) := (blk_cell hb2 0).trans rfl
    have HB1 := Aside0.mk (hk2.under ((Below.refl w.heap.size w).alloc (Nat.le_refl _) _) (Nat.le_refl _))
    have HC2 : Aside0 _ := ⟨clone_calls A4 r.length d4 r w1 (Kd.F_now (Kd.V_F hv2)) HR.out⟩
    clear hb2 hv2 hk2 HC
    go_wp2_with fail
    refine HC2.out.mono ?_
    rintro e w2 ⟨v3, rfl, ho, hb⟩
    have HO := Aside0.mk (Kd.R_lower ho HB1.out.size)
    have HB := Aside0.mk (HB1.out.trans (hb.mono HB1.out.size))
    clear ho hb HC2
    go_wp2
    go_ret2
    exact ⟨_, rfl, HO.out, HB.out⟩
set_option maxHeartbeats 8000000 in
set_option maxRecDepth 100000 in
theorem fuse_nil (i : Int) (w : World) : Calls Try.prog 10 #[.pointer none, .int .i64 i] w fun e w' => e = .returned (.tuple #[]) ∧ w' = w := by
  go_enter Try.func10, Try.ntmps10
  go_wp2
  go_end0
  exact ⟨rfl, rfl⟩
set_option maxHeartbeats 8000000 in
set_option maxRecDepth 100000 in
theorem fuse_calls (g : Nat) (t : Ta) (i : Int) (ok : Nat → Prop) (w : World) (hT : Tp w ok g t) (hg : ∀ k, ok k → k ≠ g) :
    Calls Try.prog 10 #[.pointer (some ⟨g, 0, none⟩), .int .i64 i] w fun e w' => e = .returned (.tuple #[]) ∧ Tp w' ok g { t with fuse := if i < 0 then 0 else i } ∧ Kp w w' g := by
  obtain ⟨v0, u0, v1, u1, hT⟩ := hT
  have HT := Aside0.mk hT
  have HG := Aside0.mk hg
  obtain ⟨c0, c1, c2, c3, c4, c5, c6, c7, c8, c9, c10, c11, hfz⟩ := tc_cell hT.blk
  clear hT hg
  by_cases hi : i < 0
  · have hs : (if i < 0 then (0 : Int) else i) = 0 := if_pos hi
    rw [hs]
    have hi1 : ¬ 0 ≤ i := by omega
    have K : Kp w (w.setCell ⟨g, 10, none⟩ (.int .i64 0)) g := (Kp.refl w g).set 10 _
    have HK := Aside0.mk K
    clear hs hi
    go_enter Try.func10, Try.ntmps10
    go_wp2
    go_end0
    exact ⟨rfl, ⟨v0, u0, v1, u1, tv_kp HT.out HK.out HG.out (blk_set HT.out.blk 10 _) rfl rfl rfl rfl⟩, HK.out⟩
  · have hs : (if i < 0 then (0 : Int) else i) = i := if_neg hi
    rw [hs]
    have hi1 : 0 ≤ i := by omega
    have K : Kp w (w.setCell ⟨g, 10, none⟩ (.int .i64 i)) g := (Kp.refl w g).set 10 _
    have HK := Aside0.mk K
    clear hs hi
    go_enter Try.func10, Try.ntmps10
    go_wp2
    go_end0
    exact ⟨rfl, ⟨v0, u0, v1, u1, tv_kp HT.out HK.out HG.out (blk_set HT.out.blk 10 _) rfl rfl rfl rfl⟩, HK.out⟩
set_option maxHeartbeats 8000000 in
set_option maxRecDepth 100000 in
theorem new_calls (ok : Nat → Prop) (w : World) : Calls Try.prog 8 #[] w fun e w' => e = .returned (.pointer (some ⟨w.heap.size, 0, none⟩)) ∧ Tp w' ok w.heap.size ⟨⟨[], [], false, false, false⟩, ⟨[], [], false, false, false⟩, -1, false⟩ ∧ Below w.heap.size w w' := by
  go_enter Try.func8, Try.ntmps8
  go_wp2
  go_ret
  exact ⟨rfl, ⟨.slice none 0 0, .slice none 0 0, .slice none 0 0, .slice none 0 0, blk_new w _, Kd.V_nil _ _ _ _ _, Kd.V_nil _ _ _ _ _, Kd.V_nil _ _ _ _ _, Kd.V_nil _ _ _ _ _⟩, (Below.refl _ _).alloc (Nat.le_refl _) _⟩
set_option maxHeartbeats 8000000 in
set_option maxRecDepth 100000 in
theorem at_nil (i : Int) (w : World) : Calls Try.prog 23 #[.pointer none, .int .i64 i] w fun e w' => e = .returned (.pointer none) ∧ w' = w := by
  go_enter Try.func23, Try.ntmps23
  go_wp2
  go_ret
  exact ⟨rfl, rfl⟩
set_option maxHeartbeats 8000000 in
set_option maxRecDepth 100000 in
theorem at0_calls (g : Nat) (w : World) : Calls Try.prog 23 #[.pointer (some ⟨g, 0, none⟩), .int .i64 0] w fun e w' => e = .returned (.pointer (some ⟨g, 0, none⟩)) ∧ w' = w := by
  go_enter Try.func23, Try.ntmps23
  go_wp2
  go_ret
  exact ⟨rfl, rfl⟩
set_option maxHeartbeats 8000000 in
set_option maxRecDepth 100000 in
theorem at1_calls (g : Nat) (w : World) : Calls Try.prog 23 #[.pointer (some ⟨g, 0, none⟩), .int .i64 1] w fun e w' => e = .returned (.pointer (some ⟨g, 5, none⟩)) ∧ w' = w := by
  go_enter Try.func23, Try.ntmps23
  go_wp2
  go_ret
  exact ⟨rfl, rfl⟩
end Go.Proofs.Ytfjjfoijjlpcjaa.Tp
