/- Tapes: Lose, Spoil, answers. -/
import Derived.Test.YtfjjfoijjlpcjaaProg
import Derived.Below
import Derived.Deep.Draws
import Derived.Deep.AppendLies
import Derived.Maps.AppendAt
import Derived.OwnWalk
import Derived.Laws.BytesArg
import Derived.Laws.MakeOwn
import Derived.Laws.OwnMore
import Derived.Deep.OwnRows
import Derived.Tactics
import Derived.Lib.ConvBytes
import Derived.Laws.Slices
import Derived.WalkKit
import Derived.KernelRfl
import Derived.RowKit3
import Derived.Deep.LoopGhost
import Derived.Deep.QuietTactic
import Derived.BigQuiet
import Derived.WideLaws
import Derived.Deep.DeepCutAuto
import Derived.Deep.CutBlock
import Derived.Deep.RegionHeld3
import Derived.Laws.Rows
import Derived.Lib.AppendStr
import Derived.ArgAppend
import Derived.Laws.IdiomCopy
import Derived.OrdersHeld
import Derived.Laws.BitsLemmas
import Derived.RowKit
import Derived.Test.YtfjjfoijjlpcjaaWWords
import Derived.Test.YtfjjfoijjlpcjaaWLast
import Derived.Test.YtfjjfoijjlpcjaaWTab
import Derived.Test.YtfjjfoijjlpcjaaWFour
import Derived.Test.YtfjjfoijjlpcjaaWQPut
import Derived.Test.YtfjjfoijjlpcjaaWApart
import Derived.Test.YtfjjfoijjlpcjaaWArr
import Derived.Test.YtfjjfoijjlpcjaaWZeros
import Derived.Test.YtfjjfoijjlpcjaaWFoot
import Derived.Test.YtfjjfoijjlpcjaaWKept
import Derived.Test.YtfjjfoijjlpcjaaWShare
import Derived.Test.YtfjjfoijjlpcjaaWN
import Derived.Test.YtfjjfoijjlpcjaaWFootNe
import Derived.Test.YtfjjfoijjlpcjaaWAt
import Derived.Test.YtfjjfoijjlpcjaaWEqStruct
import Derived.Test.YtfjjfoijjlpcjaaWRepsOne
import Derived.Test.YtfjjfoijjlpcjaaWInv
import Derived.Test.YtfjjfoijjlpcjaaWInvWords
import Derived.Test.YtfjjfoijjlpcjaaWGuard
import Derived.Test.YtfjjfoijjlpcjaaWNEv
import Derived.Test.YtfjjfoijjlpcjaaWMore
import Derived.Test.YtfjjfoijjlpcjaaTq4
import Derived.Lib.SlBytesConst
namespace Go.Proofs.Ytfjjfoijjlpcjaa.Tp
open Go.RowKit Go.Proofs.YtfjjfoijjlpcjaaW.PrintWords Go.Proofs.YtfjjfoijjlpcjaaW.PrintLast Go.Proofs.YtfjjfoijjlpcjaaW.PrintMore
attribute [local go_sem] max2_int min2_int max_two min_two max_three min_three max_four min_four
set_option linter.unusedVariables false
set_option linter.unusedSimpArgs false
set_option maxHeartbeats 8000000 in
set_option maxRecDepth 100000 in
theorem at_low (g : Nat) (i : Int) (hi : i < 0) (w : World) : Calls Try.prog 23 #[.pointer (some ⟨g, 0, none⟩), .int .i64 i] w fun e w' => e = .returned (.pointer none) ∧ w' = w := by
  have h1 : decide (i < 0) = true := decide_eq_true hi
  clear hi
  go_enter Try.func23, Try.ntmps23
  go_wp2
  go_ret
  exact ⟨rfl, rfl⟩
set_option maxHeartbeats 8000000 in
set_option maxRecDepth 100000 in
theorem at_high (g : Nat) (i : Int) (hi : 2 ≤ i) (w : World) : Calls Try.prog 23 #[.pointer (some ⟨g, 0, none⟩), .int .i64 i] w fun e w' => e = .returned (.pointer none) ∧ w' = w := by
  have h1 : decide (i < 0) = false := decide_eq_false (by omega)
  have h2 : decide (2 ≤ i) = true := decide_eq_true hi
  clear hi
  go_enter Try.func23, Try.ntmps23
  go_wp2
  go_ret
  exact ⟨rfl, rfl⟩
theorem at_out (P : Option Nat) (i : Int) (hi : P = none ∨ i < 0 ∨ 2 ≤ i) (w : World) : Calls Try.prog 23 #[.pointer (P.map fun g => ⟨g, 0, none⟩), .int .i64 i] w fun e w' => e = .returned (.pointer none) ∧ w' = w := by
  cases P with
  | none => exact at_nil i w
  | some g =>
    rcases hi with h | h | h
    · cases h
    · exact at_low g i h w
    · exact at_high g i h w
set_option maxHeartbeats 8000000 in
set_option maxRecDepth 100000 in
theorem lose_out (P : Option Nat) (i : Int) (hi : P = none ∨ i < 0 ∨ 2 ≤ i) (w : World) : Calls Try.prog 17 #[.pointer (P.map fun g => ⟨g, 0, none⟩), .int .i64 i] w fun e w' => e = .returned (.tuple #[]) ∧ w' = w := by
  have HC := Aside0.mk (at_out P i hi w)
  clear hi
  go_enter Try.func17, Try.ntmps17
  go_wp2_with fail
  refine HC.out.mono ?_
  rintro e w1 ⟨rfl, rfl⟩
  go_wp2
  go_end0
  exact ⟨rfl, rfl⟩
set_option maxHeartbeats 8000000 in
set_option maxRecDepth 100000 in
theorem lose0_calls (g : Nat) (t : Ta) (ok : Nat → Prop) (w : World) (hT : Tp w ok g t) (hg : ∀ k, ok k → k ≠ g) :
    Calls Try.prog 17 #[.pointer (some ⟨g, 0, none⟩), .int .i64 0] w fun e w' => e = .returned (.tuple #[]) ∧ Tp w' ok g { t with s0 := ⟨[], [], false, false, true⟩ } ∧ Kp w w' g := by
  obtain ⟨v0, u0, v1, u1, hT⟩ := hT
  have HT := Aside0.mk hT
  have HG := Aside0.mk hg
  obtain ⟨c0, c1, c2, c3, c4, c5, c6, c7, c8, c9, c10, c11, hfz⟩ := tc_cell hT.blk
  obtain ⟨⟨b0, l0, sw0, we0, lo0⟩, ⟨b1, l1, sw1, we1, lo1⟩, fu, dn⟩ := t
  simp only at c0 c1 c2 c3 c4 c5 c6 c7 c8 c9 c10 c11
  clear hT hg
  go_enter Try.func17, Try.ntmps17
  go_wp2_with fail
  refine (at0_calls g w).mono ?_
  rintro e w1 ⟨rfl, rfl⟩
  go_wp2
  go_end0
  have K : Kp w1 (((((w1.setCell ⟨g, 0, none⟩ (.slice none 0 0)).setCell ⟨g, 1, none⟩ (.slice none 0 0)).setCell ⟨g, 2, none⟩ (.bool false)).setCell ⟨g, 3, none⟩ (.bool false)).setCell ⟨g, 4, none⟩ (.bool true)) g := (((((Kp.refl w1 g).set 0 _).set 1 _).set 2 _).set 3 _).set 4 _
  exact ⟨rfl, ⟨.slice none 0 0, .slice none 0 0, v1, u1, blk_set (blk_set (blk_set (blk_set (blk_set HT.out.blk 0 _) 1 _) 2 _) 3 _) 4 _, Kd.V_nil _ _ _ _ _, Kd.V_nil _ _ _ _ _, vb_kp HT.out.a2 K HG.out, vb_kp HT.out.a3 K HG.out⟩, K⟩
set_option maxHeartbeats 8000000 in
set_option maxRecDepth 100000 in
theorem lose1_calls (g : Nat) (t : Ta) (ok : Nat → Prop) (w : World) (hT : Tp w ok g t) (hg : ∀ k, ok k → k ≠ g) :
    Calls Try.prog 17 #[.pointer (some ⟨g, 0, none⟩), .int .i64 1] w fun e w' => e = .returned (.tuple #[]) ∧ Tp w' ok g { t with s1 := ⟨[], [], false, false, true⟩ } ∧ Kp w w' g := by
  obtain ⟨v0, u0, v1, u1, hT⟩ := hT
  have HT := Aside0.mk hT
  have HG := Aside0.mk hg
  obtain ⟨c0, c1, c2, c3, c4, c5, c6, c7, c8, c9, c10, c11, hfz⟩ := tc_cell hT.blk
  obtain ⟨⟨b0, l0, sw0, we0, lo0⟩, ⟨b1, l1, sw1, we1, lo1⟩, fu, dn⟩ := t
  simp only at c0 c1 c2 c3 c4 c5 c6 c7 c8 c9 c10 c11
  clear hT hg
  go_enter Try.func17, Try.ntmps17
  go_wp2_with fail
  refine (at1_calls g w).mono ?_
  rintro e w1 ⟨rfl, rfl⟩
  go_wp2
  go_end0
  have K : Kp w1 (((((w1.setCell ⟨g, 5, none⟩ (.slice none 0 0)).setCell ⟨g, 6, none⟩ (.slice none 0 0)).setCell ⟨g, 7, none⟩ (.bool false)).setCell ⟨g, 8, none⟩ (.bool false)).setCell ⟨g, 9, none⟩ (.bool true)) g := (((((Kp.refl w1 g).set 5 _).set 6 _).set 7 _).set 8 _).set 9 _
  exact ⟨rfl, ⟨v0, u0, .slice none 0 0, .slice none 0 0, blk_set (blk_set (blk_set (blk_set (blk_set HT.out.blk 5 _) 6 _) 7 _) 8 _) 9 _, vb_kp HT.out.a0 K HG.out, vb_kp HT.out.a1 K HG.out, Kd.V_nil _ _ _ _ _, Kd.V_nil _ _ _ _ _⟩, K⟩
set_option maxHeartbeats 8000000 in
set_option maxRecDepth 100000 in
theorem spoil_out (P : Option Nat) (i : Int) (hi : P = none ∨ i < 0 ∨ 2 ≤ i) (A : Option Addr) (n c : Nat) (w : World) : Calls Try.prog 18 #[.pointer (P.map fun g => ⟨g, 0, none⟩), .int .i64 i, .slice A n c] w fun e w' => e = .returned (.tuple #[]) ∧ w' = w := by
  have HC := Aside0.mk (at_out P i hi w)
  clear hi
  go_enter Try.func18, Try.ntmps18
  go_wp2_with fail
  refine HC.out.mono ?_
  rintro e w1 ⟨rfl, rfl⟩
  go_wp2
  go_end0
  exact ⟨rfl, rfl⟩
set_option maxHeartbeats 8000000 in
set_option maxRecDepth 100000 in
theorem spoil0_calls (g : Nat) (t : Ta) (lb : List Int) (A : Option Addr) (n c : Nat) (ok : Nat → Prop) (w : World) (hT : Tp w ok g t) (hF : U8.C w A n lb) (hn : n < 17592186044416) (hg : ∀ k, ok k → k ≠ g) (hnew : ∀ k, w.heap.size ≤ k → ok k) :
    Calls Try.prog 18 #[.pointer (some ⟨g, 0, none⟩), .int .i64 0, .slice A n c] w fun e w' => e = .returned (.tuple #[]) ∧ Tp w' ok g { t with s0 := { t.s0 with b := lb, l := [], wet := false } } ∧ Kp w w' g := by
  have HC := Aside0.mk (clone_calls A n c lb w hF hn)
  obtain ⟨v0, u0, v1, u1, hT⟩ := hT
  have HT := Aside0.mk hT
  have HG := Aside0.mk hg
  have HN := Aside0.mk hnew
  obtain ⟨⟨b0, l0, sw0, we0, lo0⟩, ⟨b1, l1, sw1, we1, lo1⟩, fu, dn⟩ := t
  clear hT hg hnew hF hn
  go_enter Try.func18, Try.ntmps18
  go_wp2_with fail
  refine (at0_calls g w).mono ?_
  rintro e w1 ⟨rfl, rfl⟩
  go_wp2_with fail
  refine HC.out.mono ?_
  rintro e w2 ⟨v2, rfl, ho, hb⟩
  obtain ⟨A2, d2, e2⟩ := Kd.R_slice ho
  subst e2
  have HO := Aside0.mk ho
  have HB := Aside0.mk hb
  have hblk2 := blk_below HT.out.blk hb
  have HK2 := Aside0.mk hblk2
  obtain ⟨c0, c1, c2, c3, c4, c5, c6, c7, c8, c9, c10, c11, hfz⟩ := tc_cell hblk2
  simp only at c0 c1 c2 c3 c4 c5 c6 c7 c8 c9 c10 c11
  clear ho hb hblk2
  go_wp2
  go_end0
  have K1 : Kp w2 (((w2.setCell ⟨g, 0, none⟩ (.slice A2 lb.length d2)).setCell ⟨g, 1, none⟩ (.slice none 0 0)).setCell ⟨g, 3, none⟩ (.bool false)) g := (((Kp.refl w2 g).set 0 _).set 1 _).set 3 _
  have K := (Kp.of_below HB.out g).trans K1
  exact ⟨rfl, ⟨.slice A2 lb.length d2, .slice none 0 0, v1, u1, blk_set (blk_set (blk_set HK2.out 0 _) 1 _) 3 _, vb_kp (vb_new HO.out HN.out) K1 HG.out, Kd.V_nil _ _ _ _ _, vb_kp HT.out.a2 K HG.out, vb_kp HT.out.a3 K HG.out⟩, K⟩
set_option maxHeartbeats 8000000 in
set_option maxRecDepth 100000 in
theorem spoil1_calls (g : Nat) (t : Ta) (lb : List Int) (A : Option Addr) (n c : Nat) (ok : Nat → Prop) (w : World) (hT : Tp w ok g t) (hF : U8.C w A n lb) (hn : n < 17592186044416) (hg : ∀ k, ok k → k ≠ g) (hnew : ∀ k, w.heap.size ≤ k → ok k) :
    Calls Try.prog 18 #[.pointer (some ⟨g, 0, none⟩), .int .i64 1, .slice A n c] w fun e w' => e = .returned (.tuple #[]) ∧ Tp w' ok g { t with s1 := { t.s1 with b := lb, l := [], wet := false } } ∧ Kp w w' g := by
  have HC := Aside0.mk (clone_calls A n c lb w hF hn)
  obtain ⟨v0, u0, v1, u1, hT⟩ := hT
  have HT := Aside0.mk hT
  have HG := Aside0.mk hg
  have HN := Aside0.mk hnew
  obtain ⟨⟨b0, l0, sw0, we0, lo0⟩, ⟨b1, l1, sw1, we1, lo1⟩, fu, dn⟩ := t
  clear hT hg hnew hF hn
  go_enter Try.func18, Try.ntmps18
  go_wp2_with fail
  refine (at1_calls g w).mono ?_
  rintro e w1 ⟨rfl, rfl⟩
  go_wp2_with fail
  refine HC.out.mono ?_
  rintro e w2 ⟨v2, rfl, ho, hb⟩
  obtain ⟨A2, d2, e2⟩ := Kd.R_slice ho
  subst e2
  have HO := Aside0.mk ho
  have HB := Aside0.mk hb
  have hblk2 := blk_below HT.out.blk hb
  have HK2 := Aside0.mk hblk2
  obtain ⟨c0, c1, c2, c3, c4, c5, c6, c7, c8, c9, c10, c11, hfz⟩ := tc_cell hblk2
  simp only at c0 c1 c2 c3 c4 c5 c6 c7 c8 c9 c10 c11
  clear ho hb hblk2
  go_wp2
  go_end0
  have K1 : Kp w2 (((w2.setCell ⟨g, 5, none⟩ (.slice A2 lb.length d2)).setCell ⟨g, 6, none⟩ (.slice none 0 0)).setCell ⟨g, 8, none⟩ (.bool false)) g := (((Kp.refl w2 g).set 5 _).set 6 _).set 8 _
  have K := (Kp.of_below HB.out g).trans K1
  exact ⟨rfl, ⟨v0, u0, .slice A2 lb.length d2, .slice none 0 0, blk_set (blk_set (blk_set HK2.out 5 _) 6 _) 8 _, vb_kp HT.out.a0 K HG.out, vb_kp HT.out.a1 K HG.out, vb_kp (vb_new HO.out HN.out) K1 HG.out, Kd.V_nil _ _ _ _ _⟩, K⟩
theorem V_string {P : Program} {w : World} {src dst e e' base : Nat} {ok : Nat → Prop} {v : Value} {xs : List Int} (hs : P.underlying src = some (.slice e)) (he : P.underlying e = some (.int .u8)) (hd : P.underlying dst = some .string)
    (h : Kd.V (Kd.int .u8) e' w base ok v xs) : (convert src dst v).run P w = .ok (.string (strOfNums xs)) w := by
  obtain ⟨A, c, rfl⟩ := Kd.V_slice h
  exact Kd.C_string hs he hd (Kd.V_reads' h).2.2
def ab : Array Value := #[.int .u8 97, .int .u8 98]
theorem ab_C (W : World) (g : Nat) (fr : Nat × Nat) (h : W.heap[g]? = some (.cells ab 5 fr)) : U8.C W (some ⟨g, 0, none⟩) 2 [97, 98] := by
  refine Kd.C_of_reads (d := (0 : Int)) ⟨rfl, by decide, fun _ => ⟨_, rfl, fun j hj => ?_⟩⟩
  have : j = 0 ∨ j = 1 := by omega
  rcases this with rfl | rfl <;> simp [World.cell?, Addr.add, h, ab]
set_option maxRecDepth 100000 in
set_option maxHeartbeats 2000000 in
theorem answers_calls (w : World) : Calls Try.prog 7 #[] w fun e w' => e = .returned (.bool true) ∧ Below w.heap.size w w' := by
  have hstr : strOfNums [97, 98] = ⟨#[97, 98]⟩ := rfl
  go_enter Try.func7, Try.ntmps7
  go_wp2_with fail
  refine (new_calls (fun k => k ≠ w.heap.size) w).mono ?_
  rintro e w1 ⟨rfl, hT1, hb1⟩
  have hcv := Lib.run_convert_bytes_const (P := Try.prog) w1 22 5 #[.int .u8 97, .int .u8 98] 2 2 Try.underlying22 Try.underlying5
  have hlt := tp_lt hT1
  have hB2 := hb1.alloc hb1.size (.cells #[.int .u8 97, .int .u8 98] 5 (2, 3))
  have HT2 := Aside0.mk (tp_below hT1 ((Below.refl _ w1).alloc (Nat.le_refl _) (.cells #[.int .u8 97, .int .u8 98] 5 (2, 3))))
  have HB2 := Aside0.mk hB2
  have HC2 : Aside0 (Kd.F U8 (w1.alloc (.cells #[.int .u8 97, .int .u8 98] 5 (2, 3))) (fun k => k ≠ w.heap.size) (some ⟨w1.heap.size, 0, none⟩) 2 [97, 98]) := ⟨fun W' hW => ab_C W' w1.heap.size (2, 3) ((hW w1.heap.size (by omega) (by simp)).trans (heap_alloc_new w1 _))⟩
  have HA : Aside0 _ := ⟨append_calls w.heap.size _ [97, 98] _ 2 2 (fun k => k ≠ w.heap.size) (fun k => k ≠ w.heap.size) _ HT2.out HC2.out (fun _ h => h) (fun _ h => h) (fun k hk => by simp at hk; omega) ⟨by decide, by decide, by decide, by decide⟩⟩
  clear hT1 hb1 hlt hB2
  go_wp2_with fail
  refine HA.out.mono ?_
  rintro e w2 ⟨rfl, hT3, hk3⟩
  have hw : Ta.write ⟨⟨[], [], false, false, false⟩, ⟨[], [], false, false, false⟩, -1, false⟩ [97, 98] false = (⟨⟨[97, 98], [], false, false, false⟩, ⟨[97, 98], [], false, false, false⟩, -1, false⟩, 0) := by rfl
  rw [hw] at hT3
  rw [hw]
  have HT3 := Aside0.mk hT3
  have HB3 := Aside0.mk (hk3.under HB2.out (Nat.le_refl _))
  clear hw hT3 hk3 HA hcv
  go_wp2_with fail
  refine (read0_calls w.heap.size _ _ w2 HT3.out rfl (by decide)).mono ?_
  rintro e w3 ⟨v3, rfl, ho3, hb3⟩
  have HO3 := Aside0.mk ho3
  have HT4 := Aside0.mk (tp_below HT3.out hb3)
  have HB4 := Aside0.mk (HB3.out.trans (hb3.mono HB3.out.size))
  clear ho3 hb3
  go_wp2_with fail
  refine (read1_calls w.heap.size _ _ w3 HT4.out rfl (by decide)).mono ?_
  rintro e w4 ⟨v4, rfl, ho4, hb4⟩
  have hs4 := V_string (P := Try.prog) Try.underlying22 Try.underlying5 Try.underlying9 (Kd.R_V (base' := 0) ho4)
  have hs3 := V_string (P := Try.prog) Try.underlying22 Try.underlying5 Try.underlying9 (Kd.V_below (Kd.R_V (base' := 0) HO3.out) hb4)
  have hall : Sd.all ⟨[97, 98], [], false, false, false⟩ = [97, 98] := rfl
  simp only [hall, hstr] at hs3 hs4
  have HB5 := Aside0.mk (HB4.out.trans (hb4.mono HB4.out.size))
  clear ho4 hb4
  go_wp2
  go_ret
  exact ⟨rfl, HB5.out⟩
end Go.Proofs.Ytfjjfoijjlpcjaa.Tp
