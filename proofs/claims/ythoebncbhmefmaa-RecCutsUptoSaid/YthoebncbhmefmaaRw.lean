/- Records: the contracts of the program's writer. -/
import Derived.Test.YthoebncbhmefmaaProg
import Derived.Below
import Derived.Deep.Draws
import Derived.Deep.AppendLies
import Derived.Maps.AppendAt
import Derived.OwnWalk
import Derived.Laws.BytesArg
import Derived.Laws.MakeOwn
import Derived.Laws.OwnMore
import Derived.Deep.OwnRows
import Derived.Tactics
import Derived.Lib.ConvBytes
import Derived.Laws.Slices
import Derived.WalkKit
import Derived.KernelRfl
import Derived.RowKit3
import Derived.Deep.LoopGhost
import Derived.Deep.QuietTactic
import Derived.BigQuiet
import Derived.WideLaws
import Derived.Deep.DeepCutAuto
import Derived.Deep.CutBlock
import Derived.Deep.RegionHeld3
import Derived.Laws.Rows
import Derived.Lib.AppendStr
import Derived.ArgAppend
import Derived.Laws.IdiomCopy
import Derived.OrdersHeld
import Derived.Laws.BitsLemmas
import Derived.RowKit
import Derived.Test.YthoebncbhmefmaaWWords
import Derived.Test.YthoebncbhmefmaaWLast
import Derived.Test.YthoebncbhmefmaaWTab
import Derived.Test.YthoebncbhmefmaaWFour
import Derived.Test.YthoebncbhmefmaaWQPut
import Derived.Test.YthoebncbhmefmaaWApart
import Derived.Test.YthoebncbhmefmaaWArr
import Derived.Test.YthoebncbhmefmaaWZeros
import Derived.Test.YthoebncbhmefmaaWFoot
import Derived.Test.YthoebncbhmefmaaWKept
import Derived.Test.YthoebncbhmefmaaWShare
import Derived.Test.YthoebncbhmefmaaWN
import Derived.Test.YthoebncbhmefmaaWFootNe
import Derived.Test.YthoebncbhmefmaaWAt
import Derived.Test.YthoebncbhmefmaaWEqStruct
import Derived.Test.YthoebncbhmefmaaWRepsOne
import Derived.Test.YthoebncbhmefmaaWInv
import Derived.Test.YthoebncbhmefmaaWInvWords
import Derived.Test.YthoebncbhmefmaaWGuard
import Derived.Test.YthoebncbhmefmaaWNEv
import Derived.Test.YthoebncbhmefmaaWMore
import Derived.Test.YthoebncbhmefmaaRb
import Derived.Lib.SliceRun
import Derived.Outline
import Derived.StillTailTactics
import Derived.Lib.SlBytesConst
import Derived.Deep.DeepCutAuto
import Derived.Deep.CutBlock
namespace Go.Proofs.Ythoebncbhmefmaa.Rc
open Go.RowKit Go.Proofs.YthoebncbhmefmaaW.PrintWords Go.Proofs.YthoebncbhmefmaaW.PrintLast Go.Proofs.YthoebncbhmefmaaW.PrintMore
attribute [local go_sem] max2_int min2_int max_two min_two max_three min_three max_four min_four
set_option linter.unusedVariables false
set_option linter.unusedSimpArgs false
abbrev U8 : Kd Int := Kd.int .u8
/-- A writer at block g, made behind w0; what V names is not its. -/
structure Wp (w0 W : World) (V : Nat → Prop) (g : Nat) (s : St) : Prop where
  hb : Below w0.heap.size w0 W
  hg : w0.heap.size ≤ g
  vt : ∀ k, V k → ∃ cs t, W.heap[k]? = some (.cells cs t (0, 0)) ∧ t ≠ 5
  vg : ¬ V g
  ex : ∃ v, W.heap[g]? = some (.cells #[v, .bool s.2] 47 (0, 0)) ∧ U8.R 5 W w0.heap.size (fun k => k ≠ g ∧ ¬ V k) v s.1
theorem Wp.vb {w0 W : World} {V : Nat → Prop} {g : Nat} {s : St} (h : Wp w0 W V g s) : ∀ k, V k → k < W.heap.size := fun k hk => by
  obtain ⟨cs, t, h1, _⟩ := h.vt k hk
  exact blk_lt h1
theorem Wp.lt {w0 W : World} {V : Nat → Prop} {g : Nat} {s : St} (h : Wp w0 W V g s) : g < W.heap.size := by
  obtain ⟨v, hb, _⟩ := h.ex
  exact blk_lt hb
theorem Wp.below {w0 W W' : World} {V : Nat → Prop} {g : Nat} {s : St} (h : Wp w0 W V g s) (hb : Below W.heap.size W W') : Wp w0 W' V g s := by
  obtain ⟨v, h1, h2⟩ := h.ex
  exact ⟨h.hb.trans (hb.mono h.hb.size), h.hg, fun k hk => by obtain ⟨cs, t, h1, h2⟩ := h.vt k hk; exact ⟨cs, t, blk_below h1 hb, h2⟩, h.vg, v, blk_below h1 hb, Kd.R_below h2 hb⟩
theorem Wp.guard_ {w0 W W' : World} {V V' : Nat → Prop} {g : Nat} {s : St} (h : Wp w0 W V g s) (hb : Below W.heap.size W W') (hv : ∀ k, V' k → V k ∨ (W.heap.size ≤ k ∧ ∃ cs t, W'.heap[k]? = some (.cells cs t (0, 0)) ∧ t ≠ 5)) : Wp w0 W' V' g s := by
  have hlt := h.lt
  obtain ⟨v, h1, h2⟩ := h.ex
  refine ⟨h.hb.trans (hb.mono h.hb.size), h.hg, fun k hk => ?_, fun hk => ?_, v, blk_below h1 hb, Kd.R_below (Kd.R_mono (Kd.R_bound h2) (fun k hk => ⟨hk.1.1, fun h3 => ?_⟩)) hb⟩
  · rcases hv k hk with h3 | h3
    · obtain ⟨cs, t, h4, h5⟩ := h.vt k h3; exact ⟨cs, t, blk_below h4 hb, h5⟩
    · exact h3.2
  · rcases hv g hk with h3 | h3
    · exact h.vg h3
    · omega
  · rcases hv k h3 with h4 | h4
    · exact hk.1.2 h4
    · have := hk.2.2.1; omega
theorem Wp.less {w0 W : World} {V V' : Nat → Prop} {g : Nat} {s : St} (h : Wp w0 W V g s) (hv : ∀ k, V' k → V k) : Wp w0 W V' g s := h.guard_ (Below.refl _ _) (fun k hk => .inl (hv k hk))
/-- What V names is as it was. -/
abbrev Vs (V : Nat → Prop) (W W' : World) : Prop := ∀ k, V k → W'.heap[k]? = W.heap[k]?
set_option maxHeartbeats 4000000 in
set_option maxRecDepth 100000 in
theorem num_calls (w0 W : World) (V : Nat → Prop) (g : Nat) (v : Int) (n : Nat) (most : Int) (s : St) (h : Wp w0 W V g s) (hn : n ≤ 8) (hl : s.1.length < 140737488350000) :
    Calls Try.prog 16 #[.pointer (some ⟨g, 0, none⟩), .int .i64 v, .int .i64 (n : Int), .int .i64 most] W fun e w' => e = .returned (.tuple #[]) ∧ Wp w0 w' V g (wN v n most s) ∧ Vs V W w' := by
  obtain ⟨l, bad⟩ := s
  have hlt := h.lt
  have hvb := h.vb
  obtain ⟨hb, hg, hvt, hvg, u, hblk, hR⟩ := h
  have HVT := Aside0.mk hvt
  clear hvt
  obtain ⟨A, c, rfl⟩ := Kd.R_slice hR
  simp only at hblk hR hl
  have c0 : W.cell? ⟨g, 0, none⟩ = some (.slice A l.length c) := (blk_cell hblk 0).trans rfl
  have c1 : W.cell? ⟨g, 1, none⟩ = some (.bool bad) := (blk_cell hblk 1).trans rfl
  have hfz : ∀ j, W.frozen? ⟨g, j, none⟩ = false := fun j => blk_frozen hblk j
  obtain ⟨bb, hbb⟩ : ∃ bb, bb = (bad || (decide (v < 0) || decide (most < v))) := ⟨_, rfl⟩
  have hw : wN v n most (l, bad) = (l ++ numB (u64 v) n, bb) := by rw [hbb]; rfl
  rw [hw]
  obtain ⟨W1, hW1⟩ : ∃ W1, W1 = W.setCell ⟨g, 1, none⟩ (.bool bb) := ⟨_, rfl⟩
  have hB1 : Below w0.heap.size w0 W1 := by rw [hW1]; exact hb.setCell hg _
  have hblk1 : W1.heap[g]? = some (.cells #[.slice A l.length c, .bool bb] 47 (0, 0)) := by rw [hW1]; exact blk_set hblk 1 _
  have hR1 : U8.R 5 W1 w0.heap.size (fun k => k ≠ g ∧ ¬ V k) (.slice A l.length c) l := by rw [hW1]; exact Kd.R_far hR (fun _ h => h.1) _
  have HV1 : Aside0 (W1.heap.size = W.heap.size ∧ Vs V W W1) := ⟨by rw [hW1]; simp [World.setCell], fun k hk => by rw [hW1]; exact Below.heap_setCell _ _ _ _ (fun e => hvg (by rw [← show k = g from e]; exact hk))⟩
  have HVB := Aside0.mk hvb
  have HVG := Aside0.mk hvg
  have HP : Aside0 _ := ⟨hash_Put.calls 10 (fun k => k ≠ g ∧ ¬ V k) (.slice A l.length c) l (u64 v) n _ w0 W1 hB1 hR1 (put_f 10 l (u64 v) n hn (by omega) (by omega))⟩
  have HB1 := Aside0.mk hB1
  have HG := Aside0.mk hg
  have HK1 := Aside0.mk hblk1
  have HW1 := Aside0.mk hW1
  have hlt1 : g < W1.heap.size := blk_lt hblk1
  clear hb hg hblk hR hn hl hB1 hblk1 hR1 hw hW1 hvb hvg hlt
  go_enter Try.func16, Try.ntmps16
  have key : bb = bb := rfl
  cases bad with
  | true =>
    obtain rfl : bb = true := by rw [hbb]; rfl
    clear hbb key
    go_upto_region 1 with fail
    rw [← HW1.out]
    clear c0 c1 hfz
    have c0 : W1.cell? ⟨g, 0, none⟩ = some (.slice A l.length c) := (blk_cell HK1.out 0).trans rfl
    have c1 := (blk_cell HK1.out 1)
    have hfz : ∀ j, W1.frozen? ⟨g, j, none⟩ = false := fun j => blk_frozen HK1.out j
    clear c1
    go_wp2_with fail
    refine HP.out.mono ?_
    rintro e w2 ⟨v2, rfl, hR2, hB2, hK2⟩
    obtain ⟨A2, n2, e2⟩ := Kd.R_slice hR2
    subst e2
    have hblk2 : w2.heap[g]? = _ := (hK2.2 g hlt1 (fun h => h.1 rfl)).trans HK1.out
    have HB2 := Aside0.mk hB2
    have HK2 := Aside0.mk hblk2
    have HR2 : Aside0 (U8.R 5 w2 w0.heap.size (fun k => k ≠ g ∧ ¬ V k) _ _) := ⟨Kd.R_mono hR2 (fun k hk => by rcases hk with h | h; exact h; exact ⟨by omega, fun h3 => by have := HVB.out k h3; have := HV1.out.1; omega⟩)⟩
    have HVS : Aside0 (Vs V W w2) := ⟨fun k hk => (hK2.2 k (by have := HVB.out k hk; have := HV1.out.1; omega) (fun h => h.2 hk)).trans (HV1.out.2 k hk)⟩
    have HZ2 : Aside0 (W.heap.size ≤ w2.heap.size) := ⟨by have := hK2.1; have := HV1.out.1; omega⟩
    have d0 : w2.cell? ⟨g, 0, none⟩ = some (.slice A l.length c) := (blk_cell hblk2 0).trans rfl
    have dfz : ∀ j, w2.frozen? ⟨g, j, none⟩ = false := fun j => blk_frozen hblk2 j
    clear hR2 hB2 hK2 hblk2 c0 hfz
    go_wp2
    go_end0
    exact ⟨rfl, ⟨HB2.out.setCell HG.out _, HG.out, fun k hk => by obtain ⟨cs, t, h1, h2⟩ := HVT.out k hk; exact ⟨cs, t, ((Below.heap_setCell _ _ _ _ (fun e => HVG.out (by rw [← show k = g from e]; exact hk))).trans (HVS.out k hk)).trans h1, h2⟩, HVG.out, _, blk_set HK2.out 0 _, Kd.R_far (by simpa using HR2.out) (fun _ h => h.1) _⟩, fun k hk => (Below.heap_setCell _ _ _ _ (fun e => HVG.out (by rw [← show k = g from e]; exact hk))).trans (HVS.out k hk)⟩
  | false =>
    by_cases hneg : v < 0
    · obtain rfl : bb = true := by rw [hbb]; simp [hneg]
      have h1 : decide (v < 0) = true := decide_eq_true hneg
      clear hbb key hneg
      go_upto_region 1 with fail
      rw [← HW1.out]
      clear c0 c1 hfz
      have c0 : W1.cell? ⟨g, 0, none⟩ = some (.slice A l.length c) := (blk_cell HK1.out 0).trans rfl
      have c1 := (blk_cell HK1.out 1)
      have hfz : ∀ j, W1.frozen? ⟨g, j, none⟩ = false := fun j => blk_frozen HK1.out j
      clear c1
      go_wp2_with fail
      refine HP.out.mono ?_
      rintro e w2 ⟨v2, rfl, hR2, hB2, hK2⟩
      obtain ⟨A2, n2, e2⟩ := Kd.R_slice hR2
      subst e2
      have hblk2 : w2.heap[g]? = _ := (hK2.2 g hlt1 (fun h => h.1 rfl)).trans HK1.out
      have HB2 := Aside0.mk hB2
      have HK2 := Aside0.mk hblk2
      have HR2 : Aside0 (U8.R 5 w2 w0.heap.size (fun k => k ≠ g ∧ ¬ V k) _ _) := ⟨Kd.R_mono hR2 (fun k hk => by rcases hk with h | h; exact h; exact ⟨by omega, fun h3 => by have := HVB.out k h3; have := HV1.out.1; omega⟩)⟩
      have HVS : Aside0 (Vs V W w2) := ⟨fun k hk => (hK2.2 k (by have := HVB.out k hk; have := HV1.out.1; omega) (fun h => h.2 hk)).trans (HV1.out.2 k hk)⟩
      have HZ2 : Aside0 (W.heap.size ≤ w2.heap.size) := ⟨by have := hK2.1; have := HV1.out.1; omega⟩
      have d0 : w2.cell? ⟨g, 0, none⟩ = some (.slice A l.length c) := (blk_cell hblk2 0).trans rfl
      have dfz : ∀ j, w2.frozen? ⟨g, j, none⟩ = false := fun j => blk_frozen hblk2 j
      clear hR2 hB2 hK2 hblk2 c0 hfz
      go_wp2
      go_end0
      exact ⟨rfl, ⟨HB2.out.setCell HG.out _, HG.out, fun k hk => by obtain ⟨cs, t, h1, h2⟩ := HVT.out k hk; exact ⟨cs, t, ((Below.heap_setCell _ _ _ _ (fun e => HVG.out (by rw [← show k = g from e]; exact hk))).trans (HVS.out k hk)).trans h1, h2⟩, HVG.out, _, blk_set HK2.out 0 _, Kd.R_far (by simpa using HR2.out) (fun _ h => h.1) _⟩, fun k hk => (Below.heap_setCell _ _ _ _ (fun e => HVG.out (by rw [← show k = g from e]; exact hk))).trans (HVS.out k hk)⟩
    · have h1 : decide (v < 0) = false := decide_eq_false hneg
      by_cases hbig : most < v
      · obtain rfl : bb = true := by rw [hbb]; simp [hbig]
        have h2 : decide (most < v) = true := decide_eq_true hbig
        clear hbb key hneg hbig
        go_upto_region 1 with fail
        rw [← HW1.out]
        clear c0 c1 hfz
        have c0 : W1.cell? ⟨g, 0, none⟩ = some (.slice A l.length c) := (blk_cell HK1.out 0).trans rfl
        have c1 := (blk_cell HK1.out 1)
        have hfz : ∀ j, W1.frozen? ⟨g, j, none⟩ = false := fun j => blk_frozen HK1.out j
        clear c1
        go_wp2_with fail
        refine HP.out.mono ?_
        rintro e w2 ⟨v2, rfl, hR2, hB2, hK2⟩
        obtain ⟨A2, n2, e2⟩ := Kd.R_slice hR2
        subst e2
        have hblk2 : w2.heap[g]? = _ := (hK2.2 g hlt1 (fun h => h.1 rfl)).trans HK1.out
        have HB2 := Aside0.mk hB2
        have HK2 := Aside0.mk hblk2
        have HR2 : Aside0 (U8.R 5 w2 w0.heap.size (fun k => k ≠ g ∧ ¬ V k) _ _) := ⟨Kd.R_mono hR2 (fun k hk => by rcases hk with h | h; exact h; exact ⟨by omega, fun h3 => by have := HVB.out k h3; have := HV1.out.1; omega⟩)⟩
        have HVS : Aside0 (Vs V W w2) := ⟨fun k hk => (hK2.2 k (by have := HVB.out k hk; have := HV1.out.1; omega) (fun h => h.2 hk)).trans (HV1.out.2 k hk)⟩
        have HZ2 : Aside0 (W.heap.size ≤ w2.heap.size) := ⟨by have := hK2.1; have := HV1.out.1; omega⟩
        have d0 : w2.cell? ⟨g, 0, none⟩ = some (.slice A l.length c) := (blk_cell hblk2 0).trans rfl
        have dfz : ∀ j, w2.frozen? ⟨g, j, none⟩ = false := fun j => blk_frozen hblk2 j
        clear hR2 hB2 hK2 hblk2 c0 hfz
        go_wp2
        go_end0
        exact ⟨rfl, ⟨HB2.out.setCell HG.out _, HG.out, fun k hk => by obtain ⟨cs, t, h1, h2⟩ := HVT.out k hk; exact ⟨cs, t, ((Below.heap_setCell _ _ _ _ (fun e => HVG.out (by rw [← show k = g from e]; exact hk))).trans (HVS.out k hk)).trans h1, h2⟩, HVG.out, _, blk_set HK2.out 0 _, Kd.R_far (by simpa using HR2.out) (fun _ h => h.1) _⟩, fun k hk => (Below.heap_setCell _ _ _ _ (fun e => HVG.out (by rw [← show k = g from e]; exact hk))).trans (HVS.out k hk)⟩
      · obtain rfl : bb = false := by rw [hbb]; simp [hbig, hneg]
        have h2 : decide (most < v) = false := decide_eq_false hbig
        clear hbb key hneg hbig
        go_upto_region 1 with fail
        rw [← HW1.out]
        clear c0 c1 hfz
        have c0 : W1.cell? ⟨g, 0, none⟩ = some (.slice A l.length c) := (blk_cell HK1.out 0).trans rfl
        have c1 := (blk_cell HK1.out 1)
        have hfz : ∀ j, W1.frozen? ⟨g, j, none⟩ = false := fun j => blk_frozen HK1.out j
        clear c1
        go_wp2_with fail
        refine HP.out.mono ?_
        rintro e w2 ⟨v2, rfl, hR2, hB2, hK2⟩
        obtain ⟨A2, n2, e2⟩ := Kd.R_slice hR2
        subst e2
        have hblk2 : w2.heap[g]? = _ := (hK2.2 g hlt1 (fun h => h.1 rfl)).trans HK1.out
        have HB2 := Aside0.mk hB2
        have HK2 := Aside0.mk hblk2
        have HR2 : Aside0 (U8.R 5 w2 w0.heap.size (fun k => k ≠ g ∧ ¬ V k) _ _) := ⟨Kd.R_mono hR2 (fun k hk => by rcases hk with h | h; exact h; exact ⟨by omega, fun h3 => by have := HVB.out k h3; have := HV1.out.1; omega⟩)⟩
        have HVS : Aside0 (Vs V W w2) := ⟨fun k hk => (hK2.2 k (by have := HVB.out k hk; have := HV1.out.1; omega) (fun h => h.2 hk)).trans (HV1.out.2 k hk)⟩
        have HZ2 : Aside0 (W.heap.size ≤ w2.heap.size) := ⟨by have := hK2.1; have := HV1.out.1; omega⟩
        have d0 : w2.cell? ⟨g, 0, none⟩ = some (.slice A l.length c) := (blk_cell hblk2 0).trans rfl
        have dfz : ∀ j, w2.frozen? ⟨g, j, none⟩ = false := fun j => blk_frozen hblk2 j
        clear hR2 hB2 hK2 hblk2 c0 hfz
        go_wp2
        go_end0
        exact ⟨rfl, ⟨HB2.out.setCell HG.out _, HG.out, fun k hk => by obtain ⟨cs, t, h1, h2⟩ := HVT.out k hk; exact ⟨cs, t, ((Below.heap_setCell _ _ _ _ (fun e => HVG.out (by rw [← show k = g from e]; exact hk))).trans (HVS.out k hk)).trans h1, h2⟩, HVG.out, _, blk_set HK2.out 0 _, Kd.R_far (by simpa using HR2.out) (fun _ h => h.1) _⟩, fun k hk => (Below.heap_setCell _ _ _ _ (fun e => HVG.out (by rw [← show k = g from e]; exact hk))).trans (HVS.out k hk)⟩
theorem numI_calls (w0 W : World) (V : Nat → Prop) (g : Nat) (v : Int) (n : Nat) (ni : Int) (hi : ni = (n : Int)) (most : Int) (s : St) (h : Wp w0 W V g s) (hn : n ≤ 8) (hl : s.1.length < 140737488350000) :
    Calls Try.prog 16 #[.pointer (some ⟨g, 0, none⟩), .int .i64 v, .int .i64 ni, .int .i64 most] W fun e w' => e = .returned (.tuple #[]) ∧ Wp w0 w' V g (wN v n most s) ∧ Vs V W w' := by
  subst hi
  exact num_calls w0 W V g v n most s h hn hl
set_option maxHeartbeats 4000000 in
set_option maxRecDepth 100000 in
theorem key_calls (w0 W : World) (V : Nat → Prop) (g : Nat) (k : ByteArray) (s : St) (h : Wp w0 W V g s) (hl : (wKey k s).1.length < 140737488350000) :
    Calls Try.prog 17 #[.pointer (some ⟨g, 0, none⟩), .string k] W fun e w' => e = .returned (.tuple #[]) ∧ Wp w0 w' V g (wKey k s) ∧ Vs V W w' := by
  have HK : Aside0 (wKey k s = ((wN k.size 1 16 s).1 ++ bytesOf k, (wN k.size 1 16 s).2)) := ⟨rfl⟩
  have hl1 : (wN k.size 1 16 s).1.length + k.size < 140737488350000 := by have := hl; simp only [wKey, List.length_append, bytesOf_length] at this; exact this
  have hl0 := (grows_N k.size 1 16 s).len
  have HN : Aside0 _ := ⟨numI_calls w0 W V g k.size 1 1 rfl 16 s h (by decide) (by omega)⟩
  obtain ⟨t, ht⟩ : ∃ t, t = wN k.size 1 16 s := ⟨_, rfl⟩
  rw [← ht] at hl1 HN HK
  have HL := Aside0.mk hl1
  clear h hl hl1 hl0 ht
  go_enter Try.func17, Try.ntmps17
  go_wp2_with fail
  refine HN.out.mono ?_
  rintro e w1 ⟨rfl, hp, hv⟩
  have HV := Aside0.mk hv
  have HP := Aside0.mk hp
  have hlt := hp.lt
  obtain ⟨hb, hg, hvt, hvg, u, hblk, hR⟩ := hp
  obtain ⟨A, c, rfl⟩ := Kd.R_slice hR
  have c0 : w1.cell? ⟨g, 0, none⟩ = some (.slice A t.1.length c) := (blk_cell hblk 0).trans rfl
  have HB := Aside0.mk hblk
  have HR := Aside0.mk hR
  have HRo : Aside0 (w1.ownsRow w0.heap.size 5 1 (.slice A t.1.length c) t.1.length (nums .u8 t.1)) := ⟨Kd.own_of_R hR⟩
  clear hb hg hvt hvg hblk hR hv HN
  go_wp2_with (at_builtin; refine print_append_str (w0 := w0) w0.heap.size rfl (.tmp 12) (.tmp 13) 29 9 5 rfl Try.underlying29 Try.underlying9 info5 (.slice A t.1.length c) t.1 k rfl rfl HRo.out HP.out.hb HP.out.hb.size ?aL ?_; (case aL => have := HL.out; omega); intro v2 w2 ho hb2 hg2; obtain ⟨A2, n2, e2⟩ := Kd.R_slice (Kd.R_of_own (enc := Value.int .u8) (h1 := fun _ => rfl) (ok := fun _ => True) ho (fun _ _ => trivial)); subst e2; have HO := Aside0.mk ho; have HB2 := Aside0.mk hb2; have HG2 := Aside0.mk hg2; have hblk2 : w2.heap[g]? = _ := (hg2.block g hlt (fun e => (HR.out.1 g e.symm).1 rfl)).trans HB.out; have HK2 := Aside0.mk hblk2; have d0 : w2.cell? ⟨g, 0, none⟩ = some (.slice A t.1.length c) := (blk_cell hblk2 0).trans rfl; have dfz : ∀ j, w2.frozen? ⟨g, j, none⟩ = false := fun j => blk_frozen hblk2 j; clear ho hb2 hg2 hblk2 c0)
  go_end0
  rw [HK.out]
  have hvs : Vs V w1 w2 := fun k hk => HG2.out.block k (HP.out.vb k hk) (fun e => (HR.out.1 k e.symm).2 hk)
  have hok : ∀ j, (Value.slice A2 (t.1 ++ bytesOf k).length n2).ownBlock = some j → j ≠ g ∧ ¬ V j := by
    intro j hk
    obtain ⟨cells, hc⟩ := own_typed HO.out j hk
    refine ⟨fun e => ?_, fun hV => ?_⟩
    · rw [e, HK2.out] at hc
      injection hc with hc; injection hc with _ h2 _; cases h2
    · obtain ⟨cs, tt, h1, h2⟩ := HP.out.vt j hV
      rw [hvs j hV, h1] at hc
      injection hc with hc; injection hc with _ h3 _; exact h2 h3
  have hne : ∀ k, V k → k ≠ g := fun k hk e => HP.out.vg (by rw [← e]; exact hk)
  exact ⟨rfl, ⟨HB2.out.setCell HP.out.hg _, HP.out.hg, fun k hk => by obtain ⟨cs, tt, h1, h2⟩ := HP.out.vt k hk; exact ⟨cs, tt, ((Below.heap_setCell _ _ _ _ (hne k hk)).trans (hvs k hk)).trans h1, h2⟩, HP.out.vg, _, by simpa using blk_set HK2.out 0 (.slice A2 (t.1 ++ bytesOf k).length n2), Kd.R_far (Kd.R_of_own HO.out hok) (fun _ h => h.1) _⟩, fun k hk => ((Below.heap_setCell _ _ _ _ (hne k hk)).trans (hvs k hk)).trans (HV.out k hk)⟩
theorem foldl_take {α β : Type} (f : β → α → β) (l : List α) (b : β) (k : Nat) (d : α) (hk : k < l.length) : (l.take (k + 1)).foldl f b = f ((l.take k).foldl f b) (l.getD k d) := by
  rw [List.take_succ_eq_append_getElem hk, List.foldl_append, List.getD_eq_getElem?_getD, List.getElem?_eq_getElem hk]; rfl
theorem fold_le {α : Type} (f : St → α → St) (hf : ∀ s x, Grows s (f s x)) (l : List α) (b : St) (k : Nat) : Grows ((l.take k).foldl f b) (l.foldl f b) := by
  have h := grows_fold f hf (l.drop k) ((l.take k).foldl f b)
  rwa [← List.foldl_append, List.take_append_drop] at h
theorem int_at {W : World} {A : Option Addr} {l : List Int} (h : (Kd.int .i64).C W A l.length l) (k : Nat) (hk : k < l.length) : ∃ ad, A = some ad ∧ W.cell? (ad.add k) = some (.int .i64 (l.getD k 0)) := by
  obtain ⟨ad, c, rfl, hcl, hK, hc⟩ := Kd.C_get h (0 : Int) (k : Int) (by omega) (by omega)
  rw [Int.toNat_natCast] at hK hc
  have e : c = [.int .i64 (l.getD k 0)] := hK
  subst e
  have h0 : W.cell? (ad.add (k * 1 + 0)) = _ := hc 0 _ rfl
  exact ⟨ad, rfl, by simpa using h0⟩
theorem fold_len {α : Type} (f : St → α → St) (hf : ∀ s x, s.1.length < (f s x).1.length) (l : List α) : ∀ s, s.1.length + l.length ≤ (l.foldl f s).1.length := by
  induction l with
  | nil => intro s; simp
  | cons x l ih => intro s; have := hf s x; have := ih (f s x); simp only [List.foldl_cons, List.length_cons]; omega
theorem wN_more (v : Int) (n : Nat) (hn : 0 < n) (m : Int) (s : St) : s.1.length < (wN v n m s).1.length := by simp [wN, numB_len, hn]
theorem ints_len (l : List Int) (s : St) : l.length ≤ (wInts l s).1.length := by
  have := fold_len (fun s v => wN v 4 1073741824 s) (fun s v => wN_more v 4 (by decide) _ s) l (wN l.length 1 255 s)
  unfold wInts; omega
theorem stripe_more (s : St) (x : S41) : s.1.length < (wStripe x s).1.length := Nat.lt_of_lt_of_le (wN_more x.f0 4 (by decide) 1073741824 s) (Nat.le_trans (grows_N _ _ _ _).len (grows_ints _ _).len)
theorem stripes_len (l : List S41) (s : St) : l.length ≤ (wStripes l s).1.length := by
  have := fold_len (fun s x => wStripe x s) stripe_more l (wN l.length 1 255 s)
  unfold wStripes; omega
set_option maxHeartbeats 4000000 in
set_option maxRecDepth 100000 in
theorem ints_calls (w0 W : World) (V : Nat → Prop) (g : Nat) (A : Option Addr) (c : Nat) (l : List Int) (s : St) (h : Wp w0 W V g s) (hC : (Kd.int .i64).C w0 A l.length l) (hl : (wInts l s).1.length < 140737488350000) :
    Calls Try.prog 20 #[.pointer (some ⟨g, 0, none⟩), .slice A l.length c] W fun e w' => e = .returned (.tuple #[]) ∧ Wp w0 w' V g (wInts l s) ∧ Vs V W w' := by
  have HL := Aside0.mk hl
  have HC := Aside0.mk hC
  have HG := Aside0.mk (fold_le (fun s v => wN v 4 1073741824 s) (fun _ _ => grows_N _ _ _ _) l (wN l.length 1 255 s))
  have hll : l.length < 140737488350000 := by have := ints_len l s; omega
  have HE : Aside0 (wInts l s = l.foldl (fun s v => wN v 4 1073741824 s) (wN l.length 1 255 s)) := ⟨rfl⟩
  have HN : Aside0 _ := ⟨numI_calls w0 W V g l.length 1 1 rfl 255 s h (by decide) (by have := (grows_ints l s).len; omega)⟩
  clear h hC hl
  go_enter Try.func20, Try.ntmps20
  go_wp2_with fail
  refine HN.out.mono ?_
  rintro e w1 ⟨rfl, hp, hv⟩
  have HP := Aside0.mk hp
  have HV := Aside0.mk hv
  clear hp hv HN
  go_wp2
  go_loopw [5, 12, 13, 14, 15, 16, 17, 18, 19] (fun x5 x12 x13 x14 x15 x16 x17 x18 x19 wr => ∃ k : Nat, k ≤ l.length ∧ x12 = .int .i64 k ∧ Aside0 (Wp w0 wr V g ((l.take k).foldl (fun s v => wN v 4 1073741824 s) (wN l.length 1 255 s))) ∧ Aside0 (Vs V W wr)) (fun _ x12 _ _ _ _ _ _ _ _ => l.length - (intOf x12).toNat)
  case atStart => exact ⟨0, Nat.zero_le _, rfl, ⟨by simpa using HP.out⟩, HV⟩
  case round =>
    obtain ⟨k, hk, rfl, HPr, HVr⟩ := hrel
    by_cases hlt : k < l.length
    · obtain ⟨ad, rfl, hq⟩ := int_at (Kd.C_below HC.out HPr.out.hb) k hlt
      have HF := Aside0.mk (foldl_take (fun s v => wN v 4 1073741824 s) l (wN l.length 1 255 s) k 0 hlt)
      have HN : Aside0 _ := ⟨numI_calls w0 wr V g (l.getD k 0) 4 4 rfl 1073741824 _ HPr.out (by decide) (by have := (HG.out k).len; have := HL.out; rw [HE.out] at this; omega)⟩
      obtain ⟨y, hy⟩ : ∃ y, y = l.getD k 0 := ⟨_, rfl⟩
      rw [← hy] at hq HN HF
      clear hy
      go_wp2_with fail
      refine HN.out.mono ?_
      rintro e w2 ⟨rfl, hp, hv⟩
      have HP2 := Aside0.mk hp
      have HV2 := Aside0.mk hv
      clear hp hv HN
      go_wp2
      go_roundw
      case rel => exact ⟨k + 1, by omega, by go_num, ⟨by rw [HF.out]; exact HP2.out⟩, ⟨fun k hk => (HV2.out k hk).trans (HVr.out k hk)⟩⟩
      case measure => simp [intOf]; omega
    · obtain rfl : k = l.length := by omega
      have hd : decide (l.length < l.length) = false := decide_eq_false (Nat.lt_irrefl _)
      clear hk hlt
      go_wp2
      go_end0
      exact ⟨rfl, by rw [HE.out]; have := HPr.out; rwa [List.take_of_length_le (Nat.le_refl _)] at this, HVr.out⟩
theorem stripe_at {W : World} {A : Option Addr} {l : List S41} (h : k41.C W A l.length l) (k : Nat) (hk : k < l.length) : ∃ ad B cb, A = some ad ∧ W.cell? (ad.add (k * 3)) = some (.int .i64 (l.getD k z41).f0) ∧ W.cell? ⟨(ad.add (k * 3)).block, (ad.add (k * 3)).off + 1, none⟩ = some (.int .i64 (l.getD k z41).f1) ∧
    W.cell? ⟨(ad.add (k * 3)).block, (ad.add (k * 3)).off + 2, none⟩ = some (.slice B (l.getD k z41).f2.length cb) ∧ (l.getD k z41).f2.length ≤ cb ∧ (Kd.int .i64).C W B (l.getD k z41).f2.length (l.getD k z41).f2 := by
  obtain ⟨ad, B, cb, e, h0, h1, h2, h3, h4⟩ := at_T41 h (k : Int) (by omega) (by omega)
  simp only [rd_T41, Int.toNat_natCast] at h0 h1 h2 h3 h4
  exact ⟨ad, B, cb, e, h0, h1, h2, h3, h4⟩
set_option maxHeartbeats 4000000 in
set_option maxRecDepth 100000 in
theorem stripes_calls (w0 W : World) (V : Nat → Prop) (g : Nat) (A : Option Addr) (c : Nat) (l : List S41) (s : St) (h : Wp w0 W V g s) (hC : k41.C w0 A l.length l) (hl : (wStripes l s).1.length < 140737488350000) :
    Calls Try.prog 18 #[.pointer (some ⟨g, 0, none⟩), .slice A l.length c] W fun e w' => e = .returned (.tuple #[]) ∧ Wp w0 w' V g (wStripes l s) ∧ Vs V W w' := by
  have HL := Aside0.mk hl
  have HC := Aside0.mk hC
  have HG := Aside0.mk (fold_le (fun s x => wStripe x s) (fun _ _ => grows_stripe _ _) l (wN l.length 1 255 s))
  have hll : l.length < 140737488350000 := by have := stripes_len l s; omega
  have HE : Aside0 (wStripes l s = l.foldl (fun s x => wStripe x s) (wN l.length 1 255 s)) := ⟨rfl⟩
  have HN : Aside0 _ := ⟨numI_calls w0 W V g l.length 1 1 rfl 255 s h (by decide) (by have := (grows_stripes l s).len; omega)⟩
  clear h hC hl
  go_enter Try.func18, Try.ntmps18
  go_wp2_with fail
  refine HN.out.mono ?_
  rintro e w1 ⟨rfl, hp, hv⟩
  have HP := Aside0.mk hp
  have HV := Aside0.mk hv
  clear hp hv HN
  go_wp2
  go_loopw [5, 12, 13, 14, 15, 16, 17, 18, 19, 20, 21, 22, 23, 24, 25, 26, 27, 28] (fun x5 x12 x13 x14 x15 x16 x17 x18 x19 x20 x21 x22 x23 x24 x25 x26 x27 x28 wr => ∃ k : Nat, k ≤ l.length ∧ x12 = .int .i64 k ∧ Aside0 (Wp w0 wr V g ((l.take k).foldl (fun s x => wStripe x s) (wN l.length 1 255 s))) ∧ Aside0 (Vs V W wr)) (fun _ x12 _ _ _ _ _ _ _ _ _ _ _ _ _ _ _ _ _ => l.length - (intOf x12).toNat)
  case atStart => exact ⟨0, Nat.zero_le _, rfl, ⟨by simpa using HP.out⟩, HV⟩
  case round =>
    obtain ⟨k, hk, rfl, HPr, HVr⟩ := hrel
    by_cases hlt : k < l.length
    · obtain ⟨ad, B, cb, rfl, hq0, hq1, hq2, hcb, hCB⟩ := stripe_at (Kd.C_below HC.out HPr.out.hb) k hlt
      obtain ⟨_, B', cb', e', hr0, hr1, hr2, hcb', hCB0⟩ := stripe_at HC.out k hlt
      have hr2' := pw_cell_below HPr.out.hb hr2
      cases e'
      rw [hq2] at hr2'
      injection hr2' with hr2'; injection hr2' with e1 _ e3; subst e1 e3
      have HCB := Aside0.mk hCB0
      have HF := Aside0.mk (foldl_take (fun s x => wStripe x s) l (wN l.length 1 255 s) k z41 hlt)
      have HGk := Aside0.mk (HG.out (k + 1))
      rw [HF.out] at HGk
      obtain ⟨x, hx⟩ : ∃ x, x = l.getD k z41 := ⟨_, rfl⟩
      rw [← hx] at hq0 hq1 hq2 hCB HCB HF HGk
      obtain ⟨t, ht⟩ : ∃ t, t = (l.take k).foldl (fun s x => wStripe x s) (wN l.length 1 255 s) := ⟨_, rfl⟩
      rw [← ht] at HPr HF HGk
      have hlen : (wStripe x t).1.length < 140737488350000 := by have := HGk.out.len; have := HL.out; rw [HE.out] at this; omega
      have HE2 : Aside0 (wStripe x t = wInts x.f2 (wN x.f1 4 1073741824 (wN x.f0 4 1073741824 t))) := ⟨rfl⟩
      have hl2 : (wN x.f1 4 1073741824 (wN x.f0 4 1073741824 t)).1.length < 140737488350000 := by have := (grows_ints x.f2 (wN x.f1 4 1073741824 (wN x.f0 4 1073741824 t))).len; rw [HE2.out] at hlen; omega
      have hl1 : (wN x.f0 4 1073741824 t).1.length < 140737488350000 := by have := (grows_N x.f1 4 1073741824 (wN x.f0 4 1073741824 t)).len; omega
      have hl0 : t.1.length < 140737488350000 := by have := (grows_N x.f0 4 1073741824 t).len; omega
      have HL0 := Aside0.mk hl0
      have HL1 := Aside0.mk hl1
      have HL2 := Aside0.mk hlen
      obtain ⟨wo, hwo⟩ : ∃ wo, wo = wr.alloc (.cells #[.int .i64 x.f0, .int .i64 x.f1, .slice B x.f2.length cb] 41) := ⟨_, rfl⟩
      have hBo : Below wr.heap.size wr wo := by rw [hwo]; exact (Below.refl _ _).alloc (Nat.le_refl _) _
      have hblk : wo.heap[wr.heap.size]? = some (.cells #[.int .i64 x.f0, .int .i64 x.f1, .slice B x.f2.length cb] 41 (0, 0)) := by rw [hwo]; exact heap_alloc_new wr _
      have HBo := Aside0.mk hBo
      have HBk := Aside0.mk hblk
      have HWO := Aside0.mk hwo
      have HP1 : Aside0 (Wp w0 wo (fun k => V k ∨ k = wr.heap.size) g t) := ⟨HPr.out.guard_ hBo (fun k hk => by rcases hk with h1 | h1; exact .inl h1; subst h1; exact .inr ⟨Nat.le_refl _, _, _, hblk, by decide⟩)⟩
      have d0 : wo.cell? ⟨wr.heap.size, 0, none⟩ = some (.int .i64 x.f0) := (blk_cell hblk 0).trans rfl
      have d1 : wo.cell? ⟨wr.heap.size, 1, none⟩ = some (.int .i64 x.f1) := (blk_cell hblk 1).trans rfl
      have d2 : wo.cell? ⟨wr.heap.size, 2, none⟩ = some (.slice B x.f2.length cb) := (blk_cell hblk 2).trans rfl
      clear hx ht hlen hl0 hl1 hl2 hwo hBo hblk hCB hCB0 hr0 hr1 hr2 hcb'
      go_upto_region 4 with fail
      rw [← HWO.out]
      have HN : Aside0 _ := ⟨numI_calls w0 wo (fun k => V k ∨ k = wr.heap.size) g x.f0 4 4 rfl 1073741824 t HP1.out (by decide) HL0.out⟩
      go_wp2_with fail
      refine HN.out.mono ?_
      rintro e w2 ⟨rfl, hp, hv⟩
      have HP2 := Aside0.mk hp
      have HV2 : Aside0 (Vs (fun k => V k ∨ k = wr.heap.size) wo w2) := ⟨hv⟩
      have hb2 : w2.heap[wr.heap.size]? = _ := (HV2.out _ (.inr rfl)).trans HBk.out
      clear d0 d1 d2
      have d0 : w2.cell? ⟨wr.heap.size, 0, none⟩ = some (.int .i64 x.f0) := (blk_cell hb2 0).trans rfl
      have d1 : w2.cell? ⟨wr.heap.size, 1, none⟩ = some (.int .i64 x.f1) := (blk_cell hb2 1).trans rfl
      have d2 : w2.cell? ⟨wr.heap.size, 2, none⟩ = some (.slice B x.f2.length cb) := (blk_cell hb2 2).trans rfl
      clear hp hv HN hb2
      have HN : Aside0 _ := ⟨numI_calls w0 w2 (fun k => V k ∨ k = wr.heap.size) g x.f1 4 4 rfl 1073741824 _ HP2.out (by decide) HL1.out⟩
      go_wp2_with fail
      refine HN.out.mono ?_
      rintro e w3 ⟨rfl, hp, hv⟩
      have HP3 := Aside0.mk hp
      have HV3 : Aside0 (Vs (fun k => V k ∨ k = wr.heap.size) wo w3) := ⟨fun k hk => (hv k hk).trans (HV2.out k hk)⟩
      have hb3 : w3.heap[wr.heap.size]? = _ := (HV3.out _ (.inr rfl)).trans HBk.out
      clear d0 d1 d2
      have d0 : w3.cell? ⟨wr.heap.size, 0, none⟩ = some (.int .i64 x.f0) := (blk_cell hb3 0).trans rfl
      have d1 : w3.cell? ⟨wr.heap.size, 1, none⟩ = some (.int .i64 x.f1) := (blk_cell hb3 1).trans rfl
      have d2 : w3.cell? ⟨wr.heap.size, 2, none⟩ = some (.slice B x.f2.length cb) := (blk_cell hb3 2).trans rfl
      clear hp hv HN hb3
      have HN : Aside0 _ := ⟨ints_calls w0 w3 (fun k => V k ∨ k = wr.heap.size) g B cb x.f2 _ HP3.out HCB.out HL2.out⟩
      go_wp2_with fail
      refine HN.out.mono ?_
      rintro e w4 ⟨rfl, hp, hv⟩
      have HP4 := Aside0.mk hp
      have HV4 : Aside0 (Vs (fun k => V k ∨ k = wr.heap.size) wo w4) := ⟨fun k hk => (hv k hk).trans (HV3.out k hk)⟩
      have hb4 : w4.heap[wr.heap.size]? = _ := (HV4.out _ (.inr rfl)).trans HBk.out
      clear d0 d1 d2
      have d0 : w4.cell? ⟨wr.heap.size, 0, none⟩ = some (.int .i64 x.f0) := (blk_cell hb4 0).trans rfl
      have d1 : w4.cell? ⟨wr.heap.size, 1, none⟩ = some (.int .i64 x.f1) := (blk_cell hb4 1).trans rfl
      have d2 : w4.cell? ⟨wr.heap.size, 2, none⟩ = some (.slice B x.f2.length cb) := (blk_cell hb4 2).trans rfl
      clear hp hv HN hb4
      go_wp2
      go_roundw
      case rel => exact ⟨k + 1, by omega, by go_num, ⟨by rw [HF.out]; exact HP4.out.less (fun k hk => .inl hk)⟩, ⟨fun k hk => (HV4.out k (.inl hk)).trans ((HBo.out.block k (HPr.out.vb k hk)).trans (HVr.out k hk))⟩⟩
      case measure => simp [intOf]; omega
    · obtain rfl : k = l.length := by omega
      have hd : decide (l.length < l.length) = false := decide_eq_false (Nat.lt_irrefl _)
      clear hk hlt
      go_wp2
      go_end0
      exact ⟨rfl, by rw [HE.out]; have := HPr.out; rwa [List.take_of_length_le (Nat.le_refl _)] at this, HVr.out⟩
set_option maxHeartbeats 4000000 in
set_option maxRecDepth 100000 in
theorem object_calls (w0 W : World) (V : Nat → Prop) (g : Nat) (B : Option Addr) (cb : Nat) (x : S44) (s : St) (h : Wp w0 W V g s) (hC : k41.C w0 B x.f3.length x.f3) (hl : (wObject x s).1.length < 140737488350000) :
    Calls Try.prog 19 #[.pointer (some ⟨g, 0, none⟩), .agg #[.string x.f0, .int .i64 x.f1, .int .i64 x.f2, .slice B x.f3.length cb]] W fun e w' => e = .returned (.tuple #[]) ∧ Wp w0 w' V g (wObject x s) ∧ Vs V W w' := by
  have HC := Aside0.mk hC
  have HE : Aside0 (wObject x s = wStripes x.f3 (wN x.f2 4 1073741824 (wN x.f1 4 1073741824 (wKey x.f0 s)))) := ⟨rfl⟩
  have hl3 : (wN x.f2 4 1073741824 (wN x.f1 4 1073741824 (wKey x.f0 s))).1.length < 140737488350000 := by have := (grows_stripes x.f3 (wN x.f2 4 1073741824 (wN x.f1 4 1073741824 (wKey x.f0 s)))).len; rw [HE.out] at hl; omega
  have hl2 : (wN x.f1 4 1073741824 (wKey x.f0 s)).1.length < 140737488350000 := by have := (grows_N x.f2 4 1073741824 (wN x.f1 4 1073741824 (wKey x.f0 s))).len; omega
  have hl1 : (wKey x.f0 s).1.length < 140737488350000 := by have := (grows_N x.f1 4 1073741824 (wKey x.f0 s)).len; omega
  have HL := Aside0.mk hl
  have HL1 := Aside0.mk hl1
  have HL2 := Aside0.mk hl2
  have HP := Aside0.mk h
  obtain ⟨wo, hwo⟩ : ∃ wo, wo = W.alloc (.cells #[.string x.f0, .int .i64 x.f1, .int .i64 x.f2, .slice B x.f3.length cb] 44) := ⟨_, rfl⟩
  have hBo : Below W.heap.size W wo := by rw [hwo]; exact (Below.refl _ _).alloc (Nat.le_refl _) _
  have hblk : wo.heap[W.heap.size]? = some (.cells #[.string x.f0, .int .i64 x.f1, .int .i64 x.f2, .slice B x.f3.length cb] 44 (0, 0)) := by rw [hwo]; exact heap_alloc_new W _
  have HBo := Aside0.mk hBo
  have HBk := Aside0.mk hblk
  have HWO := Aside0.mk hwo
  have HP1 : Aside0 (Wp w0 wo (fun k => V k ∨ k = W.heap.size) g s) := ⟨h.guard_ hBo (fun k hk => by rcases hk with h1 | h1; exact .inl h1; subst h1; exact .inr ⟨Nat.le_refl _, _, _, hblk, by decide⟩)⟩
  have d0 : wo.cell? ⟨W.heap.size, 0, none⟩ = some (.string x.f0) := (blk_cell hblk 0).trans rfl
  have d1 : wo.cell? ⟨W.heap.size, 1, none⟩ = some (.int .i64 x.f1) := (blk_cell hblk 1).trans rfl
  have d2 : wo.cell? ⟨W.heap.size, 2, none⟩ = some (.int .i64 x.f2) := (blk_cell hblk 2).trans rfl
  have d3 : wo.cell? ⟨W.heap.size, 3, none⟩ = some (.slice B x.f3.length cb) := (blk_cell hblk 3).trans rfl
  clear h hC hl hl1 hl2 hl3 hwo hBo hblk
  go_enter Try.func19, Try.ntmps19
  go_upto_region 1 with fail
  rw [← HWO.out]
  have HN : Aside0 _ := ⟨key_calls w0 wo (fun k => V k ∨ k = W.heap.size) g x.f0 s HP1.out HL1.out⟩
  go_wp2_with fail
  refine HN.out.mono ?_
  rintro e w2 ⟨rfl, hp, hv⟩
  have HP2 := Aside0.mk hp
  have HV2 : Aside0 (Vs (fun k => V k ∨ k = W.heap.size) wo w2) := ⟨hv⟩
  have hb2 : w2.heap[W.heap.size]? = _ := (HV2.out _ (.inr rfl)).trans HBk.out
  clear d0 d1 d2 d3
  have d0 : w2.cell? ⟨W.heap.size, 0, none⟩ = some (.string x.f0) := (blk_cell hb2 0).trans rfl
  have d1 : w2.cell? ⟨W.heap.size, 1, none⟩ = some (.int .i64 x.f1) := (blk_cell hb2 1).trans rfl
  have d2 : w2.cell? ⟨W.heap.size, 2, none⟩ = some (.int .i64 x.f2) := (blk_cell hb2 2).trans rfl
  have d3 : w2.cell? ⟨W.heap.size, 3, none⟩ = some (.slice B x.f3.length cb) := (blk_cell hb2 3).trans rfl
  clear hp hv HN hb2
  have HN : Aside0 _ := ⟨numI_calls w0 w2 (fun k => V k ∨ k = W.heap.size) g x.f1 4 4 rfl 1073741824 _ HP2.out (by decide) HL1.out⟩
  go_wp2_with fail
  refine HN.out.mono ?_
  rintro e w3 ⟨rfl, hp, hv⟩
  have HP3 := Aside0.mk hp
  have HV3 : Aside0 (Vs (fun k => V k ∨ k = W.heap.size) wo w3) := ⟨fun k hk => (hv k hk).trans (HV2.out k hk)⟩
  have hb3 : w3.heap[W.heap.size]? = _ := (HV3.out _ (.inr rfl)).trans HBk.out
  clear d0 d1 d2 d3
  have d0 : w3.cell? ⟨W.heap.size, 0, none⟩ = some (.string x.f0) := (blk_cell hb3 0).trans rfl
  have d1 : w3.cell? ⟨W.heap.size, 1, none⟩ = some (.int .i64 x.f1) := (blk_cell hb3 1).trans rfl
  have d2 : w3.cell? ⟨W.heap.size, 2, none⟩ = some (.int .i64 x.f2) := (blk_cell hb3 2).trans rfl
  have d3 : w3.cell? ⟨W.heap.size, 3, none⟩ = some (.slice B x.f3.length cb) := (blk_cell hb3 3).trans rfl
  clear hp hv HN hb3
  have HN : Aside0 _ := ⟨numI_calls w0 w3 (fun k => V k ∨ k = W.heap.size) g x.f2 4 4 rfl 1073741824 _ HP3.out (by decide) HL2.out⟩
  go_wp2_with fail
  refine HN.out.mono ?_
  rintro e w4 ⟨rfl, hp, hv⟩
  have HP4 := Aside0.mk hp
  have HV4 : Aside0 (Vs (fun k => V k ∨ k = W.heap.size) wo w4) := ⟨fun k hk => (hv k hk).trans (HV3.out k hk)⟩
  have hb4 : w4.heap[W.heap.size]? = _ := (HV4.out _ (.inr rfl)).trans HBk.out
  clear d0 d1 d2 d3
  have d0 : w4.cell? ⟨W.heap.size, 0, none⟩ = some (.string x.f0) := (blk_cell hb4 0).trans rfl
  have d1 : w4.cell? ⟨W.heap.size, 1, none⟩ = some (.int .i64 x.f1) := (blk_cell hb4 1).trans rfl
  have d2 : w4.cell? ⟨W.heap.size, 2, none⟩ = some (.int .i64 x.f2) := (blk_cell hb4 2).trans rfl
  have d3 : w4.cell? ⟨W.heap.size, 3, none⟩ = some (.slice B x.f3.length cb) := (blk_cell hb4 3).trans rfl
  clear hp hv HN hb4
  have HN : Aside0 _ := ⟨stripes_calls w0 w4 (fun k => V k ∨ k = W.heap.size) g B cb x.f3 _ HP4.out HC.out HL.out⟩
  go_wp2_with fail
  refine HN.out.mono ?_
  rintro e w5 ⟨rfl, hp, hv⟩
  have HP5 := Aside0.mk hp
  have HV5 : Aside0 (Vs (fun k => V k ∨ k = W.heap.size) wo w5) := ⟨fun k hk => (hv k hk).trans (HV4.out k hk)⟩
  have hb5 : w5.heap[W.heap.size]? = _ := (HV5.out _ (.inr rfl)).trans HBk.out
  clear d0 d1 d2 d3
  have d0 : w5.cell? ⟨W.heap.size, 0, none⟩ = some (.string x.f0) := (blk_cell hb5 0).trans rfl
  have d1 : w5.cell? ⟨W.heap.size, 1, none⟩ = some (.int .i64 x.f1) := (blk_cell hb5 1).trans rfl
  have d2 : w5.cell? ⟨W.heap.size, 2, none⟩ = some (.int .i64 x.f2) := (blk_cell hb5 2).trans rfl
  have d3 : w5.cell? ⟨W.heap.size, 3, none⟩ = some (.slice B x.f3.length cb) := (blk_cell hb5 3).trans rfl
  clear hp hv HN hb5
  go_wp2
  go_end0
  exact ⟨rfl, HP5.out.less (fun k hk => .inl hk), fun k hk => (HV5.out k (.inl hk)).trans (HBo.out.block k (HP.out.vb k hk))⟩
/-- What Encode answers. -/
def encO (r : Rc) : List Int × Int := if (wRec r).2 then ([], 2) else if 8192 < (wRec r).1.length then ([], 4) else ((wRec r).1, 0)
theorem objs_len (l : List S44) (s : St) : l.length ≤ (wObjs l s).1.length := by
  have hm : ∀ (s : St) (o : S44), s.1.length < (wObject o s).1.length := fun s o => Nat.lt_of_le_of_lt (grows_key o.f0 s).len (Nat.lt_of_lt_of_le (wN_more o.f1 4 (by decide) 1073741824 _) (Nat.le_trans (grows_N _ _ _ _).len (grows_stripes _ _).len))
  have := fold_len (fun s o => wObject o s) hm l (wN l.length 2 65535 s)
  unfold wObjs; omega
theorem object_at {W : World} {A : Option Addr} {l : List S44} (h : k44.C W A l.length l) (k : Nat) (hk : k < l.length) : ∃ ad B cb, A = some ad ∧ W.cell? (ad.add (k * 4)) = some (.string (l.getD k z44).f0) ∧ W.cell? ⟨(ad.add (k * 4)).block, (ad.add (k * 4)).off + 1, none⟩ = some (.int .i64 (l.getD k z44).f1) ∧
    W.cell? ⟨(ad.add (k * 4)).block, (ad.add (k * 4)).off + 2, none⟩ = some (.int .i64 (l.getD k z44).f2) ∧ W.cell? ⟨(ad.add (k * 4)).block, (ad.add (k * 4)).off + 3, none⟩ = some (.slice B (l.getD k z44).f3.length cb) ∧ (l.getD k z44).f3.length ≤ cb ∧ k41.C W B (l.getD k z44).f3.length (l.getD k z44).f3 := by
  obtain ⟨ad, B, cb, e, h0, h1, h2, h3, h4, h5⟩ := at_T44 h (k : Int) (by omega) (by omega)
  simp only [rd_T44, Int.toNat_natCast] at h0 h1 h2 h3 h4 h5
  exact ⟨ad, B, cb, e, h0, h1, h2, h3, h4, h5⟩
theorem Wp.flag {w0 W : World} {V : Nat → Prop} {g : Nat} {s : St} (h : Wp w0 W V g s) (b : Bool) : Wp w0 (W.setCell ⟨g, 1, none⟩ (.bool b)) V g (s.1, b) ∧ Vs V W (W.setCell ⟨g, 1, none⟩ (.bool b)) := by
  obtain ⟨v, h1, h2⟩ := h.ex
  have hne : ∀ k, V k → k ≠ g := fun k hk e => h.vg (by rw [← e]; exact hk)
  exact ⟨⟨h.hb.setCell h.hg _, h.hg, fun k hk => by obtain ⟨cs, t, h3, h4⟩ := h.vt k hk; exact ⟨cs, t, (Below.heap_setCell _ _ _ _ (hne k hk)).trans h3, h4⟩, h.vg, v, blk_set h1 1 _, Kd.R_far h2 (fun _ h => h.1) _⟩, fun k hk => Below.heap_setCell _ _ _ _ (hne k hk)⟩
set_option maxHeartbeats 4000000 in
set_option maxRecDepth 100000 in
theorem encode_calls (A4 A5 A6 : Option Addr) (c4 c5 c6 : Nat) (r : Rc) (w : World) (hC4 : k41.C w A4 r.strs.length r.strs) (hC5 : k44.C w A5 r.objs.length r.objs) (hC6 : (Kd.int .i64).C w A6 r.drv.length r.drv) (hl : (wRec r).1.length < 140737488350000) :
    Calls Try.prog 10 #[.agg #[.int .i64 r.kind, .int .i64 r.id, .int .i64 r.size, .string r.key, .slice A4 r.strs.length c4, .slice A5 r.objs.length c5, .slice A6 r.drv.length c6]] w fun e w' => ∃ v, e = .returned (.tuple #[v, .int .i64 (encO r).2]) ∧ U8.R 5 w' w.heap.size (fun _ => True) v (encO r).1 ∧ Below w.heap.size w w' := by
  have HC4 := Aside0.mk hC4
  have HC5 := Aside0.mk hC5
  have HC6 := Aside0.mk hC6
  obtain ⟨s0, hs0⟩ : ∃ s, s = wN r.kind 1 5 ([], false) := ⟨_, rfl⟩
  obtain ⟨s1, hs1⟩ : ∃ s : St, s = (s0.1, s0.2 || decide (r.kind < 1)) := ⟨_, rfl⟩
  obtain ⟨s2, hs2⟩ : ∃ s, s = wN r.id 4 1073741824 s1 := ⟨_, rfl⟩
  obtain ⟨s3, hs3⟩ : ∃ s, s = wN r.size 4 1073741824 s2 := ⟨_, rfl⟩
  obtain ⟨s4, hs4⟩ : ∃ s, s = wKey r.key s3 := ⟨_, rfl⟩
  obtain ⟨s5, hs5⟩ : ∃ s, s = wStripes r.strs s4 := ⟨_, rfl⟩
  obtain ⟨s6, hs6⟩ : ∃ s, s = wN r.objs.length 2 65535 s5 := ⟨_, rfl⟩
  obtain ⟨s7, hs7⟩ : ∃ s, s = r.objs.foldl (fun s o => wObject o s) s6 := ⟨_, rfl⟩
  obtain ⟨s8, hs8⟩ : ∃ s, s = wInts r.drv s7 := ⟨_, rfl⟩
  have hR : wRec r = s8 := by rw [hs8, hs7, hs6, hs5, hs4, hs3, hs2, hs1, hs0]; rfl
  have HE : Aside0 (encO r = if s8.2 then ([], 2) else if 8192 < s8.1.length then ([], 4) else (s8.1, 0)) := ⟨by unfold encO; rw [hR]⟩
  rw [hR] at hl
  have l7 : s7.1.length < 140737488350000 := by have := (grows_ints r.drv s7).len; rw [← hs8] at this; omega
  have l6 : s6.1.length < 140737488350000 := by have := (grows_fold (fun s o => wObject o s) (fun _ _ => grows_object _ _) r.objs s6).len; rw [← hs7] at this; omega
  have l5 : s5.1.length < 140737488350000 := by have := (grows_N r.objs.length 2 65535 s5).len; rw [← hs6] at this; omega
  have l4 : s4.1.length < 140737488350000 := by have := (grows_stripes r.strs s4).len; rw [← hs5] at this; omega
  have l3 : s3.1.length < 140737488350000 := by have := (grows_key r.key s3).len; rw [← hs4] at this; omega
  have l2 : s2.1.length < 140737488350000 := by have := (grows_N r.size 4 1073741824 s2).len; rw [← hs3] at this; omega
  have l1 : s1.1.length < 140737488350000 := by have := (grows_N r.id 4 1073741824 s1).len; rw [← hs2] at this; omega
  have hll : r.objs.length < 140737488350000 := by
    have := objs_len r.objs s5
    have e : wObjs r.objs s5 = s7 := by rw [hs7, hs6]; rfl
    rw [e] at this; omega
  have HGF := Aside0.mk (fold_le (fun s o => wObject o s) (fun _ _ => grows_object _ _) r.objs s6)
  rw [← hs7] at HGF
  have HL := Aside0.mk hl
  have HL1 := Aside0.mk l1
  have HL2 := Aside0.mk l2
  have HL3 := Aside0.mk l3
  have HL4 := Aside0.mk l4
  have HL5 := Aside0.mk l5
  have HL6 := Aside0.mk l6
  have HL7 := Aside0.mk l7
  have HS0 := Aside0.mk hs0
  have HS1 := Aside0.mk hs1
  have HS2 := Aside0.mk hs2
  have HS3 := Aside0.mk hs3
  have HS4 := Aside0.mk hs4
  have HS5 := Aside0.mk hs5
  have HS6 := Aside0.mk hs6
  have HS7 := Aside0.mk hs7
  have HS8 := Aside0.mk hs8
  clear hC4 hC5 hC6 hl l1 l2 l3 l4 l5 l6 l7 hs0 hs1 hs2 hs3 hs4 hs5 hs6 hs7 hs8 hR
  obtain ⟨wa, hwa⟩ : ∃ wa, wa = w.alloc (.cells #[.int .i64 r.kind, .int .i64 r.id, .int .i64 r.size, .string r.key, .slice A4 r.strs.length c4, .slice A5 r.objs.length c5, .slice A6 r.drv.length c6] 26) := ⟨_, rfl⟩
  have hBa : Below w.heap.size w wa := by rw [hwa]; exact (Below.refl _ _).alloc (Nat.le_refl _) _
  have hblka : wa.heap[w.heap.size]? = some (.cells #[.int .i64 r.kind, .int .i64 r.id, .int .i64 r.size, .string r.key, .slice A4 r.strs.length c4, .slice A5 r.objs.length c5, .slice A6 r.drv.length c6] 26 (0, 0)) := by rw [hwa]; exact heap_alloc_new w _
  have hlta : w.heap.size < wa.heap.size := blk_lt hblka
  obtain ⟨wo, hwo⟩ : ∃ wo, wo = wa.alloc (.cells #[.slice none 0 0, .bool false] 47) := ⟨_, rfl⟩
  have hBo : Below wa.heap.size wa wo := by rw [hwo]; exact (Below.refl _ _).alloc (Nat.le_refl _) _
  have hblk : wo.heap[w.heap.size]? = some (.cells #[.int .i64 r.kind, .int .i64 r.id, .int .i64 r.size, .string r.key, .slice A4 r.strs.length c4, .slice A5 r.objs.length c5, .slice A6 r.drv.length c6] 26 (0, 0)) := blk_below hblka hBo
  have hblkg : wo.heap[wa.heap.size]? = some (.cells #[.slice none 0 0, .bool false] 47 (0, 0)) := by rw [hwo]; exact heap_alloc_new wa _
  have HP1 : Aside0 (Wp w wo (fun k => False ∨ k = w.heap.size) wa.heap.size ([], false)) := ⟨hBa.trans (hBo.mono hBa.size), hBa.size, fun k hk => by rcases hk with h1 | h1; exact h1.elim; subst h1; exact ⟨_, _, hblk, by decide⟩, fun h => by rcases h with h | h; exact h; omega, _, hblkg, Kd.R_nil _ _ _ _ _⟩
  have HBk := Aside0.mk hblk
  have HWA := Aside0.mk hwa
  have HWO := Aside0.mk hwo
  have d0 : wo.cell? ⟨w.heap.size, 0, none⟩ = some (.int .i64 r.kind) := (blk_cell hblk 0).trans rfl
  have d1 : wo.cell? ⟨w.heap.size, 1, none⟩ = some (.int .i64 r.id) := (blk_cell hblk 1).trans rfl
  have d2 : wo.cell? ⟨w.heap.size, 2, none⟩ = some (.int .i64 r.size) := (blk_cell hblk 2).trans rfl
  have d3 : wo.cell? ⟨w.heap.size, 3, none⟩ = some (.string r.key) := (blk_cell hblk 3).trans rfl
  have d4 : wo.cell? ⟨w.heap.size, 4, none⟩ = some (.slice A4 r.strs.length c4) := (blk_cell hblk 4).trans rfl
  have d5 : wo.cell? ⟨w.heap.size, 5, none⟩ = some (.slice A5 r.objs.length c5) := (blk_cell hblk 5).trans rfl
  have d6 : wo.cell? ⟨w.heap.size, 6, none⟩ = some (.slice A6 r.drv.length c6) := (blk_cell hblk 6).trans rfl
  clear hwa hBa hblka hwo hBo hblk hblkg
  go_enter Try.func10, Try.ntmps10
  go_upto_region 1 with fail
  rw [← HWA.out]
  go_upto_region 2 with fail
  rw [← HWO.out]
  obtain ⟨g, hg⟩ : ∃ g, g = wa.heap.size := ⟨_, rfl⟩
  rw [← hg] at HP1
  simp only [← hg]
  have HGg := Aside0.mk hg
  clear hg
  have HN : Aside0 _ := ⟨numI_calls w wo _ g r.kind 1 1 rfl 5 ([], false) HP1.out (by decide) (by decide)⟩
  go_wp2_with fail
  refine HN.out.mono ?_
  rintro e w2 ⟨rfl, hp, hv⟩
  have HP2 := Aside0.mk hp
  have HV2 : Aside0 (Vs (fun k => False ∨ k = w.heap.size) wo w2) := ⟨hv⟩
  have hb2 : w2.heap[w.heap.size]? = _ := (HV2.out _ (.inr rfl)).trans HBk.out
  clear d0 d1 d2 d3 d4 d5 d6
  have d0 : w2.cell? ⟨w.heap.size, 0, none⟩ = some (.int .i64 r.kind) := (blk_cell hb2 0).trans rfl
  have d1 : w2.cell? ⟨w.heap.size, 1, none⟩ = some (.int .i64 r.id) := (blk_cell hb2 1).trans rfl
  have d2 : w2.cell? ⟨w.heap.size, 2, none⟩ = some (.int .i64 r.size) := (blk_cell hb2 2).trans rfl
  have d3 : w2.cell? ⟨w.heap.size, 3, none⟩ = some (.string r.key) := (blk_cell hb2 3).trans rfl
  have d4 : w2.cell? ⟨w.heap.size, 4, none⟩ = some (.slice A4 r.strs.length c4) := (blk_cell hb2 4).trans rfl
  have d5 : w2.cell? ⟨w.heap.size, 5, none⟩ = some (.slice A5 r.objs.length c5) := (blk_cell hb2 5).trans rfl
  have d6 : w2.cell? ⟨w.heap.size, 6, none⟩ = some (.slice A6 r.drv.length c6) := (blk_cell hb2 6).trans rfl
  rw [← HS0.out] at HP2
  clear hp hv HN hb2
  have hgw := HP2.out.lt
  obtain ⟨vg, hbg, _⟩ := HP2.out.ex
  have c1 : w2.cell? ⟨g, 1, none⟩ = some (.bool s0.2) := (blk_cell hbg 1).trans rfl
  have cfz : ∀ j, w2.frozen? ⟨g, j, none⟩ = false := fun j => blk_frozen hbg j
  clear hbg
  obtain ⟨bb, hbb⟩ : ∃ bb, bb = (s0.2 || decide (r.kind < 1)) := ⟨_, rfl⟩
  have hs1b : s1 = (s0.1, bb) := by rw [HS1.out, hbb]
  have hfl := HP2.out.flag bb
  obtain ⟨w3, hw3⟩ : ∃ w3, w3 = w2.setCell ⟨g, 1, none⟩ (.bool bb) := ⟨_, rfl⟩
  rw [← hw3, ← hs1b] at hfl
  have HP3 := Aside0.mk hfl.1
  have HV3 : Aside0 (Vs (fun k => False ∨ k = w.heap.size) wo w3) := ⟨fun k hk => (hfl.2 k hk).trans (HV2.out k hk)⟩
  have HW3 := Aside0.mk hw3
  have hb3 : w3.heap[w.heap.size]? = _ := (HV3.out _ (.inr rfl)).trans HBk.out
  have e0 : w3.cell? ⟨w.heap.size, 0, none⟩ = some (.int .i64 r.kind) := (blk_cell hb3 0).trans rfl
  have e1 : w3.cell? ⟨w.heap.size, 1, none⟩ = some (.int .i64 r.id) := (blk_cell hb3 1).trans rfl
  have e2 : w3.cell? ⟨w.heap.size, 2, none⟩ = some (.int .i64 r.size) := (blk_cell hb3 2).trans rfl
  have e3 : w3.cell? ⟨w.heap.size, 3, none⟩ = some (.string r.key) := (blk_cell hb3 3).trans rfl
  have e4 : w3.cell? ⟨w.heap.size, 4, none⟩ = some (.slice A4 r.strs.length c4) := (blk_cell hb3 4).trans rfl
  have e5 : w3.cell? ⟨w.heap.size, 5, none⟩ = some (.slice A5 r.objs.length c5) := (blk_cell hb3 5).trans rfl
  have e6 : w3.cell? ⟨w.heap.size, 6, none⟩ = some (.slice A6 r.drv.length c6) := (blk_cell hb3 6).trans rfl
  have HB3 := Aside0.mk hb3
  clear hw3 hfl hs1b hb3
  have mid : ∀ Q : World → Prop, Q w3 → Q w3 := fun _ h => h
  clear mid
  have HT : s0.2 = true ∨ (s0.2 = false ∧ r.kind < 1) ∨ (s0.2 = false ∧ ¬ r.kind < 1) := by
    cases s0.2
    · by_cases h : r.kind < 1
      · exact .inr (.inl ⟨rfl, h⟩)
      · exact .inr (.inr ⟨rfl, h⟩)
    · exact .inl rfl
  rcases HT with ht | ⟨ht, hk⟩ | ⟨ht, hk⟩
  all_goals
    rw [ht] at c1
    (try have hk1 : decide (r.kind < 1) = true := decide_eq_true hk)
    (try have hk1 : decide (r.kind < 1) = false := decide_eq_false hk)
    have hbx : bb = (s0.2 || decide (r.kind < 1)) := hbb
    rw [ht] at hbx
    (try rw [hk1] at hbx)
    simp only [Bool.true_or, Bool.false_or, Bool.or_true] at hbx
    subst hbx
    clear ht hbb
    (try clear hk)
    go_upto_region 4 with fail
    rw [← HW3.out]
    clear c1 cfz d0 d1 d2 d3 d4 d5 d6 hgw
    have HN : Aside0 _ := ⟨numI_calls w w3 _ g r.id 4 4 rfl 1073741824 s1 HP3.out (by decide) HL1.out⟩
    go_wp2_with fail
    refine HN.out.mono ?_
    rintro e w4 ⟨rfl, hp, hv⟩
    have HP4 := Aside0.mk hp
    have HV4 : Aside0 (Vs (fun k => False ∨ k = w.heap.size) wo w4) := ⟨fun k hk => (hv k hk).trans (HV3.out k hk)⟩
    have hb4 : w4.heap[w.heap.size]? = _ := (HV4.out _ (.inr rfl)).trans HBk.out
    clear e0 e1 e2 e3 e4 e5 e6
    have e0 : w4.cell? ⟨w.heap.size, 0, none⟩ = some (.int .i64 r.kind) := (blk_cell hb4 0).trans rfl
    have e1 : w4.cell? ⟨w.heap.size, 1, none⟩ = some (.int .i64 r.id) := (blk_cell hb4 1).trans rfl
    have e2 : w4.cell? ⟨w.heap.size, 2, none⟩ = some (.int .i64 r.size) := (blk_cell hb4 2).trans rfl
    have e3 : w4.cell? ⟨w.heap.size, 3, none⟩ = some (.string r.key) := (blk_cell hb4 3).trans rfl
    have e4 : w4.cell? ⟨w.heap.size, 4, none⟩ = some (.slice A4 r.strs.length c4) := (blk_cell hb4 4).trans rfl
    have e5 : w4.cell? ⟨w.heap.size, 5, none⟩ = some (.slice A5 r.objs.length c5) := (blk_cell hb4 5).trans rfl
    have e6 : w4.cell? ⟨w.heap.size, 6, none⟩ = some (.slice A6 r.drv.length c6) := (blk_cell hb4 6).trans rfl
    rw [← HS2.out] at HP4
    clear hp hv HN hb4
    have HN : Aside0 _ := ⟨numI_calls w w4 _ g r.size 4 4 rfl 1073741824 s2 HP4.out (by decide) HL2.out⟩
    go_wp2_with fail
    refine HN.out.mono ?_
    rintro e w5 ⟨rfl, hp, hv⟩
    have HP5 := Aside0.mk hp
    have HV5 : Aside0 (Vs (fun k => False ∨ k = w.heap.size) wo w5) := ⟨fun k hk => (hv k hk).trans (HV4.out k hk)⟩
    have hb5 : w5.heap[w.heap.size]? = _ := (HV5.out _ (.inr rfl)).trans HBk.out
    clear e0 e1 e2 e3 e4 e5 e6
    have e0 : w5.cell? ⟨w.heap.size, 0, none⟩ = some (.int .i64 r.kind) := (blk_cell hb5 0).trans rfl
    have e1 : w5.cell? ⟨w.heap.size, 1, none⟩ = some (.int .i64 r.id) := (blk_cell hb5 1).trans rfl
    have e2 : w5.cell? ⟨w.heap.size, 2, none⟩ = some (.int .i64 r.size) := (blk_cell hb5 2).trans rfl
    have e3 : w5.cell? ⟨w.heap.size, 3, none⟩ = some (.string r.key) := (blk_cell hb5 3).trans rfl
    have e4 : w5.cell? ⟨w.heap.size, 4, none⟩ = some (.slice A4 r.strs.length c4) := (blk_cell hb5 4).trans rfl
    have e5 : w5.cell? ⟨w.heap.size, 5, none⟩ = some (.slice A5 r.objs.length c5) := (blk_cell hb5 5).trans rfl
    have e6 : w5.cell? ⟨w.heap.size, 6, none⟩ = some (.slice A6 r.drv.length c6) := (blk_cell hb5 6).trans rfl
    rw [← HS3.out] at HP5
    clear hp hv HN hb5
    have HN : Aside0 _ := ⟨key_calls w w5 _ g r.key s3 HP5.out (by rw [← HS4.out]; exact HL4.out)⟩
    go_wp2_with fail
    refine HN.out.mono ?_
    rintro e w6 ⟨rfl, hp, hv⟩
    have HP6 := Aside0.mk hp
    have HV6 : Aside0 (Vs (fun k => False ∨ k = w.heap.size) wo w6) := ⟨fun k hk => (hv k hk).trans (HV5.out k hk)⟩
    have hb6 : w6.heap[w.heap.size]? = _ := (HV6.out _ (.inr rfl)).trans HBk.out
    clear e0 e1 e2 e3 e4 e5 e6
    have e0 : w6.cell? ⟨w.heap.size, 0, none⟩ = some (.int .i64 r.kind) := (blk_cell hb6 0).trans rfl
    have e1 : w6.cell? ⟨w.heap.size, 1, none⟩ = some (.int .i64 r.id) := (blk_cell hb6 1).trans rfl
    have e2 : w6.cell? ⟨w.heap.size, 2, none⟩ = some (.int .i64 r.size) := (blk_cell hb6 2).trans rfl
    have e3 : w6.cell? ⟨w.heap.size, 3, none⟩ = some (.string r.key) := (blk_cell hb6 3).trans rfl
    have e4 : w6.cell? ⟨w.heap.size, 4, none⟩ = some (.slice A4 r.strs.length c4) := (blk_cell hb6 4).trans rfl
    have e5 : w6.cell? ⟨w.heap.size, 5, none⟩ = some (.slice A5 r.objs.length c5) := (blk_cell hb6 5).trans rfl
    have e6 : w6.cell? ⟨w.heap.size, 6, none⟩ = some (.slice A6 r.drv.length c6) := (blk_cell hb6 6).trans rfl
    rw [← HS4.out] at HP6
    clear hp hv HN hb6
    have HN : Aside0 _ := ⟨stripes_calls w w6 _ g A4 c4 r.strs s4 HP6.out HC4.out (by rw [← HS5.out]; exact HL5.out)⟩
    go_wp2_with fail
    refine HN.out.mono ?_
    rintro e w7 ⟨rfl, hp, hv⟩
    have HP7 := Aside0.mk hp
    have HV7 : Aside0 (Vs (fun k => False ∨ k = w.heap.size) wo w7) := ⟨fun k hk => (hv k hk).trans (HV6.out k hk)⟩
    have hb7 : w7.heap[w.heap.size]? = _ := (HV7.out _ (.inr rfl)).trans HBk.out
    clear e0 e1 e2 e3 e4 e5 e6
    have e0 : w7.cell? ⟨w.heap.size, 0, none⟩ = some (.int .i64 r.kind) := (blk_cell hb7 0).trans rfl
    have e1 : w7.cell? ⟨w.heap.size, 1, none⟩ = some (.int .i64 r.id) := (blk_cell hb7 1).trans rfl
    have e2 : w7.cell? ⟨w.heap.size, 2, none⟩ = some (.int .i64 r.size) := (blk_cell hb7 2).trans rfl
    have e3 : w7.cell? ⟨w.heap.size, 3, none⟩ = some (.string r.key) := (blk_cell hb7 3).trans rfl
    have e4 : w7.cell? ⟨w.heap.size, 4, none⟩ = some (.slice A4 r.strs.length c4) := (blk_cell hb7 4).trans rfl
    have e5 : w7.cell? ⟨w.heap.size, 5, none⟩ = some (.slice A5 r.objs.length c5) := (blk_cell hb7 5).trans rfl
    have e6 : w7.cell? ⟨w.heap.size, 6, none⟩ = some (.slice A6 r.drv.length c6) := (blk_cell hb7 6).trans rfl
    rw [← HS5.out] at HP7
    clear hp hv HN hb7
    have HN : Aside0 _ := ⟨numI_calls w w7 _ g r.objs.length 2 2 rfl 65535 s5 HP7.out (by decide) HL5.out⟩
    go_wp2_with fail
    refine HN.out.mono ?_
    rintro e w8 ⟨rfl, hp, hv⟩
    have HP8 := Aside0.mk hp
    have HV8 : Aside0 (Vs (fun k => False ∨ k = w.heap.size) wo w8) := ⟨fun k hk => (hv k hk).trans (HV7.out k hk)⟩
    have hb8 : w8.heap[w.heap.size]? = _ := (HV8.out _ (.inr rfl)).trans HBk.out
    clear e0 e1 e2 e3 e4 e5 e6
    have e0 : w8.cell? ⟨w.heap.size, 0, none⟩ = some (.int .i64 r.kind) := (blk_cell hb8 0).trans rfl
    have e1 : w8.cell? ⟨w.heap.size, 1, none⟩ = some (.int .i64 r.id) := (blk_cell hb8 1).trans rfl
    have e2 : w8.cell? ⟨w.heap.size, 2, none⟩ = some (.int .i64 r.size) := (blk_cell hb8 2).trans rfl
    have e3 : w8.cell? ⟨w.heap.size, 3, none⟩ = some (.string r.key) := (blk_cell hb8 3).trans rfl
    have e4 : w8.cell? ⟨w.heap.size, 4, none⟩ = some (.slice A4 r.strs.length c4) := (blk_cell hb8 4).trans rfl
    have e5 : w8.cell? ⟨w.heap.size, 5, none⟩ = some (.slice A5 r.objs.length c5) := (blk_cell hb8 5).trans rfl
    have e6 : w8.cell? ⟨w.heap.size, 6, none⟩ = some (.slice A6 r.drv.length c6) := (blk_cell hb8 6).trans rfl
    rw [← HS6.out] at HP8
    clear hp hv HN hb8
    go_wp2
    go_loopw [6, 49, 50, 51, 52, 53, 54, 55, 56] (fun x6 x49 x50 x51 x52 x53 x54 x55 x56 wr => ∃ k : Nat, k ≤ r.objs.length ∧ x49 = .int .i64 k ∧ Aside0 (Wp w wr (fun k => False ∨ k = w.heap.size) g ((r.objs.take k).foldl (fun s o => wObject o s) s6)) ∧ Aside0 (Vs (fun k => False ∨ k = w.heap.size) wo wr)) (fun _ x49 _ _ _ _ _ _ _ _ => r.objs.length - (intOf x49).toNat)
    case atStart => exact ⟨0, Nat.zero_le _, rfl, ⟨by simpa using HP8.out⟩, HV8⟩
    case round =>
      obtain ⟨k, hk, rfl, HPr, HVr⟩ := hrel
      clear e0 e1 e2 e3 e4 e5 e6
      by_cases hlt : k < r.objs.length
      · obtain ⟨ad, B, cb, hA5, hr0, hr1, hr2, hr3, hcb, hCB⟩ := object_at HC5.out k hlt
        have hq0 := pw_cell_below HPr.out.hb hr0
        have hq1 := pw_cell_below HPr.out.hb hr1
        have hq2 := pw_cell_below HPr.out.hb hr2
        have hq3 := pw_cell_below HPr.out.hb hr3
        have HCB := Aside0.mk hCB
        have HA5 := Aside0.mk hA5
        have HF := Aside0.mk (foldl_take (fun s o => wObject o s) r.objs s6 k z44 hlt)
        have HGk := Aside0.mk (HGF.out (k + 1))
        rw [HF.out] at HGk
        obtain ⟨x, hx⟩ : ∃ x, x = r.objs.getD k z44 := ⟨_, rfl⟩
        rw [← hx] at hq0 hq1 hq2 hq3 HCB HF HGk
        obtain ⟨t, ht⟩ : ∃ t, t = (r.objs.take k).foldl (fun s o => wObject o s) s6 := ⟨_, rfl⟩
        rw [← ht] at HPr HF HGk
        have hlen : (wObject x t).1.length < 140737488350000 := by have := HGk.out.len; have := HL7.out; omega
        have HLN := Aside0.mk hlen
        obtain ⟨wv, hwv⟩ : ∃ wv, wv = wr.alloc (.cells #[.string x.f0, .int .i64 x.f1, .int .i64 x.f2, .slice B x.f3.length cb] 44) := ⟨_, rfl⟩
        have hBv : Below wr.heap.size wr wv := by rw [hwv]; exact (Below.refl _ _).alloc (Nat.le_refl _) _
        have hblv : wv.heap[wr.heap.size]? = some (.cells #[.string x.f0, .int .i64 x.f1, .int .i64 x.f2, .slice B x.f3.length cb] 44 (0, 0)) := by rw [hwv]; exact heap_alloc_new wr _
        have HBv := Aside0.mk hBv
        have HWV := Aside0.mk hwv
        have HPv : Aside0 (Wp w wv (fun k => (False ∨ k = w.heap.size) ∨ k = wr.heap.size) g t) := ⟨HPr.out.guard_ hBv (fun k hk => by rcases hk with h1 | h1; exact .inl h1; subst h1; exact .inr ⟨Nat.le_refl _, _, _, hblv, by decide⟩)⟩
        have d0 : wv.cell? ⟨wr.heap.size, 0, none⟩ = some (.string x.f0) := (blk_cell hblv 0).trans rfl
        have d1 : wv.cell? ⟨wr.heap.size, 1, none⟩ = some (.int .i64 x.f1) := (blk_cell hblv 1).trans rfl
        have d2 : wv.cell? ⟨wr.heap.size, 2, none⟩ = some (.int .i64 x.f2) := (blk_cell hblv 2).trans rfl
        have d3 : wv.cell? ⟨wr.heap.size, 3, none⟩ = some (.slice B x.f3.length cb) := (blk_cell hblv 3).trans rfl
        have HN : Aside0 _ := ⟨object_calls w wv (fun k => (False ∨ k = w.heap.size) ∨ k = wr.heap.size) g B cb x t HPv.out HCB.out hlen⟩
        clear hx ht hlen hwv hBv hblv hCB hr0 hr1 hr2 hr3 hcb
        simp only [hA5]
        clear hA5
        go_upto_region 12 with fail
        rw [← HWV.out]
        go_wp2_with fail
        refine HN.out.mono ?_
        rintro e w9 ⟨rfl, hp, hv⟩
        have HP9 := Aside0.mk hp
        have HV9 := Aside0.mk hv
        clear hp hv HN
        go_wp2
        go_roundw
        case rel => exact ⟨k + 1, by omega, by go_num, ⟨by rw [HF.out]; exact HP9.out.less (fun k hk => .inl hk)⟩, ⟨fun k hk => (HV9.out k (.inl hk)).trans ((HBv.out.block k (HPr.out.vb k hk)).trans (HVr.out k hk))⟩⟩
        case measure => simp [intOf]; omega
      · obtain rfl : k = r.objs.length := by omega
        have hd : decide (r.objs.length < r.objs.length) = false := decide_eq_false (Nat.lt_irrefl _)
        have HPq : Aside0 (Wp w wr (fun k => False ∨ k = w.heap.size) g s7) := ⟨by have := HPr.out; rw [List.take_of_length_le (Nat.le_refl _), ← HS7.out] at this; exact this⟩
        have hb9 : wr.heap[w.heap.size]? = _ := (HVr.out _ (.inr rfl)).trans HBk.out
        have e6 : wr.cell? ⟨w.heap.size, 6, none⟩ = some (.slice A6 r.drv.length c6) := (blk_cell hb9 6).trans rfl
        have HN : Aside0 _ := ⟨ints_calls w wr _ g A6 c6 r.drv s7 HPq.out HC6.out (by rw [← HS8.out]; exact HL.out)⟩
        clear hk hlt hb9 HPr
        go_wp2_with fail
        refine HN.out.mono ?_
        rintro e w9 ⟨rfl, hp, hv⟩
        rw [← HS8.out] at hp
        obtain ⟨v8, hb8, hR8⟩ := hp.ex
        obtain ⟨A8, c8, e8⟩ := Kd.R_slice hR8
        subst e8
        have c0 : w9.cell? ⟨g, 0, none⟩ = some (.slice A8 s8.1.length c8) := (blk_cell hb8 0).trans rfl
        have c1 : w9.cell? ⟨g, 1, none⟩ = some (.bool s8.2) := (blk_cell hb8 1).trans rfl
        have HR8 := Aside0.mk (Kd.R_mono hR8 (fun _ _ => trivial))
        have HB8 := Aside0.mk hp.hb
        have HEE := HE
        clear hp hv hb8 hR8 HN e6
        clear HEE
        cases hbad : s8.2
        · rw [hbad] at c1
          by_cases hbig : 8192 < s8.1.length
          · have h1 : decide ((8192 : Int) < (s8.1.length : Int)) = true := decide_eq_true (by omega)
            have h2 : decide (8192 < s8.1.length) = true := decide_eq_true hbig
            have HEc : Aside0 (encO r = ([], 4)) := ⟨by rw [HE.out, hbad, if_neg Bool.false_ne_true, if_pos hbig]⟩
            clear hbad hbig
            go_wp2
            go_ret2
            rw [HEc.out]
            exact ⟨_, rfl, Kd.R_nil _ _ _ _ _, HB8.out⟩
          · have h1 : decide ((8192 : Int) < (s8.1.length : Int)) = false := decide_eq_false (by omega)
            have h2 : decide (8192 < s8.1.length) = false := decide_eq_false hbig
            have HEc : Aside0 (encO r = (s8.1, 0)) := ⟨by rw [HE.out, hbad, if_neg Bool.false_ne_true, if_neg hbig]⟩
            clear hbad hbig
            go_wp2
            go_ret2
            rw [HEc.out]
            exact ⟨_, rfl, HR8.out, HB8.out⟩
        · rw [hbad] at c1
          have HEc : Aside0 (encO r = ([], 2)) := ⟨by rw [HE.out, hbad, if_pos rfl]⟩
          clear hbad
          go_wp2
          go_ret2
          rw [HEc.out]
          exact ⟨_, rfl, Kd.R_nil _ _ _ _ _, HB8.out⟩
end Go.Proofs.Ythoebncbhmefmaa.Rc
