/- Tapes: the contracts of bytes.Clone and of a side's apply. -/
import Derived.Test.YtfjjfoijjlpcjaaProg
import Derived.Below
import Derived.Deep.Draws
import Derived.Deep.AppendLies
import Derived.Maps.AppendAt
import Derived.OwnWalk
import Derived.Laws.BytesArg
import Derived.Laws.MakeOwn
import Derived.Laws.OwnMore
import Derived.Deep.OwnRows
import Derived.Tactics
import Derived.Lib.ConvBytes
import Derived.Laws.Slices
import Derived.WalkKit
import Derived.KernelRfl
import Derived.RowKit3
import Derived.Deep.LoopGhost
import Derived.Deep.QuietTactic
import Derived.BigQuiet
import Derived.WideLaws
import Derived.Deep.DeepCutAuto
import Derived.Deep.CutBlock
import Derived.Deep.RegionHeld3
import Derived.Laws.Rows
import Derived.Lib.AppendStr
import Derived.ArgAppend
import Derived.Laws.IdiomCopy
import Derived.OrdersHeld
import Derived.Laws.BitsLemmas
import Derived.RowKit
import Derived.Test.YtfjjfoijjlpcjaaWWords
import Derived.Test.YtfjjfoijjlpcjaaWLast
import Derived.Test.YtfjjfoijjlpcjaaWTab
import Derived.Test.YtfjjfoijjlpcjaaWFour
import Derived.Test.YtfjjfoijjlpcjaaWQPut
import Derived.Test.YtfjjfoijjlpcjaaWApart
import Derived.Test.YtfjjfoijjlpcjaaWArr
import Derived.Test.YtfjjfoijjlpcjaaWZeros
import Derived.Test.YtfjjfoijjlpcjaaWFoot
import Derived.Test.YtfjjfoijjlpcjaaWKept
import Derived.Test.YtfjjfoijjlpcjaaWShare
import Derived.Test.YtfjjfoijjlpcjaaWN
import Derived.Test.YtfjjfoijjlpcjaaWFootNe
import Derived.Test.YtfjjfoijjlpcjaaWAt
import Derived.Test.YtfjjfoijjlpcjaaWEqStruct
import Derived.Test.YtfjjfoijjlpcjaaWRepsOne
import Derived.Test.YtfjjfoijjlpcjaaWInv
import Derived.Test.YtfjjfoijjlpcjaaWInvWords
import Derived.Test.YtfjjfoijjlpcjaaWGuard
import Derived.Test.YtfjjfoijjlpcjaaWNEv
import Derived.Test.YtfjjfoijjlpcjaaWMore
import Derived.Lib.SliceRun
import Derived.Outline
namespace Go.Proofs.Ytfjjfoijjlpcjaa.Tp
open Go.RowKit Go.Proofs.YtfjjfoijjlpcjaaW.PrintWords Go.Proofs.YtfjjfoijjlpcjaaW.PrintLast Go.Proofs.YtfjjfoijjlpcjaaW.PrintMore
attribute [local go_sem] max2_int min2_int max_two min_two max_three min_three max_four min_four
set_option linter.unusedVariables false
set_option linter.unusedSimpArgs false
abbrev U8 : Kd Int := Kd.int .u8
theorem info5 : (Try.prog.info? 5).map (fun i => (i.zero, i.size, i.bytes)) = some (some (.int .u8 0), 1, 1) := by kernel_rfl
set_option maxHeartbeats 8000000 in
set_option maxRecDepth 100000 in
theorem clone_calls (A0 : Option Addr) (n c0 : Nat) (l0 : List Int) (w : World) (hr0 : U8.C w A0 n l0) (hlt : n < 17592186044416) :
    Calls Try.prog 22 #[.slice A0 n c0] w fun e w' => ∃ v0_ : Value, e = .returned (v0_) ∧ U8.R 5 w' w.heap.size (fun _ => True) v0_ l0 ∧ Below w.heap.size w w' := by
  obtain rfl : l0.length = n := hr0.1
  cases A0 with
  | none =>
    have h0 : l0 = [] := by
      rcases Nat.eq_zero_or_pos l0.length with h0 | h0
      · exact List.length_eq_zero_iff.1 h0
      · obtain ⟨ad, e, _⟩ := hr0.2.2 h0
        cases e
    subst h0
    clear hr0 hlt
    have heql := fun (w : World) => Lib.run_eql_slice_nil (P := Try.prog) w 22 5 none 0 c0 0 0 Try.underlying22
    go_enter Try.func22, Try.ntmps22
    go_wp2
    go_ret
    exact ⟨_, rfl, Kd.R_nil _ _ _ _ _, Below.refl _ _⟩
  | some ad =>
    have LM := Aside0.mk hlt
    have HR0 := Aside0.mk hr0
    clear hr0 hlt
    have heql := fun (w : World) => Lib.run_eql_slice_nil (P := Try.prog) w 22 5 (some ad) l0.length c0 0 0 Try.underlying22
    have HM : Aside0 (U8.R 5 (w.alloc (.cells #[] 5)) w.heap.size (fun _ => True) (.slice (some ⟨w.heap.size, 0, none⟩) 0 0) []) :=
      ⟨⟨fun _ _ => trivial, [], World.ownsRow_made w #[] 0 (Nat.le_refl _) (Nat.zero_le _) rfl, Reps.none _ _⟩⟩
    have HB := Aside0.mk ((Below.refl w.heap.size w).alloc (Nat.le_refl _) (.cells #[] 5))
    go_enter Try.func22, Try.ntmps22
    go_wp2_with (at_builtin; refine Kd.R_append_rows U8 (w0 := w) (Rr := U8.K w) w.heap.size rfl (.tmp 5) (.tmp 6) 22 5 (.int .u8 0) 1 rfl Try.underlying22 info5 rfl (by decide) (by decide) (.slice (some ⟨w.heap.size, 0, none⟩) 0 0) [] l0 (some ad) l0.length c0 (fun _ => True) (fun _ => False) rfl rfl ?aO ?aR ?aM (fun _ hk => hk.elim) (fun _ _ => trivial) ?aB ?aS ?aL ?_; (case aO => exact HM.out); (case aR => exact ReadsRow.imp_ HR0.out ((Below.refl w.heap.size w).alloc (Nat.le_refl _) _) (fun _ _ h => h)); (case aM => exact fun _ _ h => h); (case aB => exact HB.out); (case aS => simp); (case aL => have := LM.out; simp only [List.length_nil]; omega); intro v1 w1 ho hb hg hat; have HO := Aside0.mk ho; have HB2 := Aside0.mk hb; clear ho hb hg hat HM HB)
    go_ret
    exact ⟨_, rfl, HO.out, HB2.out⟩
/-- Bytes that are only read, told by their value; they lie in ok. -/
abbrev Vb (W : World) (ok : Nat → Prop) (v : Value) (xs : List Int) : Prop := Kd.V U8 5 W 0 ok v xs
theorem vb_new {W : World} {B : Nat} {v : Value} {xs : List Int} {ok : Nat → Prop} (h : U8.R 5 W B (fun _ => True) v xs) (hok : ∀ k, B ≤ k → ok k) : Vb W ok v xs :=
  Kd.R_V (Kd.R_mono (Kd.R_bound h) (fun k hk => hok k hk.2.1))
/-- All but block g is as it was. -/
structure Kp (w w' : World) (g : Nat) : Prop where
  os : w'.os = w.os
  tape : w'.tape = w.tape
  output : w'.output = w.output
  size : w.heap.size ≤ w'.heap.size
  block : ∀ k, k < w.heap.size → k ≠ g → w'.heap[k]? = w.heap[k]?
theorem Kp.refl (w : World) (g : Nat) : Kp w w g := ⟨rfl, rfl, rfl, Nat.le_refl _, fun _ _ _ => rfl⟩
theorem Kp.trans {a b c : World} {g : Nat} (h : Kp a b g) (k : Kp b c g) : Kp a c g :=
  ⟨k.os.trans h.os, k.tape.trans h.tape, k.output.trans h.output, Nat.le_trans h.size k.size, fun i hi hn => (k.block i (Nat.lt_of_lt_of_le hi h.size) hn).trans (h.block i hi hn)⟩
theorem Kp.below {a b c : World} {g : Nat} (h : Kp a b g) (k : Below b.heap.size b c) : Kp a c g :=
  h.trans ⟨k.os, k.tape, k.output, k.size, fun i hi _ => k.block i hi⟩
theorem Kp.of_below {b c : World} (k : Below b.heap.size b c) (g : Nat) : Kp b c g := (Kp.refl b g).below k
theorem Kp.set {a b : World} {g : Nat} (h : Kp a b g) (j : Nat) (u : Value) : Kp a (b.setCell ⟨g, j, none⟩ u) g :=
  h.trans ⟨rfl, rfl, rfl, by simp [World.setCell], fun k _ hn => Below.heap_setCell b _ u k hn⟩
theorem Kp.keep {a b : World} {g : Nat} (h : Kp a b g) : KeepBut a b g none := ⟨h.size, fun i hi hn _ => h.block i hi hn⟩
/-- A state of the call's own: what was there ahead of the call is as it was. -/
theorem Kp.under {w a b : World} {g : Nat} (h : Kp a b g) (hB : Below w.heap.size w a) (hg : w.heap.size ≤ g) : Below w.heap.size w b :=
  ⟨h.os.trans hB.os, h.tape.trans hB.tape, h.output.trans hB.output, Nat.le_trans hB.size h.size, fun k hk => (h.block k (Nat.lt_of_lt_of_le hk hB.size) (by omega)).trans (hB.block k hk)⟩
theorem Kp.drewN {a b : World} {g : Nat} (h : Kp a b g) (n : Nat) : Kp a (b.drewN n) g := ⟨h.os, h.tape, h.output, h.size, h.block⟩
theorem vb_kp {w w' : World} {g : Nat} {ok : Nat → Prop} {v : Value} {l : List Int} (h : Vb w ok v l) (k : Kp w w' g) (hok : ∀ k, ok k → k ≠ g) : Vb w' ok v l := Kd.V_keep h k.keep hok
theorem f_kp {w w' : World} {g n : Nat} {ok : Nat → Prop} {A : Option Addr} {l : List Int} (h : Kd.F U8 w ok A n l) (k : Kp w w' g) (hok : ∀ k, ok k → k ≠ g) : Kd.F U8 w' ok A n l := Kd.F_keep h k.keep hok
set_option maxHeartbeats 8000000 in
set_option maxRecDepth 100000 in
theorem apply_calls (g off : Nat) (cs : Array Value) (t : TypeId) (v : Value) (l0 lb : List Int) (A : Option Addr) (n c : Nat) (swap : Bool) (ok okb : Nat → Prop) (w : World)
    (hb : w.heap[g]? = some (.cells cs t (0, 0))) (hv : cs[off]? = some v) (hV : Vb w ok v l0) (hF : Kd.F U8 w okb A n lb)
    (hg : ∀ k, ok k → k ≠ g) (hgb : ∀ k, okb k → k ≠ g) (hnew : ∀ k, w.heap.size ≤ k → ok k) (hL : l0.length + n < 1099511627776) :
    Calls Try.prog 21 #[.pointer (some ⟨g, off, none⟩), .slice A n c, .bool swap] w fun e w' => e = .returned (.tuple #[]) ∧ ∃ v', w'.heap[g]? = some (.cells (cs.setIfInBounds off v') t (0, 0)) ∧ Vb w' ok v' (if swap then lb else l0 ++ lb) ∧ Kp w w' g := by
  have HB := Aside0.mk hb
  have HF := Aside0.mk hF
  have HG := Aside0.mk hg
  have HGB := Aside0.mk hgb
  clear hgb
  have HN := Aside0.mk hnew
  have HL := Aside0.mk hL
  have hlt : g < w.heap.size := blk_lt hb
  have hoff : off < cs.size := (Array.getElem?_eq_some_iff.1 hv).1
  have hc : w.cell? ⟨g, off, none⟩ = some v := (blk_cell hb off).trans hv
  have hf : w.frozen? ⟨g, off, none⟩ = false := blk_frozen hb off
  have HVv := Aside0.mk hv
  have hlen : n = lb.length := (Kd.F_len hF).symm
  have hl0 : l0.length ≤ l0.length + n := by omega
  subst hlen
  cases swap with
  | true =>
    skip
    have HW0 : Aside0 ((w.setCell ⟨g, off, none⟩ (.slice none 0 0)).heap[g]? = some (.cells (cs.setIfInBounds off (.slice none 0 0)) t (0, 0))) := ⟨blk_set HB.out off _⟩
    have HCV : Aside0 (((cs.setIfInBounds off (.slice none 0 0)))[off]? = some (.slice none 0 0)) := ⟨by first | exact HVv.out | simp [hoff]⟩
    have HF0 : Aside0 (Kd.F U8 (w.setCell ⟨g, off, none⟩ (.slice none 0 0)) okb A lb.length lb) := ⟨Kd.F_far HF.out HGB.out _⟩
    have HK0 : Aside0 (Kp w (w.setCell ⟨g, off, none⟩ (.slice none 0 0)) g) := ⟨by first | exact Kp.refl w g | exact (Kp.refl w g).set off _⟩
    clear hb hv hF hg hnew hL hlt hoff
    go_enter Try.func21, Try.ntmps21
    go_wp2_with fail
    refine (clone_calls _ _ _ [] _ (Kd.C_nil U8 _) (by decide)).mono ?_
    rintro e w1 ⟨v1, rfl, ho, hb1⟩
    have HO := Aside0.mk ho
    have HB1 := Aside0.mk hb1
    have hz1 := hb1.size
    have HF1 : Aside0 (Kd.F U8 w1 okb A lb.length lb) := ⟨Kd.F_below HF0.out hb1⟩
    have HW1 : Aside0 (w1.heap[g]? = some (.cells (cs.setIfInBounds off (.slice none 0 0)) t (0, 0))) := ⟨blk_below HW0.out hb1⟩
    have HK1 : Aside0 (Kp w w1 g) := ⟨HK0.out.below hb1⟩
    have HN1 : Aside0 (∀ k, ((w.setCell ⟨g, off, none⟩ (.slice none 0 0))).heap.size ≤ k → ok k) := ⟨fun k hk => HN.out k (Nat.le_trans HK0.out.size hk)⟩
    obtain ⟨B, hB⟩ : ∃ B, B = ((w.setCell ⟨g, off, none⟩ (.slice none 0 0))).heap.size := ⟨_, rfl⟩
    have HwB : Aside0 (w.heap.size ≤ B) := ⟨by rw [hB]; exact HK0.out.size⟩
    rw [← hB] at HO HN1 hz1
    have hgB : g < B := by rw [hB]; exact blk_lt HW0.out
    clear ho hb1 HB1 HF0 HW0 HF HK0
    go_wp2_with (at_builtin; refine Kd.R_append_rows U8 (w0 := w1) (W := w1) (Rr := U8.K w1) B rfl (.tmp 15) (.tmp 16) 22 5 (.int .u8 0) 1 rfl Try.underlying22 info5 rfl (by decide) (by decide) v1 [] lb A lb.length c (fun _ => True) (fun _ => False) rfl rfl HO.out (Kd.F_now HF1.out) (fun _ _ h => h) (fun _ hk => hk.elim) (fun _ _ => trivial) (Below.refl B w1) hz1 ?aL ?_; (case aL => have := HL.out; (try simp only [List.length_nil]); omega); intro v2 w2 ho2 hb2 hg2 hat2; obtain ⟨A2, c2, e2⟩ := Kd.R_slice ho2; subst e2; have HO2 := Aside0.mk ho2; have HG2 := Aside0.mk hg2; have HBo := Aside0.mk (Kd.R_base HO.out); have hblk2 : w2.heap[g]? = some (.cells ((cs.setIfInBounds off (.slice none 0 0))) t (0, 0)) := (hb2.block g hgB).trans HW1.out; have hc2 : w2.cell? ⟨g, off, none⟩ = some (.slice none 0 0) := (blk_cell hblk2 off).trans HCV.out; have hf2 : w2.frozen? ⟨g, off, none⟩ = false := blk_frozen hblk2 off; have HK2 := Aside0.mk hblk2; have HB2 := Aside0.mk hb2; clear ho2 hb2 hg2 hat2 hblk2)
    skip
    go_end0
    refine ⟨rfl, .slice A2 lb.length c2, ?_, ?_, ?_⟩
    · have h := blk_set HK2.out off (.slice A2 lb.length c2)
      simpa using h
    · exact Kd.V_far (vb_new (by simpa using HO2.out) HN1.out) HG.out _
    · exact (Kp.mk (HB2.out.os.trans HK1.out.os) (HB2.out.tape.trans HK1.out.tape) (HB2.out.output.trans HK1.out.output) (Nat.le_trans HK1.out.size HB2.out.size) (fun k hk hn => (HB2.out.block k (Nat.lt_of_lt_of_le hk HwB.out)).trans (HK1.out.block k hk hn))).set off _
  | false =>
    obtain ⟨A0, c0, hv0, hc0, hF0⟩ := hV; subst hv0; have HFv := Aside0.mk hF0; clear hF0
    have HW0 : Aside0 (w.heap[g]? = some (.cells cs t (0, 0))) := ⟨HB.out⟩
    have HCV : Aside0 ((cs)[off]? = some (.slice A0 l0.length c0)) := ⟨by first | exact HVv.out | simp [hoff]⟩
    have HF0 : Aside0 (Kd.F U8 w okb A lb.length lb) := ⟨HF.out⟩
    have HK0 : Aside0 (Kp w w g) := ⟨by first | exact Kp.refl w g | exact (Kp.refl w g).set off _⟩
    clear hb hv hF hg hnew hL hlt hoff
    go_enter Try.func21, Try.ntmps21
    go_wp2_with fail
    refine (clone_calls _ _ _ l0 _ (Kd.F_now HFv.out) (by have := HL.out; omega)).mono ?_
    rintro e w1 ⟨v1, rfl, ho, hb1⟩
    have HO := Aside0.mk ho
    have HB1 := Aside0.mk hb1
    have hz1 := hb1.size
    have HF1 : Aside0 (Kd.F U8 w1 okb A lb.length lb) := ⟨Kd.F_below HF0.out hb1⟩
    have HW1 : Aside0 (w1.heap[g]? = some (.cells cs t (0, 0))) := ⟨blk_below HW0.out hb1⟩
    have HK1 : Aside0 (Kp w w1 g) := ⟨HK0.out.below hb1⟩
    have HN1 : Aside0 (∀ k, (w).heap.size ≤ k → ok k) := ⟨fun k hk => HN.out k (Nat.le_trans HK0.out.size hk)⟩
    obtain ⟨B, hB⟩ : ∃ B, B = (w).heap.size := ⟨_, rfl⟩
    have HwB : Aside0 (w.heap.size ≤ B) := ⟨by rw [hB]; exact HK0.out.size⟩
    rw [← hB] at HO HN1 hz1
    have hgB : g < B := by rw [hB]; exact blk_lt HW0.out
    clear ho hb1 HB1 HF0 HW0 HF HK0
    go_wp2_with (at_builtin; refine Kd.R_append_rows U8 (w0 := w1) (W := w1) (Rr := U8.K w1) B rfl (.tmp 15) (.tmp 16) 22 5 (.int .u8 0) 1 rfl Try.underlying22 info5 rfl (by decide) (by decide) v1 l0 lb A lb.length c (fun _ => True) (fun _ => False) rfl rfl HO.out (Kd.F_now HF1.out) (fun _ _ h => h) (fun _ hk => hk.elim) (fun _ _ => trivial) (Below.refl B w1) hz1 ?aL ?_; (case aL => have := HL.out; (try simp only [List.length_nil]); omega); intro v2 w2 ho2 hb2 hg2 hat2; obtain ⟨A2, c2, e2⟩ := Kd.R_slice ho2; subst e2; have HO2 := Aside0.mk ho2; have HG2 := Aside0.mk hg2; have HBo := Aside0.mk (Kd.R_base HO.out); have hblk2 : w2.heap[g]? = some (.cells (cs) t (0, 0)) := (hb2.block g hgB).trans HW1.out; have hc2 : w2.cell? ⟨g, off, none⟩ = some (.slice A0 l0.length c0) := (blk_cell hblk2 off).trans HCV.out; have hf2 : w2.frozen? ⟨g, off, none⟩ = false := blk_frozen hblk2 off; have HK2 := Aside0.mk hblk2; have HB2 := Aside0.mk hb2; clear ho2 hb2 hg2 hat2 hblk2)
    skip
    go_end0
    refine ⟨rfl, .slice A2 (l0.length + lb.length) c2, ?_, ?_, ?_⟩
    · have h := blk_set HK2.out off (.slice A2 (l0.length + lb.length) c2)
      simpa using h
    · exact Kd.V_far (vb_new (by simpa using HO2.out) HN1.out) HG.out _
    · exact (Kp.mk (HB2.out.os.trans HK1.out.os) (HB2.out.tape.trans HK1.out.tape) (HB2.out.output.trans HK1.out.output) (Nat.le_trans HK1.out.size HB2.out.size) (fun k hk hn => (HB2.out.block k (Nat.lt_of_lt_of_le hk HwB.out)).trans (HK1.out.block k hk hn))).set off _
end Go.Proofs.Ytfjjfoijjlpcjaa.Tp
