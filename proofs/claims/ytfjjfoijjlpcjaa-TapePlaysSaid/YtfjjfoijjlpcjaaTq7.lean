/- Tapes: the contract of the reference Write. -/
import Derived.Test.YtfjjfoijjlpcjaaProg
import Derived.Below
import Derived.Deep.Draws
import Derived.Deep.AppendLies
import Derived.Maps.AppendAt
import Derived.OwnWalk
import Derived.Laws.BytesArg
import Derived.Laws.MakeOwn
import Derived.Laws.OwnMore
import Derived.Deep.OwnRows
import Derived.Tactics
import Derived.Lib.ConvBytes
import Derived.Laws.Slices
import Derived.WalkKit
import Derived.KernelRfl
import Derived.RowKit3
import Derived.Deep.LoopGhost
import Derived.Deep.QuietTactic
import Derived.BigQuiet
import Derived.WideLaws
import Derived.Deep.DeepCutAuto
import Derived.Deep.CutBlock
import Derived.Deep.RegionHeld3
import Derived.Laws.Rows
import Derived.Lib.AppendStr
import Derived.ArgAppend
import Derived.Laws.IdiomCopy
import Derived.OrdersHeld
import Derived.Laws.BitsLemmas
import Derived.RowKit
import Derived.Test.YtfjjfoijjlpcjaaWWords
import Derived.Test.YtfjjfoijjlpcjaaWLast
import Derived.Test.YtfjjfoijjlpcjaaWTab
import Derived.Test.YtfjjfoijjlpcjaaWFour
import Derived.Test.YtfjjfoijjlpcjaaWQPut
import Derived.Test.YtfjjfoijjlpcjaaWApart
import Derived.Test.YtfjjfoijjlpcjaaWArr
import Derived.Test.YtfjjfoijjlpcjaaWZeros
import Derived.Test.YtfjjfoijjlpcjaaWFoot
import Derived.Test.YtfjjfoijjlpcjaaWKept
import Derived.Test.YtfjjfoijjlpcjaaWShare
import Derived.Test.YtfjjfoijjlpcjaaWN
import Derived.Test.YtfjjfoijjlpcjaaWFootNe
import Derived.Test.YtfjjfoijjlpcjaaWAt
import Derived.Test.YtfjjfoijjlpcjaaWEqStruct
import Derived.Test.YtfjjfoijjlpcjaaWRepsOne
import Derived.Test.YtfjjfoijjlpcjaaWInv
import Derived.Test.YtfjjfoijjlpcjaaWInvWords
import Derived.Test.YtfjjfoijjlpcjaaWGuard
import Derived.Test.YtfjjfoijjlpcjaaWNEv
import Derived.Test.YtfjjfoijjlpcjaaWMore
import Derived.Test.YtfjjfoijjlpcjaaTq6
namespace Go.Proofs.Ytfjjfoijjlpcjaa.Tp
open Go.RowKit Go.Proofs.YtfjjfoijjlpcjaaW.PrintWords Go.Proofs.YtfjjfoijjlpcjaaW.PrintLast Go.Proofs.YtfjjfoijjlpcjaaW.PrintMore
attribute [local go_sem] max2_int min2_int max_two min_two max_three min_three max_four min_four
set_option linter.unusedVariables false
set_option linter.unusedSimpArgs false
/-- The cells of the reference Tape. -/
def Rc (v0 u0 v1 u1 : Value) (t : Ta) : Array Value := #[v0, u0, .bool t.s0.wet, .bool t.s0.sw, .bool t.s0.lost, v1, u1, .bool t.s1.wet, .bool t.s1.sw, .bool t.s1.lost, .int .i64 t.fuse, .bool t.down]
/-- A reference Tape at block g. -/
structure Rv (W : World) (ok : Nat → Prop) (g : Nat) (v0 u0 v1 u1 : Value) (t : Ta) : Prop where
  blk : W.heap[g]? = some (.cells (Rc v0 u0 v1 u1 t) 40 (0, 0))
  a0 : Vb W ok v0 t.s0.b
  a1 : Vb W ok u0 t.s0.l
  a2 : Vb W ok v1 t.s1.b
  a3 : Vb W ok u1 t.s1.l
def Rp (W : World) (ok : Nat → Prop) (g : Nat) (t : Ta) : Prop := ∃ v0 u0 v1 u1, Rv W ok g v0 u0 v1 u1 t
theorem rc_cell {W : World} {g : Nat} {v0 u0 v1 u1 : Value} {t : Ta} (h : W.heap[g]? = some (.cells (Rc v0 u0 v1 u1 t) 40 (0, 0))) :
    W.cell? ⟨g, 0, none⟩ = some v0 ∧ W.cell? ⟨g, 1, none⟩ = some u0 ∧ W.cell? ⟨g, 2, none⟩ = some (.bool t.s0.wet) ∧ W.cell? ⟨g, 3, none⟩ = some (.bool t.s0.sw) ∧ W.cell? ⟨g, 4, none⟩ = some (.bool t.s0.lost) ∧
    W.cell? ⟨g, 5, none⟩ = some v1 ∧ W.cell? ⟨g, 6, none⟩ = some u1 ∧ W.cell? ⟨g, 7, none⟩ = some (.bool t.s1.wet) ∧ W.cell? ⟨g, 8, none⟩ = some (.bool t.s1.sw) ∧ W.cell? ⟨g, 9, none⟩ = some (.bool t.s1.lost) ∧
    W.cell? ⟨g, 10, none⟩ = some (.int .i64 t.fuse) ∧ W.cell? ⟨g, 11, none⟩ = some (.bool t.down) ∧ ∀ j, W.frozen? ⟨g, j, none⟩ = false :=
  ⟨(blk_cell h 0).trans rfl, (blk_cell h 1).trans rfl, (blk_cell h 2).trans rfl, (blk_cell h 3).trans rfl, (blk_cell h 4).trans rfl, (blk_cell h 5).trans rfl, (blk_cell h 6).trans rfl, (blk_cell h 7).trans rfl, (blk_cell h 8).trans rfl, (blk_cell h 9).trans rfl, (blk_cell h 10).trans rfl, (blk_cell h 11).trans rfl, fun j => blk_frozen h j⟩
/-- Likewise. -/
theorem rv_kp {W W' : World} {ok : Nat → Prop} {g : Nat} {v0 u0 v1 u1 : Value} {t t' : Ta} (h : Rv W ok g v0 u0 v1 u1 t) (k : Kp W W' g) (hg : ∀ k, ok k → k ≠ g) (hb : W'.heap[g]? = some (.cells (Rc v0 u0 v1 u1 t') 40 (0, 0)))
    (e0 : t'.s0.b = t.s0.b) (e1 : t'.s0.l = t.s0.l) (e2 : t'.s1.b = t.s1.b) (e3 : t'.s1.l = t.s1.l) : Rv W' ok g v0 u0 v1 u1 t' :=
  ⟨hb, e0 ▸ vb_kp h.a0 k hg, e1 ▸ vb_kp h.a1 k hg, e2 ▸ vb_kp h.a2 k hg, e3 ▸ vb_kp h.a3 k hg⟩
theorem rp_step {W W' : World} {ok : Nat → Prop} {g : Nat} {t : Ta} (h : Rp W ok g t) (hm : ∀ k, ok k → k < W.heap.size → W'.heap[k]? = W.heap[k]?) (hg : W'.heap[g]? = W.heap[g]?) : Rp W' ok g t := by
  obtain ⟨v0, u0, v1, u1, h⟩ := h
  exact ⟨v0, u0, v1, u1, hg.trans h.blk, Kd.V_step h.a0 hm, Kd.V_step h.a1 hm, Kd.V_step h.a2 hm, Kd.V_step h.a3 hm⟩
theorem rp_lt {W : World} {ok : Nat → Prop} {g : Nat} {t : Ta} (h : Rp W ok g t) : g < W.heap.size := by
  obtain ⟨v0, u0, v1, u1, h⟩ := h
  exact blk_lt h.blk
theorem rp_below {W W' : World} {ok : Nat → Prop} {g : Nat} {t : Ta} (h : Rp W ok g t) (hb : Below W.heap.size W W') : Rp W' ok g t := rp_step h (fun k _ hk => hb.block k hk) (hb.block g (rp_lt h))
theorem rp_drewN {W : World} {ok : Nat → Prop} {g : Nat} {t : Ta} (h : Rp W ok g t) (n : Nat) : Rp (W.drewN n) ok g t := rp_step h (fun _ _ _ => rfl) rfl
theorem rp_mono {W : World} {ok ok' : Nat → Prop} {g : Nat} {t : Ta} (h : Rp W ok g t) (hok : ∀ k, ok k → k < W.heap.size → ok' k) : Rp W ok' g t := by
  obtain ⟨v0, u0, v1, u1, h⟩ := h
  exact ⟨v0, u0, v1, u1, h.blk, Kd.V_mono (Kd.V_bound h.a0) (fun k hk => hok k hk.1 hk.2), Kd.V_mono (Kd.V_bound h.a1) (fun k hk => hok k hk.1 hk.2), Kd.V_mono (Kd.V_bound h.a2) (fun k hk => hok k hk.1 hk.2), Kd.V_mono (Kd.V_bound h.a3) (fun k hk => hok k hk.1 hk.2)⟩
set_option maxHeartbeats 4000000 in
set_option maxRecDepth 100000 in
theorem rwrite_calls (g : Nat) (t : Ta) (lb : List Int) (A : Option Addr) (n c : Nat) (sw : Bool) (ok okb : Nat → Prop) (w : World)
    (hT : Rp w ok g t) (hF : Kd.F U8 w okb A n lb) (hg : ∀ k, ok k → k ≠ g) (hgb : ∀ k, okb k → k ≠ g) (hnew : ∀ k, w.heap.size ≤ k → ok k) (hfit : t.Fit n) :
    Calls Try.prog 15 #[.pointer (some ⟨g, 0, none⟩), .slice A n c, .bool sw] w fun e w' => e = .returned (.int .i64 (t.write lb sw).2) ∧ Rp w' ok g (t.write lb sw).1 ∧ Kp w w' g := by
  obtain rfl : n = lb.length := (Kd.F_len hF).symm
  have HT0 := Aside0.mk hT
  have HFb := Aside0.mk hF
  have HG := Aside0.mk hg
  have HGB := Aside0.mk hgb
  have HN := Aside0.mk hnew
  have HFit := Aside0.mk hfit
  have HF0 := Aside0.mk (Ta.fit0 t lb sw lb.length hfit rfl)
  obtain ⟨r0, hr0⟩ : ∃ r, r = Ta.step0 t lb sw := ⟨_, rfl⟩
  obtain ⟨r1, hr1⟩ : ∃ r, r = Ta.step1 r0.1 lb sw := ⟨_, rfl⟩
  rw [← hr0] at HF0
  by_cases hd : t.down = true
  · have hW : t.write lb sw = (t, 9) := by unfold Ta.write; rw [if_pos hd]
    rw [hW]
    obtain ⟨v0, u0, v1, u1, hT⟩ := hT
    obtain ⟨c0, c1, c2, c3, c4, c5, c6, c7, c8, c9, c10, c11, hfz⟩ := rc_cell hT.blk
    rw [hd] at c11
    clear hW hT hF hg hgb hnew hfit hd hr0 hr1
    go_enter Try.func15, Try.ntmps15
    go_wp2
    go_ret
    exact ⟨rfl, HT0.out, Kp.refl _ _⟩
  simp only [Bool.not_eq_true] at hd
  by_cases hl : t.s0.lost = true ∧ t.s1.lost = true
  · have hW : t.write lb sw = (t, 8) := by unfold Ta.write; rw [if_neg (by rw [hd]; exact Bool.false_ne_true), if_pos (by rw [hl.1, hl.2]; rfl)]
    rw [hW]
    obtain ⟨v0, u0, v1, u1, hT⟩ := hT
    obtain ⟨c0, c1, c2, c3, c4, c5, c6, c7, c8, c9, c10, c11, hfz⟩ := rc_cell hT.blk
    rw [hd] at c11
    rw [hl.1] at c4
    rw [hl.2] at c9
    clear hW hT hF hg hgb hnew hfit hd hl hr0 hr1
    go_enter Try.func15, Try.ntmps15
    go_wp2
    go_ret
    exact ⟨rfl, HT0.out, Kp.refl _ _⟩
  have hW : t.write lb sw = if r0.2 then (if r1.2 then (r1.1, 0) else (r1.1, 9)) else (r0.1, 9) := by
    unfold Ta.write
    rw [if_neg (by rw [hd]; exact Bool.false_ne_true), if_neg (by simpa using hl), ← hr0, ← hr1]
  have HW0 : Aside0 (r0.2 = false → t.write lb sw = (r0.1, 9)) := ⟨fun h => by rw [hW, h]; rfl⟩
  have HW1 : Aside0 (r0.2 = true → r1.2 = false → t.write lb sw = (r1.1, 9)) := ⟨fun h h1 => by rw [hW, h, h1]; rfl⟩
  have HW2 : Aside0 (r0.2 = true → r1.2 = true → t.write lb sw = (r1.1, 0)) := ⟨fun h h1 => by rw [hW, h, h1]; rfl⟩
  generalize t.write lb sw = W at *
  have HR0 := Aside0.mk hr0
  have HR1 := Aside0.mk hr1
  have HS0 : Aside0 _ := ⟨hr0⟩
  have hx : (t.s0.lost = false) ∨ (t.s0.lost = true ∧ t.s1.lost = false) := by
    rcases Bool.eq_false_or_eq_true t.s0.lost with h | h
    · exact .inr ⟨h, by rcases Bool.eq_false_or_eq_true t.s1.lost with h1 | h1; exact absurd ⟨h, h1⟩ hl; exact h1⟩
    · exact .inl h
  obtain ⟨v0, u0, v1, u1, hT⟩ := hT
  have HT := Aside0.mk hT
  obtain ⟨c0, c1, c2, c3, c4, c5, c6, c7, c8, c9, c10, c11, hfz⟩ := rc_cell hT.blk
  rw [hd] at c11
  clear hT hF hg hgb hnew hfit hd hl hr0 hr1 hW
  go_enter Try.func15, Try.ntmps15
  have key : True := trivial
  rcases hx with hx | ⟨hx, hx1⟩
  all_goals
    rw [hx] at c4
    (try rw [hx1] at c9)
    go_upto_region 5 with (go_quiet (fail))
    clear c0 c1 c2 c3 c4 c5 c6 c7 c8 c9 c10 c11 hfz hx
    (try clear hx1)
    go_wp2
    go_loopw [7, 8, 27, 28, 29, 30, 31, 32, 33, 34, 35, 36, 37, 38, 39, 40, 41, 42, 43, 44, 45, 46, 47, 48, 49, 50, 51, 52, 53, 54, 55, 56, 57, 58, 59, 60, 61, 62, 63, 64, 65, 66, 67, 68, 69, 70, 71, 72, 73, 74, 75, 76, 77, 78, 79, 80, 81, 82, 83, 84, 85, 86, 87, 88, 89, 90] (fun x7 x8 x27 x28 x29 x30 x31 x32 x33 x34 x35 x36 x37 x38 x39 x40 x41 x42 x43 x44 x45 x46 x47 x48 x49 x50 x51 x52 x53 x54 x55 x56 x57 x58 x59 x60 x61 x62 x63 x64 x65 x66 x67 x68 x69 x70 x71 x72 x73 x74 x75 x76 x77 x78 x79 x80 x81 x82 x83 x84 x85 x86 x87 x88 x89 x90 wr => (x7 = .int .i64 0 ∧ Rp wr ok g t ∧ Kp w wr g) ∨ (x7 = .int .i64 1 ∧ Rp wr ok g r0.1 ∧ Kp w wr g ∧ r0.2 = true) ∨ (x7 = .int .i64 2 ∧ Rp wr ok g r1.1 ∧ Kp w wr g ∧ r0.2 = true ∧ r1.2 = true)) (fun x7 _ _ _ _ _ _ _ _ _ _ _ _ _ _ _ _ _ _ _ _ _ _ _ _ _ _ _ _ _ _ _ _ _ _ _ _ _ _ _ _ _ _ _ _ _ _ _ _ _ _ _ _ _ _ _ _ _ _ _ _ _ _ _ _ _ _ => 2 - (intOf x7).toNat)
    case atStart => exact .inl ⟨rfl, HT0.out, Kp.refl _ _⟩
    case round =>
      rcases hrel with ⟨rfl, hTr, hKr⟩ | ⟨rfl, hTr, hKr, hDr⟩ | ⟨rfl, hTr, hKr, hDr, hDr1⟩
      · obtain ⟨v0, u0, v1, u1, hTr⟩ := hTr
        have hl0 := HFit.out.l0
        have hl1 := HFit.out.l1
        have hf0 := HFit.out.f0
        have hf1 := HFit.out.f1
        obtain ⟨⟨b0, l0, sw0, we0, lo0⟩, ⟨b1, l1, sw1, we1, lo1⟩, fu, dn⟩ := t
        have HS := HS0
        have HL := Aside0.mk hl0
        have HT := Aside0.mk hTr
        have HKr := Aside0.mk hKr
        obtain ⟨c0, c1, c2, c3, c4, c5, c6, c7, c8, c9, c10, c11, hfz⟩ := rc_cell hTr.blk
        simp only at c0 c1 c2 c3 c4 c5 c6 c7 c8 c9 c10 c11 hf0 hf1 HL
        clear hTr hKr hl0 hl1
        cases lo0 with
        | true =>
          have HE : Aside0 (Ta.step0 ⟨⟨b0, l0, sw0, we0, true⟩, ⟨b1, l1, sw1, we1, lo1⟩, fu, dn⟩ lb sw = (⟨⟨b0, l0, sw0, we0, true⟩, ⟨b1, l1, sw1, we1, lo1⟩, fu, dn⟩, true)) := ⟨by simp [Ta.step0]⟩
          go_wp2
          go_roundw
          case rel =>
            have e1 := HS.out.trans HE.out
            have e2 : Rp wr ok g r0.1 := by rw [e1]; exact ⟨_, _, _, _, HT.out⟩
            have e3 : r0.2 = true := by rw [e1]
            exact .inr (.inl ⟨by go_num, e2, HKr.out, e3⟩)
          case measure => simp [intOf]
        | false =>
          by_cases hz : fu = 0
          · subst hz
            have HE : Aside0 (Ta.step0 ⟨⟨b0, l0, sw0, we0, false⟩, ⟨b1, l1, sw1, we1, lo1⟩, 0, dn⟩ lb sw = (⟨⟨b0, lb, sw, true, false⟩, ⟨b1, l1, sw1, we1, lo1⟩, 0, true⟩, false)) := ⟨by simp [Ta.step0, Ta.one0, Sd.loose]⟩
            have HFx : Aside0 (Kd.F U8 wr okb A lb.length lb) := ⟨f_kp HFb.out HKr.out HGB.out⟩
            have HM : Aside0 (U8.R 5 (wr.alloc (.cells #[] 5)) wr.heap.size (fun _ => True) (.slice (some ⟨wr.heap.size, 0, none⟩) 0 0) []) := ⟨⟨fun _ _ => trivial, [], World.ownsRow_made wr #[] 0 (Nat.le_refl _) (Nat.zero_le _) rfl, Reps.none _ _⟩⟩
            have HBm : Aside0 (Below wr.heap.size wr (wr.alloc (.cells #[] 5))) := ⟨(Below.refl _ _).alloc (Nat.le_refl _) _⟩
            go_wp2_with (at_builtin; go_loud (refine Kd.R_append_rows U8 (w0 := wr) (Rr := U8.K wr) wr.heap.size rfl (.tmp 50) (.tmp 51) 22 5 (.int .u8 0) 1 rfl Try.underlying22 info5 rfl (by decide) (by decide) (.slice (some ⟨wr.heap.size, 0, none⟩) 0 0) [] lb A lb.length c (fun _ => True) (fun _ => False) rfl rfl HM.out (Kd.C_below (Kd.F_now HFx.out) HBm.out) (fun _ _ h => h) (fun _ hk => hk.elim) (fun _ _ => trivial) HBm.out HBm.out.size ?aL ?_; (case aL => have := HL.out; simp only [List.length_nil]; omega); intro v5 w2 ho hb hg hat; obtain ⟨A5, n5, e5⟩ := Kd.R_slice ho; subst e5; have HO2 : Aside0 (U8.R 5 w2 wr.heap.size (fun _ => True) (.slice A5 lb.length n5) lb) := ⟨by simpa using ho⟩; have HBe := Aside0.mk hb; have hbk := Aside0.mk (blk_below HT.out.blk hb); have hc5 : w2.cell? ⟨g, 1, none⟩ = some u0 := (blk_cell hbk.out 1).trans rfl; have hc6 : w2.cell? ⟨g, 2, none⟩ = some (.bool we0) := (blk_cell hbk.out 2).trans rfl; have hc7 : w2.cell? ⟨g, 3, none⟩ = some (.bool sw0) := (blk_cell hbk.out 3).trans rfl; have hc8 : w2.cell? ⟨g, 11, none⟩ = some (.bool dn) := (blk_cell hbk.out 11).trans rfl; have hfz1 := fun j => blk_frozen hbk.out j; clear ho hb hg hat HM HBm))
            go_ret
            have K1 : Kp w2 ((((w2.setCell ⟨g, 11, none⟩ (.bool true)).setCell ⟨g, 2, none⟩ (.bool true)).setCell ⟨g, 3, none⟩ (.bool sw)).setCell ⟨g, 1, none⟩ (.slice A5 lb.length n5)) g := ((((Kp.refl _ g).set 11 _).set 2 _).set 3 _).set 1 _
            have K : Kp wr ((((w2.setCell ⟨g, 11, none⟩ (.bool true)).setCell ⟨g, 2, none⟩ (.bool true)).setCell ⟨g, 3, none⟩ (.bool sw)).setCell ⟨g, 1, none⟩ (.slice A5 lb.length n5)) g := ((((Kp.of_below HBe.out g).set 11 _).set 2 _).set 3 _).set 1 _
            have e1 := HS.out.trans HE.out
            have hr := HW0.out (by rw [e1])
            have e2 : Rp ((((w2.setCell ⟨g, 11, none⟩ (.bool true)).setCell ⟨g, 2, none⟩ (.bool true)).setCell ⟨g, 3, none⟩ (.bool sw)).setCell ⟨g, 1, none⟩ (.slice A5 lb.length n5)) ok g r0.1 := by rw [e1]; exact ⟨v0, (.slice A5 lb.length n5), v1, u1, blk_set (blk_set (blk_set (blk_set (blk_below HT.out.blk HBe.out) 11 _) 2 _) 3 _) 1 _, vb_kp HT.out.a0 K HG.out, vb_kp (vb_new HO2.out (fun k hk => HN.out k (Nat.le_trans HKr.out.size hk))) K1 HG.out, vb_kp HT.out.a2 K HG.out, vb_kp HT.out.a3 K HG.out⟩
            exact ⟨by rw [hr]; rfl, by rw [hr]; exact e2, HKr.out.trans K⟩
          · have hz1 : (fu == 0) = false := by simpa using hz
            have HZ := Aside0.mk hz
            by_cases hp : 0 < fu
            · have hp1 : decide (0 < fu) = true := decide_eq_true hp
              have hw : wrap64 (fu - 1) = fu - 1 := w64 _ (by omega) (by omega)
              have HP := Aside0.mk hp
              obtain ⟨wx, hwx⟩ : ∃ wx, wx = wr.setCell ⟨g, 10, none⟩ (.int .i64 (fu - 1)) := ⟨_, rfl⟩
              have HT0 := HT
              have hkx : Kp wr wx g := by rw [hwx]; exact (Kp.refl wr g).set 10 _
              replace HT : Aside0 (Rv wx ok g v0 u0 v1 u1 ⟨⟨b0, l0, sw0, we0, false⟩, ⟨b1, l1, sw1, we1, lo1⟩, (fu - 1), dn⟩) := ⟨rv_kp HT.out hkx HG.out (by rw [hwx]; exact blk_set HT.out.blk 10 _) rfl rfl rfl rfl⟩
              have HKx := Aside0.mk (HKr.out.trans hkx)
              have HWX := Aside0.mk hwx
              clear hkx hwx hz hp
              go_upto_region 15 with fail
              rw [← HWX.out]
              clear c0 c1 c2 c3 c4 c5 c6 c7 c8 c9 c10 c11 hfz
              obtain ⟨c0, c1, c2, c3, c4, c5, c6, c7, c8, c9, c10, c11, hfz⟩ := rc_cell HT.out.blk
              simp only at c0 c1 c2 c3 c4 c5 c6 c7 c8 c9 c10 c11
              have HFx : Aside0 (Kd.F U8 wx okb A lb.length lb) := ⟨f_kp HFb.out HKx.out HGB.out⟩
              have HM : Aside0 (U8.R 5 (wx.alloc (.cells #[] 5)) wx.heap.size (fun _ => True) (.slice (some ⟨wx.heap.size, 0, none⟩) 0 0) []) := ⟨⟨fun _ _ => trivial, [], World.ownsRow_made wx #[] 0 (Nat.le_refl _) (Nat.zero_le _) rfl, Reps.none _ _⟩⟩
              have HBm : Aside0 (Below wx.heap.size wx (wx.alloc (.cells #[] 5))) := ⟨(Below.refl _ _).alloc (Nat.le_refl _) _⟩
              cases sw
              · have HE : Aside0 (Ta.step0 ⟨⟨b0, l0, sw0, we0, false⟩, ⟨b1, l1, sw1, we1, lo1⟩, fu, dn⟩ lb false = (⟨⟨b0 ++ lb, l0, sw0, we0, false⟩, ⟨b1, l1, sw1, we1, lo1⟩, (fu - 1), dn⟩, true)) := ⟨by simp [Ta.step0, Ta.one0, Ta.burn, Sd.apply, HZ.out, HP.out]⟩
                obtain ⟨A6, d6, e6, hl6, hF6⟩ := HT.out.a0
                have HV6 := Aside0.mk hF6
                subst e6
                have hgl : g < wx.heap.size := blk_lt HT.out.blk
                clear hF6 hl6
                go_wp2_with (first | (at_builtin; go_loud (refine Kd.R_append_rows U8 (w0 := wx) (Rr := U8.K wx) wx.heap.size rfl (.tmp 81) (.tmp 85) 22 5 (.int .u8 0) 1 rfl Try.underlying22 info5 rfl (by decide) (by decide) (.slice (some ⟨wx.heap.size, 0, none⟩) 0 0) [] b0 A6 b0.length d6 (fun _ => True) (fun _ => False) rfl rfl HM.out (Kd.C_below (Kd.F_now HV6.out) HBm.out) (fun _ _ h => h) (fun _ hk => hk.elim) (fun _ _ => trivial) HBm.out HBm.out.size ?aL ?_; (case aL => have := HL.out; simp only [List.length_nil]; omega); intro v2 w1 ho hb hg hat; have HO1 : Aside0 (U8.R 5 w1 wx.heap.size (fun _ => True) v2 b0) := ⟨ho⟩; have HB1 := Aside0.mk hb; clear ho hb hg hat HM HBm)) | (at_builtin; go_loud (refine Kd.R_append_rows U8 (w0 := wx) (Rr := U8.K wx) wx.heap.size rfl (.tmp 86) (.tmp 87) 22 5 (.int .u8 0) 1 rfl Try.underlying22 info5 rfl (by decide) (by decide) v2 b0 lb A lb.length c (fun _ => True) (fun _ => False) rfl rfl HO1.out (Kd.C_below (Kd.F_now HFx.out) HB1.out) (fun _ _ h => h) (fun _ hk => hk.elim) (fun _ _ => trivial) HB1.out HB1.out.size ?aL ?_; (case aL => have := HL.out; omega); intro v5 w2 ho hb hg hat; obtain ⟨A5, n5, e5⟩ := Kd.R_slice ho; subst e5; have HO2 : Aside0 (U8.R 5 w2 wx.heap.size (fun _ => True) (.slice A5 (b0.length + lb.length) n5) (b0 ++ lb)) := ⟨by simpa using ho⟩; have HBe := Aside0.mk hb; have hbk := Aside0.mk (blk_below HT.out.blk hb); have hc5 : w2.cell? ⟨g, 0, none⟩ = some (.slice A6 b0.length d6) := (blk_cell hbk.out 0).trans rfl; have hfz1 : w2.frozen? ⟨g, 0, none⟩ = false := blk_frozen hbk.out 0; clear ho hb hg hat)))
                go_roundw
                case rel =>
                  have K1 : Kp w2 (w2.setCell ⟨g, 0, none⟩ (.slice A5 (b0.length + lb.length) n5)) g := (Kp.refl _ g).set 0 _
                  have K : Kp wx (w2.setCell ⟨g, 0, none⟩ (.slice A5 (b0.length + lb.length) n5)) g := (Kp.of_below HBe.out g).set 0 _
                  have e1 : r0 = (⟨⟨b0 ++ lb, l0, sw0, we0, false⟩, ⟨b1, l1, sw1, we1, lo1⟩, (fu - 1), dn⟩, true) := HS.out.trans HE.out
                  have e2 : Rp (w2.setCell ⟨g, 0, none⟩ (.slice A5 (b0.length + lb.length) n5)) ok g r0.1 := by rw [e1]; exact ⟨(.slice A5 (b0.length + lb.length) n5), u0, v1, u1, blk_set (blk_below HT.out.blk HBe.out) 0 _, vb_kp (vb_new HO2.out (fun k hk => HN.out k (Nat.le_trans HKx.out.size hk))) K1 HG.out, vb_kp HT.out.a1 K HG.out, vb_kp HT.out.a2 K HG.out, vb_kp HT.out.a3 K HG.out⟩
                  have e3 : r0.2 = true := by rw [e1]
                  exact .inr (.inl ⟨by go_num, e2, HKx.out.trans K, e3⟩)
                case measure => simp [intOf]
              · have HE : Aside0 (Ta.step0 ⟨⟨b0, l0, sw0, we0, false⟩, ⟨b1, l1, sw1, we1, lo1⟩, fu, dn⟩ lb true = (⟨⟨lb, l0, sw0, we0, false⟩, ⟨b1, l1, sw1, we1, lo1⟩, (fu - 1), dn⟩, true)) := ⟨by simp [Ta.step0, Ta.one0, Ta.burn, Sd.apply, HZ.out, HP.out]⟩
                obtain ⟨A6, d6, e6, hl6, hF6⟩ := HT.out.a0
                subst e6
                clear hF6 hl6
                go_wp2_with (at_builtin; go_loud (refine Kd.R_append_rows U8 (w0 := wx) (Rr := U8.K wx) wx.heap.size rfl (.tmp 75) (.tmp 76) 22 5 (.int .u8 0) 1 rfl Try.underlying22 info5 rfl (by decide) (by decide) (.slice (some ⟨wx.heap.size, 0, none⟩) 0 0) [] lb A lb.length c (fun _ => True) (fun _ => False) rfl rfl HM.out (Kd.C_below (Kd.F_now HFx.out) HBm.out) (fun _ _ h => h) (fun _ hk => hk.elim) (fun _ _ => trivial) HBm.out HBm.out.size ?aL ?_; (case aL => have := HL.out; simp only [List.length_nil]; omega); intro v5 w2 ho hb hg hat; obtain ⟨A5, n5, e5⟩ := Kd.R_slice ho; subst e5; have HO2 : Aside0 (U8.R 5 w2 wx.heap.size (fun _ => True) (.slice A5 lb.length n5) lb) := ⟨by simpa using ho⟩; have HBe := Aside0.mk hb; have hbk := Aside0.mk (blk_below HT.out.blk hb); have hc5 : w2.cell? ⟨g, 0, none⟩ = some (.slice A6 b0.length d6) := (blk_cell hbk.out 0).trans rfl; have hfz1 : w2.frozen? ⟨g, 0, none⟩ = false := blk_frozen hbk.out 0; clear ho hb hg hat HM HBm))
                go_roundw
                case rel =>
                  have K1 : Kp w2 (w2.setCell ⟨g, 0, none⟩ (.slice A5 lb.length n5)) g := (Kp.refl _ g).set 0 _
                  have K : Kp wx (w2.setCell ⟨g, 0, none⟩ (.slice A5 lb.length n5)) g := (Kp.of_below HBe.out g).set 0 _
                  have e1 : r0 = (⟨⟨lb, l0, sw0, we0, false⟩, ⟨b1, l1, sw1, we1, lo1⟩, (fu - 1), dn⟩, true) := HS.out.trans HE.out
                  have e2 : Rp (w2.setCell ⟨g, 0, none⟩ (.slice A5 lb.length n5)) ok g r0.1 := by rw [e1]; exact ⟨(.slice A5 lb.length n5), u0, v1, u1, blk_set (blk_below HT.out.blk HBe.out) 0 _, vb_kp (vb_new HO2.out (fun k hk => HN.out k (Nat.le_trans HKx.out.size hk))) K1 HG.out, vb_kp HT.out.a1 K HG.out, vb_kp HT.out.a2 K HG.out, vb_kp HT.out.a3 K HG.out⟩
                  have e3 : r0.2 = true := by rw [e1]
                  exact .inr (.inl ⟨by go_num, e2, HKx.out.trans K, e3⟩)
                case measure => simp [intOf]
            · have hp1 : decide (0 < fu) = false := decide_eq_false hp
              have HP := Aside0.mk hp
              have HKx := HKr
              clear hz hp
              have HFx : Aside0 (Kd.F U8 wr okb A lb.length lb) := ⟨f_kp HFb.out HKx.out HGB.out⟩
              have HM : Aside0 (U8.R 5 (wr.alloc (.cells #[] 5)) wr.heap.size (fun _ => True) (.slice (some ⟨wr.heap.size, 0, none⟩) 0 0) []) := ⟨⟨fun _ _ => trivial, [], World.ownsRow_made wr #[] 0 (Nat.le_refl _) (Nat.zero_le _) rfl, Reps.none _ _⟩⟩
              have HBm : Aside0 (Below wr.heap.size wr (wr.alloc (.cells #[] 5))) := ⟨(Below.refl _ _).alloc (Nat.le_refl _) _⟩
              cases sw
              · have HE : Aside0 (Ta.step0 ⟨⟨b0, l0, sw0, we0, false⟩, ⟨b1, l1, sw1, we1, lo1⟩, fu, dn⟩ lb false = (⟨⟨b0 ++ lb, l0, sw0, we0, false⟩, ⟨b1, l1, sw1, we1, lo1⟩, fu, dn⟩, true)) := ⟨by simp [Ta.step0, Ta.one0, Ta.burn, Sd.apply, HZ.out, HP.out]⟩
                obtain ⟨A6, d6, e6, hl6, hF6⟩ := HT.out.a0
                have HV6 := Aside0.mk hF6
                subst e6
                have hgl : g < wr.heap.size := blk_lt HT.out.blk
                clear hF6 hl6
                go_wp2_with (first | (at_builtin; go_loud (refine Kd.R_append_rows U8 (w0 := wr) (Rr := U8.K wr) wr.heap.size rfl (.tmp 81) (.tmp 85) 22 5 (.int .u8 0) 1 rfl Try.underlying22 info5 rfl (by decide) (by decide) (.slice (some ⟨wr.heap.size, 0, none⟩) 0 0) [] b0 A6 b0.length d6 (fun _ => True) (fun _ => False) rfl rfl HM.out (Kd.C_below (Kd.F_now HV6.out) HBm.out) (fun _ _ h => h) (fun _ hk => hk.elim) (fun _ _ => trivial) HBm.out HBm.out.size ?aL ?_; (case aL => have := HL.out; simp only [List.length_nil]; omega); intro v2 w1 ho hb hg hat; have HO1 : Aside0 (U8.R 5 w1 wr.heap.size (fun _ => True) v2 b0) := ⟨ho⟩; have HB1 := Aside0.mk hb; clear ho hb hg hat HM HBm)) | (at_builtin; go_loud (refine Kd.R_append_rows U8 (w0 := wr) (Rr := U8.K wr) wr.heap.size rfl (.tmp 86) (.tmp 87) 22 5 (.int .u8 0) 1 rfl Try.underlying22 info5 rfl (by decide) (by decide) v2 b0 lb A lb.length c (fun _ => True) (fun _ => False) rfl rfl HO1.out (Kd.C_below (Kd.F_now HFx.out) HB1.out) (fun _ _ h => h) (fun _ hk => hk.elim) (fun _ _ => trivial) HB1.out HB1.out.size ?aL ?_; (case aL => have := HL.out; omega); intro v5 w2 ho hb hg hat; obtain ⟨A5, n5, e5⟩ := Kd.R_slice ho; subst e5; have HO2 : Aside0 (U8.R 5 w2 wr.heap.size (fun _ => True) (.slice A5 (b0.length + lb.length) n5) (b0 ++ lb)) := ⟨by simpa using ho⟩; have HBe := Aside0.mk hb; have hbk := Aside0.mk (blk_below HT.out.blk hb); have hc5 : w2.cell? ⟨g, 0, none⟩ = some (.slice A6 b0.length d6) := (blk_cell hbk.out 0).trans rfl; have hfz1 : w2.frozen? ⟨g, 0, none⟩ = false := blk_frozen hbk.out 0; clear ho hb hg hat)))
                go_roundw
                case rel =>
                  have K1 : Kp w2 (w2.setCell ⟨g, 0, none⟩ (.slice A5 (b0.length + lb.length) n5)) g := (Kp.refl _ g).set 0 _
                  have K : Kp wr (w2.setCell ⟨g, 0, none⟩ (.slice A5 (b0.length + lb.length) n5)) g := (Kp.of_below HBe.out g).set 0 _
                  have e1 : r0 = (⟨⟨b0 ++ lb, l0, sw0, we0, false⟩, ⟨b1, l1, sw1, we1, lo1⟩, fu, dn⟩, true) := HS.out.trans HE.out
                  have e2 : Rp (w2.setCell ⟨g, 0, none⟩ (.slice A5 (b0.length + lb.length) n5)) ok g r0.1 := by rw [e1]; exact ⟨(.slice A5 (b0.length + lb.length) n5), u0, v1, u1, blk_set (blk_below HT.out.blk HBe.out) 0 _, vb_kp (vb_new HO2.out (fun k hk => HN.out k (Nat.le_trans HKx.out.size hk))) K1 HG.out, vb_kp HT.out.a1 K HG.out, vb_kp HT.out.a2 K HG.out, vb_kp HT.out.a3 K HG.out⟩
                  have e3 : r0.2 = true := by rw [e1]
                  exact .inr (.inl ⟨by go_num, e2, HKx.out.trans K, e3⟩)
                case measure => simp [intOf]
              · have HE : Aside0 (Ta.step0 ⟨⟨b0, l0, sw0, we0, false⟩, ⟨b1, l1, sw1, we1, lo1⟩, fu, dn⟩ lb true = (⟨⟨lb, l0, sw0, we0, false⟩, ⟨b1, l1, sw1, we1, lo1⟩, fu, dn⟩, true)) := ⟨by simp [Ta.step0, Ta.one0, Ta.burn, Sd.apply, HZ.out, HP.out]⟩
                obtain ⟨A6, d6, e6, hl6, hF6⟩ := HT.out.a0
                subst e6
                clear hF6 hl6
                go_wp2_with (at_builtin; go_loud (refine Kd.R_append_rows U8 (w0 := wr) (Rr := U8.K wr) wr.heap.size rfl (.tmp 75) (.tmp 76) 22 5 (.int .u8 0) 1 rfl Try.underlying22 info5 rfl (by decide) (by decide) (.slice (some ⟨wr.heap.size, 0, none⟩) 0 0) [] lb A lb.length c (fun _ => True) (fun _ => False) rfl rfl HM.out (Kd.C_below (Kd.F_now HFx.out) HBm.out) (fun _ _ h => h) (fun _ hk => hk.elim) (fun _ _ => trivial) HBm.out HBm.out.size ?aL ?_; (case aL => have := HL.out; simp only [List.length_nil]; omega); intro v5 w2 ho hb hg hat; obtain ⟨A5, n5, e5⟩ := Kd.R_slice ho; subst e5; have HO2 : Aside0 (U8.R 5 w2 wr.heap.size (fun _ => True) (.slice A5 lb.length n5) lb) := ⟨by simpa using ho⟩; have HBe := Aside0.mk hb; have hbk := Aside0.mk (blk_below HT.out.blk hb); have hc5 : w2.cell? ⟨g, 0, none⟩ = some (.slice A6 b0.length d6) := (blk_cell hbk.out 0).trans rfl; have hfz1 : w2.frozen? ⟨g, 0, none⟩ = false := blk_frozen hbk.out 0; clear ho hb hg hat HM HBm))
                go_roundw
                case rel =>
                  have K1 : Kp w2 (w2.setCell ⟨g, 0, none⟩ (.slice A5 lb.length n5)) g := (Kp.refl _ g).set 0 _
                  have K : Kp wr (w2.setCell ⟨g, 0, none⟩ (.slice A5 lb.length n5)) g := (Kp.of_below HBe.out g).set 0 _
                  have e1 : r0 = (⟨⟨lb, l0, sw0, we0, false⟩, ⟨b1, l1, sw1, we1, lo1⟩, fu, dn⟩, true) := HS.out.trans HE.out
                  have e2 : Rp (w2.setCell ⟨g, 0, none⟩ (.slice A5 lb.length n5)) ok g r0.1 := by rw [e1]; exact ⟨(.slice A5 lb.length n5), u0, v1, u1, blk_set (blk_below HT.out.blk HBe.out) 0 _, vb_kp (vb_new HO2.out (fun k hk => HN.out k (Nat.le_trans HKx.out.size hk))) K1 HG.out, vb_kp HT.out.a1 K HG.out, vb_kp HT.out.a2 K HG.out, vb_kp HT.out.a3 K HG.out⟩
                  have e3 : r0.2 = true := by rw [e1]
                  exact .inr (.inl ⟨by go_num, e2, HKx.out.trans K, e3⟩)
                case measure => simp [intOf]
      · obtain ⟨v0, u0, v1, u1, hTr⟩ := hTr
        have hfit1 := HF0.out hDr
        have hl1 := HFit.out.l1
        rw [← hfit1.2.2.1] at hl1
        obtain ⟨T, hT⟩ : ∃ T, T = r0.1 := ⟨_, rfl⟩
        have HS := HR1
        rw [← hT] at hTr HS hfit1 hl1
        obtain ⟨⟨b0, l0, sw0, we0, lo0⟩, ⟨b1, l1, sw1, we1, lo1⟩, fu, dn⟩ := T
        have hf0 := hfit1.1
        have hf1 := hfit1.2.1
        have HL := Aside0.mk hl1
        have HT := Aside0.mk hTr
        have HKr := Aside0.mk hKr
        have HDr := Aside0.mk hDr
        obtain ⟨c0, c1, c2, c3, c4, c5, c6, c7, c8, c9, c10, c11, hfz⟩ := rc_cell hTr.blk
        simp only at c0 c1 c2 c3 c4 c5 c6 c7 c8 c9 c10 c11 hf0 hf1 HL
        clear hTr hKr hDr hl1 hfit1 hT
        cases lo1 with
        | true =>
          have HE : Aside0 (Ta.step1 ⟨⟨b0, l0, sw0, we0, lo0⟩, ⟨b1, l1, sw1, we1, true⟩, fu, dn⟩ lb sw = (⟨⟨b0, l0, sw0, we0, lo0⟩, ⟨b1, l1, sw1, we1, true⟩, fu, dn⟩, true)) := ⟨by simp [Ta.step1]⟩
          go_wp2
          go_roundw
          case rel =>
            have e1 := HS.out.trans HE.out
            have e2 : Rp wr ok g r1.1 := by rw [e1]; exact ⟨_, _, _, _, HT.out⟩
            have e3 : r1.2 = true := by rw [e1]
            exact .inr (.inr ⟨by go_num, e2, HKr.out, HDr.out, e3⟩)
          case measure => simp [intOf]
        | false =>
          by_cases hz : fu = 0
          · subst hz
            have HE : Aside0 (Ta.step1 ⟨⟨b0, l0, sw0, we0, lo0⟩, ⟨b1, l1, sw1, we1, false⟩, 0, dn⟩ lb sw = (⟨⟨b0, l0, sw0, we0, lo0⟩, ⟨b1, lb, sw, true, false⟩, 0, true⟩, false)) := ⟨by simp [Ta.step1, Ta.one1, Sd.loose]⟩
            have HFx : Aside0 (Kd.F U8 wr okb A lb.length lb) := ⟨f_kp HFb.out HKr.out HGB.out⟩
            have HM : Aside0 (U8.R 5 (wr.alloc (.cells #[] 5)) wr.heap.size (fun _ => True) (.slice (some ⟨wr.heap.size, 0, none⟩) 0 0) []) := ⟨⟨fun _ _ => trivial, [], World.ownsRow_made wr #[] 0 (Nat.le_refl _) (Nat.zero_le _) rfl, Reps.none _ _⟩⟩
            have HBm : Aside0 (Below wr.heap.size wr (wr.alloc (.cells #[] 5))) := ⟨(Below.refl _ _).alloc (Nat.le_refl _) _⟩
            go_wp2_with (at_builtin; go_loud (refine Kd.R_append_rows U8 (w0 := wr) (Rr := U8.K wr) wr.heap.size rfl (.tmp 50) (.tmp 51) 22 5 (.int .u8 0) 1 rfl Try.underlying22 info5 rfl (by decide) (by decide) (.slice (some ⟨wr.heap.size, 0, none⟩) 0 0) [] lb A lb.length c (fun _ => True) (fun _ => False) rfl rfl HM.out (Kd.C_below (Kd.F_now HFx.out) HBm.out) (fun _ _ h => h) (fun _ hk => hk.elim) (fun _ _ => trivial) HBm.out HBm.out.size ?aL ?_; (case aL => have := HL.out; simp only [List.length_nil]; omega); intro v5 w2 ho hb hg hat; obtain ⟨A5, n5, e5⟩ := Kd.R_slice ho; subst e5; have HO2 : Aside0 (U8.R 5 w2 wr.heap.size (fun _ => True) (.slice A5 lb.length n5) lb) := ⟨by simpa using ho⟩; have HBe := Aside0.mk hb; have hbk := Aside0.mk (blk_below HT.out.blk hb); have hc5 : w2.cell? ⟨g, 6, none⟩ = some u1 := (blk_cell hbk.out 6).trans rfl; have hc6 : w2.cell? ⟨g, 7, none⟩ = some (.bool we1) := (blk_cell hbk.out 7).trans rfl; have hc7 : w2.cell? ⟨g, 8, none⟩ = some (.bool sw1) := (blk_cell hbk.out 8).trans rfl; have hc8 : w2.cell? ⟨g, 11, none⟩ = some (.bool dn) := (blk_cell hbk.out 11).trans rfl; have hfz1 := fun j => blk_frozen hbk.out j; clear ho hb hg hat HM HBm))
            go_ret
            have K1 : Kp w2 ((((w2.setCell ⟨g, 11, none⟩ (.bool true)).setCell ⟨g, 7, none⟩ (.bool true)).setCell ⟨g, 8, none⟩ (.bool sw)).setCell ⟨g, 6, none⟩ (.slice A5 lb.length n5)) g := ((((Kp.refl _ g).set 11 _).set 7 _).set 8 _).set 6 _
            have K : Kp wr ((((w2.setCell ⟨g, 11, none⟩ (.bool true)).setCell ⟨g, 7, none⟩ (.bool true)).setCell ⟨g, 8, none⟩ (.bool sw)).setCell ⟨g, 6, none⟩ (.slice A5 lb.length n5)) g := ((((Kp.of_below HBe.out g).set 11 _).set 7 _).set 8 _).set 6 _
            have e1 := HS.out.trans HE.out
            have hr := HW1.out HDr.out (by rw [e1])
            have e2 : Rp ((((w2.setCell ⟨g, 11, none⟩ (.bool true)).setCell ⟨g, 7, none⟩ (.bool true)).setCell ⟨g, 8, none⟩ (.bool sw)).setCell ⟨g, 6, none⟩ (.slice A5 lb.length n5)) ok g r1.1 := by rw [e1]; exact ⟨v0, u0, v1, (.slice A5 lb.length n5), blk_set (blk_set (blk_set (blk_set (blk_below HT.out.blk HBe.out) 11 _) 7 _) 8 _) 6 _, vb_kp HT.out.a0 K HG.out, vb_kp HT.out.a1 K HG.out, vb_kp HT.out.a2 K HG.out, vb_kp (vb_new HO2.out (fun k hk => HN.out k (Nat.le_trans HKr.out.size hk))) K1 HG.out⟩
            exact ⟨by rw [hr]; rfl, by rw [hr]; exact e2, HKr.out.trans K⟩
          · have hz1 : (fu == 0) = false := by simpa using hz
            have HZ := Aside0.mk hz
            by_cases hp : 0 < fu
            · have hp1 : decide (0 < fu) = true := decide_eq_true hp
              have hw : wrap64 (fu - 1) = fu - 1 := w64 _ (by omega) (by omega)
              have HP := Aside0.mk hp
              obtain ⟨wx, hwx⟩ : ∃ wx, wx = wr.setCell ⟨g, 10, none⟩ (.int .i64 (fu - 1)) := ⟨_, rfl⟩
              have HT0 := HT
              have hkx : Kp wr wx g := by rw [hwx]; exact (Kp.refl wr g).set 10 _
              replace HT : Aside0 (Rv wx ok g v0 u0 v1 u1 ⟨⟨b0, l0, sw0, we0, lo0⟩, ⟨b1, l1, sw1, we1, false⟩, (fu - 1), dn⟩) := ⟨rv_kp HT.out hkx HG.out (by rw [hwx]; exact blk_set HT.out.blk 10 _) rfl rfl rfl rfl⟩
              have HKx := Aside0.mk (HKr.out.trans hkx)
              have HWX := Aside0.mk hwx
              clear hkx hwx hz hp
              go_upto_region 15 with fail
              rw [← HWX.out]
              clear c0 c1 c2 c3 c4 c5 c6 c7 c8 c9 c10 c11 hfz
              obtain ⟨c0, c1, c2, c3, c4, c5, c6, c7, c8, c9, c10, c11, hfz⟩ := rc_cell HT.out.blk
              simp only at c0 c1 c2 c3 c4 c5 c6 c7 c8 c9 c10 c11
              have HFx : Aside0 (Kd.F U8 wx okb A lb.length lb) := ⟨f_kp HFb.out HKx.out HGB.out⟩
              have HM : Aside0 (U8.R 5 (wx.alloc (.cells #[] 5)) wx.heap.size (fun _ => True) (.slice (some ⟨wx.heap.size, 0, none⟩) 0 0) []) := ⟨⟨fun _ _ => trivial, [], World.ownsRow_made wx #[] 0 (Nat.le_refl _) (Nat.zero_le _) rfl, Reps.none _ _⟩⟩
              have HBm : Aside0 (Below wx.heap.size wx (wx.alloc (.cells #[] 5))) := ⟨(Below.refl _ _).alloc (Nat.le_refl _) _⟩
              cases sw
              · have HE : Aside0 (Ta.step1 ⟨⟨b0, l0, sw0, we0, lo0⟩, ⟨b1, l1, sw1, we1, false⟩, fu, dn⟩ lb false = (⟨⟨b0, l0, sw0, we0, lo0⟩, ⟨b1 ++ lb, l1, sw1, we1, false⟩, (fu - 1), dn⟩, true)) := ⟨by simp [Ta.step1, Ta.one1, Ta.burn, Sd.apply, HZ.out, HP.out]⟩
                obtain ⟨A6, d6, e6, hl6, hF6⟩ := HT.out.a2
                have HV6 := Aside0.mk hF6
                subst e6
                have hgl : g < wx.heap.size := blk_lt HT.out.blk
                clear hF6 hl6
                go_wp2_with (first | (at_builtin; go_loud (refine Kd.R_append_rows U8 (w0 := wx) (Rr := U8.K wx) wx.heap.size rfl (.tmp 81) (.tmp 85) 22 5 (.int .u8 0) 1 rfl Try.underlying22 info5 rfl (by decide) (by decide) (.slice (some ⟨wx.heap.size, 0, none⟩) 0 0) [] b1 A6 b1.length d6 (fun _ => True) (fun _ => False) rfl rfl HM.out (Kd.C_below (Kd.F_now HV6.out) HBm.out) (fun _ _ h => h) (fun _ hk => hk.elim) (fun _ _ => trivial) HBm.out HBm.out.size ?aL ?_; (case aL => have := HL.out; simp only [List.length_nil]; omega); intro v2 w1 ho hb hg hat; have HO1 : Aside0 (U8.R 5 w1 wx.heap.size (fun _ => True) v2 b1) := ⟨ho⟩; have HB1 := Aside0.mk hb; clear ho hb hg hat HM HBm)) | (at_builtin; go_loud (refine Kd.R_append_rows U8 (w0 := wx) (Rr := U8.K wx) wx.heap.size rfl (.tmp 86) (.tmp 87) 22 5 (.int .u8 0) 1 rfl Try.underlying22 info5 rfl (by decide) (by decide) v2 b1 lb A lb.length c (fun _ => True) (fun _ => False) rfl rfl HO1.out (Kd.C_below (Kd.F_now HFx.out) HB1.out) (fun _ _ h => h) (fun _ hk => hk.elim) (fun _ _ => trivial) HB1.out HB1.out.size ?aL ?_; (case aL => have := HL.out; omega); intro v5 w2 ho hb hg hat; obtain ⟨A5, n5, e5⟩ := Kd.R_slice ho; subst e5; have HO2 : Aside0 (U8.R 5 w2 wx.heap.size (fun _ => True) (.slice A5 (b1.length + lb.length) n5) (b1 ++ lb)) := ⟨by simpa using ho⟩; have HBe := Aside0.mk hb; have hbk := Aside0.mk (blk_below HT.out.blk hb); have hc5 : w2.cell? ⟨g, 5, none⟩ = some (.slice A6 b1.length d6) := (blk_cell hbk.out 5).trans rfl; have hfz1 : w2.frozen? ⟨g, 5, none⟩ = false := blk_frozen hbk.out 5; clear ho hb hg hat)))
                go_roundw
                case rel =>
                  have K1 : Kp w2 (w2.setCell ⟨g, 5, none⟩ (.slice A5 (b1.length + lb.length) n5)) g := (Kp.refl _ g).set 5 _
                  have K : Kp wx (w2.setCell ⟨g, 5, none⟩ (.slice A5 (b1.length + lb.length) n5)) g := (Kp.of_below HBe.out g).set 5 _
                  have e1 : r1 = (⟨⟨b0, l0, sw0, we0, lo0⟩, ⟨b1 ++ lb, l1, sw1, we1, false⟩, (fu - 1), dn⟩, true) := HS.out.trans HE.out
                  have e2 : Rp (w2.setCell ⟨g, 5, none⟩ (.slice A5 (b1.length + lb.length) n5)) ok g r1.1 := by rw [e1]; exact ⟨v0, u0, (.slice A5 (b1.length + lb.length) n5), u1, blk_set (blk_below HT.out.blk HBe.out) 5 _, vb_kp HT.out.a0 K HG.out, vb_kp HT.out.a1 K HG.out, vb_kp (vb_new HO2.out (fun k hk => HN.out k (Nat.le_trans HKx.out.size hk))) K1 HG.out, vb_kp HT.out.a3 K HG.out⟩
                  have e3 : r1.2 = true := by rw [e1]
                  exact .inr (.inr ⟨by go_num, e2, HKx.out.trans K, HDr.out, e3⟩)
                case measure => simp [intOf]
              · have HE : Aside0 (Ta.step1 ⟨⟨b0, l0, sw0, we0, lo0⟩, ⟨b1, l1, sw1, we1, false⟩, fu, dn⟩ lb true = (⟨⟨b0, l0, sw0, we0, lo0⟩, ⟨lb, l1, sw1, we1, false⟩, (fu - 1), dn⟩, true)) := ⟨by simp [Ta.step1, Ta.one1, Ta.burn, Sd.apply, HZ.out, HP.out]⟩
                obtain ⟨A6, d6, e6, hl6, hF6⟩ := HT.out.a2
                subst e6
                clear hF6 hl6
                go_wp2_with (at_builtin; go_loud (refine Kd.R_append_rows U8 (w0 := wx) (Rr := U8.K wx) wx.heap.size rfl (.tmp 75) (.tmp 76) 22 5 (.int .u8 0) 1 rfl Try.underlying22 info5 rfl (by decide) (by decide) (.slice (some ⟨wx.heap.size, 0, none⟩) 0 0) [] lb A lb.length c (fun _ => True) (fun _ => False) rfl rfl HM.out (Kd.C_below (Kd.F_now HFx.out) HBm.out) (fun _ _ h => h) (fun _ hk => hk.elim) (fun _ _ => trivial) HBm.out HBm.out.size ?aL ?_; (case aL => have := HL.out; simp only [List.length_nil]; omega); intro v5 w2 ho hb hg hat; obtain ⟨A5, n5, e5⟩ := Kd.R_slice ho; subst e5; have HO2 : Aside0 (U8.R 5 w2 wx.heap.size (fun _ => True) (.slice A5 lb.length n5) lb) := ⟨by simpa using ho⟩; have HBe := Aside0.mk hb; have hbk := Aside0.mk (blk_below HT.out.blk hb); have hc5 : w2.cell? ⟨g, 5, none⟩ = some (.slice A6 b1.length d6) := (blk_cell hbk.out 5).trans rfl; have hfz1 : w2.frozen? ⟨g, 5, none⟩ = false := blk_frozen hbk.out 5; clear ho hb hg hat HM HBm))
                go_roundw
                case rel =>
                  have K1 : Kp w2 (w2.setCell ⟨g, 5, none⟩ (.slice A5 lb.length n5)) g := (Kp.refl _ g).set 5 _
                  have K : Kp wx (w2.setCell ⟨g, 5, none⟩ (.slice A5 lb.length n5)) g := (Kp.of_below HBe.out g).set 5 _
                  have e1 : r1 = (⟨⟨b0, l0, sw0, we0, lo0⟩, ⟨lb, l1, sw1, we1, false⟩, (fu - 1), dn⟩, true) := HS.out.trans HE.out
                  have e2 : Rp (w2.setCell ⟨g, 5, none⟩ (.slice A5 lb.length n5)) ok g r1.1 := by rw [e1]; exact ⟨v0, u0, (.slice A5 lb.length n5), u1, blk_set (blk_below HT.out.blk HBe.out) 5 _, vb_kp HT.out.a0 K HG.out, vb_kp HT.out.a1 K HG.out, vb_kp (vb_new HO2.out (fun k hk => HN.out k (Nat.le_trans HKx.out.size hk))) K1 HG.out, vb_kp HT.out.a3 K HG.out⟩
                  have e3 : r1.2 = true := by rw [e1]
                  exact .inr (.inr ⟨by go_num, e2, HKx.out.trans K, HDr.out, e3⟩)
                case measure => simp [intOf]
            · have hp1 : decide (0 < fu) = false := decide_eq_false hp
              have HP := Aside0.mk hp
              have HKx := HKr
              clear hz hp
              have HFx : Aside0 (Kd.F U8 wr okb A lb.length lb) := ⟨f_kp HFb.out HKx.out HGB.out⟩
              have HM : Aside0 (U8.R 5 (wr.alloc (.cells #[] 5)) wr.heap.size (fun _ => True) (.slice (some ⟨wr.heap.size, 0, none⟩) 0 0) []) := ⟨⟨fun _ _ => trivial, [], World.ownsRow_made wr #[] 0 (Nat.le_refl _) (Nat.zero_le _) rfl, Reps.none _ _⟩⟩
              have HBm : Aside0 (Below wr.heap.size wr (wr.alloc (.cells #[] 5))) := ⟨(Below.refl _ _).alloc (Nat.le_refl _) _⟩
              cases sw
              · have HE : Aside0 (Ta.step1 ⟨⟨b0, l0, sw0, we0, lo0⟩, ⟨b1, l1, sw1, we1, false⟩, fu, dn⟩ lb false = (⟨⟨b0, l0, sw0, we0, lo0⟩, ⟨b1 ++ lb, l1, sw1, we1, false⟩, fu, dn⟩, true)) := ⟨by simp [Ta.step1, Ta.one1, Ta.burn, Sd.apply, HZ.out, HP.out]⟩
                obtain ⟨A6, d6, e6, hl6, hF6⟩ := HT.out.a2
                have HV6 := Aside0.mk hF6
                subst e6
                have hgl : g < wr.heap.size := blk_lt HT.out.blk
                clear hF6 hl6
                go_wp2_with (first | (at_builtin; go_loud (refine Kd.R_append_rows U8 (w0 := wr) (Rr := U8.K wr) wr.heap.size rfl (.tmp 81) (.tmp 85) 22 5 (.int .u8 0) 1 rfl Try.underlying22 info5 rfl (by decide) (by decide) (.slice (some ⟨wr.heap.size, 0, none⟩) 0 0) [] b1 A6 b1.length d6 (fun _ => True) (fun _ => False) rfl rfl HM.out (Kd.C_below (Kd.F_now HV6.out) HBm.out) (fun _ _ h => h) (fun _ hk => hk.elim) (fun _ _ => trivial) HBm.out HBm.out.size ?aL ?_; (case aL => have := HL.out; simp only [List.length_nil]; omega); intro v2 w1 ho hb hg hat; have HO1 : Aside0 (U8.R 5 w1 wr.heap.size (fun _ => True) v2 b1) := ⟨ho⟩; have HB1 := Aside0.mk hb; clear ho hb hg hat HM HBm)) | (at_builtin; go_loud (refine Kd.R_append_rows U8 (w0 := wr) (Rr := U8.K wr) wr.heap.size rfl (.tmp 86) (.tmp 87) 22 5 (.int .u8 0) 1 rfl Try.underlying22 info5 rfl (by decide) (by decide) v2 b1 lb A lb.length c (fun _ => True) (fun _ => False) rfl rfl HO1.out (Kd.C_below (Kd.F_now HFx.out) HB1.out) (fun _ _ h => h) (fun _ hk => hk.elim) (fun _ _ => trivial) HB1.out HB1.out.size ?aL ?_; (case aL => have := HL.out; omega); intro v5 w2 ho hb hg hat; obtain ⟨A5, n5, e5⟩ := Kd.R_slice ho; subst e5; have HO2 : Aside0 (U8.R 5 w2 wr.heap.size (fun _ => True) (.slice A5 (b1.length + lb.length) n5) (b1 ++ lb)) := ⟨by simpa using ho⟩; have HBe := Aside0.mk hb; have hbk := Aside0.mk (blk_below HT.out.blk hb); have hc5 : w2.cell? ⟨g, 5, none⟩ = some (.slice A6 b1.length d6) := (blk_cell hbk.out 5).trans rfl; have hfz1 : w2.frozen? ⟨g, 5, none⟩ = false := blk_frozen hbk.out 5; clear ho hb hg hat)))
                go_roundw
                case rel =>
                  have K1 : Kp w2 (w2.setCell ⟨g, 5, none⟩ (.slice A5 (b1.length + lb.length) n5)) g := (Kp.refl _ g).set 5 _
                  have K : Kp wr (w2.setCell ⟨g, 5, none⟩ (.slice A5 (b1.length + lb.length) n5)) g := (Kp.of_below HBe.out g).set 5 _
                  have e1 : r1 = (⟨⟨b0, l0, sw0, we0, lo0⟩, ⟨b1 ++ lb, l1, sw1, we1, false⟩, fu, dn⟩, true) := HS.out.trans HE.out
                  have e2 : Rp (w2.setCell ⟨g, 5, none⟩ (.slice A5 (b1.length + lb.length) n5)) ok g r1.1 := by rw [e1]; exact ⟨v0, u0, (.slice A5 (b1.length + lb.length) n5), u1, blk_set (blk_below HT.out.blk HBe.out) 5 _, vb_kp HT.out.a0 K HG.out, vb_kp HT.out.a1 K HG.out, vb_kp (vb_new HO2.out (fun k hk => HN.out k (Nat.le_trans HKx.out.size hk))) K1 HG.out, vb_kp HT.out.a3 K HG.out⟩
                  have e3 : r1.2 = true := by rw [e1]
                  exact .inr (.inr ⟨by go_num, e2, HKx.out.trans K, HDr.out, e3⟩)
                case measure => simp [intOf]
              · have HE : Aside0 (Ta.step1 ⟨⟨b0, l0, sw0, we0, lo0⟩, ⟨b1, l1, sw1, we1, false⟩, fu, dn⟩ lb true = (⟨⟨b0, l0, sw0, we0, lo0⟩, ⟨lb, l1, sw1, we1, false⟩, fu, dn⟩, true)) := ⟨by simp [Ta.step1, Ta.one1, Ta.burn, Sd.apply, HZ.out, HP.out]⟩
                obtain ⟨A6, d6, e6, hl6, hF6⟩ := HT.out.a2
                subst e6
                clear hF6 hl6
                go_wp2_with (at_builtin; go_loud (refine Kd.R_append_rows U8 (w0 := wr) (Rr := U8.K wr) wr.heap.size rfl (.tmp 75) (.tmp 76) 22 5 (.int .u8 0) 1 rfl Try.underlying22 info5 rfl (by decide) (by decide) (.slice (some ⟨wr.heap.size, 0, none⟩) 0 0) [] lb A lb.length c (fun _ => True) (fun _ => False) rfl rfl HM.out (Kd.C_below (Kd.F_now HFx.out) HBm.out) (fun _ _ h => h) (fun _ hk => hk.elim) (fun _ _ => trivial) HBm.out HBm.out.size ?aL ?_; (case aL => have := HL.out; simp only [List.length_nil]; omega); intro v5 w2 ho hb hg hat; obtain ⟨A5, n5, e5⟩ := Kd.R_slice ho; subst e5; have HO2 : Aside0 (U8.R 5 w2 wr.heap.size (fun _ => True) (.slice A5 lb.length n5) lb) := ⟨by simpa using ho⟩; have HBe := Aside0.mk hb; have hbk := Aside0.mk (blk_below HT.out.blk hb); have hc5 : w2.cell? ⟨g, 5, none⟩ = some (.slice A6 b1.length d6) := (blk_cell hbk.out 5).trans rfl; have hfz1 : w2.frozen? ⟨g, 5, none⟩ = false := blk_frozen hbk.out 5; clear ho hb hg hat HM HBm))
                go_roundw
                case rel =>
                  have K1 : Kp w2 (w2.setCell ⟨g, 5, none⟩ (.slice A5 lb.length n5)) g := (Kp.refl _ g).set 5 _
                  have K : Kp wr (w2.setCell ⟨g, 5, none⟩ (.slice A5 lb.length n5)) g := (Kp.of_below HBe.out g).set 5 _
                  have e1 : r1 = (⟨⟨b0, l0, sw0, we0, lo0⟩, ⟨lb, l1, sw1, we1, false⟩, fu, dn⟩, true) := HS.out.trans HE.out
                  have e2 : Rp (w2.setCell ⟨g, 5, none⟩ (.slice A5 lb.length n5)) ok g r1.1 := by rw [e1]; exact ⟨v0, u0, (.slice A5 lb.length n5), u1, blk_set (blk_below HT.out.blk HBe.out) 5 _, vb_kp HT.out.a0 K HG.out, vb_kp HT.out.a1 K HG.out, vb_kp (vb_new HO2.out (fun k hk => HN.out k (Nat.le_trans HKx.out.size hk))) K1 HG.out, vb_kp HT.out.a3 K HG.out⟩
                  have e3 : r1.2 = true := by rw [e1]
                  exact .inr (.inr ⟨by go_num, e2, HKx.out.trans K, HDr.out, e3⟩)
                case measure => simp [intOf]
      · have HTr := Aside0.mk hTr
        have HKr := Aside0.mk hKr
        have hr := Aside0.mk (HW2.out hDr hDr1)
        clear hDr hDr1 hTr hKr
        go_wp2
        go_ret
        exact ⟨by rw [hr.out]; rfl, by rw [hr.out]; exact HTr.out, HKr.out⟩
end Go.Proofs.Ytfjjfoijjlpcjaa.Tp
