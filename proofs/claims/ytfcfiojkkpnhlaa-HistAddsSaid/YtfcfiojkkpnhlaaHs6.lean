/- Histories: lists of calls whose bytes are only read; same. -/
import Derived.Test.YtfcfiojkkpnhlaaProg
import Derived.Below
import Derived.Deep.Draws
import Derived.Deep.AppendLies
import Derived.Maps.AppendAt
import Derived.OwnWalk
import Derived.Laws.BytesArg
import Derived.Laws.MakeOwn
import Derived.Laws.OwnMore
import Derived.Deep.OwnRows
import Derived.Tactics
import Derived.Lib.ConvBytes
import Derived.Laws.Slices
import Derived.WalkKit
import Derived.KernelRfl
import Derived.RowKit3
import Derived.Deep.LoopGhost
import Derived.Deep.QuietTactic
import Derived.BigQuiet
import Derived.WideLaws
import Derived.Deep.DeepCutAuto
import Derived.Deep.CutBlock
import Derived.Deep.RegionHeld3
import Derived.Laws.Rows
import Derived.Lib.AppendStr
import Derived.ArgAppend
import Derived.Laws.IdiomCopy
import Derived.OrdersHeld
import Derived.Laws.BitsLemmas
import Derived.RowKit
import Derived.Test.YtfcfiojkkpnhlaaWWords
import Derived.Test.YtfcfiojkkpnhlaaWLast
import Derived.Test.YtfcfiojkkpnhlaaWTab
import Derived.Test.YtfcfiojkkpnhlaaWFour
import Derived.Test.YtfcfiojkkpnhlaaWQPut
import Derived.Test.YtfcfiojkkpnhlaaWApart
import Derived.Test.YtfcfiojkkpnhlaaWArr
import Derived.Test.YtfcfiojkkpnhlaaWZeros
import Derived.Test.YtfcfiojkkpnhlaaWFoot
import Derived.Test.YtfcfiojkkpnhlaaWKept
import Derived.Test.YtfcfiojkkpnhlaaWShare
import Derived.Test.YtfcfiojkkpnhlaaWN
import Derived.Test.YtfcfiojkkpnhlaaWFootNe
import Derived.Test.YtfcfiojkkpnhlaaWAt
import Derived.Test.YtfcfiojkkpnhlaaWEqStruct
import Derived.Test.YtfcfiojkkpnhlaaWRepsOne
import Derived.Test.YtfcfiojkkpnhlaaWInv
import Derived.Test.YtfcfiojkkpnhlaaWInvWords
import Derived.Test.YtfcfiojkkpnhlaaWGuard
import Derived.Test.YtfcfiojkkpnhlaaWNEv
import Derived.Test.YtfcfiojkkpnhlaaWMore
import Derived.Test.YtfcfiojkkpnhlaaHs5
namespace Go.Proofs.Ytfcfiojkkpnhlaa.Hs
open Go.RowKit Go.Proofs.YtfcfiojkkpnhlaaW.PrintWords Go.Proofs.YtfcfiojkkpnhlaaW.PrintLast Go.Proofs.YtfcfiojkkpnhlaaW.PrintMore
attribute [local go_sem] max2_int min2_int max_two min_two max_three min_three max_four min_four
set_option linter.unusedVariables false
set_option linter.unusedSimpArgs false
open Go.Proofs.Ytfcfiojkkpnhlaa.Mp
abbrev CKyt : Kd (Int × Int × ByteArray × List Int × Int × Int × Int × Int × List Int × List ByteArray) :=
  Kd.pair (Kd.int .i64) (Kd.pair (Kd.int .i64) (Kd.pair Kd.string (Kd.pair By (Kd.pair (Kd.int .i64) (Kd.pair (Kd.int .i64) (Kd.pair (Kd.int .i64) (Kd.pair (Kd.int .i64) (Kd.pair By Ks))))))))
abbrev CKy : Kd Cl := Kd.iso CKyt Cl.tup
theorem by_one {W : World} {xs : List Int} {cs : List Value} (h : By.K W xs cs) : ∃ v, cs = [v] := List.length_eq_one_iff.1 (By.K_len h)
theorem cly_K {W : World} {c : Cl} {cs : List Value} (h : CKy.K W c cs) : ∃ vd vo vk, cs = cc c vd vo vk ∧ By.K W c.data [vd] ∧ By.K W c.out [vo] ∧ Ks.K W c.keys [vk] := by
  obtain ⟨c0, r0, rfl, h0, c1, r1, rfl, h1, c2, r2, rfl, h2, c3, r3, rfl, h3, c4, r4, rfl, h4, c5, r5, rfl, h5, c6, r6, rfl, h6, c7, r7, rfl, h7, c8, c9, rfl, h8, h9⟩ := h
  have e0 : c0 = [.int .i64 c.task] := h0
  have e1 : c1 = [.int .i64 c.op] := h1
  have e2 : c2 = [.string c.key] := h2
  have e4 : c4 = [.int .i64 c.from_] := h4
  have e5 : c5 = [.int .i64 c.to_] := h5
  have e6 : c6 = [.int .i64 c.at_] := h6
  have e7 : c7 = [.int .i64 c.e] := h7
  obtain ⟨vd, rfl⟩ := by_one h3
  obtain ⟨vo, rfl⟩ := by_one h8
  obtain ⟨vk, rfl⟩ := ks_one h9
  subst e0 e1 e2 e4 e5 e6 e7
  exact ⟨vd, vo, vk, rfl, h3, h8, h9⟩
theorem cly_fk {W : World} {ok : Nat → Prop} {c : Cl} {vd vo vk : Value} (hd : Vb W ok vd c.data) (ho : Vb W ok vo c.out) (hk : Vs W ok vk c.keys) : Kd.FK CKy W ok c (cc c vd vo vk) := fun W' hW =>
  ⟨[_], _, rfl, rfl, [_], _, rfl, rfl, [_], _, rfl, rfl, [_], _, rfl, vb_fk hd W' hW, [_], _, rfl, rfl, [_], _, rfl, rfl, [_], _, rfl, rfl, [_], _, rfl, rfl, [_], [_], rfl, vb_fk ho W' hW, vs_fk hk W' hW⟩
theorem fk_cly {W : World} {ok : Nat → Prop} {c : Cl} {cs : List Value} (h : Kd.FK CKy W ok c cs) : ∃ vd vo vk, cs = cc c vd vo vk ∧ Vb W ok vd c.data ∧ Vb W ok vo c.out ∧ Vs W ok vk c.keys := by
  obtain ⟨vd, vo, vk, rfl, _, _, _⟩ := cly_K (Kd.FK_now h)
  have hh : ∀ W', (∀ k, ok k → k < W.heap.size → W'.heap[k]? = W.heap[k]?) → By.K W' c.data [vd] ∧ By.K W' c.out [vo] ∧ Ks.K W' c.keys [vk] := fun W' hW => by
    obtain ⟨vd', vo', vk', e, g1, g2, g3⟩ := cly_K (h W' hW)
    simp only [cc, List.cons.injEq, and_true, true_and] at e
    obtain ⟨rfl, rfl, rfl⟩ := e
    exact ⟨g1, g2, g3⟩
  exact ⟨vd, vo, vk, rfl, fk_vb (fun W' hW => (hh W' hW).1), fk_vb (fun W' hW => (hh W' hW).2.1), fk_vs (fun W' hW => (hh W' hW).2.2)⟩
theorem fk_y {W : World} {ok : Nat → Prop} {c : Cl} {cs : List Value} (h : Kd.FK CK W ok c cs) : Kd.FK CKy W ok c cs := by
  obtain ⟨vd, vo, vk, rfl, h1, h2, h3⟩ := fk_cl h
  exact cly_fk (vo_vb h1) (vo_vb h2) h3
theorem n_y {W : World} {base : Nat} {ok : Nat → Prop} {v : Value} {l : List Cl} (h : Kd.N CK 40 W base ok v l) : Kd.N CKy 40 W base ok v l := by
  obtain ⟨h0, rows, hlr, hR, hf⟩ := h
  exact ⟨h0, rows, hlr, hR, fun j x c hx hc => fk_y (hf j x c hx hc)⟩
section
variable {W : World} {ok : Nat → Prop}
theorem hly_elem {gl len cap : Nat} {l : List Cl} (hN : Kd.N CKy 40 W 0 ok (.slice (some ⟨gl, 0, none⟩) len cap) l) (n : Nat) (hn : n < l.length) :
    ∃ vd vo vk, (∀ j u, (cc (l.getD n clz) vd vo vk)[j]? = some u → W.cell? ⟨gl, n * 10 + j, none⟩ = some u) ∧ (∀ j, W.frozen? ⟨gl, n * 10 + j, none⟩ = false) ∧
      Vb W (fun k => ok k ∧ k ≠ gl) vd (l.getD n clz).data ∧ Vb W (fun k => ok k ∧ k ≠ gl) vo (l.getD n clz).out ∧ Vs W (fun k => ok k ∧ k ≠ gl) vk (l.getD n clz).keys := by
  have hl := (Kd.N_reads' hN).1
  obtain ⟨c, hcl, hF, hc, hf⟩ := Kd.N_elem hN clz (n : Int) (by omega) (by omega)
  simp only [Int.toNat_natCast] at hF hc hf
  obtain ⟨vd, vo, vk, rfl, h1, h2, h3⟩ := fk_cly hF
  exact ⟨vd, vo, vk, hc, hf, h1, h2, h3⟩
theorem hly_put {base gl len cap : Nat} {l : List Cl} (hN : Kd.N CKy 40 W base ok (.slice (some ⟨gl, 0, none⟩) len cap) l) (n : Nat) (hn : n < l.length) {cs : List Value} (hcl : cs.length = 10) (hcc : ∀ j u, cs[j]? = some u → W.cell? ⟨gl, n * 10 + j, none⟩ = some u)
    (j : Nat) (hj : j < 10) (u : Value) {c' : Cl} {okp : Nat → Prop} (hM : Kd.FK CKy W okp c' (cs.set j u)) (hokp : ∀ k, okp k → ok k ∧ k ≠ gl) :
    Kd.N CKy 40 (W.setCell ⟨gl, n * 10 + j, none⟩ u) base ok (.slice (some ⟨gl, 0, none⟩) len cap) (l.set n c') ∧ (∀ i x, (cs.set j u)[i]? = some x → (W.setCell ⟨gl, n * 10 + j, none⟩ u).cell? ⟨gl, n * 10 + i, none⟩ = some x) := by
  have hl := (Kd.N_reads' hN).1
  have hset : cs.set j u = cs.take j ++ [u] ++ cs.drop (j + 1) := by
    rw [List.set_eq_take_append_cons_drop, if_pos (by omega)]; simp
  obtain ⟨h1, _⟩ := Kd.N_seg hN (n : Int) (by omega) (by omega) (c := cs) (seg := [u]) (j := j) (x' := c') (okp := okp) hcl (by rw [Int.toNat_natCast]; exact hcc) (show j + 1 ≤ 10 by omega) (by rw [show [u].length = 1 from rfl, ← hset]; exact hM) hokp
  rw [Int.toNat_natCast] at h1
  refine ⟨h1, fun i x hx => ?_⟩
  by_cases hij : i = j
  · subst hij
    rw [List.getElem?_set_self (by omega)] at hx
    injection hx with hx
    subst hx
    have h0 := hcc i _ (List.getElem?_eq_getElem (by omega))
    exact World.cell?_setCell_same _ _ _ h0
  · rw [List.getElem?_set_ne (Ne.symm hij)] at hx
    rw [World.cell?_setCell_other _ _ _ _ (fun e => hij (by injection e with _ e; omega))]
    exact hcc i x hx
end
/-- A block's cells are written, one by one. -/
def fillRow (w : World) (p : Nat) : Nat → List Value → World
  | _, [] => w
  | j, v :: vs => fillRow (w.setCell ⟨p, j, none⟩ v) p (j + 1) vs
theorem fill_row (t : TypeId) (p : Nat) : ∀ (vs : List Value) (w : World) (j : Nat) (cs : List Value), w.heap[p]? = some (.cells cs.toArray t (0, 0)) → cs.length = j + vs.length →
    (fillRow w p j vs).heap[p]? = some (.cells (cs.take j ++ vs).toArray t (0, 0)) ∧ (∀ k, k ≠ p → (fillRow w p j vs).heap[k]? = w.heap[k]?) ∧ Below p w (fillRow w p j vs)
  | [], w, j, cs, hb, hl => ⟨by rw [List.append_nil, List.take_of_length_le (by simp at hl; omega)]; exact hb, fun k _ => rfl, Below.refl _ _⟩
  | v :: vs, w, j, cs, hb, hl => by
    simp only [List.length_cons] at hl
    have hb2 := blk_set hb j v
    rw [show (cs.toArray.setIfInBounds j v) = (cs.set j v).toArray from by simp] at hb2
    obtain ⟨h1, h2, h3⟩ := fill_row t p vs (w.setCell ⟨p, j, none⟩ v) (j + 1) (cs.set j v) hb2 (by simp; omega)
    refine ⟨?_, fun k hk => (h2 k hk).trans (Below.heap_setCell _ _ _ _ hk), ((Below.refl _ _).setCell (p := ⟨p, j, none⟩) (Nat.le_refl _) _).trans h3⟩
    show (fillRow (w.setCell ⟨p, j, none⟩ v) p (j + 1) vs).heap[p]? = _
    rw [h1]
    congr 3
    rw [List.take_add_one]
    simp only [List.append_assoc]
    congr 1
    · apply List.ext_getElem?
      intro i
      simp only [List.getElem?_take, List.getElem?_set]
      by_cases hi : i < j
      · rw [if_pos hi, if_pos hi, if_neg (by omega)]
      · rw [if_neg hi, if_neg hi]
    · rw [List.getElem?_set_self (by omega)]; rfl
theorem fill_all (w : World) (p : Nat) (cs vs : List Value) (t : TypeId) (hb : w.heap[p]? = some (.cells cs.toArray t (0, 0))) (hl : cs.length = vs.length) :
    ∃ W, fillRow w p 0 vs = W ∧ W.heap[p]? = some (.cells vs.toArray t (0, 0)) ∧ (∀ k, k ≠ p → W.heap[k]? = w.heap[k]?) ∧ Below p w W := by
  obtain ⟨h1, h2, h3⟩ := fill_row t p vs w 0 cs hb (by omega)
  exact ⟨_, rfl, by simpa using h1, h2, h3⟩
/-- Two new blocks: in either order. -/
theorem two_new (w : World) (o1 o2 : Obj) : w.heap.size ≠ w.heap.size + 1 ∧ ((w.drew.alloc o1).alloc o2).heap[w.heap.size]? = some o1 ∧ ((w.drew.alloc o1).alloc o2).heap[w.heap.size + 1]? = some o2 ∧ Below w.heap.size w ((w.drew.alloc o1).alloc o2) ∧ w.heap.size < ((w.drew.alloc o1).alloc o2).heap.size ∧ w.heap.size + 1 < ((w.drew.alloc o1).alloc o2).heap.size := by
  have h1 : (w.drew.alloc o1).heap[w.heap.size]? = some o1 := heap_alloc_new w.drew o1
  have hz : (w.drew.alloc o1).heap.size = w.heap.size + 1 := by show (w.heap.push o1).size = _; simp
  have hz2 : ((w.drew.alloc o1).alloc o2).heap.size = w.heap.size + 2 := by show ((w.heap.push o1).push o2).size = _; simp
  have hz0 : w.drew.heap.size = w.heap.size := rfl
  refine ⟨by omega, ?_, ?_, ?_, by omega, by omega⟩
  · exact (Below.heap_alloc _ _ _ (by omega)).trans h1
  · have := heap_alloc_new (w.drew.alloc o1) o2
    rwa [hz] at this
  · exact ((Below.refl _ _).drew.alloc (Nat.le_refl _) _).alloc (by omega) _
def SameOk : Prop := ∀ (A0 : Option Addr) (c0 : Nat) (l : List Int) (A1 : Option Addr) (c1 : Nat) (w : World), U8.C w A0 l.length l → l.length ≤ c0 → U8.C w A1 l.length l → l.length ≤ c1 → l.length < 1000000 → Calls Try.prog 12 #[.slice A0 l.length c0, .slice A1 l.length c1] w fun e w' => e = .returned (.bool true) ∧ Drawn0 w w'
set_option maxRecDepth 100000 in
set_option maxHeartbeats 4000000 in
theorem same_calls (va vb : Value) (l : List Cl) (ok1 ok2 : Nat → Prop) (w : World) (H1 : Kd.N CKy 40 w 0 ok1 va l) (H2 : Kd.N CKy 40 w 0 ok2 vb l) (hll : l.length < 1000000) (HRef : SameOk) (hsm : ∀ n, (l.getD n clz).data.length < 1000000 ∧ (l.getD n clz).out.length < 1000000 ∧ (l.getD n clz).keys.length < 1000000) :
    Calls Try.prog 10 #[va, vb] w fun e w' => e = .returned (.bool true) ∧ Below w.heap.size w w' := by
  obtain ⟨A, ca, rfl⟩ : ∃ A c, va = .slice A l.length c := Kd.N_slice H1
  obtain ⟨B, cb, rfl⟩ : ∃ A c, vb = .slice A l.length c := Kd.N_slice H2
  have HN1 := Aside0.mk H1
  have HN2 := Aside0.mk H2
  have HS := Aside0.mk hsm
  have HRF := Aside0.mk HRef
  clear H1 H2 hsm HRef
  go_enter Try.func10, Try.ntmps10
  go_wp2
  go_loopw [5, 6, 7, 8, 14, 15, 16, 17, 18, 19, 20, 21, 22, 23, 24, 25, 26, 27, 28, 29, 30, 31, 32, 33, 34, 35, 36, 37, 38, 39, 40, 41, 42, 43, 44, 45, 46, 47, 48, 49, 50, 51, 52, 53, 54, 55, 56, 57, 58, 59, 60, 61, 62, 63, 64, 65, 66, 67, 68, 69, 70, 71, 72, 73, 74, 75, 76, 77, 78, 79, 80, 81, 82, 83, 84, 85, 86, 87, 88, 89, 90, 91, 92, 93, 94, 95, 96, 97, 98, 99, 100, 101, 102, 103, 104, 105, 106, 107, 108, 109, 110, 111, 112, 113, 114, 115, 116, 117] (fun x5 x6 x7 x8 x14 x15 x16 x17 x18 x19 x20 x21 x22 x23 x24 x25 x26 x27 x28 x29 x30 x31 x32 x33 x34 x35 x36 x37 x38 x39 x40 x41 x42 x43 x44 x45 x46 x47 x48 x49 x50 x51 x52 x53 x54 x55 x56 x57 x58 x59 x60 x61 x62 x63 x64 x65 x66 x67 x68 x69 x70 x71 x72 x73 x74 x75 x76 x77 x78 x79 x80 x81 x82 x83 x84 x85 x86 x87 x88 x89 x90 x91 x92 x93 x94 x95 x96 x97 x98 x99 x100 x101 x102 x103 x104 x105 x106 x107 x108 x109 x110 x111 x112 x113 x114 x115 x116 x117 wr => ∃ k : Nat, k ≤ l.length ∧ x5 = .int .i64 k ∧ Aside0 (Below w.heap.size w wr)) (fun x5 _ _ _ _ _ _ _ _ _ _ _ _ _ _ _ _ _ _ _ _ _ _ _ _ _ _ _ _ _ _ _ _ _ _ _ _ _ _ _ _ _ _ _ _ _ _ _ _ _ _ _ _ _ _ _ _ _ _ _ _ _ _ _ _ _ _ _ _ _ _ _ _ _ _ _ _ _ _ _ _ _ _ _ _ _ _ _ _ _ _ _ _ _ _ _ _ _ _ _ _ _ _ _ _ _ _ _ _ => l.length - (intOf x5).toNat)
  case atStart => exact ⟨0, Nat.zero_le _, rfl, ⟨Below.refl _ _⟩⟩
  case round =>
    obtain ⟨k, hk, rfl, HB⟩ := hrel
    by_cases hlt : k < l.length
    · obtain ⟨ga, cap1, e1, _, hga, _⟩ := Kd.N_form HN1.out (by omega)
      obtain ⟨gb, cap2, e2, _, hgb, _⟩ := Kd.N_form HN2.out (by omega)
      have hwr := HB.out.size
      have HGA : Aside0 (ga < wr.heap.size) := ⟨by omega⟩
      have HGB : Aside0 (gb < wr.heap.size) := ⟨by omega⟩
      clear hwr hga hgb
      injection e1 with e1 _ e3
      injection e2 with e2 _ e4
      subst e1 e2 e3 e4
      obtain ⟨vd, vo, vk, hca, _, hd, ho, hkk⟩ := hly_elem (Kd.N_below HN1.out HB.out) k hlt
      obtain ⟨vd2, vo2, vk2, hcb, _, hd2, ho2, hk2⟩ := hly_elem (Kd.N_below HN2.out HB.out) k hlt
      obtain ⟨s1, s2, s3⟩ := HS.out k
      obtain ⟨c, hc⟩ : ∃ c, c = l.getD k clz := ⟨_, rfl⟩
      rw [← hc] at hca hcb hd ho hkk hd2 ho2 hk2 s1 s2 s3
      obtain ⟨D, dc, rfl, hd1, hdF⟩ := hd
      obtain ⟨O, oc, rfl, ho1, hoF⟩ := ho
      obtain ⟨S, sc, rfl, hs1, hsF⟩ := hkk
      obtain ⟨D2, dc2, rfl, hd21, hdF2⟩ := hd2
      obtain ⟨O2, oc2, rfl, ho21, hoF2⟩ := ho2
      obtain ⟨S2, sc2, rfl, hs21, hsF2⟩ := hk2
      have q0 : wr.cell? ⟨ga, k * 10, none⟩ = some (.int .i64 c.task) := hca 0 _ rfl
      have q1 : wr.cell? ⟨ga, k * 10 + 1, none⟩ = some (.int .i64 c.op) := hca 1 _ rfl
      have q2 : wr.cell? ⟨ga, k * 10 + 2, none⟩ = some (.string c.key) := hca 2 _ rfl
      have q3 : wr.cell? ⟨ga, k * 10 + 3, none⟩ = some (.slice D c.data.length dc) := hca 3 _ rfl
      have q4 : wr.cell? ⟨ga, k * 10 + 4, none⟩ = some (.int .i64 c.from_) := hca 4 _ rfl
      have q5 : wr.cell? ⟨ga, k * 10 + 5, none⟩ = some (.int .i64 c.to_) := hca 5 _ rfl
      have q6 : wr.cell? ⟨ga, k * 10 + 6, none⟩ = some (.int .i64 c.at_) := hca 6 _ rfl
      have q7 : wr.cell? ⟨ga, k * 10 + 7, none⟩ = some (.int .i64 c.e) := hca 7 _ rfl
      have q8 : wr.cell? ⟨ga, k * 10 + 8, none⟩ = some (.slice O c.out.length oc) := hca 8 _ rfl
      have q9 : wr.cell? ⟨ga, k * 10 + 9, none⟩ = some (.slice S c.keys.length sc) := hca 9 _ rfl
      have q10 : wr.cell? ⟨gb, k * 10, none⟩ = some (.int .i64 c.task) := hcb 0 _ rfl
      have q11 : wr.cell? ⟨gb, k * 10 + 1, none⟩ = some (.int .i64 c.op) := hcb 1 _ rfl
      have q12 : wr.cell? ⟨gb, k * 10 + 2, none⟩ = some (.string c.key) := hcb 2 _ rfl
      have q13 : wr.cell? ⟨gb, k * 10 + 3, none⟩ = some (.slice D2 c.data.length dc2) := hcb 3 _ rfl
      have q14 : wr.cell? ⟨gb, k * 10 + 4, none⟩ = some (.int .i64 c.from_) := hcb 4 _ rfl
      have q15 : wr.cell? ⟨gb, k * 10 + 5, none⟩ = some (.int .i64 c.to_) := hcb 5 _ rfl
      have q16 : wr.cell? ⟨gb, k * 10 + 6, none⟩ = some (.int .i64 c.at_) := hcb 6 _ rfl
      have q17 : wr.cell? ⟨gb, k * 10 + 7, none⟩ = some (.int .i64 c.e) := hcb 7 _ rfl
      have q18 : wr.cell? ⟨gb, k * 10 + 8, none⟩ = some (.slice O2 c.out.length oc2) := hcb 8 _ rfl
      have q19 : wr.cell? ⟨gb, k * 10 + 9, none⟩ = some (.slice S2 c.keys.length sc2) := hcb 9 _ rfl
      have HD1 := Aside0.mk (And.intro hd1 hd21)
      have HO1 := Aside0.mk (And.intro ho1 ho21)
      have HDF := Aside0.mk hdF
      have HDF2 := Aside0.mk hdF2
      have HOF := Aside0.mk hoF
      have HOF2 := Aside0.mk hoF2
      have HSF := Aside0.mk hsF
      have HSF2 := Aside0.mk hsF2
      have HS1 := Aside0.mk (And.intro hs1 hs21)
      clear hca hcb hc hd1 hd21 ho1 ho21 hs1 hs21 hdF hdF2 hoF hoF2 hsF hsF2
      go_upto_region 6 with fail
      refine start_ (n := 12) (S := fun w' => w'.cell? ⟨ga, k * 10, none⟩ = some (.int .i64 c.task) ∧ w'.cell? ⟨ga, k * 10 + 1, none⟩ = some (.int .i64 c.op) ∧ w'.cell? ⟨ga, k * 10 + 2, none⟩ = some (.string c.key) ∧ w'.cell? ⟨ga, k * 10 + 3, none⟩ = some (.slice D c.data.length dc) ∧ w'.cell? ⟨ga, k * 10 + 4, none⟩ = some (.int .i64 c.from_) ∧ w'.cell? ⟨ga, k * 10 + 5, none⟩ = some (.int .i64 c.to_) ∧ w'.cell? ⟨ga, k * 10 + 6, none⟩ = some (.int .i64 c.at_) ∧ w'.cell? ⟨ga, k * 10 + 7, none⟩ = some (.int .i64 c.e) ∧ w'.cell? ⟨ga, k * 10 + 8, none⟩ = some (.slice O c.out.length oc) ∧ w'.cell? ⟨ga, k * 10 + 9, none⟩ = some (.slice S c.keys.length sc) ∧ w'.cell? ⟨gb, k * 10, none⟩ = some (.int .i64 c.task) ∧ w'.cell? ⟨gb, k * 10 + 1, none⟩ = some (.int .i64 c.op) ∧ w'.cell? ⟨gb, k * 10 + 2, none⟩ = some (.string c.key) ∧ w'.cell? ⟨gb, k * 10 + 3, none⟩ = some (.slice D2 c.data.length dc2) ∧ w'.cell? ⟨gb, k * 10 + 4, none⟩ = some (.int .i64 c.from_) ∧ w'.cell? ⟨gb, k * 10 + 5, none⟩ = some (.int .i64 c.to_) ∧ w'.cell? ⟨gb, k * 10 + 6, none⟩ = some (.int .i64 c.at_) ∧ w'.cell? ⟨gb, k * 10 + 7, none⟩ = some (.int .i64 c.e) ∧ w'.cell? ⟨gb, k * 10 + 8, none⟩ = some (.slice O2 c.out.length oc2) ∧ w'.cell? ⟨gb, k * 10 + 9, none⟩ = some (.slice S2 c.keys.length sc2)) (ds := [11]) #[false, false, false, false, false, false, false, false, false, false, false, false] (by kernel_rfl) rfl rfl ⟨q0, q1, q2, q3, q4, q5, q6, q7, q8, q9, q10, q11, q12, q13, q14, q15, q16, q17, q18, q19⟩ (fun hHeld => ?_)
      refine pure_ (i := 0) (N := some 20) (v := ?_) (a' := ?_) #[true, false, false, false, false, false, false, false, false, false, false, false] rfl rfl (by kernel_rfl) (fun _ _ _ h => h) (Or.inl ⟨by rfl, ?_⟩) ?_ ?_
      rotate_left
      · intro w'
        go_simp
        with_reducible rfl
      rotate_left
      · simp only [Act.put, List.setIfInBounds_toArray, List.set_cons_zero, List.set_cons_succ, i64_w, i32_w]
        rfl
      refine pure_ (i := 1) (N := some 21) (v := ?_) (a' := ?_) #[true, true, false, false, false, false, false, false, false, false, false, false] rfl rfl (by kernel_rfl) (fun _ _ _ h => h) (Or.inl ⟨by rfl, ?_⟩) ?_ ?_
      rotate_left
      · intro w'
        go_simp
        with_reducible rfl
      rotate_left
      · simp only [Act.put, List.setIfInBounds_toArray, List.set_cons_zero, List.set_cons_succ, i64_w, i32_w]
        rfl
      refine pure_ (i := 2) (N := some 22) (v := ?_) (a' := ?_) #[true, true, true, false, false, false, false, false, false, false, false, false] rfl rfl (by kernel_rfl) (fun _ _ _ h => h) (Or.inl ⟨by rfl, ?_⟩) ?_ ?_
      rotate_left
      · intro w'
        go_simp
        with_reducible rfl
      rotate_left
      · simp only [Act.put, List.setIfInBounds_toArray, List.set_cons_zero, List.set_cons_succ, i64_w, i32_w]
        rfl
      refine pure_ (i := 4) (N := some 24) (v := ?_) (a' := ?_) #[true, true, true, false, true, false, false, false, false, false, false, false] rfl rfl (by kernel_rfl) (fun _ _ _ h => h) (Or.inl ⟨by rfl, ?_⟩) ?_ ?_
      rotate_left
      · intro w'
        go_simp
        with_reducible rfl
      rotate_left
      · simp only [Act.put, List.setIfInBounds_toArray, List.set_cons_zero, List.set_cons_succ, i64_w, i32_w]
        rfl
      refine pure_ (i := 5) (N := some 25) (v := ?_) (a' := ?_) #[true, true, true, false, true, true, false, false, false, false, false, false] rfl rfl (by kernel_rfl) (fun _ _ _ h => h) (Or.inl ⟨by rfl, ?_⟩) ?_ ?_
      rotate_left
      · intro w'
        go_simp
        with_reducible rfl
      rotate_left
      · simp only [Act.put, List.setIfInBounds_toArray, List.set_cons_zero, List.set_cons_succ, i64_w, i32_w]
        rfl
      refine pure_ (i := 6) (N := some 26) (v := ?_) (a' := ?_) #[true, true, true, false, true, true, true, false, false, false, false, false] rfl rfl (by kernel_rfl) (fun _ _ _ h => h) (Or.inl ⟨by rfl, ?_⟩) ?_ ?_
      rotate_left
      · intro w'
        go_simp
        with_reducible rfl
      rotate_left
      · simp only [Act.put, List.setIfInBounds_toArray, List.set_cons_zero, List.set_cons_succ, i64_w, i32_w]
        rfl
      refine take_ (i := 3) (N := some 23) (v := ?_) (a' := ?_) #[true, true, true, true, true, true, true, false, false, false, false, false] rfl rfl (by kernel_rfl) (fun _ _ _ h => h) (Or.inl ⟨by rfl, ?_⟩) hHeld ?_ ?_
      rotate_left
      · rintro w' ⟨s0, s1, s2, s3, s4, s5, s6, s7, s8, s9, s10, s11, s12, s13, s14, s15, s16, s17, s18, s19⟩
        go_simp
        with_reducible rfl
      rotate_left
      · simp only [Act.put, List.setIfInBounds_toArray, List.set_cons_zero, List.set_cons_succ, i64_w, i32_w]
        rfl
      refine take_ (i := 7) (N := some 27) (v := ?_) (a' := ?_) #[true, true, true, true, true, true, true, true, false, false, false, false] rfl rfl (by kernel_rfl) (fun _ _ _ h => h) (Or.inl ⟨by rfl, ?_⟩) hHeld ?_ ?_
      rotate_left
      · rintro w' ⟨s0, s1, s2, s3, s4, s5, s6, s7, s8, s9, s10, s11, s12, s13, s14, s15, s16, s17, s18, s19⟩
        go_simp
        with_reducible rfl
      rotate_left
      · simp only [Act.put, List.setIfInBounds_toArray, List.set_cons_zero, List.set_cons_succ, i64_w, i32_w]
        rfl
      refine join_ (σ := Nat × Nat) 2 #[true, true, true, true, true, true, true, true, true, true, false, false] (fun s_ => [(6, .pointer (some ⟨s_.1, 0, none⟩)), (7, .pointer (some ⟨s_.2, 0, none⟩))]) (fun s_ w' => (w'.cell? ⟨ga, k * 10, none⟩ = some (.int .i64 c.task) ∧ w'.cell? ⟨ga, k * 10 + 1, none⟩ = some (.int .i64 c.op) ∧ w'.cell? ⟨ga, k * 10 + 2, none⟩ = some (.string c.key) ∧ w'.cell? ⟨ga, k * 10 + 3, none⟩ = some (.slice D c.data.length dc) ∧ w'.cell? ⟨ga, k * 10 + 4, none⟩ = some (.int .i64 c.from_) ∧ w'.cell? ⟨ga, k * 10 + 5, none⟩ = some (.int .i64 c.to_) ∧ w'.cell? ⟨ga, k * 10 + 6, none⟩ = some (.int .i64 c.at_) ∧ w'.cell? ⟨ga, k * 10 + 7, none⟩ = some (.int .i64 c.e) ∧ w'.cell? ⟨ga, k * 10 + 8, none⟩ = some (.slice O c.out.length oc) ∧ w'.cell? ⟨ga, k * 10 + 9, none⟩ = some (.slice S c.keys.length sc) ∧ w'.cell? ⟨gb, k * 10, none⟩ = some (.int .i64 c.task) ∧ w'.cell? ⟨gb, k * 10 + 1, none⟩ = some (.int .i64 c.op) ∧ w'.cell? ⟨gb, k * 10 + 2, none⟩ = some (.string c.key) ∧ w'.cell? ⟨gb, k * 10 + 3, none⟩ = some (.slice D2 c.data.length dc2) ∧ w'.cell? ⟨gb, k * 10 + 4, none⟩ = some (.int .i64 c.from_) ∧ w'.cell? ⟨gb, k * 10 + 5, none⟩ = some (.int .i64 c.to_) ∧ w'.cell? ⟨gb, k * 10 + 6, none⟩ = some (.int .i64 c.at_) ∧ w'.cell? ⟨gb, k * 10 + 7, none⟩ = some (.int .i64 c.e) ∧ w'.cell? ⟨gb, k * 10 + 8, none⟩ = some (.slice O2 c.out.length oc2) ∧ w'.cell? ⟨gb, k * 10 + 9, none⟩ = some (.slice S2 c.keys.length sc2)) ∧ s_.1 ≠ s_.2 ∧ w'.heap[s_.1]? = some (.cells #[.int .i64 0, .int .i64 0, .string ⟨#[]⟩, .slice none 0 0, .int .i64 0, .int .i64 0, .int .i64 0, .int .i64 0, .slice none 0 0, .slice none 0 0] 40) ∧ w'.heap[s_.2]? = some (.cells #[.int .i64 0, .int .i64 0, .string ⟨#[]⟩, .slice none 0 0, .int .i64 0, .int .i64 0, .int .i64 0, .int .i64 0, .slice none 0 0, .slice none 0 0] 40) ∧ Below wr.heap.size wr w' ∧ wr.heap.size ≤ s_.1 ∧ wr.heap.size ≤ s_.2 ∧ s_.1 < w'.heap.size ∧ s_.2 < w'.heap.size) ?_ ?_
      rotate_left
      · intro hCont
        refine two_ (i := 8) (j := 9) (Ni := some 6) (Nj := some 7) #[true, true, true, true, true, true, true, true, true, false, false, false] #[true, true, true, true, true, true, true, true, false, true, false, false] rfl rfl rfl rfl (by kernel_rfl) (by decide) (by decide) (fun K hK => ?_) (fun K hK => ?_)
        · skip
          refine value_ (w1 := ?_) (v := ?_) (by rfl) rfl ?_ ?_
          rotate_left 2
          · go_simp
            constructor
            · rfl
            · rfl
          refine hK.out _ _ ⟨(pw_cell_below ((Below.refl _ _).alloc (Nat.le_refl _) _) hHeld.1), (pw_cell_below ((Below.refl _ _).alloc (Nat.le_refl _) _) hHeld.2.1), (pw_cell_below ((Below.refl _ _).alloc (Nat.le_refl _) _) hHeld.2.2.1), (pw_cell_below ((Below.refl _ _).alloc (Nat.le_refl _) _) hHeld.2.2.2.1), (pw_cell_below ((Below.refl _ _).alloc (Nat.le_refl _) _) hHeld.2.2.2.2.1), (pw_cell_below ((Below.refl _ _).alloc (Nat.le_refl _) _) hHeld.2.2.2.2.2.1), (pw_cell_below ((Below.refl _ _).alloc (Nat.le_refl _) _) hHeld.2.2.2.2.2.2.1), (pw_cell_below ((Below.refl _ _).alloc (Nat.le_refl _) _) hHeld.2.2.2.2.2.2.2.1), (pw_cell_below ((Below.refl _ _).alloc (Nat.le_refl _) _) hHeld.2.2.2.2.2.2.2.2.1), (pw_cell_below ((Below.refl _ _).alloc (Nat.le_refl _) _) hHeld.2.2.2.2.2.2.2.2.2.1), (pw_cell_below ((Below.refl _ _).alloc (Nat.le_refl _) _) hHeld.2.2.2.2.2.2.2.2.2.2.1), (pw_cell_below ((Below.refl _ _).alloc (Nat.le_refl _) _) hHeld.2.2.2.2.2.2.2.2.2.2.2.1), (pw_cell_below ((Below.refl _ _).alloc (Nat.le_refl _) _) hHeld.2.2.2.2.2.2.2.2.2.2.2.2.1), (pw_cell_below ((Below.refl _ _).alloc (Nat.le_refl _) _) hHeld.2.2.2.2.2.2.2.2.2.2.2.2.2.1), (pw_cell_below ((Below.refl _ _).alloc (Nat.le_refl _) _) hHeld.2.2.2.2.2.2.2.2.2.2.2.2.2.2.1), (pw_cell_below ((Below.refl _ _).alloc (Nat.le_refl _) _) hHeld.2.2.2.2.2.2.2.2.2.2.2.2.2.2.2.1), (pw_cell_below ((Below.refl _ _).alloc (Nat.le_refl _) _) hHeld.2.2.2.2.2.2.2.2.2.2.2.2.2.2.2.2.1), (pw_cell_below ((Below.refl _ _).alloc (Nat.le_refl _) _) hHeld.2.2.2.2.2.2.2.2.2.2.2.2.2.2.2.2.2.1), (pw_cell_below ((Below.refl _ _).alloc (Nat.le_refl _) _) hHeld.2.2.2.2.2.2.2.2.2.2.2.2.2.2.2.2.2.2.1), (pw_cell_below ((Below.refl _ _).alloc (Nat.le_refl _) _) hHeld.2.2.2.2.2.2.2.2.2.2.2.2.2.2.2.2.2.2.2)⟩ (fun hHeld => ?_)
          clear hK K
          refine norm_ (a' := ?_) ?_ ?_
          rotate_left
          · show Act.put _ (some 6) _ = _
            simp only [Act.put, List.setIfInBounds_toArray, List.set_cons_zero, List.set_cons_succ, i64_w, i32_w]
            rfl
          refine one_ (i := 9) (N := some 7) #[true, true, true, true, true, true, true, true, true, true, false, false] rfl rfl (by kernel_rfl) (by decide) (fun K hK => ?_)
          refine value_ (w1 := ?_) (v := ?_) (by rfl) rfl ?_ ?_
          rotate_left 2
          · go_simp
            constructor
            · rfl
            · rfl
          refine hK.out _ _ ⟨(pw_cell_below ((Below.refl _ _).alloc (Nat.le_refl _) _) hHeld.1), (pw_cell_below ((Below.refl _ _).alloc (Nat.le_refl _) _) hHeld.2.1), (pw_cell_below ((Below.refl _ _).alloc (Nat.le_refl _) _) hHeld.2.2.1), (pw_cell_below ((Below.refl _ _).alloc (Nat.le_refl _) _) hHeld.2.2.2.1), (pw_cell_below ((Below.refl _ _).alloc (Nat.le_refl _) _) hHeld.2.2.2.2.1), (pw_cell_below ((Below.refl _ _).alloc (Nat.le_refl _) _) hHeld.2.2.2.2.2.1), (pw_cell_below ((Below.refl _ _).alloc (Nat.le_refl _) _) hHeld.2.2.2.2.2.2.1), (pw_cell_below ((Below.refl _ _).alloc (Nat.le_refl _) _) hHeld.2.2.2.2.2.2.2.1), (pw_cell_below ((Below.refl _ _).alloc (Nat.le_refl _) _) hHeld.2.2.2.2.2.2.2.2.1), (pw_cell_below ((Below.refl _ _).alloc (Nat.le_refl _) _) hHeld.2.2.2.2.2.2.2.2.2.1), (pw_cell_below ((Below.refl _ _).alloc (Nat.le_refl _) _) hHeld.2.2.2.2.2.2.2.2.2.2.1), (pw_cell_below ((Below.refl _ _).alloc (Nat.le_refl _) _) hHeld.2.2.2.2.2.2.2.2.2.2.2.1), (pw_cell_below ((Below.refl _ _).alloc (Nat.le_refl _) _) hHeld.2.2.2.2.2.2.2.2.2.2.2.2.1), (pw_cell_below ((Below.refl _ _).alloc (Nat.le_refl _) _) hHeld.2.2.2.2.2.2.2.2.2.2.2.2.2.1), (pw_cell_below ((Below.refl _ _).alloc (Nat.le_refl _) _) hHeld.2.2.2.2.2.2.2.2.2.2.2.2.2.2.1), (pw_cell_below ((Below.refl _ _).alloc (Nat.le_refl _) _) hHeld.2.2.2.2.2.2.2.2.2.2.2.2.2.2.2.1), (pw_cell_below ((Below.refl _ _).alloc (Nat.le_refl _) _) hHeld.2.2.2.2.2.2.2.2.2.2.2.2.2.2.2.2.1), (pw_cell_below ((Below.refl _ _).alloc (Nat.le_refl _) _) hHeld.2.2.2.2.2.2.2.2.2.2.2.2.2.2.2.2.2.1), (pw_cell_below ((Below.refl _ _).alloc (Nat.le_refl _) _) hHeld.2.2.2.2.2.2.2.2.2.2.2.2.2.2.2.2.2.2.1), (pw_cell_below ((Below.refl _ _).alloc (Nat.le_refl _) _) hHeld.2.2.2.2.2.2.2.2.2.2.2.2.2.2.2.2.2.2.2)⟩ (fun hHeld => ?_)
          clear hK K
          refine norm_ (a' := ?_) ?_ ?_
          rotate_left
          · show Act.put _ (some 7) _ = _
            simp only [Act.put, List.setIfInBounds_toArray, List.set_cons_zero, List.set_cons_succ, i64_w, i32_w]
            rfl
          exact norm_ (by simp only [putAll, Act.put, List.setIfInBounds_toArray, List.set_cons_zero, List.set_cons_succ]) (hCont (wr.heap.size, wr.heap.size + 1) _ ⟨hHeld, (two_new wr (.cells #[.int .i64 0, .int .i64 0, .string ⟨#[]⟩, .slice none 0 0, .int .i64 0, .int .i64 0, .int .i64 0, .int .i64 0, .slice none 0 0, .slice none 0 0] 40) (.cells #[.int .i64 0, .int .i64 0, .string ⟨#[]⟩, .slice none 0 0, .int .i64 0, .int .i64 0, .int .i64 0, .int .i64 0, .slice none 0 0, .slice none 0 0] 40)).1, (two_new wr (.cells #[.int .i64 0, .int .i64 0, .string ⟨#[]⟩, .slice none 0 0, .int .i64 0, .int .i64 0, .int .i64 0, .int .i64 0, .slice none 0 0, .slice none 0 0] 40) (.cells #[.int .i64 0, .int .i64 0, .string ⟨#[]⟩, .slice none 0 0, .int .i64 0, .int .i64 0, .int .i64 0, .int .i64 0, .slice none 0 0, .slice none 0 0] 40)).2.1, (two_new wr (.cells #[.int .i64 0, .int .i64 0, .string ⟨#[]⟩, .slice none 0 0, .int .i64 0, .int .i64 0, .int .i64 0, .int .i64 0, .slice none 0 0, .slice none 0 0] 40) (.cells #[.int .i64 0, .int .i64 0, .string ⟨#[]⟩, .slice none 0 0, .int .i64 0, .int .i64 0, .int .i64 0, .int .i64 0, .slice none 0 0, .slice none 0 0] 40)).2.2.1, (two_new wr (.cells #[.int .i64 0, .int .i64 0, .string ⟨#[]⟩, .slice none 0 0, .int .i64 0, .int .i64 0, .int .i64 0, .int .i64 0, .slice none 0 0, .slice none 0 0] 40) (.cells #[.int .i64 0, .int .i64 0, .string ⟨#[]⟩, .slice none 0 0, .int .i64 0, .int .i64 0, .int .i64 0, .int .i64 0, .slice none 0 0, .slice none 0 0] 40)).2.2.2.1, Nat.le_refl _, Nat.le_succ _, (two_new wr (.cells #[.int .i64 0, .int .i64 0, .string ⟨#[]⟩, .slice none 0 0, .int .i64 0, .int .i64 0, .int .i64 0, .int .i64 0, .slice none 0 0, .slice none 0 0] 40) (.cells #[.int .i64 0, .int .i64 0, .string ⟨#[]⟩, .slice none 0 0, .int .i64 0, .int .i64 0, .int .i64 0, .int .i64 0, .slice none 0 0, .slice none 0 0] 40)).2.2.2.2.1, (two_new wr (.cells #[.int .i64 0, .int .i64 0, .string ⟨#[]⟩, .slice none 0 0, .int .i64 0, .int .i64 0, .int .i64 0, .int .i64 0, .slice none 0 0, .slice none 0 0] 40) (.cells #[.int .i64 0, .int .i64 0, .string ⟨#[]⟩, .slice none 0 0, .int .i64 0, .int .i64 0, .int .i64 0, .int .i64 0, .slice none 0 0, .slice none 0 0] 40)).2.2.2.2.2⟩)
        · skip
          refine value_ (w1 := ?_) (v := ?_) (by rfl) rfl ?_ ?_
          rotate_left 2
          · go_simp
            constructor
            · rfl
            · rfl
          refine hK.out _ _ ⟨(pw_cell_below ((Below.refl _ _).alloc (Nat.le_refl _) _) hHeld.1), (pw_cell_below ((Below.refl _ _).alloc (Nat.le_refl _) _) hHeld.2.1), (pw_cell_below ((Below.refl _ _).alloc (Nat.le_refl _) _) hHeld.2.2.1), (pw_cell_below ((Below.refl _ _).alloc (Nat.le_refl _) _) hHeld.2.2.2.1), (pw_cell_below ((Below.refl _ _).alloc (Nat.le_refl _) _) hHeld.2.2.2.2.1), (pw_cell_below ((Below.refl _ _).alloc (Nat.le_refl _) _) hHeld.2.2.2.2.2.1), (pw_cell_below ((Below.refl _ _).alloc (Nat.le_refl _) _) hHeld.2.2.2.2.2.2.1), (pw_cell_below ((Below.refl _ _).alloc (Nat.le_refl _) _) hHeld.2.2.2.2.2.2.2.1), (pw_cell_below ((Below.refl _ _).alloc (Nat.le_refl _) _) hHeld.2.2.2.2.2.2.2.2.1), (pw_cell_below ((Below.refl _ _).alloc (Nat.le_refl _) _) hHeld.2.2.2.2.2.2.2.2.2.1), (pw_cell_below ((Below.refl _ _).alloc (Nat.le_refl _) _) hHeld.2.2.2.2.2.2.2.2.2.2.1), (pw_cell_below ((Below.refl _ _).alloc (Nat.le_refl _) _) hHeld.2.2.2.2.2.2.2.2.2.2.2.1), (pw_cell_below ((Below.refl _ _).alloc (Nat.le_refl _) _) hHeld.2.2.2.2.2.2.2.2.2.2.2.2.1), (pw_cell_below ((Below.refl _ _).alloc (Nat.le_refl _) _) hHeld.2.2.2.2.2.2.2.2.2.2.2.2.2.1), (pw_cell_below ((Below.refl _ _).alloc (Nat.le_refl _) _) hHeld.2.2.2.2.2.2.2.2.2.2.2.2.2.2.1), (pw_cell_below ((Below.refl _ _).alloc (Nat.le_refl _) _) hHeld.2.2.2.2.2.2.2.2.2.2.2.2.2.2.2.1), (pw_cell_below ((Below.refl _ _).alloc (Nat.le_refl _) _) hHeld.2.2.2.2.2.2.2.2.2.2.2.2.2.2.2.2.1), (pw_cell_below ((Below.refl _ _).alloc (Nat.le_refl _) _) hHeld.2.2.2.2.2.2.2.2.2.2.2.2.2.2.2.2.2.1), (pw_cell_below ((Below.refl _ _).alloc (Nat.le_refl _) _) hHeld.2.2.2.2.2.2.2.2.2.2.2.2.2.2.2.2.2.2.1), (pw_cell_below ((Below.refl _ _).alloc (Nat.le_refl _) _) hHeld.2.2.2.2.2.2.2.2.2.2.2.2.2.2.2.2.2.2.2)⟩ (fun hHeld => ?_)
          clear hK K
          refine norm_ (a' := ?_) ?_ ?_
          rotate_left
          · show Act.put _ (some 7) _ = _
            simp only [Act.put, List.setIfInBounds_toArray, List.set_cons_zero, List.set_cons_succ, i64_w, i32_w]
            rfl
          refine one_ (i := 8) (N := some 6) #[true, true, true, true, true, true, true, true, true, true, false, false] rfl rfl (by kernel_rfl) (by decide) (fun K hK => ?_)
          refine value_ (w1 := ?_) (v := ?_) (by rfl) rfl ?_ ?_
          rotate_left 2
          · go_simp
            constructor
            · rfl
            · rfl
          refine hK.out _ _ ⟨(pw_cell_below ((Below.refl _ _).alloc (Nat.le_refl _) _) hHeld.1), (pw_cell_below ((Below.refl _ _).alloc (Nat.le_refl _) _) hHeld.2.1), (pw_cell_below ((Below.refl _ _).alloc (Nat.le_refl _) _) hHeld.2.2.1), (pw_cell_below ((Below.refl _ _).alloc (Nat.le_refl _) _) hHeld.2.2.2.1), (pw_cell_below ((Below.refl _ _).alloc (Nat.le_refl _) _) hHeld.2.2.2.2.1), (pw_cell_below ((Below.refl _ _).alloc (Nat.le_refl _) _) hHeld.2.2.2.2.2.1), (pw_cell_below ((Below.refl _ _).alloc (Nat.le_refl _) _) hHeld.2.2.2.2.2.2.1), (pw_cell_below ((Below.refl _ _).alloc (Nat.le_refl _) _) hHeld.2.2.2.2.2.2.2.1), (pw_cell_below ((Below.refl _ _).alloc (Nat.le_refl _) _) hHeld.2.2.2.2.2.2.2.2.1), (pw_cell_below ((Below.refl _ _).alloc (Nat.le_refl _) _) hHeld.2.2.2.2.2.2.2.2.2.1), (pw_cell_below ((Below.refl _ _).alloc (Nat.le_refl _) _) hHeld.2.2.2.2.2.2.2.2.2.2.1), (pw_cell_below ((Below.refl _ _).alloc (Nat.le_refl _) _) hHeld.2.2.2.2.2.2.2.2.2.2.2.1), (pw_cell_below ((Below.refl _ _).alloc (Nat.le_refl _) _) hHeld.2.2.2.2.2.2.2.2.2.2.2.2.1), (pw_cell_below ((Below.refl _ _).alloc (Nat.le_refl _) _) hHeld.2.2.2.2.2.2.2.2.2.2.2.2.2.1), (pw_cell_below ((Below.refl _ _).alloc (Nat.le_refl _) _) hHeld.2.2.2.2.2.2.2.2.2.2.2.2.2.2.1), (pw_cell_below ((Below.refl _ _).alloc (Nat.le_refl _) _) hHeld.2.2.2.2.2.2.2.2.2.2.2.2.2.2.2.1), (pw_cell_below ((Below.refl _ _).alloc (Nat.le_refl _) _) hHeld.2.2.2.2.2.2.2.2.2.2.2.2.2.2.2.2.1), (pw_cell_below ((Below.refl _ _).alloc (Nat.le_refl _) _) hHeld.2.2.2.2.2.2.2.2.2.2.2.2.2.2.2.2.2.1), (pw_cell_below ((Below.refl _ _).alloc (Nat.le_refl _) _) hHeld.2.2.2.2.2.2.2.2.2.2.2.2.2.2.2.2.2.2.1), (pw_cell_below ((Below.refl _ _).alloc (Nat.le_refl _) _) hHeld.2.2.2.2.2.2.2.2.2.2.2.2.2.2.2.2.2.2.2)⟩ (fun hHeld => ?_)
          clear hK K
          refine norm_ (a' := ?_) ?_ ?_
          rotate_left
          · show Act.put _ (some 6) _ = _
            simp only [Act.put, List.setIfInBounds_toArray, List.set_cons_zero, List.set_cons_succ, i64_w, i32_w]
            rfl
          exact norm_ (by simp only [putAll, Act.put, List.setIfInBounds_toArray, List.set_cons_zero, List.set_cons_succ]) (hCont (wr.heap.size + 1, wr.heap.size) _ ⟨hHeld, Ne.symm (two_new wr (.cells #[.int .i64 0, .int .i64 0, .string ⟨#[]⟩, .slice none 0 0, .int .i64 0, .int .i64 0, .int .i64 0, .int .i64 0, .slice none 0 0, .slice none 0 0] 40) (.cells #[.int .i64 0, .int .i64 0, .string ⟨#[]⟩, .slice none 0 0, .int .i64 0, .int .i64 0, .int .i64 0, .int .i64 0, .slice none 0 0, .slice none 0 0] 40)).1, (two_new wr (.cells #[.int .i64 0, .int .i64 0, .string ⟨#[]⟩, .slice none 0 0, .int .i64 0, .int .i64 0, .int .i64 0, .int .i64 0, .slice none 0 0, .slice none 0 0] 40) (.cells #[.int .i64 0, .int .i64 0, .string ⟨#[]⟩, .slice none 0 0, .int .i64 0, .int .i64 0, .int .i64 0, .int .i64 0, .slice none 0 0, .slice none 0 0] 40)).2.2.1, (two_new wr (.cells #[.int .i64 0, .int .i64 0, .string ⟨#[]⟩, .slice none 0 0, .int .i64 0, .int .i64 0, .int .i64 0, .int .i64 0, .slice none 0 0, .slice none 0 0] 40) (.cells #[.int .i64 0, .int .i64 0, .string ⟨#[]⟩, .slice none 0 0, .int .i64 0, .int .i64 0, .int .i64 0, .int .i64 0, .slice none 0 0, .slice none 0 0] 40)).2.1, (two_new wr (.cells #[.int .i64 0, .int .i64 0, .string ⟨#[]⟩, .slice none 0 0, .int .i64 0, .int .i64 0, .int .i64 0, .int .i64 0, .slice none 0 0, .slice none 0 0] 40) (.cells #[.int .i64 0, .int .i64 0, .string ⟨#[]⟩, .slice none 0 0, .int .i64 0, .int .i64 0, .int .i64 0, .int .i64 0, .slice none 0 0, .slice none 0 0] 40)).2.2.2.1, Nat.le_succ _, Nat.le_refl _, (two_new wr (.cells #[.int .i64 0, .int .i64 0, .string ⟨#[]⟩, .slice none 0 0, .int .i64 0, .int .i64 0, .int .i64 0, .int .i64 0, .slice none 0 0, .slice none 0 0] 40) (.cells #[.int .i64 0, .int .i64 0, .string ⟨#[]⟩, .slice none 0 0, .int .i64 0, .int .i64 0, .int .i64 0, .int .i64 0, .slice none 0 0, .slice none 0 0] 40)).2.2.2.2.2, (two_new wr (.cells #[.int .i64 0, .int .i64 0, .string ⟨#[]⟩, .slice none 0 0, .int .i64 0, .int .i64 0, .int .i64 0, .int .i64 0, .slice none 0 0, .slice none 0 0] 40) (.cells #[.int .i64 0, .int .i64 0, .string ⟨#[]⟩, .slice none 0 0, .int .i64 0, .int .i64 0, .int .i64 0, .int .i64 0, .slice none 0 0, .slice none 0 0] 40)).2.2.2.2.1⟩)
      rintro ⟨p, q⟩ w1 ⟨hS1, hpq, hbp, hbq, hbw, hp0, hq0, hp1, hq1⟩
      have hHeld := hS1
      simp only at hpq hbp hbq hp0 hq0 hp1 hq1
      have zp0 : w1.cell? ⟨p, 0, none⟩ = some _ := (blk_cell hbp 0).trans rfl
      have zp1 : w1.cell? ⟨p, 1, none⟩ = some _ := (blk_cell hbp 1).trans rfl
      have zp2 : w1.cell? ⟨p, 2, none⟩ = some _ := (blk_cell hbp 2).trans rfl
      have zp3 : w1.cell? ⟨p, 3, none⟩ = some _ := (blk_cell hbp 3).trans rfl
      have zp4 : w1.cell? ⟨p, 4, none⟩ = some _ := (blk_cell hbp 4).trans rfl
      have zp5 : w1.cell? ⟨p, 5, none⟩ = some _ := (blk_cell hbp 5).trans rfl
      have zp6 : w1.cell? ⟨p, 6, none⟩ = some _ := (blk_cell hbp 6).trans rfl
      have zp7 : w1.cell? ⟨p, 7, none⟩ = some _ := (blk_cell hbp 7).trans rfl
      have zp8 : w1.cell? ⟨p, 8, none⟩ = some _ := (blk_cell hbp 8).trans rfl
      have zp9 : w1.cell? ⟨p, 9, none⟩ = some _ := (blk_cell hbp 9).trans rfl
      have fp : ∀ j, w1.frozen? ⟨p, j, none⟩ = false := fun j => blk_frozen hbp j
      have HBQ := Aside0.mk hbq
      have HBP := Aside0.mk hbp
      have HBW1 := Aside0.mk hbw
      have HPQ := Aside0.mk hpq
      have HP0 := Aside0.mk hp0
      have HQ0 := Aside0.mk hq0
      have HP1 := Aside0.mk hp1
      have HQ1 := Aside0.mk hq1
      have hap : ga ≠ p := fun e => by have := HGA.out; have := HGB.out; omega
      have hbp2 : gb ≠ p := fun e => by have := HGA.out; have := HGB.out; omega
      have HAP := Aside0.mk hap
      have HBP2 := Aside0.mk hbp2
      clear hbq hbp hbw hpq hp0 hq0 hp1 hq1 hap hbp2
      refine norm_ (a' := ?_) ?_ ?_
      rotate_left
      · simp only [putAll, Act.put, List.setIfInBounds_toArray, List.set_cons_zero, List.set_cons_succ]
        rfl
      refine one_ (i := 10) (N := none) #[true, true, true, true, true, true, true, true, true, true, true, false] rfl rfl (by kernel_rfl) (by decide) (fun K hK => ?_)
      refine skip_ (w1 := ?_) (by rfl) rfl ?_ ?_
      rotate_left
      · go_simp
        rfl
      obtain ⟨w2, hhw2, hbw2, hmw2, hlw2⟩ := fill_all w1 p [.int .i64 0, .int .i64 0, .string ⟨#[]⟩, .slice none 0 0, .int .i64 0, .int .i64 0, .int .i64 0, .int .i64 0, .slice none 0 0, .slice none 0 0] [.int .i64 c.task, .int .i64 c.op, .string c.key, .slice D c.data.length dc, .int .i64 c.from_, .int .i64 c.to_, .int .i64 c.at_, .int .i64 c.e, .slice O c.out.length oc, .slice S c.keys.length sc] 40 HBP.out rfl
      have hcw2 : ((((((((((w1.setCell ⟨p, 0, none⟩ (.int .i64 c.task)).setCell ⟨p, 1, none⟩ (.int .i64 c.op)).setCell ⟨p, 2, none⟩ (.string c.key)).setCell ⟨p, 3, none⟩ (.slice D c.data.length dc)).setCell ⟨p, 4, none⟩ (.int .i64 c.from_)).setCell ⟨p, 5, none⟩ (.int .i64 c.to_)).setCell ⟨p, 6, none⟩ (.int .i64 c.at_)).setCell ⟨p, 7, none⟩ (.int .i64 c.e)).setCell ⟨p, 8, none⟩ (.slice O c.out.length oc)).setCell ⟨p, 9, none⟩ (.slice S c.keys.length sc)) = w2 := hhw2
      rw [hcw2]
      have BKw2 : Aside0 (w2.heap[p]? = some (.cells #[.int .i64 c.task, .int .i64 c.op, .string c.key, .slice D c.data.length dc, .int .i64 c.from_, .int .i64 c.to_, .int .i64 c.at_, .int .i64 c.e, .slice O c.out.length oc, .slice S c.keys.length sc] 40 (0, 0))) := ⟨hbw2⟩
      have Mw2 := Aside0.mk hmw2
      have HLw2 := Aside0.mk hlw2
      clear hhw2 hcw2 hbw2 hmw2 hlw2
      have HBQ2 : Aside0 (w2.heap[q]? = _) := ⟨(Mw2.out q (Ne.symm HPQ.out)).trans HBQ.out⟩
      have zq0 : w2.cell? ⟨q, 0, none⟩ = some _ := (blk_cell HBQ2.out 0).trans rfl
      have zq1 : w2.cell? ⟨q, 1, none⟩ = some _ := (blk_cell HBQ2.out 1).trans rfl
      have zq2 : w2.cell? ⟨q, 2, none⟩ = some _ := (blk_cell HBQ2.out 2).trans rfl
      have zq3 : w2.cell? ⟨q, 3, none⟩ = some _ := (blk_cell HBQ2.out 3).trans rfl
      have zq4 : w2.cell? ⟨q, 4, none⟩ = some _ := (blk_cell HBQ2.out 4).trans rfl
      have zq5 : w2.cell? ⟨q, 5, none⟩ = some _ := (blk_cell HBQ2.out 5).trans rfl
      have zq6 : w2.cell? ⟨q, 6, none⟩ = some _ := (blk_cell HBQ2.out 6).trans rfl
      have zq7 : w2.cell? ⟨q, 7, none⟩ = some _ := (blk_cell HBQ2.out 7).trans rfl
      have zq8 : w2.cell? ⟨q, 8, none⟩ = some _ := (blk_cell HBQ2.out 8).trans rfl
      have zq9 : w2.cell? ⟨q, 9, none⟩ = some _ := (blk_cell HBQ2.out 9).trans rfl
      have fq : ∀ j, w2.frozen? ⟨q, j, none⟩ = false := fun j => blk_frozen HBQ2.out j
      refine hK.out _ _ ⟨((World.cell?_of_block (Mw2.out ga HAP.out)).trans hHeld.1), ((World.cell?_of_block (Mw2.out ga HAP.out)).trans hHeld.2.1), ((World.cell?_of_block (Mw2.out ga HAP.out)).trans hHeld.2.2.1), ((World.cell?_of_block (Mw2.out ga HAP.out)).trans hHeld.2.2.2.1), ((World.cell?_of_block (Mw2.out ga HAP.out)).trans hHeld.2.2.2.2.1), ((World.cell?_of_block (Mw2.out ga HAP.out)).trans hHeld.2.2.2.2.2.1), ((World.cell?_of_block (Mw2.out ga HAP.out)).trans hHeld.2.2.2.2.2.2.1), ((World.cell?_of_block (Mw2.out ga HAP.out)).trans hHeld.2.2.2.2.2.2.2.1), ((World.cell?_of_block (Mw2.out ga HAP.out)).trans hHeld.2.2.2.2.2.2.2.2.1), ((World.cell?_of_block (Mw2.out ga HAP.out)).trans hHeld.2.2.2.2.2.2.2.2.2.1), ((World.cell?_of_block (Mw2.out gb HBP2.out)).trans hHeld.2.2.2.2.2.2.2.2.2.2.1), ((World.cell?_of_block (Mw2.out gb HBP2.out)).trans hHeld.2.2.2.2.2.2.2.2.2.2.2.1), ((World.cell?_of_block (Mw2.out gb HBP2.out)).trans hHeld.2.2.2.2.2.2.2.2.2.2.2.2.1), ((World.cell?_of_block (Mw2.out gb HBP2.out)).trans hHeld.2.2.2.2.2.2.2.2.2.2.2.2.2.1), ((World.cell?_of_block (Mw2.out gb HBP2.out)).trans hHeld.2.2.2.2.2.2.2.2.2.2.2.2.2.2.1), ((World.cell?_of_block (Mw2.out gb HBP2.out)).trans hHeld.2.2.2.2.2.2.2.2.2.2.2.2.2.2.2.1), ((World.cell?_of_block (Mw2.out gb HBP2.out)).trans hHeld.2.2.2.2.2.2.2.2.2.2.2.2.2.2.2.2.1), ((World.cell?_of_block (Mw2.out gb HBP2.out)).trans hHeld.2.2.2.2.2.2.2.2.2.2.2.2.2.2.2.2.2.1), ((World.cell?_of_block (Mw2.out gb HBP2.out)).trans hHeld.2.2.2.2.2.2.2.2.2.2.2.2.2.2.2.2.2.2.1), ((World.cell?_of_block (Mw2.out gb HBP2.out)).trans hHeld.2.2.2.2.2.2.2.2.2.2.2.2.2.2.2.2.2.2.2)⟩ (fun hHeld => ?_)
      clear hK K
      refine last_ (i := 11) (N := none) #[true, true, true, true, true, true, true, true, true, true, true, true] rfl rfl (by kernel_rfl) (by decide) (fun K hK => ?_)
      refine skip_ (w1 := ?_) (by rfl) rfl ?_ ?_
      rotate_left
      · go_simp
        rfl
      obtain ⟨w3, hhw3, hbw3, hmw3, hlw3⟩ := fill_all w2 q [.int .i64 0, .int .i64 0, .string ⟨#[]⟩, .slice none 0 0, .int .i64 0, .int .i64 0, .int .i64 0, .int .i64 0, .slice none 0 0, .slice none 0 0] [.int .i64 c.task, .int .i64 c.op, .string c.key, .slice D2 c.data.length dc2, .int .i64 c.from_, .int .i64 c.to_, .int .i64 c.at_, .int .i64 c.e, .slice O2 c.out.length oc2, .slice S2 c.keys.length sc2] 40 HBQ2.out rfl
      have hcw3 : ((((((((((w2.setCell ⟨q, 0, none⟩ (.int .i64 c.task)).setCell ⟨q, 1, none⟩ (.int .i64 c.op)).setCell ⟨q, 2, none⟩ (.string c.key)).setCell ⟨q, 3, none⟩ (.slice D2 c.data.length dc2)).setCell ⟨q, 4, none⟩ (.int .i64 c.from_)).setCell ⟨q, 5, none⟩ (.int .i64 c.to_)).setCell ⟨q, 6, none⟩ (.int .i64 c.at_)).setCell ⟨q, 7, none⟩ (.int .i64 c.e)).setCell ⟨q, 8, none⟩ (.slice O2 c.out.length oc2)).setCell ⟨q, 9, none⟩ (.slice S2 c.keys.length sc2)) = w3 := hhw3
      rw [hcw3]
      have BKw3 : Aside0 (w3.heap[q]? = some (.cells #[.int .i64 c.task, .int .i64 c.op, .string c.key, .slice D2 c.data.length dc2, .int .i64 c.from_, .int .i64 c.to_, .int .i64 c.at_, .int .i64 c.e, .slice O2 c.out.length oc2, .slice S2 c.keys.length sc2] 40 (0, 0))) := ⟨hbw3⟩
      have Mw3 := Aside0.mk hmw3
      have HLw3 := Aside0.mk hlw3
      clear hhw3 hcw3 hbw3 hmw3 hlw3
      have BP3 : Aside0 (w3.heap[p]? = _) := ⟨(Mw3.out p HPQ.out).trans BKw2.out⟩
      have HB3 : Aside0 (Below wr.heap.size wr w3) := ⟨(HBW1.out.trans (HLw2.out.mono HP0.out)).trans (HLw3.out.mono HQ0.out)⟩
      refine hK.out _ _ ?_
      clear hK K
      refine done_ (by kernel_rfl) ?_
      have y0 : w3.cell? ⟨p, 0, none⟩ = some (.int .i64 c.task) := (blk_cell BP3.out 0).trans rfl
      have z0 : w3.cell? ⟨q, 0, none⟩ = some (.int .i64 c.task) := (blk_cell BKw3.out 0).trans rfl
      have y1 : w3.cell? ⟨p, 1, none⟩ = some (.int .i64 c.op) := (blk_cell BP3.out 1).trans rfl
      have z1 : w3.cell? ⟨q, 1, none⟩ = some (.int .i64 c.op) := (blk_cell BKw3.out 1).trans rfl
      have y2 : w3.cell? ⟨p, 2, none⟩ = some (.string c.key) := (blk_cell BP3.out 2).trans rfl
      have z2 : w3.cell? ⟨q, 2, none⟩ = some (.string c.key) := (blk_cell BKw3.out 2).trans rfl
      have y3 : w3.cell? ⟨p, 3, none⟩ = some (.slice D c.data.length dc) := (blk_cell BP3.out 3).trans rfl
      have z3 : w3.cell? ⟨q, 3, none⟩ = some (.slice D2 c.data.length dc2) := (blk_cell BKw3.out 3).trans rfl
      have y4 : w3.cell? ⟨p, 4, none⟩ = some (.int .i64 c.from_) := (blk_cell BP3.out 4).trans rfl
      have z4 : w3.cell? ⟨q, 4, none⟩ = some (.int .i64 c.from_) := (blk_cell BKw3.out 4).trans rfl
      have y5 : w3.cell? ⟨p, 5, none⟩ = some (.int .i64 c.to_) := (blk_cell BP3.out 5).trans rfl
      have z5 : w3.cell? ⟨q, 5, none⟩ = some (.int .i64 c.to_) := (blk_cell BKw3.out 5).trans rfl
      have y6 : w3.cell? ⟨p, 6, none⟩ = some (.int .i64 c.at_) := (blk_cell BP3.out 6).trans rfl
      have z6 : w3.cell? ⟨q, 6, none⟩ = some (.int .i64 c.at_) := (blk_cell BKw3.out 6).trans rfl
      have y7 : w3.cell? ⟨p, 7, none⟩ = some (.int .i64 c.e) := (blk_cell BP3.out 7).trans rfl
      have z7 : w3.cell? ⟨q, 7, none⟩ = some (.int .i64 c.e) := (blk_cell BKw3.out 7).trans rfl
      have y8 : w3.cell? ⟨p, 8, none⟩ = some (.slice O c.out.length oc) := (blk_cell BP3.out 8).trans rfl
      have z8 : w3.cell? ⟨q, 8, none⟩ = some (.slice O2 c.out.length oc2) := (blk_cell BKw3.out 8).trans rfl
      have y9 : w3.cell? ⟨p, 9, none⟩ = some (.slice S c.keys.length sc) := (blk_cell BP3.out 9).trans rfl
      have z9 : w3.cell? ⟨q, 9, none⟩ = some (.slice S2 c.keys.length sc2) := (blk_cell BKw3.out 9).trans rfl
      clear hHeld zp0 zp1 zp2 zp3 zp4 zp5 zp6 zp7 zp8 zp9 zq0 zq1 zq2 zq3 zq4 zq5 zq6 zq7 zq8 zq9 fp fq q0 q1 q2 q3 q4 q5 q6 q7 q8 q9 q10 q11 q12 q13 q14 q15 q16 q17 q18 q19 hS1
      have HC1 : Aside0 (U8.C w3 D c.data.length c.data ∧ U8.C w3 D2 c.data.length c.data ∧ U8.C w3 O c.out.length c.out ∧ U8.C w3 O2 c.out.length c.out) := ⟨Kd.F_now (Kd.F_below HDF.out HB3.out), Kd.F_now (Kd.F_below HDF2.out HB3.out), Kd.F_now (Kd.F_below HOF.out HB3.out), Kd.F_now (Kd.F_below HOF2.out HB3.out)⟩
      go_upto_region 7 with fail
      simp only [List.append]
      go_wp2_with fail
      refine (HRF.out D dc c.data D2 dc2 _ HC1.out.1 HD1.out.1 HC1.out.2.1 HD1.out.2 s1).mono ?_
      rintro e w4 ⟨rfl, ⟨n4, rfl⟩⟩
      have HC2 : Aside0 (U8.C (w3.drewN n4) O c.out.length c.out ∧ U8.C (w3.drewN n4) O2 c.out.length c.out) := ⟨Kd.C_below HC1.out.2.2.1 (pw_below_drewN (Below.refl _ _) _), Kd.C_below HC1.out.2.2.2 (pw_below_drewN (Below.refl _ _) _)⟩
      go_wp2_with fail
      refine (HRF.out O oc c.out O2 oc2 _ HC2.out.1 HO1.out.1 HC2.out.2 HO1.out.2 s2).mono ?_
      rintro e w5 ⟨rfl, ⟨n5, rfl⟩⟩
      obtain ⟨w5, hw5⟩ : ∃ W, W = w3.drewN (n4 + n5) := ⟨_, rfl⟩
      have HB5 : Aside0 (Below w3.heap.size w3 w5) := ⟨by rw [hw5]; exact pw_below_drewN (Below.refl _ _) _⟩
      have HB6 : Aside0 (Below wr.heap.size wr w5) := ⟨HB3.out.trans (HB5.out.mono HB3.out.size)⟩
      obtain ⟨wq, hwq⟩ : ∃ wq : World, wq = wr := ⟨_, rfl⟩
      subst hwq
      go_wp2_with fail
      rw [← hw5]
      go_loopw [8, 100, 101, 102, 103, 104, 105, 106, 107, 108, 109, 110, 111, 112, 113, 114, 115, 116, 117] (fun x8 x100 x101 x102 x103 x104 x105 x106 x107 x108 x109 x110 x111 x112 x113 x114 x115 x116 x117 wr => ∃ j : Nat, j ≤ c.keys.length ∧ x8 = .int .i64 j ∧ Aside0 (Below w5.heap.size w5 wr)) (fun x8 _ _ _ _ _ _ _ _ _ _ _ _ _ _ _ _ _ _ _ => c.keys.length - (intOf x8).toNat)
      case atStart => exact ⟨0, Nat.zero_le _, rfl, ⟨Below.refl _ _⟩⟩
      case round =>
        obtain ⟨j, hj, rfl, HBj⟩ := hrel
        have HBK : Aside0 (Below wq.heap.size wq wr) := ⟨HB6.out.trans (HBj.out.mono HB6.out.size)⟩
        have HB3j : Aside0 (Below w3.heap.size w3 wr) := ⟨HB5.out.trans (HBj.out.mono HB5.out.size)⟩
        have y9' : wr.cell? ⟨p, 9, none⟩ = some (.slice S c.keys.length sc) := pw_cell_below HB3j.out y9
        have z9' : wr.cell? ⟨q, 9, none⟩ = some (.slice S2 c.keys.length sc2) := pw_cell_below HB3j.out z9
        by_cases hjl : j < c.keys.length
        · obtain ⟨ad1, e1, rfl, hcl1, hK1, hc1⟩ := Kd.C_get (Kd.F_now (Kd.F_below HSF.out HBK.out)) ⟨#[]⟩ (j : Int) (by omega) (by omega)
          obtain ⟨ad2, e2, rfl, hcl2, hK2, hc2⟩ := Kd.C_get (Kd.F_now (Kd.F_below HSF2.out HBK.out)) ⟨#[]⟩ (j : Int) (by omega) (by omega)
          have he1 : e1 = [.string (c.keys.getD (j : Int).toNat ⟨#[]⟩)] := hK1
          have he2 : e2 = [.string (c.keys.getD (j : Int).toNat ⟨#[]⟩)] := hK2
          obtain ⟨s, hs⟩ : ∃ s, s = c.keys.getD (j : Int).toNat ⟨#[]⟩ := ⟨_, rfl⟩
          rw [← hs] at he1 he2
          have t1 : wr.cell? (ad1.add j) = some (.string s) := by
            have := hc1 0 (.string s) (by rw [he1]; rfl)
            rw [show Kd.string.sz = 1 from rfl] at this
            simpa using this
          have t2 : wr.cell? (ad2.add j) = some (.string s) := by
            have := hc2 0 (.string s) (by rw [he2]; rfl)
            rw [show Kd.string.sz = 1 from rfl] at this
            simpa using this
          clear hcl1 hcl2 hK1 hK2 hc1 hc2 he1 he2 hs
          go_wp2_with fail
          go_quiet (fail)
          go_wp2
          go_roundw
          case rel => exact ⟨j + 1, by omega, by go_num, ⟨by first | exact HBj.out.drew | exact pw_below_drewN HBj.out _ | exact HBj.out⟩⟩
          case measure => simp [intOf]; omega
        · have hjl' : j = c.keys.length := by omega
          subst hjl'
          go_wp2
          go_roundw
          case rel => exact ⟨k + 1, by omega, by go_num, ⟨HB.out.trans (HBK.out.mono HB.out.size)⟩⟩
          case measure => simp [intOf]; omega
    · have hkl : k = l.length := by omega
      subst hkl
      go_wp2
      go_ret
      exact ⟨rfl, HB.out⟩
end Go.Proofs.Ytfcfiojkkpnhlaa.Hs
