/- Histories: the state, New, run. -/
import Derived.Test.YtfcfiojkkpnhlaaProg
import Derived.Below
import Derived.Deep.Draws
import Derived.Deep.AppendLies
import Derived.Maps.AppendAt
import Derived.OwnWalk
import Derived.Laws.BytesArg
import Derived.Laws.MakeOwn
import Derived.Laws.OwnMore
import Derived.Deep.OwnRows
import Derived.Tactics
import Derived.Lib.ConvBytes
import Derived.Laws.Slices
import Derived.WalkKit
import Derived.KernelRfl
import Derived.RowKit3
import Derived.Deep.LoopGhost
import Derived.Deep.QuietTactic
import Derived.BigQuiet
import Derived.WideLaws
import Derived.Deep.DeepCutAuto
import Derived.Deep.CutBlock
import Derived.Deep.RegionHeld3
import Derived.Laws.Rows
import Derived.Lib.AppendStr
import Derived.ArgAppend
import Derived.Laws.IdiomCopy
import Derived.OrdersHeld
import Derived.Laws.BitsLemmas
import Derived.RowKit
import Derived.Test.YtfcfiojkkpnhlaaWWords
import Derived.Test.YtfcfiojkkpnhlaaWLast
import Derived.Test.YtfcfiojkkpnhlaaWTab
import Derived.Test.YtfcfiojkkpnhlaaWFour
import Derived.Test.YtfcfiojkkpnhlaaWQPut
import Derived.Test.YtfcfiojkkpnhlaaWApart
import Derived.Test.YtfcfiojkkpnhlaaWArr
import Derived.Test.YtfcfiojkkpnhlaaWZeros
import Derived.Test.YtfcfiojkkpnhlaaWFoot
import Derived.Test.YtfcfiojkkpnhlaaWKept
import Derived.Test.YtfcfiojkkpnhlaaWShare
import Derived.Test.YtfcfiojkkpnhlaaWN
import Derived.Test.YtfcfiojkkpnhlaaWFootNe
import Derived.Test.YtfcfiojkkpnhlaaWAt
import Derived.Test.YtfcfiojkkpnhlaaWEqStruct
import Derived.Test.YtfcfiojkkpnhlaaWRepsOne
import Derived.Test.YtfcfiojkkpnhlaaWInv
import Derived.Test.YtfcfiojkkpnhlaaWInvWords
import Derived.Test.YtfcfiojkkpnhlaaWGuard
import Derived.Test.YtfcfiojkkpnhlaaWNEv
import Derived.Test.YtfcfiojkkpnhlaaWMore
import Derived.Test.YtfcfiojkkpnhlaaHs0
import Derived.Deep.DeepCutAuto
import Derived.Deep.CutBlock
namespace Go.Proofs.Ytfcfiojkkpnhlaa.Hs
open Go.RowKit Go.Proofs.YtfcfiojkkpnhlaaW.PrintWords Go.Proofs.YtfcfiojkkpnhlaaW.PrintLast Go.Proofs.YtfcfiojkkpnhlaaW.PrintMore
attribute [local go_sem] max2_int min2_int max_two min_two max_three min_three max_four min_four
set_option linter.unusedVariables false
set_option linter.unusedSimpArgs false
open Go.Proofs.Ytfcfiojkkpnhlaa.Mp
structure Stp where
  kind : Int
  a : Int
  key : ByteArray
  data : List Int
  keep : Int
structure Ans where
  e : Int
  task : Int
  done : Bool
  mark : Int
  data : List Int
  keys : List ByteArray
structure Hst where
  now : Int
  list : List Cl
  opn : Int → Option Nat
def mval (o : Int → Option Nat) : Value → Option Value := fun v => match v with | .int .i64 a => (o a).map (fun (n : Nat) => Value.int .i64 (n : Int)) | _ => none
def upd (o : Int → Option Nat) (t : Int) (x : Option Nat) : Int → Option Nat := fun a => if a = t then x else o a
theorem mval_upd (o : Int → Option Nat) (t : Int) (x : Option Nat) : ∀ q, q ≠ .int .i64 t → mval (upd o t x) q = mval o q := by
  intro q hq
  unfold mval
  split
  · rename_i a
    have : a ≠ t := fun e => hq (by rw [e])
    unfold upd
    rw [if_neg this]
  · rfl
theorem mval_at (o : Int → Option Nat) (t : Int) (x : Option Nat) : mval (upd o t x) (.int .i64 t) = x.map (fun (n : Nat) => Value.int .i64 (n : Int)) := by
  simp [mval, upd]
theorem key3 (a : Int) (h : (Lit.int .i64 a).wf = true) : keyOf Try.prog 3 (.int .i64 a) = some (.int .i64 a) := by
  simp [keyOf, mapKey, Try.underlying3, h]
theorem keyed3 : Go.Maps.Keyed Try.prog 3 := Go.Maps.int_keyed Try.underlying3
theorem zero3 (w : World) : (zeroValue 3).run Try.prog w = .ok (.int .i64 0) w := by kernel_rfl
theorem info40 : (Try.prog.info? 40).map (fun i => (i.zero, i.size, i.bytes)) = some (some (.agg #[.int .i64 0, .int .i64 0, .string ⟨#[]⟩, .slice none 0 0, .int .i64 0, .int .i64 0, .int .i64 0, .int .i64 0, .slice none 0 0, .slice none 0 0]), 10, 136) := by kernel_rfl
/-- A history at block g, its map at block mb. -/
structure Hv (W : World) (ok : Nat → Prop) (g mb : Nat) (v : Value) (h : Hst) : Prop where
  blk : W.heap[g]? = some (.cells #[.int .i64 h.now, v, .map (some mb)] 50 (0, 0))
  ng : ¬ ok g
  nm : ¬ ok mb
  lst : Kd.N CK 40 W 0 ok v h.list
  map : IsM Try.prog 3 W mb (mval h.opn)
def Hp (W : World) (ok : Nat → Prop) (g mb : Nat) (h : Hst) : Prop := ∃ v, Hv W ok g mb v h
section
variable {W W' : World} {ok ok' : Nat → Prop} {g mb : Nat} {v : Value} {h : Hst}
theorem Hv.gm (H : Hv W ok g mb v h) : g ≠ mb := by
  rintro rfl
  obtain ⟨es, clock, hb, _⟩ := H.map
  have := H.blk
  rw [hb] at this
  cases this
theorem Hv.lt (H : Hv W ok g mb v h) : g < W.heap.size := blk_lt H.blk
theorem Hv.step (H : Hv W ok g mb v h) (hm : ∀ k, ok k → k < W.heap.size → W'.heap[k]? = W.heap[k]?) (hg : W'.heap[g]? = W.heap[g]?) (hb : W'.heap[mb]? = W.heap[mb]?) : Hv W' ok g mb v h :=
  ⟨hg.trans H.blk, H.ng, H.nm, Kd.N_step H.lst hm, H.map.step hb⟩
theorem Hv.below (H : Hv W ok g mb v h) (hb : Below W.heap.size W W') : Hv W' ok g mb v h := H.step (fun k _ hk => hb.block k hk) (hb.block g H.lt) (hb.block mb H.map.lt)
theorem Hv.mono (H : Hv W ok g mb v h) (hok : ∀ k, ok k → k < W.heap.size → ok' k) (hn : ¬ ok' g) (hm : ¬ ok' mb) : Hv W ok' g mb v h :=
  ⟨H.blk, hn, hm, Kd.N_mono (Kd.N_bound H.lst) (fun k hk => hok k hk.1 hk.2), H.map⟩
theorem Hp.lt (H : Hp W ok g mb h) : g < W.heap.size ∧ mb < W.heap.size := by
  obtain ⟨v, H⟩ := H
  exact ⟨H.lt, H.map.lt⟩
theorem Hp.step (H : Hp W ok g mb h) (hm : ∀ k, ok k → k < W.heap.size → W'.heap[k]? = W.heap[k]?) (hg : W'.heap[g]? = W.heap[g]?) (hb : W'.heap[mb]? = W.heap[mb]?) : Hp W' ok g mb h := by
  obtain ⟨v, H⟩ := H
  exact ⟨v, H.step hm hg hb⟩
theorem Hp.below (H : Hp W ok g mb h) (hb : Below W.heap.size W W') : Hp W' ok g mb h := by
  obtain ⟨v, H⟩ := H
  exact ⟨v, H.below hb⟩
theorem Hp.mono (H : Hp W ok g mb h) (hok : ∀ k, ok k → k < W.heap.size → ok' k) (hn : ¬ ok' g) (hm : ¬ ok' mb) : Hp W ok' g mb h := by
  obtain ⟨v, H⟩ := H
  exact ⟨v, H.mono hok hn hm⟩
theorem hv_cell (H : Hv W ok g mb v h) : W.cell? ⟨g, 0, none⟩ = some (.int .i64 h.now) ∧ W.cell? ⟨g, 1, none⟩ = some v ∧ W.cell? ⟨g, 2, none⟩ = some (.map (some mb)) ∧ ∀ j, W.frozen? ⟨g, j, none⟩ = false :=
  ⟨(blk_cell H.blk 0).trans rfl, (blk_cell H.blk 1).trans rfl, (blk_cell H.blk 2).trans rfl, fun j => blk_frozen H.blk j⟩
theorem turned_kq {a b : World} {S : Nat → Prop} (hT : Turned a b mb) (hS : S mb) : Kq a b S g :=
  ⟨hT.os, hT.tape, hT.output, Nat.le_of_eq hT.size.symm, fun k _ hk _ => hT.block k (fun e => hk (e ▸ hS))⟩
def clz : Cl := ⟨0, 0, ⟨#[]⟩, [], 0, 0, 0, 0, [], []⟩
/-- An element of the list, by its cells. -/
theorem hl_elem {gl len cap : Nat} {l : List Cl} (hN : Kd.N CK 40 W 0 ok (.slice (some ⟨gl, 0, none⟩) len cap) l) (n : Nat) (hn : n < l.length) :
    ∃ vd vo vk, (∀ j u, (cc (l.getD n clz) vd vo vk)[j]? = some u → W.cell? ⟨gl, n * 10 + j, none⟩ = some u) ∧ (∀ j, W.frozen? ⟨gl, n * 10 + j, none⟩ = false) ∧
      Vo W (fun k => ok k ∧ k ≠ gl) vd (l.getD n clz).data ∧ Vo W (fun k => ok k ∧ k ≠ gl) vo (l.getD n clz).out ∧ Vs W (fun k => ok k ∧ k ≠ gl) vk (l.getD n clz).keys := by
  have hl := (Kd.N_reads' hN).1
  obtain ⟨c, hcl, hF, hc, hf⟩ := Kd.N_elem hN clz (n : Int) (by omega) (by omega)
  simp only [Int.toNat_natCast] at hF hc hf
  obtain ⟨vd, vo, vk, rfl, h1, h2, h3⟩ := fk_cl hF
  exact ⟨vd, vo, vk, hc, hf, h1, h2, h3⟩
/-- A cell of an element is written. -/
theorem hl_put {gl len cap : Nat} {l : List Cl} (hN : Kd.N CK 40 W 0 ok (.slice (some ⟨gl, 0, none⟩) len cap) l) (n : Nat) (hn : n < l.length) {cs : List Value} (hcl : cs.length = 10) (hcc : ∀ j u, cs[j]? = some u → W.cell? ⟨gl, n * 10 + j, none⟩ = some u)
    (j : Nat) (hj : j < 10) (u : Value) {c' : Cl} {okp : Nat → Prop} (hM : Kd.FK CK W okp c' (cs.set j u)) (hokp : ∀ k, okp k → ok k ∧ k ≠ gl) :
    Kd.N CK 40 (W.setCell ⟨gl, n * 10 + j, none⟩ u) 0 ok (.slice (some ⟨gl, 0, none⟩) len cap) (l.set n c') ∧ (∀ i x, (cs.set j u)[i]? = some x → (W.setCell ⟨gl, n * 10 + j, none⟩ u).cell? ⟨gl, n * 10 + i, none⟩ = some x) := by
  have hl := (Kd.N_reads' hN).1
  have hset : cs.set j u = cs.take j ++ [u] ++ cs.drop (j + 1) := by
    rw [List.set_eq_take_append_cons_drop, if_pos (by omega)]; simp
  obtain ⟨h1, _⟩ := Kd.N_seg hN (n : Int) (by omega) (by omega) (c := cs) (seg := [u]) (j := j) (x' := c') (okp := okp) hcl (by rw [Int.toNat_natCast]; exact hcc) (show j + 1 ≤ 10 by omega) (by rw [show [u].length = 1 from rfl, ← hset]; exact hM) hokp
  rw [Int.toNat_natCast] at h1
  refine ⟨h1, fun i x hx => ?_⟩
  by_cases hij : i = j
  · subst hij
    rw [List.getElem?_set_self (by omega)] at hx
    injection hx with hx
    subst hx
    have h0 := hcc i _ (List.getElem?_eq_getElem (by omega))
    exact World.cell?_setCell_same _ _ _ h0
  · rw [List.getElem?_set_ne (Ne.symm hij)] at hx
    rw [World.cell?_setCell_other _ _ _ _ (fun e => hij (by injection e with _ e; omega))]
    exact hcc i x hx
end
structure Hst.Fit (h : Hst) : Prop where
  opn : ∀ t n, h.opn t = some n → n < h.list.length
  len : h.list.length < 1000000
  now : 0 ≤ h.now ∧ h.now < 1000000
def Hst.marked (h : Hst) (n : Nat) (a : Ans) : Cl := if a.mark = 0 then h.list.getD n clz else { h.list.getD n clz with at_ := h.now }
def Hst.ended (h : Hst) (n : Nat) (a : Ans) : Cl := { h.marked n a with to_ := h.now, e := a.e, out := a.data, keys := a.keys }
def Hst.run (h : Hst) (t : Int) (a : Ans) : Hst :=
  match h.opn t with
  | none => h
  | some n => if a.done then ⟨h.now, h.list.set n (h.ended n a), upd h.opn t none⟩ else ⟨h.now, h.list.set n (h.marked n a), h.opn⟩
theorem set_self {l : List Cl} {n : Nat} : l.set n (l.getD n clz) = l := by
  apply List.ext_getElem?
  intro i
  by_cases hi : i = n
  · subst hi
    by_cases hl : i < l.length
    · rw [List.getElem?_set_self hl, List.getD_eq_getElem?_getD, List.getElem?_eq_getElem hl]; rfl
    · rw [List.set_eq_of_length_le (by omega)]
  · rw [List.getElem?_set_ne (Ne.symm hi)]
set_option maxRecDepth 100000 in
set_option maxHeartbeats 2000000 in
theorem run_calls (g mb : Nat) (h : Hst) (task : Int) (a : Ans) (va vk : Value) (ok okx : Nat → Prop) (w : World) (H : Hp w ok g mb h) (hva : Vb w okx va a.data) (hka : Vs w okx vk a.keys) (hnew : ∀ k, w.heap.size ≤ k → ok k) (hfit : h.Fit) (hx : ∀ k, okx k → k < w.heap.size → ¬ ok k ∧ k ≠ mb ∧ k ≠ g) (hwt : (Lit.int .i64 task).wf = true)
    (hld : a.data.length < 1000000) (hlk : a.keys.length < 1000000) :
    Calls Try.prog 14 #[.pointer (some ⟨g, 0, none⟩), .int .i64 task, .agg #[.int .i64 a.e, .int .i64 a.task, .bool a.done, .int .i64 a.mark, va, vk]] w fun e w' => e = .returned (.tuple #[]) ∧ Hp w' ok g mb (h.run task a) ∧ Kq w w' (fun k => ok k ∨ k = mb) g := by
  obtain ⟨v, H⟩ := H
  obtain ⟨D, dc, rfl, hD, hDF⟩ := hva
  obtain ⟨Ks0, kc, rfl, hK, hKF⟩ := hka
  obtain ⟨W1, hW1⟩ : ∃ W1, W1 = w.alloc (.cells #[.int .i64 a.e, .int .i64 a.task, .bool a.done, .int .i64 a.mark, .slice D a.data.length dc, .slice Ks0 a.keys.length kc] 35) := ⟨_, rfl⟩
  have hB1 : Below w.heap.size w W1 := by rw [hW1]; exact (Below.refl _ _).alloc (Nat.le_refl _) _
  have hblk : W1.heap[w.heap.size]? = some (.cells #[.int .i64 a.e, .int .i64 a.task, .bool a.done, .int .i64 a.mark, .slice D a.data.length dc, .slice Ks0 a.keys.length kc] 35 (0, 0)) := by rw [hW1]; exact heap_alloc_new w _
  have H1 := H.below hB1
  obtain ⟨c0, c1, c2, hfz⟩ := hv_cell H1
  have HM1 := Aside0.mk H1.map
  have HT := Aside0.mk hwt
  have HW1 := Aside0.mk hW1
  have HB1 := Aside0.mk hB1
  have HAB := Aside0.mk hblk
  have HBL := Aside0.mk H1.blk
  have HNG := Aside0.mk H1.ng
  have HNM := Aside0.mk H1.nm
  have HNew := Aside0.mk hnew
  have HGM := Aside0.mk H.gm
  have HFit := Aside0.mk hfit
  have HDF := Aside0.mk hDF
  have HKF := Aside0.mk hKF
  have HL1 := Aside0.mk hD
  have HL2 := Aside0.mk hK
  have HX := Aside0.mk hx
  clear hx
  have hs1 : w.heap.size < W1.heap.size := blk_lt hblk
  have r0 : W1.cell? ⟨w.heap.size, 0, none⟩ = some (.int .i64 a.e) := (blk_cell hblk 0).trans rfl
  have r2 : W1.cell? ⟨w.heap.size, 2, none⟩ = some (.bool a.done) := (blk_cell hblk 2).trans rfl
  have r3 : W1.cell? ⟨w.heap.size, 3, none⟩ = some (.int .i64 a.mark) := (blk_cell hblk 3).trans rfl
  have HS1 := Aside0.mk hs1
  cases ho : h.opn task with
  | none =>
    have hr : h.run task a = h := by unfold Hst.run; rw [ho]
    have hmv : mval h.opn (.int .i64 task) = none := by show (h.opn task).map _ = _; rw [ho]; rfl
    have HMv := Aside0.mk hmv
    have HH1 := Aside0.mk H1
    rw [hr]
    clear hr hmv ho H1 H hW1 hB1 hblk hwt hnew hfit hDF hKF hD hK hs1
    go_enter Try.func14, Try.ntmps14
    go_upto_region 1 with fail
    rw [← HW1.out]
    go_wp2_with (at_lookup; refine wpList_look_m rfl (.tmp 13) (.tmp 14) 48 true rfl keyed3 Try.underlying48 (zero3 _) rfl HM1.out (.int .i64 task) rfl (key3 _ HT.out) ?_; rw [HMv.out]; simp only [Option.getD_none, Option.isSome_none, if_true])
    refine bodyPost_ret (results_none rfl _ _ _) rfl ?_
    exact ⟨rfl, ⟨v, HH1.out⟩, Kq.of_below HB1.out⟩
  | some n =>
    have hn := hfit.opn task n ho
    have hmv : mval h.opn (.int .i64 task) = some (.int .i64 (n : Int)) := by show (h.opn task).map _ = _; rw [ho]; rfl
    have HMv := Aside0.mk hmv
    obtain ⟨gl, cap, he, _, hgl2, _⟩ := Kd.N_form H1.lst (by omega)
    subst he
    have HN1 := Aside0.mk H1.lst
    have HGL : Aside0 (ok gl) := ⟨H1.lst.1 gl (by simp [Value.ownBlock])⟩
    have HGL0 : Aside0 (gl < w.heap.size) := ⟨Kd.N_lt H.lst gl (by simp [Value.ownBlock])⟩
    have HGN : Aside0 (g ≠ gl) := ⟨fun e => H1.ng (e ▸ HGL.out)⟩
    have HMN : Aside0 (mb ≠ gl) := ⟨fun e => H1.nm (e ▸ HGL.out)⟩
    obtain ⟨vd, vo, vk, hcc, hfz6, hVd, hVo, hVk⟩ := hl_elem H1.lst n hn
    have hni : (n : Int) < (h.list.length : Int) := by omega
    have hll : (h.list.length : Int) < 1000000 := by have := hfit.len; omega
    clear hmv H1 H hW1 hB1 hblk hwt hnew hfit hDF hKF hD hK hs1 hgl2
    by_cases hmk : a.mark = 0
    · cases hdn : a.done with
      | false =>
        have hm : (a.mark != 0) = false := by simpa using hmk
        obtain ⟨W2, hW2⟩ : ∃ W2, W2 = W1 := ⟨_, rfl⟩
        have hput : Kd.N CK 40 W2 0 ok (.slice (some ⟨gl, 0, none⟩) h.list.length cap) (h.list.set n (h.list.getD n clz)) ∧ (∀ i x, (cc (h.list.getD n clz) vd vo vk)[i]? = some x → W2.cell? ⟨gl, n * 10 + i, none⟩ = some x) := by rw [set_self, hW2]; exact ⟨HN1.out, hcc⟩
        have HK2 : Aside0 (Kq w W2 (fun k => ok k ∨ k = mb) g) := ⟨by rw [hW2]; exact Kq.of_below HB1.out⟩
        have HCM : Aside0 (h.marked n a = h.list.getD n clz) := ⟨by unfold Hst.marked; rw [if_pos hmk]⟩
        have HMM : Aside0 (∀ k, k ≠ gl → W2.heap[k]? = W1.heap[k]?) := ⟨fun k hk => by rw [hW2]⟩
        have HSZ : Aside0 (W2.heap.size = W1.heap.size) := ⟨by rw [hW2]⟩
        have HW2 := Aside0.mk hW2
        have HFZ2 : Aside0 (∀ j, W2.frozen? ⟨gl, n * 10 + j, none⟩ = false) := ⟨fun j => by rw [hW2]; exact hfz6 j⟩
        obtain ⟨hN2, hcc2⟩ := hput
        have HN2 := Aside0.mk hN2
        have HCC2 := Aside0.mk hcc2
        obtain ⟨cm, hcm⟩ : ∃ cm, cm = h.marked n a := ⟨_, rfl⟩
        have ecm := hcm.trans HCM.out
        have PW2 : Aside0 (Kd.N CK 40 W2 0 ok (.slice (some ⟨gl, 0, none⟩) h.list.length cap) (h.list.set n cm) ∧ (∀ i x, (cc cm vd vo vk)[i]? = some x → W2.cell? ⟨gl, n * 10 + i, none⟩ = some x)) := ⟨by rw [ecm]; exact ⟨HN2.out, HCC2.out⟩⟩
        have HR : Aside0 (h.run task a = ⟨h.now, h.list.set n cm, h.opn⟩) := ⟨by unfold Hst.run; rw [ho]; show (if a.done = true then _ else _) = _; rw [hdn, if_neg (by decide), hcm]⟩
        obtain ⟨X, hX⟩ : ∃ X, X = h.run task a := ⟨_, rfl⟩
        rw [← hX]
        have HXX : Aside0 (X = ⟨h.now, h.list.set n cm, h.opn⟩) := ⟨hX.trans HR.out⟩
        have HW3 : Aside0 (W1 = w.alloc (.cells #[.int .i64 a.e, .int .i64 a.task, .bool false, .int .i64 a.mark, .slice D a.data.length dc, .slice Ks0 a.keys.length kc] 35)) := ⟨by rw [HW1.out, hdn]⟩
        clear HR hX ho hcm ecm hN2 hcc2 hW2 hmk hcc hfz6 hVd hVo hVk HN2 HCC2
        go_enter Try.func14, Try.ntmps14
        go_upto_region 1 with fail
        rw [← HW3.out]
        go_wp2_with (at_lookup; refine wpList_look_m rfl (.tmp 13) (.tmp 14) 48 true rfl keyed3 Try.underlying48 (zero3 _) rfl HM1.out (.int .i64 task) rfl (key3 _ HT.out) ?_; rw [HMv.out]; simp only [Option.getD_some, Option.isSome_some, if_true])
        rw [← HW2.out]
        go_end0
        rw [HXX.out]
        refine ⟨rfl, ⟨.slice (some ⟨gl, 0, none⟩) h.list.length cap, ⟨?_, HNG.out, HNM.out, PW2.out.1, ?_⟩⟩, HK2.out⟩
        · exact (HMM.out _ HGN.out).trans HBL.out
        · exact HM1.out.step (HMM.out _ HMN.out)
      | true =>
        have hm : (a.mark != 0) = false := by simpa using hmk
        obtain ⟨W2, hW2⟩ : ∃ W2, W2 = W1 := ⟨_, rfl⟩
        have hput : Kd.N CK 40 W2 0 ok (.slice (some ⟨gl, 0, none⟩) h.list.length cap) (h.list.set n (h.list.getD n clz)) ∧ (∀ i x, (cc (h.list.getD n clz) vd vo vk)[i]? = some x → W2.cell? ⟨gl, n * 10 + i, none⟩ = some x) := by rw [set_self, hW2]; exact ⟨HN1.out, hcc⟩
        have HK2 : Aside0 (Kq w W2 (fun k => ok k ∨ k = mb) g) := ⟨by rw [hW2]; exact Kq.of_below HB1.out⟩
        have HCM : Aside0 (h.marked n a = h.list.getD n clz) := ⟨by unfold Hst.marked; rw [if_pos hmk]⟩
        have HMM : Aside0 (∀ k, k ≠ gl → W2.heap[k]? = W1.heap[k]?) := ⟨fun k hk => by rw [hW2]⟩
        have HSZ : Aside0 (W2.heap.size = W1.heap.size) := ⟨by rw [hW2]⟩
        have HW2 := Aside0.mk hW2
        have HFZ2 : Aside0 (∀ j, W2.frozen? ⟨gl, n * 10 + j, none⟩ = false) := ⟨fun j => by rw [hW2]; exact hfz6 j⟩
        obtain ⟨hN2, hcc2⟩ := hput
        have HN2 := Aside0.mk hN2
        have HCC2 := Aside0.mk hcc2
        obtain ⟨cm, hcm⟩ : ∃ cm, cm = h.marked n a := ⟨_, rfl⟩
        have ecm := hcm.trans HCM.out
        have PW2 : Aside0 (Kd.N CK 40 W2 0 ok (.slice (some ⟨gl, 0, none⟩) h.list.length cap) (h.list.set n cm) ∧ (∀ i x, (cc cm vd vo vk)[i]? = some x → W2.cell? ⟨gl, n * 10 + i, none⟩ = some x)) := ⟨by rw [ecm]; exact ⟨HN2.out, HCC2.out⟩⟩
        have HR : Aside0 (h.run task a = ⟨h.now, h.list.set n { cm with to_ := h.now, e := a.e, out := a.data, keys := a.keys }, upd h.opn task none⟩) := ⟨by unfold Hst.run; rw [ho]; show (if a.done = true then _ else _) = _; rw [hdn, if_pos rfl]; unfold Hst.ended; rw [← hcm]⟩
        obtain ⟨X, hX⟩ : ∃ X, X = h.run task a := ⟨_, rfl⟩
        rw [← hX]
        have HXX : Aside0 (X = ⟨h.now, h.list.set n { cm with to_ := h.now, e := a.e, out := a.data, keys := a.keys }, upd h.opn task none⟩) := ⟨hX.trans HR.out⟩
        have HW3 : Aside0 (W1 = w.alloc (.cells #[.int .i64 a.e, .int .i64 a.task, .bool true, .int .i64 a.mark, .slice D a.data.length dc, .slice Ks0 a.keys.length kc] 35)) := ⟨by rw [HW1.out, hdn]⟩
        have HAG : Aside0 (w.heap.size ≠ gl) := ⟨by have := HGL0.out; omega⟩
        have FW2 := HFZ2
        have KQW2 := HK2
        have VDW2 : Aside0 (Vo W2 (fun k => ok k ∧ k ≠ gl) vd cm.data) := ⟨by rw [ecm]; exact Kd.FK_step hVd (fun k hk _ => HMM.out k hk.2)⟩
        have VOW2 : Aside0 (Vo W2 (fun k => ok k ∧ k ≠ gl) vo cm.out) := ⟨by rw [ecm]; exact Kd.FK_step hVo (fun k hk _ => HMM.out k hk.2)⟩
        have VKW2 : Aside0 (Vs W2 (fun k => ok k ∧ k ≠ gl) vk cm.keys) := ⟨by rw [ecm]; exact Kd.V_step hVk (fun k hk _ => HMM.out k hk.2)⟩
        have BGW2 : Aside0 (W2.heap[g]? = _) := ⟨(HMM.out g HGN.out).trans HBL.out⟩
        have BAW2 : Aside0 (W2.heap[w.heap.size]? = _) := ⟨(HMM.out _ HAG.out).trans HAB.out⟩
        have HMWW2 : Aside0 (IsM Try.prog 3 W2 mb (mval h.opn)) := ⟨HM1.out.step (HMM.out _ HMN.out)⟩
        have HX1 : Aside0 (U8.C W2 D a.data.length a.data) := ⟨Kd.F_now (Kd.F_step HDF.out (fun k hk hl => HK2.out.block k hl (fun h => h.elim (HX.out k hk hl).1 (HX.out k hk hl).2.1) (HX.out k hk hl).2.2))⟩
        have HOK2 : Aside0 (∀ k, W2.heap.size ≤ k → ok k ∧ k ≠ gl) := ⟨fun k hk => by have h1 := HSZ.out; have h2 := HS1.out; have h3 := HGL0.out; exact ⟨HNew.out k (by omega), by omega⟩⟩
        clear HR hX ho hcm ecm hN2 hcc2 hW2 hmk hcc hfz6 hVd hVo hVk HN2 HCC2
        go_enter Try.func14, Try.ntmps14
        go_upto_region 1 with fail
        rw [← HW3.out]
        go_upto_region 7 with (at_lookup; refine wpList_look_m rfl (.tmp 13) (.tmp 14) 48 true rfl keyed3 Try.underlying48 (zero3 _) rfl HM1.out (.int .i64 task) rfl (key3 _ HT.out) ?_; rw [HMv.out]; simp only [Option.getD_some, Option.isSome_some, if_true])
        rw [← HW2.out]
        refine start_ (n := 28) (S := fun w' => w'.cell? ⟨g, 0, none⟩ = some (.int .i64 h.now) ∧ w'.cell? ⟨w.heap.size, 0, none⟩ = some (.int .i64 a.e) ∧ w'.cell? ⟨w.heap.size, 4, none⟩ = some (.slice D a.data.length dc) ∧ w'.cell? ⟨w.heap.size, 5, none⟩ = some (.slice Ks0 a.keys.length kc)) (ds := []) #[false, false, false, false, false, false, false, false, false, false, false, false, false, false, false, false, false, false, false, false, false, false, false, false, false, false, false, false] (by kernel_rfl) rfl rfl ⟨((blk_cell BGW2.out 0).trans rfl), ((blk_cell BAW2.out 0).trans rfl), ((blk_cell BAW2.out 4).trans rfl), ((blk_cell BAW2.out 5).trans rfl)⟩ (fun hHeld => ?_)
        refine pure_ (i := 0) (N := some 38) (v := ?_) (a' := ?_) #[true, false, false, false, false, false, false, false, false, false, false, false, false, false, false, false, false, false, false, false, false, false, false, false, false, false, false, false] rfl rfl (by kernel_rfl) (fun _ _ _ h => h) (Or.inl ⟨by rfl, ?_⟩) ?_ ?_
        rotate_left
        · intro w'
          go_simp
          with_reducible rfl
        rotate_left
        · simp only [Act.put, List.setIfInBounds_toArray, List.set_cons_zero, List.set_cons_succ, i64_w, i32_w]
          rfl
        refine pure_ (i := 1) (N := some 39) (v := ?_) (a' := ?_) #[true, true, false, false, false, false, false, false, false, false, false, false, false, false, false, false, false, false, false, false, false, false, false, false, false, false, false, false] rfl rfl (by kernel_rfl) (fun _ _ _ h => h) (Or.inl ⟨by rfl, ?_⟩) ?_ ?_
        rotate_left
        · intro w'
          go_simp
          with_reducible rfl
        rotate_left
        · simp only [Act.put, List.setIfInBounds_toArray, List.set_cons_zero, List.set_cons_succ, i64_w, i32_w]
          rfl
        refine pure_ (i := 2) (N := some 40) (v := ?_) (a' := ?_) #[true, true, true, false, false, false, false, false, false, false, false, false, false, false, false, false, false, false, false, false, false, false, false, false, false, false, false, false] rfl rfl (by kernel_rfl) (fun _ _ _ h => h) (Or.inl ⟨by rfl, ?_⟩) ?_ ?_
        rotate_left
        · intro w'
          go_simp
          with_reducible rfl
        rotate_left
        · simp only [Act.put, List.setIfInBounds_toArray, List.set_cons_zero, List.set_cons_succ, i64_w, i32_w]
          rfl
        refine pure_ (i := 3) (N := some 41) (v := ?_) (a' := ?_) #[true, true, true, true, false, false, false, false, false, false, false, false, false, false, false, false, false, false, false, false, false, false, false, false, false, false, false, false] rfl rfl (by kernel_rfl) (fun _ _ _ h => h) (Or.inl ⟨by rfl, ?_⟩) ?_ ?_
        rotate_left
        · intro w'
          go_simp
          with_reducible rfl
        rotate_left
        · simp only [Act.put, List.setIfInBounds_toArray, List.set_cons_zero, List.set_cons_succ, i64_w, i32_w]
          rfl
        refine pure_ (i := 4) (N := some 42) (v := ?_) (a' := ?_) #[true, true, true, true, true, false, false, false, false, false, false, false, false, false, false, false, false, false, false, false, false, false, false, false, false, false, false, false] rfl rfl (by kernel_rfl) (fun _ _ _ h => h) (Or.inl ⟨by rfl, ?_⟩) ?_ ?_
        rotate_left
        · intro w'
          go_simp
          with_reducible rfl
        rotate_left
        · simp only [Act.put, List.setIfInBounds_toArray, List.set_cons_zero, List.set_cons_succ, i64_w, i32_w]
          rfl
        refine pure_ (i := 5) (N := some 43) (v := ?_) (a' := ?_) #[true, true, true, true, true, true, false, false, false, false, false, false, false, false, false, false, false, false, false, false, false, false, false, false, false, false, false, false] rfl rfl (by kernel_rfl) (fun _ _ _ h => h) (Or.inl ⟨by rfl, ?_⟩) ?_ ?_
        rotate_left
        · intro w'
          go_simp
          with_reducible rfl
        rotate_left
        · simp only [Act.put, List.setIfInBounds_toArray, List.set_cons_zero, List.set_cons_succ, i64_w, i32_w]
          rfl
        refine pure_ (i := 6) (N := some 44) (v := ?_) (a' := ?_) #[true, true, true, true, true, true, true, false, false, false, false, false, false, false, false, false, false, false, false, false, false, false, false, false, false, false, false, false] rfl rfl (by kernel_rfl) (fun _ _ _ h => h) (Or.inl ⟨by rfl, ?_⟩) ?_ ?_
        rotate_left
        · intro w'
          go_simp
          with_reducible rfl
        rotate_left
        · simp only [Act.put, List.setIfInBounds_toArray, List.set_cons_zero, List.set_cons_succ, i64_w, i32_w]
          rfl
        refine pure_ (i := 8) (N := some 46) (v := ?_) (a' := ?_) #[true, true, true, true, true, true, true, false, true, false, false, false, false, false, false, false, false, false, false, false, false, false, false, false, false, false, false, false] rfl rfl (by kernel_rfl) (fun _ _ _ h => h) (Or.inl ⟨by rfl, ?_⟩) ?_ ?_
        rotate_left
        · intro w'
          go_simp
          with_reducible rfl
        rotate_left
        · simp only [Act.put, List.setIfInBounds_toArray, List.set_cons_zero, List.set_cons_succ, i64_w, i32_w]
          rfl
        refine pure_ (i := 10) (N := some 48) (v := ?_) (a' := ?_) #[true, true, true, true, true, true, true, false, true, false, true, false, false, false, false, false, false, false, false, false, false, false, false, false, false, false, false, false] rfl rfl (by kernel_rfl) (fun _ _ _ h => h) (Or.inl ⟨by rfl, ?_⟩) ?_ ?_
        rotate_left
        · intro w'
          go_simp
          with_reducible rfl
        rotate_left
        · simp only [Act.put, List.setIfInBounds_toArray, List.set_cons_zero, List.set_cons_succ, i64_w, i32_w]
          rfl
        refine pure_ (i := 13) (N := some 51) (v := ?_) (a' := ?_) #[true, true, true, true, true, true, true, false, true, false, true, false, false, true, false, false, false, false, false, false, false, false, false, false, false, false, false, false] rfl rfl (by kernel_rfl) (fun _ _ _ h => h) (Or.inl ⟨by rfl, ?_⟩) ?_ ?_
        rotate_left
        · intro w'
          go_simp
          with_reducible rfl
        rotate_left
        · simp only [Act.put, List.setIfInBounds_toArray, List.set_cons_zero, List.set_cons_succ, i64_w, i32_w]
          rfl
        refine take_ (i := 7) (N := some 45) (v := ?_) (a' := ?_) #[true, true, true, true, true, true, true, true, true, false, true, false, false, true, false, false, false, false, false, false, false, false, false, false, false, false, false, false] rfl rfl (by kernel_rfl) (fun _ _ _ h => h) (Or.inl ⟨by rfl, ?_⟩) hHeld ?_ ?_
        rotate_left
        · rintro w' ⟨s0, s1, s2, s3⟩
          go_simp
          with_reducible rfl
        rotate_left
        · simp only [Act.put, List.setIfInBounds_toArray, List.set_cons_zero, List.set_cons_succ, i64_w, i32_w]
          rfl
        refine take_ (i := 9) (N := some 47) (v := ?_) (a' := ?_) #[true, true, true, true, true, true, true, true, true, true, true, false, false, true, false, false, false, false, false, false, false, false, false, false, false, false, false, false] rfl rfl (by kernel_rfl) (fun _ _ _ h => h) (Or.inl ⟨by rfl, ?_⟩) hHeld ?_ ?_
        rotate_left
        · rintro w' ⟨s0, s1, s2, s3⟩
          go_simp
          with_reducible rfl
        rotate_left
        · simp only [Act.put, List.setIfInBounds_toArray, List.set_cons_zero, List.set_cons_succ, i64_w, i32_w]
          rfl
        refine take_ (i := 11) (N := some 49) (v := ?_) (a' := ?_) #[true, true, true, true, true, true, true, true, true, true, true, true, false, true, false, false, false, false, false, false, false, false, false, false, false, false, false, false] rfl rfl (by kernel_rfl) (fun _ _ _ h => h) (Or.inl ⟨by rfl, ?_⟩) hHeld ?_ ?_
        rotate_left
        · rintro w' ⟨s0, s1, s2, s3⟩
          go_simp
          with_reducible rfl
        rotate_left
        · simp only [Act.put, List.setIfInBounds_toArray, List.set_cons_zero, List.set_cons_succ, i64_w, i32_w]
          rfl
        refine take_ (i := 14) (N := some 52) (v := ?_) (a' := ?_) #[true, true, true, true, true, true, true, true, true, true, true, true, false, true, true, false, false, false, false, false, false, false, false, false, false, false, false, false] rfl rfl (by kernel_rfl) (fun _ _ _ h => h) (Or.inl ⟨by rfl, ?_⟩) hHeld ?_ ?_
        rotate_left
        · rintro w' ⟨s0, s1, s2, s3⟩
          go_simp
          with_reducible rfl
        rotate_left
        · simp only [Act.put, List.setIfInBounds_toArray, List.set_cons_zero, List.set_cons_succ, i64_w, i32_w]
          rfl
        refine one_ (i := 12) (N := some 50) #[true, true, true, true, true, true, true, true, true, true, true, true, true, true, true, false, false, false, false, false, false, false, false, false, false, false, false, false] rfl rfl (by kernel_rfl) (by decide) (fun K hK => ?_)
        refine goes_ Try.func13 (by kernel_rfl) rfl #[.slice D a.data.length dc] (by rfl) rfl rfl (by simp only [List.map_toArray, List.map_cons, List.map_nil]; rfl) ?_
        with_reducible refine (clone_calls D a.data.length dc a.data _ (Kd.C_drew HX1.out) (by omega)).mono ?_
        rintro e w1 ⟨v2, rfl, ho, hb1⟩
        refine ⟨_, rfl, ?_⟩
        have Bw1 : Aside0 (Below W2.heap.size W2 w1) := ⟨⟨hb1.os, hb1.tape, hb1.output, hb1.size, hb1.block⟩⟩
        have Pw1 : Aside0 (Kd.N CK 40 w1 0 ok (.slice (some ⟨gl, 0, none⟩) h.list.length cap) (h.list.set n cm) ∧ (∀ i x, (cc cm vd vo vk)[i]? = some x → w1.cell? ⟨gl, n * 10 + i, none⟩ = some x)) := ⟨Kd.N_below PW2.out.1 Bw1.out, fun i x hx => pw_cell_below Bw1.out (PW2.out.2 i x hx)⟩
        have Fw1 : Aside0 (∀ j, w1.frozen? ⟨gl, n * 10 + j, none⟩ = false) := ⟨fun j => (Bw1.out.frozen (p := ⟨gl, n * 10 + j, none⟩) (Nat.lt_of_lt_of_le HGL0.out KQW2.out.size)).trans (FW2.out j)⟩
        have KQw1 : Aside0 (Kq w w1 (fun k => ok k ∨ k = mb) g) := ⟨KQW2.out.below Bw1.out⟩
        have VDw1 : Aside0 (Vo w1 (fun k => ok k ∧ k ≠ gl) vd cm.data) := ⟨Kd.FK_below VDW2.out Bw1.out⟩
        have VOw1 : Aside0 (Vo w1 (fun k => ok k ∧ k ≠ gl) vo cm.out) := ⟨Kd.FK_below VOW2.out Bw1.out⟩
        have VKw1 : Aside0 (Vs w1 (fun k => ok k ∧ k ≠ gl) vk cm.keys) := ⟨Kd.V_below VKW2.out Bw1.out⟩
        have BGw1 : Aside0 (w1.heap[g]? = _) := ⟨blk_below BGW2.out Bw1.out⟩
        have BAw1 : Aside0 (w1.heap[w.heap.size]? = _) := ⟨blk_below BAW2.out Bw1.out⟩
        have HMWw1 : Aside0 (IsM Try.prog 3 w1 mb (mval h.opn)) := ⟨HMWW2.out.step (Bw1.out.block mb HMWW2.out.lt)⟩
        clear hb1
        have VPw1 : Aside0 (Vo w1 (fun k => ok k ∧ k ≠ gl) v2 a.data) := ⟨vo_new ho (fun k hk => HOK2.out k hk)⟩
        obtain ⟨A2, n2, rfl⟩ := Kd.V_slice (vo_vb VPw1.out)
        clear ho
        have HX2 : Aside0 (Kd.string.C w1 Ks0 a.keys.length a.keys) := ⟨Kd.F_now (Kd.F_step HKF.out (fun k hk hl => KQw1.out.block k hl (fun h => h.elim (HX.out k hk hl).1 (HX.out k hk hl).2.1) (HX.out k hk hl).2.2))⟩
        refine hK.out _ _ ⟨((blk_cell BGw1.out 0).trans rfl), ((blk_cell BAw1.out 0).trans rfl), ((blk_cell BAw1.out 4).trans rfl), ((blk_cell BAw1.out 5).trans rfl)⟩ (fun hHeld => ?_)
        clear hK K
        refine norm_ (a' := ?_) ?_ ?_
        rotate_left
        · show Act.put _ (some 50) _ = _
          simp only [Act.put, List.setIfInBounds_toArray, List.set_cons_zero, List.set_cons_succ, i64_w, i32_w]
          rfl
        refine one_ (i := 15) (N := some 53) #[true, true, true, true, true, true, true, true, true, true, true, true, true, true, true, true, false, false, false, false, false, false, false, false, false, false, false, false] rfl rfl (by kernel_rfl) (by decide) (fun K hK => ?_)
        refine goes_ Try.func15 (by kernel_rfl) rfl #[.slice Ks0 a.keys.length kc] (by rfl) rfl rfl (by simp only [List.map_toArray, List.map_cons, List.map_nil]; rfl) ?_
        with_reducible refine (clones_calls Ks0 a.keys.length kc a.keys _ HX2.out (by omega)).mono ?_
        rintro e w2 ⟨v3, rfl, ho, hb2⟩
        refine ⟨_, rfl, ?_⟩
        have Bw2 : Aside0 (Below w1.heap.size w1 w2) := ⟨⟨hb2.os, hb2.tape, hb2.output, hb2.size, hb2.block⟩⟩
        have Pw2 : Aside0 (Kd.N CK 40 w2 0 ok (.slice (some ⟨gl, 0, none⟩) h.list.length cap) (h.list.set n cm) ∧ (∀ i x, (cc cm vd vo vk)[i]? = some x → w2.cell? ⟨gl, n * 10 + i, none⟩ = some x)) := ⟨Kd.N_below Pw1.out.1 Bw2.out, fun i x hx => pw_cell_below Bw2.out (Pw1.out.2 i x hx)⟩
        have Fw2 : Aside0 (∀ j, w2.frozen? ⟨gl, n * 10 + j, none⟩ = false) := ⟨fun j => (Bw2.out.frozen (p := ⟨gl, n * 10 + j, none⟩) (Nat.lt_of_lt_of_le HGL0.out KQw1.out.size)).trans (Fw1.out j)⟩
        have KQw2 : Aside0 (Kq w w2 (fun k => ok k ∨ k = mb) g) := ⟨KQw1.out.below Bw2.out⟩
        have VDw2 : Aside0 (Vo w2 (fun k => ok k ∧ k ≠ gl) vd cm.data) := ⟨Kd.FK_below VDw1.out Bw2.out⟩
        have VOw2 : Aside0 (Vo w2 (fun k => ok k ∧ k ≠ gl) vo cm.out) := ⟨Kd.FK_below VOw1.out Bw2.out⟩
        have VKw2 : Aside0 (Vs w2 (fun k => ok k ∧ k ≠ gl) vk cm.keys) := ⟨Kd.V_below VKw1.out Bw2.out⟩
        have BGw2 : Aside0 (w2.heap[g]? = _) := ⟨blk_below BGw1.out Bw2.out⟩
        have BAw2 : Aside0 (w2.heap[w.heap.size]? = _) := ⟨blk_below BAw1.out Bw2.out⟩
        have HMWw2 : Aside0 (IsM Try.prog 3 w2 mb (mval h.opn)) := ⟨HMWw1.out.step (Bw2.out.block mb HMWw1.out.lt)⟩
        clear hb2
        have VPw2 : Aside0 (Vo w2 (fun k => ok k ∧ k ≠ gl) (.slice A2 a.data.length n2) a.data) := ⟨Kd.FK_below VPw1.out Bw2.out⟩
        have VQw2 : Aside0 (Vs w2 (fun k => ok k ∧ k ≠ gl) v3 a.keys) := ⟨vs_new ho (fun k hk => HOK2.out k (Nat.le_trans Bw1.out.size hk))⟩
        obtain ⟨A3, n3, rfl⟩ := Kd.V_slice VQw2.out
        clear ho
        have k5 : w2.cell? ⟨gl, n * 10 + 5, none⟩ = some _ := Pw2.out.2 5 _ rfl
        have f5 : w2.frozen? ⟨gl, n * 10 + 5, none⟩ = false := Fw2.out 5
        refine hK.out _ _ ⟨((blk_cell BGw2.out 0).trans rfl), ((blk_cell BAw2.out 0).trans rfl), ((blk_cell BAw2.out 4).trans rfl), ((blk_cell BAw2.out 5).trans rfl)⟩ (fun hHeld => ?_)
        clear hK K
        refine norm_ (a' := ?_) ?_ ?_
        rotate_left
        · show Act.put _ (some 53) _ = _
          simp only [Act.put, List.setIfInBounds_toArray, List.set_cons_zero, List.set_cons_succ, i64_w, i32_w]
          rfl
        refine pure_ (i := 16) (N := some 54) (v := ?_) (a' := ?_) #[true, true, true, true, true, true, true, true, true, true, true, true, true, true, true, true, true, false, false, false, false, false, false, false, false, false, false, false] rfl rfl (by kernel_rfl) (fun _ _ _ h => h) (Or.inl ⟨by rfl, ?_⟩) ?_ ?_
        rotate_left
        · intro w'
          go_simp
          with_reducible rfl
        rotate_left
        · simp only [Act.put, List.setIfInBounds_toArray, List.set_cons_zero, List.set_cons_succ, i64_w, i32_w]
          rfl
        refine pure_ (i := 17) (N := some 55) (v := ?_) (a' := ?_) #[true, true, true, true, true, true, true, true, true, true, true, true, true, true, true, true, true, true, false, false, false, false, false, false, false, false, false, false] rfl rfl (by kernel_rfl) (fun _ _ _ h => h) (Or.inl ⟨by rfl, ?_⟩) ?_ ?_
        rotate_left
        · intro w'
          go_simp
          with_reducible rfl
        rotate_left
        · simp only [Act.put, List.setIfInBounds_toArray, List.set_cons_zero, List.set_cons_succ, i64_w, i32_w]
          rfl
        refine one_ (i := 18) (N := none) #[true, true, true, true, true, true, true, true, true, true, true, true, true, true, true, true, true, true, true, false, false, false, false, false, false, false, false, false] rfl rfl (by kernel_rfl) (by decide) (fun K hK => ?_)
        refine skip_ (w1 := ?_) (by rfl) rfl ?_ ?_
        rotate_left
        · go_simp
          rfl
        obtain ⟨w3, hhw3⟩ : ∃ w3, w3 = w2.setCell ⟨gl, n * 10 + 5, none⟩ (.int .i64 h.now) := ⟨_, rfl⟩
        rw [← hhw3]
        have ppw3 := hl_put Pw2.out.1 n (by rw [List.length_set]; exact hn) (cs := cc cm vd vo vk) rfl Pw2.out.2 5 (by decide) (.int .i64 h.now) (c' := { cm with to_ := h.now }) (cl_fk (vd := vd) (vo := vo) (vk := vk) VDw2.out VOw2.out VKw2.out) (fun k hk => hk)
        rw [← hhw3, List.set_set] at ppw3
        have Pw3 : Aside0 (Kd.N CK 40 w3 0 ok (.slice (some ⟨gl, 0, none⟩) h.list.length cap) (h.list.set n { cm with to_ := h.now }) ∧ (∀ i x, (cc { cm with to_ := h.now } vd vo vk)[i]? = some x → w3.cell? ⟨gl, n * 10 + i, none⟩ = some x)) := ⟨ppw3⟩
        have Mw3 : Aside0 (∀ k, k ≠ gl → w3.heap[k]? = w2.heap[k]?) := ⟨fun k hk => by rw [hhw3]; exact Below.heap_setCell _ _ _ _ hk⟩
        have Fw3 : Aside0 (∀ j, w3.frozen? ⟨gl, n * 10 + j, none⟩ = false) := ⟨fun j => by rw [hhw3]; exact (World.frozen?_setCell _ _ _ _).trans (Fw2.out j)⟩
        have KQw3 : Aside0 (Kq w w3 (fun k => ok k ∨ k = mb) g) := ⟨by rw [hhw3]; exact KQw2.out.set (p := ⟨gl, n * 10 + 5, none⟩) (.inr (.inl (.inl HGL.out))) _⟩
        have VDw3 : Aside0 (Vo w3 (fun k => ok k ∧ k ≠ gl) vd cm.data) := ⟨Kd.FK_step VDw2.out (fun k hk _ => Mw3.out k hk.2)⟩
        have VOw3 : Aside0 (Vo w3 (fun k => ok k ∧ k ≠ gl) vo cm.out) := ⟨Kd.FK_step VOw2.out (fun k hk _ => Mw3.out k hk.2)⟩
        have VKw3 : Aside0 (Vs w3 (fun k => ok k ∧ k ≠ gl) vk cm.keys) := ⟨Kd.V_step VKw2.out (fun k hk _ => Mw3.out k hk.2)⟩
        have VPw3 : Aside0 (Vo w3 (fun k => ok k ∧ k ≠ gl) (.slice A2 a.data.length n2) a.data) := ⟨Kd.FK_step VPw2.out (fun k hk _ => Mw3.out k hk.2)⟩
        have VQw3 : Aside0 (Vs w3 (fun k => ok k ∧ k ≠ gl) (.slice A3 a.keys.length n3) a.keys) := ⟨Kd.V_step VQw2.out (fun k hk _ => Mw3.out k hk.2)⟩
        have BGw3 : Aside0 (w3.heap[g]? = _) := ⟨(Mw3.out g HGN.out).trans BGw2.out⟩
        have BAw3 : Aside0 (w3.heap[w.heap.size]? = _) := ⟨(Mw3.out _ HAG.out).trans BAw2.out⟩
        have HMWw3 : Aside0 (IsM Try.prog 3 w3 mb (mval h.opn)) := ⟨HMWw2.out.step (Mw3.out mb HMN.out)⟩
        clear ppw3 hhw3
        have k7 : w3.cell? ⟨gl, n * 10 + 7, none⟩ = some _ := Pw3.out.2 7 _ rfl
        have f7 : w3.frozen? ⟨gl, n * 10 + 7, none⟩ = false := Fw3.out 7
        refine hK.out _ _ ⟨((blk_cell BGw3.out 0).trans rfl), ((blk_cell BAw3.out 0).trans rfl), ((blk_cell BAw3.out 4).trans rfl), ((blk_cell BAw3.out 5).trans rfl)⟩ (fun hHeld => ?_)
        clear hK K
        refine pure_ (i := 19) (N := some 56) (v := ?_) (a' := ?_) #[true, true, true, true, true, true, true, true, true, true, true, true, true, true, true, true, true, true, true, true, false, false, false, false, false, false, false, false] rfl rfl (by kernel_rfl) (fun _ _ _ h => h) (Or.inl ⟨by rfl, ?_⟩) ?_ ?_
        rotate_left
        · intro w'
          go_simp
          with_reducible rfl
        rotate_left
        · simp only [Act.put, List.setIfInBounds_toArray, List.set_cons_zero, List.set_cons_succ, i64_w, i32_w]
          rfl
        refine pure_ (i := 20) (N := some 57) (v := ?_) (a' := ?_) #[true, true, true, true, true, true, true, true, true, true, true, true, true, true, true, true, true, true, true, true, true, false, false, false, false, false, false, false] rfl rfl (by kernel_rfl) (fun _ _ _ h => h) (Or.inl ⟨by rfl, ?_⟩) ?_ ?_
        rotate_left
        · intro w'
          go_simp
          with_reducible rfl
        rotate_left
        · simp only [Act.put, List.setIfInBounds_toArray, List.set_cons_zero, List.set_cons_succ, i64_w, i32_w]
          rfl
        refine one_ (i := 21) (N := none) #[true, true, true, true, true, true, true, true, true, true, true, true, true, true, true, true, true, true, true, true, true, true, false, false, false, false, false, false] rfl rfl (by kernel_rfl) (by decide) (fun K hK => ?_)
        refine skip_ (w1 := ?_) (by rfl) rfl ?_ ?_
        rotate_left
        · go_simp
          rfl
        obtain ⟨w4, hhw4⟩ : ∃ w4, w4 = w3.setCell ⟨gl, n * 10 + 7, none⟩ (.int .i64 a.e) := ⟨_, rfl⟩
        rw [← hhw4]
        have ppw4 := hl_put Pw3.out.1 n (by rw [List.length_set]; exact hn) (cs := cc { cm with to_ := h.now } vd vo vk) rfl Pw3.out.2 7 (by decide) (.int .i64 a.e) (c' := { cm with to_ := h.now, e := a.e }) (cl_fk (vd := vd) (vo := vo) (vk := vk) VDw3.out VOw3.out VKw3.out) (fun k hk => hk)
        rw [← hhw4, List.set_set] at ppw4
        have Pw4 : Aside0 (Kd.N CK 40 w4 0 ok (.slice (some ⟨gl, 0, none⟩) h.list.length cap) (h.list.set n { cm with to_ := h.now, e := a.e }) ∧ (∀ i x, (cc { cm with to_ := h.now, e := a.e } vd vo vk)[i]? = some x → w4.cell? ⟨gl, n * 10 + i, none⟩ = some x)) := ⟨ppw4⟩
        have Mw4 : Aside0 (∀ k, k ≠ gl → w4.heap[k]? = w3.heap[k]?) := ⟨fun k hk => by rw [hhw4]; exact Below.heap_setCell _ _ _ _ hk⟩
        have Fw4 : Aside0 (∀ j, w4.frozen? ⟨gl, n * 10 + j, none⟩ = false) := ⟨fun j => by rw [hhw4]; exact (World.frozen?_setCell _ _ _ _).trans (Fw3.out j)⟩
        have KQw4 : Aside0 (Kq w w4 (fun k => ok k ∨ k = mb) g) := ⟨by rw [hhw4]; exact KQw3.out.set (p := ⟨gl, n * 10 + 7, none⟩) (.inr (.inl (.inl HGL.out))) _⟩
        have VDw4 : Aside0 (Vo w4 (fun k => ok k ∧ k ≠ gl) vd cm.data) := ⟨Kd.FK_step VDw3.out (fun k hk _ => Mw4.out k hk.2)⟩
        have VOw4 : Aside0 (Vo w4 (fun k => ok k ∧ k ≠ gl) vo cm.out) := ⟨Kd.FK_step VOw3.out (fun k hk _ => Mw4.out k hk.2)⟩
        have VKw4 : Aside0 (Vs w4 (fun k => ok k ∧ k ≠ gl) vk cm.keys) := ⟨Kd.V_step VKw3.out (fun k hk _ => Mw4.out k hk.2)⟩
        have VPw4 : Aside0 (Vo w4 (fun k => ok k ∧ k ≠ gl) (.slice A2 a.data.length n2) a.data) := ⟨Kd.FK_step VPw3.out (fun k hk _ => Mw4.out k hk.2)⟩
        have VQw4 : Aside0 (Vs w4 (fun k => ok k ∧ k ≠ gl) (.slice A3 a.keys.length n3) a.keys) := ⟨Kd.V_step VQw3.out (fun k hk _ => Mw4.out k hk.2)⟩
        have BGw4 : Aside0 (w4.heap[g]? = _) := ⟨(Mw4.out g HGN.out).trans BGw3.out⟩
        have BAw4 : Aside0 (w4.heap[w.heap.size]? = _) := ⟨(Mw4.out _ HAG.out).trans BAw3.out⟩
        have HMWw4 : Aside0 (IsM Try.prog 3 w4 mb (mval h.opn)) := ⟨HMWw3.out.step (Mw4.out mb HMN.out)⟩
        clear ppw4 hhw4
        have k8 : w4.cell? ⟨gl, n * 10 + 8, none⟩ = some _ := Pw4.out.2 8 _ rfl
        have f8 : w4.frozen? ⟨gl, n * 10 + 8, none⟩ = false := Fw4.out 8
        refine hK.out _ _ ⟨((blk_cell BGw4.out 0).trans rfl), ((blk_cell BAw4.out 0).trans rfl), ((blk_cell BAw4.out 4).trans rfl), ((blk_cell BAw4.out 5).trans rfl)⟩ (fun hHeld => ?_)
        clear hK K
        refine pure_ (i := 22) (N := some 58) (v := ?_) (a' := ?_) #[true, true, true, true, true, true, true, true, true, true, true, true, true, true, true, true, true, true, true, true, true, true, true, false, false, false, false, false] rfl rfl (by kernel_rfl) (fun _ _ _ h => h) (Or.inl ⟨by rfl, ?_⟩) ?_ ?_
        rotate_left
        · intro w'
          go_simp
          with_reducible rfl
        rotate_left
        · simp only [Act.put, List.setIfInBounds_toArray, List.set_cons_zero, List.set_cons_succ, i64_w, i32_w]
          rfl
        refine pure_ (i := 23) (N := some 59) (v := ?_) (a' := ?_) #[true, true, true, true, true, true, true, true, true, true, true, true, true, true, true, true, true, true, true, true, true, true, true, true, false, false, false, false] rfl rfl (by kernel_rfl) (fun _ _ _ h => h) (Or.inl ⟨by rfl, ?_⟩) ?_ ?_
        rotate_left
        · intro w'
          go_simp
          with_reducible rfl
        rotate_left
        · simp only [Act.put, List.setIfInBounds_toArray, List.set_cons_zero, List.set_cons_succ, i64_w, i32_w]
          rfl
        refine one_ (i := 24) (N := none) #[true, true, true, true, true, true, true, true, true, true, true, true, true, true, true, true, true, true, true, true, true, true, true, true, true, false, false, false] rfl rfl (by kernel_rfl) (by decide) (fun K hK => ?_)
        refine skip_ (w1 := ?_) (by rfl) rfl ?_ ?_
        rotate_left
        · go_simp
          rfl
        obtain ⟨w5, hhw5⟩ : ∃ w5, w5 = w4.setCell ⟨gl, n * 10 + 8, none⟩ (.slice A2 a.data.length n2) := ⟨_, rfl⟩
        rw [← hhw5]
        have ppw5 := hl_put Pw4.out.1 n (by rw [List.length_set]; exact hn) (cs := cc { cm with to_ := h.now, e := a.e } vd vo vk) rfl Pw4.out.2 8 (by decide) (.slice A2 a.data.length n2) (c' := { cm with to_ := h.now, e := a.e, out := a.data }) (cl_fk (vd := vd) (vo := (.slice A2 a.data.length n2)) (vk := vk) VDw4.out VPw4.out VKw4.out) (fun k hk => hk)
        rw [← hhw5, List.set_set] at ppw5
        have Pw5 : Aside0 (Kd.N CK 40 w5 0 ok (.slice (some ⟨gl, 0, none⟩) h.list.length cap) (h.list.set n { cm with to_ := h.now, e := a.e, out := a.data }) ∧ (∀ i x, (cc { cm with to_ := h.now, e := a.e, out := a.data } vd (.slice A2 a.data.length n2) vk)[i]? = some x → w5.cell? ⟨gl, n * 10 + i, none⟩ = some x)) := ⟨ppw5⟩
        have Mw5 : Aside0 (∀ k, k ≠ gl → w5.heap[k]? = w4.heap[k]?) := ⟨fun k hk => by rw [hhw5]; exact Below.heap_setCell _ _ _ _ hk⟩
        have Fw5 : Aside0 (∀ j, w5.frozen? ⟨gl, n * 10 + j, none⟩ = false) := ⟨fun j => by rw [hhw5]; exact (World.frozen?_setCell _ _ _ _).trans (Fw4.out j)⟩
        have KQw5 : Aside0 (Kq w w5 (fun k => ok k ∨ k = mb) g) := ⟨by rw [hhw5]; exact KQw4.out.set (p := ⟨gl, n * 10 + 8, none⟩) (.inr (.inl (.inl HGL.out))) _⟩
        have VDw5 : Aside0 (Vo w5 (fun k => ok k ∧ k ≠ gl) vd cm.data) := ⟨Kd.FK_step VDw4.out (fun k hk _ => Mw5.out k hk.2)⟩
        have VOw5 : Aside0 (Vo w5 (fun k => ok k ∧ k ≠ gl) vo cm.out) := ⟨Kd.FK_step VOw4.out (fun k hk _ => Mw5.out k hk.2)⟩
        have VKw5 : Aside0 (Vs w5 (fun k => ok k ∧ k ≠ gl) vk cm.keys) := ⟨Kd.V_step VKw4.out (fun k hk _ => Mw5.out k hk.2)⟩
        have VPw5 : Aside0 (Vo w5 (fun k => ok k ∧ k ≠ gl) (.slice A2 a.data.length n2) a.data) := ⟨Kd.FK_step VPw4.out (fun k hk _ => Mw5.out k hk.2)⟩
        have VQw5 : Aside0 (Vs w5 (fun k => ok k ∧ k ≠ gl) (.slice A3 a.keys.length n3) a.keys) := ⟨Kd.V_step VQw4.out (fun k hk _ => Mw5.out k hk.2)⟩
        have BGw5 : Aside0 (w5.heap[g]? = _) := ⟨(Mw5.out g HGN.out).trans BGw4.out⟩
        have BAw5 : Aside0 (w5.heap[w.heap.size]? = _) := ⟨(Mw5.out _ HAG.out).trans BAw4.out⟩
        have HMWw5 : Aside0 (IsM Try.prog 3 w5 mb (mval h.opn)) := ⟨HMWw4.out.step (Mw5.out mb HMN.out)⟩
        clear ppw5 hhw5
        have k9 : w5.cell? ⟨gl, n * 10 + 9, none⟩ = some _ := Pw5.out.2 9 _ rfl
        have f9 : w5.frozen? ⟨gl, n * 10 + 9, none⟩ = false := Fw5.out 9
        refine hK.out _ _ ⟨((blk_cell BGw5.out 0).trans rfl), ((blk_cell BAw5.out 0).trans rfl), ((blk_cell BAw5.out 4).trans rfl), ((blk_cell BAw5.out 5).trans rfl)⟩ (fun hHeld => ?_)
        clear hK K
        refine pure_ (i := 25) (N := some 60) (v := ?_) (a' := ?_) #[true, true, true, true, true, true, true, true, true, true, true, true, true, true, true, true, true, true, true, true, true, true, true, true, true, true, false, false] rfl rfl (by kernel_rfl) (fun _ _ _ h => h) (Or.inl ⟨by rfl, ?_⟩) ?_ ?_
        rotate_left
        · intro w'
          go_simp
          with_reducible rfl
        rotate_left
        · simp only [Act.put, List.setIfInBounds_toArray, List.set_cons_zero, List.set_cons_succ, i64_w, i32_w]
          rfl
        refine pure_ (i := 26) (N := some 61) (v := ?_) (a' := ?_) #[true, true, true, true, true, true, true, true, true, true, true, true, true, true, true, true, true, true, true, true, true, true, true, true, true, true, true, false] rfl rfl (by kernel_rfl) (fun _ _ _ h => h) (Or.inl ⟨by rfl, ?_⟩) ?_ ?_
        rotate_left
        · intro w'
          go_simp
          with_reducible rfl
        rotate_left
        · simp only [Act.put, List.setIfInBounds_toArray, List.set_cons_zero, List.set_cons_succ, i64_w, i32_w]
          rfl
        refine one_ (i := 27) (N := none) #[true, true, true, true, true, true, true, true, true, true, true, true, true, true, true, true, true, true, true, true, true, true, true, true, true, true, true, true] rfl rfl (by kernel_rfl) (by decide) (fun K hK => ?_)
        refine skip_ (w1 := ?_) (by rfl) rfl ?_ ?_
        rotate_left
        · go_simp
          rfl
        obtain ⟨w6, hhw6⟩ : ∃ w6, w6 = w5.setCell ⟨gl, n * 10 + 9, none⟩ (.slice A3 a.keys.length n3) := ⟨_, rfl⟩
        rw [← hhw6]
        have ppw6 := hl_put Pw5.out.1 n (by rw [List.length_set]; exact hn) (cs := cc { cm with to_ := h.now, e := a.e, out := a.data } vd (.slice A2 a.data.length n2) vk) rfl Pw5.out.2 9 (by decide) (.slice A3 a.keys.length n3) (c' := { cm with to_ := h.now, e := a.e, out := a.data, keys := a.keys }) (cl_fk (vd := vd) (vo := (.slice A2 a.data.length n2)) (vk := (.slice A3 a.keys.length n3)) VDw5.out VPw5.out VQw5.out) (fun k hk => hk)
        rw [← hhw6, List.set_set] at ppw6
        have Pw6 : Aside0 (Kd.N CK 40 w6 0 ok (.slice (some ⟨gl, 0, none⟩) h.list.length cap) (h.list.set n { cm with to_ := h.now, e := a.e, out := a.data, keys := a.keys }) ∧ (∀ i x, (cc { cm with to_ := h.now, e := a.e, out := a.data, keys := a.keys } vd (.slice A2 a.data.length n2) (.slice A3 a.keys.length n3))[i]? = some x → w6.cell? ⟨gl, n * 10 + i, none⟩ = some x)) := ⟨ppw6⟩
        have Mw6 : Aside0 (∀ k, k ≠ gl → w6.heap[k]? = w5.heap[k]?) := ⟨fun k hk => by rw [hhw6]; exact Below.heap_setCell _ _ _ _ hk⟩
        have Fw6 : Aside0 (∀ j, w6.frozen? ⟨gl, n * 10 + j, none⟩ = false) := ⟨fun j => by rw [hhw6]; exact (World.frozen?_setCell _ _ _ _).trans (Fw5.out j)⟩
        have KQw6 : Aside0 (Kq w w6 (fun k => ok k ∨ k = mb) g) := ⟨by rw [hhw6]; exact KQw5.out.set (p := ⟨gl, n * 10 + 9, none⟩) (.inr (.inl (.inl HGL.out))) _⟩
        have VDw6 : Aside0 (Vo w6 (fun k => ok k ∧ k ≠ gl) vd cm.data) := ⟨Kd.FK_step VDw5.out (fun k hk _ => Mw6.out k hk.2)⟩
        have VOw6 : Aside0 (Vo w6 (fun k => ok k ∧ k ≠ gl) vo cm.out) := ⟨Kd.FK_step VOw5.out (fun k hk _ => Mw6.out k hk.2)⟩
        have VKw6 : Aside0 (Vs w6 (fun k => ok k ∧ k ≠ gl) vk cm.keys) := ⟨Kd.V_step VKw5.out (fun k hk _ => Mw6.out k hk.2)⟩
        have VPw6 : Aside0 (Vo w6 (fun k => ok k ∧ k ≠ gl) (.slice A2 a.data.length n2) a.data) := ⟨Kd.FK_step VPw5.out (fun k hk _ => Mw6.out k hk.2)⟩
        have VQw6 : Aside0 (Vs w6 (fun k => ok k ∧ k ≠ gl) (.slice A3 a.keys.length n3) a.keys) := ⟨Kd.V_step VQw5.out (fun k hk _ => Mw6.out k hk.2)⟩
        have BGw6 : Aside0 (w6.heap[g]? = _) := ⟨(Mw6.out g HGN.out).trans BGw5.out⟩
        have BAw6 : Aside0 (w6.heap[w.heap.size]? = _) := ⟨(Mw6.out _ HAG.out).trans BAw5.out⟩
        have HMWw6 : Aside0 (IsM Try.prog 3 w6 mb (mval h.opn)) := ⟨HMWw5.out.step (Mw6.out mb HMN.out)⟩
        clear ppw6 hhw6
        refine hK.out _ _ ⟨((blk_cell BGw6.out 0).trans rfl), ((blk_cell BAw6.out 0).trans rfl), ((blk_cell BAw6.out 4).trans rfl), ((blk_cell BAw6.out 5).trans rfl)⟩ (fun hHeld => ?_)
        clear hK K
        refine done_ (by kernel_rfl) ?_
        have c26 : w6.cell? ⟨g, 2, none⟩ = some (.map (some mb)) := (blk_cell BGw6.out 2).trans rfl
        go_wp2_with ((with_reducible refine gate_builtin (b := .delete) (xs := #[.tmp 65, .tmp 66]) rfl ?_); refine wpList_drop_m rfl (.tmp 65) (.tmp 66) 48 3 rfl keyed3 Try.underlying48 (mval (upd h.opn task none)) rfl HMWw6.out (.int .i64 task) rfl (key3 _ HT.out) (mval_at _ _ _) (mval_upd _ _ _) ?_; intro w7 hT7 hM7; have HT7 := Aside0.mk hT7; have HM7 := Aside0.mk hM7; clear hT7 hM7)
        go_end0
        rw [HXX.out]
        refine ⟨rfl, ⟨.slice (some ⟨gl, 0, none⟩) h.list.length cap, ⟨(HT7.out.block g HGM.out).trans BGw6.out, HNG.out, HNM.out, ?_, HM7.out⟩⟩, KQw6.out.then_ (turned_kq HT7.out (.inr rfl))⟩
        exact Kd.N_step Pw6.out.1 (fun k hk hl => HT7.out.block k (fun e => HNM.out (e ▸ hk)))
    · cases hdn : a.done with
      | false =>
        have hm : (a.mark != 0) = true := by simpa using hmk
        have hput := hl_put HN1.out n hn rfl hcc 6 (by decide) (.int .i64 h.now) (c' := { h.list.getD n clz with at_ := h.now }) (cl_fk hVd hVo hVk) (fun k hk => hk)
        obtain ⟨W2, hW2⟩ : ∃ W2, W2 = W1.setCell ⟨gl, n * 10 + 6, none⟩ (.int .i64 h.now) := ⟨_, rfl⟩
        rw [← hW2] at hput
        have r6 : W1.cell? ⟨gl, n * 10 + 6, none⟩ = some _ := hcc 6 _ rfl
        have f6 : W1.frozen? ⟨gl, n * 10 + 6, none⟩ = false := hfz6 6
        have HK2 : Aside0 (Kq w W2 (fun k => ok k ∨ k = mb) g) := ⟨by rw [hW2]; exact (Kq.of_below HB1.out).set (p := ⟨gl, n * 10 + 6, none⟩) (.inr (.inl (.inl HGL.out))) _⟩
        have HCM : Aside0 (h.marked n a = { h.list.getD n clz with at_ := h.now }) := ⟨by unfold Hst.marked; rw [if_neg hmk]⟩
        have HMM : Aside0 (∀ k, k ≠ gl → W2.heap[k]? = W1.heap[k]?) := ⟨fun k hk => by rw [hW2]; exact Below.heap_setCell _ _ _ _ hk⟩
        have HSZ : Aside0 (W2.heap.size = W1.heap.size) := ⟨by rw [hW2]; simp [World.setCell]⟩
        have HW2 := Aside0.mk hW2
        have HFZ2 : Aside0 (∀ j, W2.frozen? ⟨gl, n * 10 + j, none⟩ = false) := ⟨fun j => by rw [hW2]; exact (World.frozen?_setCell _ _ _ _).trans (hfz6 j)⟩
        obtain ⟨hN2, hcc2⟩ := hput
        have HN2 := Aside0.mk hN2
        have HCC2 := Aside0.mk hcc2
        obtain ⟨cm, hcm⟩ : ∃ cm, cm = h.marked n a := ⟨_, rfl⟩
        have ecm := hcm.trans HCM.out
        have PW2 : Aside0 (Kd.N CK 40 W2 0 ok (.slice (some ⟨gl, 0, none⟩) h.list.length cap) (h.list.set n cm) ∧ (∀ i x, (cc cm vd vo vk)[i]? = some x → W2.cell? ⟨gl, n * 10 + i, none⟩ = some x)) := ⟨by rw [ecm]; exact ⟨HN2.out, HCC2.out⟩⟩
        have HR : Aside0 (h.run task a = ⟨h.now, h.list.set n cm, h.opn⟩) := ⟨by unfold Hst.run; rw [ho]; show (if a.done = true then _ else _) = _; rw [hdn, if_neg (by decide), hcm]⟩
        obtain ⟨X, hX⟩ : ∃ X, X = h.run task a := ⟨_, rfl⟩
        rw [← hX]
        have HXX : Aside0 (X = ⟨h.now, h.list.set n cm, h.opn⟩) := ⟨hX.trans HR.out⟩
        have HW3 : Aside0 (W1 = w.alloc (.cells #[.int .i64 a.e, .int .i64 a.task, .bool false, .int .i64 a.mark, .slice D a.data.length dc, .slice Ks0 a.keys.length kc] 35)) := ⟨by rw [HW1.out, hdn]⟩
        clear HR hX ho hcm ecm hN2 hcc2 hW2 hmk hcc hfz6 hVd hVo hVk HN2 HCC2
        go_enter Try.func14, Try.ntmps14
        go_upto_region 1 with fail
        rw [← HW3.out]
        go_wp2_with (at_lookup; refine wpList_look_m rfl (.tmp 13) (.tmp 14) 48 true rfl keyed3 Try.underlying48 (zero3 _) rfl HM1.out (.int .i64 task) rfl (key3 _ HT.out) ?_; rw [HMv.out]; simp only [Option.getD_some, Option.isSome_some, if_true])
        rw [← HW2.out]
        go_end0
        rw [HXX.out]
        refine ⟨rfl, ⟨.slice (some ⟨gl, 0, none⟩) h.list.length cap, ⟨?_, HNG.out, HNM.out, PW2.out.1, ?_⟩⟩, HK2.out⟩
        · exact (HMM.out _ HGN.out).trans HBL.out
        · exact HM1.out.step (HMM.out _ HMN.out)
      | true =>
        have hm : (a.mark != 0) = true := by simpa using hmk
        have hput := hl_put HN1.out n hn rfl hcc 6 (by decide) (.int .i64 h.now) (c' := { h.list.getD n clz with at_ := h.now }) (cl_fk hVd hVo hVk) (fun k hk => hk)
        obtain ⟨W2, hW2⟩ : ∃ W2, W2 = W1.setCell ⟨gl, n * 10 + 6, none⟩ (.int .i64 h.now) := ⟨_, rfl⟩
        rw [← hW2] at hput
        have r6 : W1.cell? ⟨gl, n * 10 + 6, none⟩ = some _ := hcc 6 _ rfl
        have f6 : W1.frozen? ⟨gl, n * 10 + 6, none⟩ = false := hfz6 6
        have HK2 : Aside0 (Kq w W2 (fun k => ok k ∨ k = mb) g) := ⟨by rw [hW2]; exact (Kq.of_below HB1.out).set (p := ⟨gl, n * 10 + 6, none⟩) (.inr (.inl (.inl HGL.out))) _⟩
        have HCM : Aside0 (h.marked n a = { h.list.getD n clz with at_ := h.now }) := ⟨by unfold Hst.marked; rw [if_neg hmk]⟩
        have HMM : Aside0 (∀ k, k ≠ gl → W2.heap[k]? = W1.heap[k]?) := ⟨fun k hk => by rw [hW2]; exact Below.heap_setCell _ _ _ _ hk⟩
        have HSZ : Aside0 (W2.heap.size = W1.heap.size) := ⟨by rw [hW2]; simp [World.setCell]⟩
        have HW2 := Aside0.mk hW2
        have HFZ2 : Aside0 (∀ j, W2.frozen? ⟨gl, n * 10 + j, none⟩ = false) := ⟨fun j => by rw [hW2]; exact (World.frozen?_setCell _ _ _ _).trans (hfz6 j)⟩
        obtain ⟨hN2, hcc2⟩ := hput
        have HN2 := Aside0.mk hN2
        have HCC2 := Aside0.mk hcc2
        obtain ⟨cm, hcm⟩ : ∃ cm, cm = h.marked n a := ⟨_, rfl⟩
        have ecm := hcm.trans HCM.out
        have PW2 : Aside0 (Kd.N CK 40 W2 0 ok (.slice (some ⟨gl, 0, none⟩) h.list.length cap) (h.list.set n cm) ∧ (∀ i x, (cc cm vd vo vk)[i]? = some x → W2.cell? ⟨gl, n * 10 + i, none⟩ = some x)) := ⟨by rw [ecm]; exact ⟨HN2.out, HCC2.out⟩⟩
        have HR : Aside0 (h.run task a = ⟨h.now, h.list.set n { cm with to_ := h.now, e := a.e, out := a.data, keys := a.keys }, upd h.opn task none⟩) := ⟨by unfold Hst.run; rw [ho]; show (if a.done = true then _ else _) = _; rw [hdn, if_pos rfl]; unfold Hst.ended; rw [← hcm]⟩
        obtain ⟨X, hX⟩ : ∃ X, X = h.run task a := ⟨_, rfl⟩
        rw [← hX]
        have HXX : Aside0 (X = ⟨h.now, h.list.set n { cm with to_ := h.now, e := a.e, out := a.data, keys := a.keys }, upd h.opn task none⟩) := ⟨hX.trans HR.out⟩
        have HW3 : Aside0 (W1 = w.alloc (.cells #[.int .i64 a.e, .int .i64 a.task, .bool true, .int .i64 a.mark, .slice D a.data.length dc, .slice Ks0 a.keys.length kc] 35)) := ⟨by rw [HW1.out, hdn]⟩
        have HAG : Aside0 (w.heap.size ≠ gl) := ⟨by have := HGL0.out; omega⟩
        have FW2 := HFZ2
        have KQW2 := HK2
        have VDW2 : Aside0 (Vo W2 (fun k => ok k ∧ k ≠ gl) vd cm.data) := ⟨by rw [ecm]; exact Kd.FK_step hVd (fun k hk _ => HMM.out k hk.2)⟩
        have VOW2 : Aside0 (Vo W2 (fun k => ok k ∧ k ≠ gl) vo cm.out) := ⟨by rw [ecm]; exact Kd.FK_step hVo (fun k hk _ => HMM.out k hk.2)⟩
        have VKW2 : Aside0 (Vs W2 (fun k => ok k ∧ k ≠ gl) vk cm.keys) := ⟨by rw [ecm]; exact Kd.V_step hVk (fun k hk _ => HMM.out k hk.2)⟩
        have BGW2 : Aside0 (W2.heap[g]? = _) := ⟨(HMM.out g HGN.out).trans HBL.out⟩
        have BAW2 : Aside0 (W2.heap[w.heap.size]? = _) := ⟨(HMM.out _ HAG.out).trans HAB.out⟩
        have HMWW2 : Aside0 (IsM Try.prog 3 W2 mb (mval h.opn)) := ⟨HM1.out.step (HMM.out _ HMN.out)⟩
        have HX1 : Aside0 (U8.C W2 D a.data.length a.data) := ⟨Kd.F_now (Kd.F_step HDF.out (fun k hk hl => HK2.out.block k hl (fun h => h.elim (HX.out k hk hl).1 (HX.out k hk hl).2.1) (HX.out k hk hl).2.2))⟩
        have HOK2 : Aside0 (∀ k, W2.heap.size ≤ k → ok k ∧ k ≠ gl) := ⟨fun k hk => by have h1 := HSZ.out; have h2 := HS1.out; have h3 := HGL0.out; exact ⟨HNew.out k (by omega), by omega⟩⟩
        clear HR hX ho hcm ecm hN2 hcc2 hW2 hmk hcc hfz6 hVd hVo hVk HN2 HCC2
        go_enter Try.func14, Try.ntmps14
        go_upto_region 1 with fail
        rw [← HW3.out]
        go_upto_region 7 with (at_lookup; refine wpList_look_m rfl (.tmp 13) (.tmp 14) 48 true rfl keyed3 Try.underlying48 (zero3 _) rfl HM1.out (.int .i64 task) rfl (key3 _ HT.out) ?_; rw [HMv.out]; simp only [Option.getD_some, Option.isSome_some, if_true])
        rw [← HW2.out]
        refine start_ (n := 28) (S := fun w' => w'.cell? ⟨g, 0, none⟩ = some (.int .i64 h.now) ∧ w'.cell? ⟨w.heap.size, 0, none⟩ = some (.int .i64 a.e) ∧ w'.cell? ⟨w.heap.size, 4, none⟩ = some (.slice D a.data.length dc) ∧ w'.cell? ⟨w.heap.size, 5, none⟩ = some (.slice Ks0 a.keys.length kc)) (ds := []) #[false, false, false, false, false, false, false, false, false, false, false, false, false, false, false, false, false, false, false, false, false, false, false, false, false, false, false, false] (by kernel_rfl) rfl rfl ⟨((blk_cell BGW2.out 0).trans rfl), ((blk_cell BAW2.out 0).trans rfl), ((blk_cell BAW2.out 4).trans rfl), ((blk_cell BAW2.out 5).trans rfl)⟩ (fun hHeld => ?_)
        refine pure_ (i := 0) (N := some 38) (v := ?_) (a' := ?_) #[true, false, false, false, false, false, false, false, false, false, false, false, false, false, false, false, false, false, false, false, false, false, false, false, false, false, false, false] rfl rfl (by kernel_rfl) (fun _ _ _ h => h) (Or.inl ⟨by rfl, ?_⟩) ?_ ?_
        rotate_left
        · intro w'
          go_simp
          with_reducible rfl
        rotate_left
        · simp only [Act.put, List.setIfInBounds_toArray, List.set_cons_zero, List.set_cons_succ, i64_w, i32_w]
          rfl
        refine pure_ (i := 1) (N := some 39) (v := ?_) (a' := ?_) #[true, true, false, false, false, false, false, false, false, false, false, false, false, false, false, false, false, false, false, false, false, false, false, false, false, false, false, false] rfl rfl (by kernel_rfl) (fun _ _ _ h => h) (Or.inl ⟨by rfl, ?_⟩) ?_ ?_
        rotate_left
        · intro w'
          go_simp
          with_reducible rfl
        rotate_left
        · simp only [Act.put, List.setIfInBounds_toArray, List.set_cons_zero, List.set_cons_succ, i64_w, i32_w]
          rfl
        refine pure_ (i := 2) (N := some 40) (v := ?_) (a' := ?_) #[true, true, true, false, false, false, false, false, false, false, false, false, false, false, false, false, false, false, false, false, false, false, false, false, false, false, false, false] rfl rfl (by kernel_rfl) (fun _ _ _ h => h) (Or.inl ⟨by rfl, ?_⟩) ?_ ?_
        rotate_left
        · intro w'
          go_simp
          with_reducible rfl
        rotate_left
        · simp only [Act.put, List.setIfInBounds_toArray, List.set_cons_zero, List.set_cons_succ, i64_w, i32_w]
          rfl
        refine pure_ (i := 3) (N := some 41) (v := ?_) (a' := ?_) #[true, true, true, true, false, false, false, false, false, false, false, false, false, false, false, false, false, false, false, false, false, false, false, false, false, false, false, false] rfl rfl (by kernel_rfl) (fun _ _ _ h => h) (Or.inl ⟨by rfl, ?_⟩) ?_ ?_
        rotate_left
        · intro w'
          go_simp
          with_reducible rfl
        rotate_left
        · simp only [Act.put, List.setIfInBounds_toArray, List.set_cons_zero, List.set_cons_succ, i64_w, i32_w]
          rfl
        refine pure_ (i := 4) (N := some 42) (v := ?_) (a' := ?_) #[true, true, true, true, true, false, false, false, false, false, false, false, false, false, false, false, false, false, false, false, false, false, false, false, false, false, false, false] rfl rfl (by kernel_rfl) (fun _ _ _ h => h) (Or.inl ⟨by rfl, ?_⟩) ?_ ?_
        rotate_left
        · intro w'
          go_simp
          with_reducible rfl
        rotate_left
        · simp only [Act.put, List.setIfInBounds_toArray, List.set_cons_zero, List.set_cons_succ, i64_w, i32_w]
          rfl
        refine pure_ (i := 5) (N := some 43) (v := ?_) (a' := ?_) #[true, true, true, true, true, true, false, false, false, false, false, false, false, false, false, false, false, false, false, false, false, false, false, false, false, false, false, false] rfl rfl (by kernel_rfl) (fun _ _ _ h => h) (Or.inl ⟨by rfl, ?_⟩) ?_ ?_
        rotate_left
        · intro w'
          go_simp
          with_reducible rfl
        rotate_left
        · simp only [Act.put, List.setIfInBounds_toArray, List.set_cons_zero, List.set_cons_succ, i64_w, i32_w]
          rfl
        refine pure_ (i := 6) (N := some 44) (v := ?_) (a' := ?_) #[true, true, true, true, true, true, true, false, false, false, false, false, false, false, false, false, false, false, false, false, false, false, false, false, false, false, false, false] rfl rfl (by kernel_rfl) (fun _ _ _ h => h) (Or.inl ⟨by rfl, ?_⟩) ?_ ?_
        rotate_left
        · intro w'
          go_simp
          with_reducible rfl
        rotate_left
        · simp only [Act.put, List.setIfInBounds_toArray, List.set_cons_zero, List.set_cons_succ, i64_w, i32_w]
          rfl
        refine pure_ (i := 8) (N := some 46) (v := ?_) (a' := ?_) #[true, true, true, true, true, true, true, false, true, false, false, false, false, false, false, false, false, false, false, false, false, false, false, false, false, false, false, false] rfl rfl (by kernel_rfl) (fun _ _ _ h => h) (Or.inl ⟨by rfl, ?_⟩) ?_ ?_
        rotate_left
        · intro w'
          go_simp
          with_reducible rfl
        rotate_left
        · simp only [Act.put, List.setIfInBounds_toArray, List.set_cons_zero, List.set_cons_succ, i64_w, i32_w]
          rfl
        refine pure_ (i := 10) (N := some 48) (v := ?_) (a' := ?_) #[true, true, true, true, true, true, true, false, true, false, true, false, false, false, false, false, false, false, false, false, false, false, false, false, false, false, false, false] rfl rfl (by kernel_rfl) (fun _ _ _ h => h) (Or.inl ⟨by rfl, ?_⟩) ?_ ?_
        rotate_left
        · intro w'
          go_simp
          with_reducible rfl
        rotate_left
        · simp only [Act.put, List.setIfInBounds_toArray, List.set_cons_zero, List.set_cons_succ, i64_w, i32_w]
          rfl
        refine pure_ (i := 13) (N := some 51) (v := ?_) (a' := ?_) #[true, true, true, true, true, true, true, false, true, false, true, false, false, true, false, false, false, false, false, false, false, false, false, false, false, false, false, false] rfl rfl (by kernel_rfl) (fun _ _ _ h => h) (Or.inl ⟨by rfl, ?_⟩) ?_ ?_
        rotate_left
        · intro w'
          go_simp
          with_reducible rfl
        rotate_left
        · simp only [Act.put, List.setIfInBounds_toArray, List.set_cons_zero, List.set_cons_succ, i64_w, i32_w]
          rfl
        refine take_ (i := 7) (N := some 45) (v := ?_) (a' := ?_) #[true, true, true, true, true, true, true, true, true, false, true, false, false, true, false, false, false, false, false, false, false, false, false, false, false, false, false, false] rfl rfl (by kernel_rfl) (fun _ _ _ h => h) (Or.inl ⟨by rfl, ?_⟩) hHeld ?_ ?_
        rotate_left
        · rintro w' ⟨s0, s1, s2, s3⟩
          go_simp
          with_reducible rfl
        rotate_left
        · simp only [Act.put, List.setIfInBounds_toArray, List.set_cons_zero, List.set_cons_succ, i64_w, i32_w]
          rfl
        refine take_ (i := 9) (N := some 47) (v := ?_) (a' := ?_) #[true, true, true, true, true, true, true, true, true, true, true, false, false, true, false, false, false, false, false, false, false, false, false, false, false, false, false, false] rfl rfl (by kernel_rfl) (fun _ _ _ h => h) (Or.inl ⟨by rfl, ?_⟩) hHeld ?_ ?_
        rotate_left
        · rintro w' ⟨s0, s1, s2, s3⟩
          go_simp
          with_reducible rfl
        rotate_left
        · simp only [Act.put, List.setIfInBounds_toArray, List.set_cons_zero, List.set_cons_succ, i64_w, i32_w]
          rfl
        refine take_ (i := 11) (N := some 49) (v := ?_) (a' := ?_) #[true, true, true, true, true, true, true, true, true, true, true, true, false, true, false, false, false, false, false, false, false, false, false, false, false, false, false, false] rfl rfl (by kernel_rfl) (fun _ _ _ h => h) (Or.inl ⟨by rfl, ?_⟩) hHeld ?_ ?_
        rotate_left
        · rintro w' ⟨s0, s1, s2, s3⟩
          go_simp
          with_reducible rfl
        rotate_left
        · simp only [Act.put, List.setIfInBounds_toArray, List.set_cons_zero, List.set_cons_succ, i64_w, i32_w]
          rfl
        refine take_ (i := 14) (N := some 52) (v := ?_) (a' := ?_) #[true, true, true, true, true, true, true, true, true, true, true, true, false, true, true, false, false, false, false, false, false, false, false, false, false, false, false, false] rfl rfl (by kernel_rfl) (fun _ _ _ h => h) (Or.inl ⟨by rfl, ?_⟩) hHeld ?_ ?_
        rotate_left
        · rintro w' ⟨s0, s1, s2, s3⟩
          go_simp
          with_reducible rfl
        rotate_left
        · simp only [Act.put, List.setIfInBounds_toArray, List.set_cons_zero, List.set_cons_succ, i64_w, i32_w]
          rfl
        refine one_ (i := 12) (N := some 50) #[true, true, true, true, true, true, true, true, true, true, true, true, true, true, true, false, false, false, false, false, false, false, false, false, false, false, false, false] rfl rfl (by kernel_rfl) (by decide) (fun K hK => ?_)
        refine goes_ Try.func13 (by kernel_rfl) rfl #[.slice D a.data.length dc] (by rfl) rfl rfl (by simp only [List.map_toArray, List.map_cons, List.map_nil]; rfl) ?_
        with_reducible refine (clone_calls D a.data.length dc a.data _ (Kd.C_drew HX1.out) (by omega)).mono ?_
        rintro e w1 ⟨v2, rfl, ho, hb1⟩
        refine ⟨_, rfl, ?_⟩
        have Bw1 : Aside0 (Below W2.heap.size W2 w1) := ⟨⟨hb1.os, hb1.tape, hb1.output, hb1.size, hb1.block⟩⟩
        have Pw1 : Aside0 (Kd.N CK 40 w1 0 ok (.slice (some ⟨gl, 0, none⟩) h.list.length cap) (h.list.set n cm) ∧ (∀ i x, (cc cm vd vo vk)[i]? = some x → w1.cell? ⟨gl, n * 10 + i, none⟩ = some x)) := ⟨Kd.N_below PW2.out.1 Bw1.out, fun i x hx => pw_cell_below Bw1.out (PW2.out.2 i x hx)⟩
        have Fw1 : Aside0 (∀ j, w1.frozen? ⟨gl, n * 10 + j, none⟩ = false) := ⟨fun j => (Bw1.out.frozen (p := ⟨gl, n * 10 + j, none⟩) (Nat.lt_of_lt_of_le HGL0.out KQW2.out.size)).trans (FW2.out j)⟩
        have KQw1 : Aside0 (Kq w w1 (fun k => ok k ∨ k = mb) g) := ⟨KQW2.out.below Bw1.out⟩
        have VDw1 : Aside0 (Vo w1 (fun k => ok k ∧ k ≠ gl) vd cm.data) := ⟨Kd.FK_below VDW2.out Bw1.out⟩
        have VOw1 : Aside0 (Vo w1 (fun k => ok k ∧ k ≠ gl) vo cm.out) := ⟨Kd.FK_below VOW2.out Bw1.out⟩
        have VKw1 : Aside0 (Vs w1 (fun k => ok k ∧ k ≠ gl) vk cm.keys) := ⟨Kd.V_below VKW2.out Bw1.out⟩
        have BGw1 : Aside0 (w1.heap[g]? = _) := ⟨blk_below BGW2.out Bw1.out⟩
        have BAw1 : Aside0 (w1.heap[w.heap.size]? = _) := ⟨blk_below BAW2.out Bw1.out⟩
        have HMWw1 : Aside0 (IsM Try.prog 3 w1 mb (mval h.opn)) := ⟨HMWW2.out.step (Bw1.out.block mb HMWW2.out.lt)⟩
        clear hb1
        have VPw1 : Aside0 (Vo w1 (fun k => ok k ∧ k ≠ gl) v2 a.data) := ⟨vo_new ho (fun k hk => HOK2.out k hk)⟩
        obtain ⟨A2, n2, rfl⟩ := Kd.V_slice (vo_vb VPw1.out)
        clear ho
        have HX2 : Aside0 (Kd.string.C w1 Ks0 a.keys.length a.keys) := ⟨Kd.F_now (Kd.F_step HKF.out (fun k hk hl => KQw1.out.block k hl (fun h => h.elim (HX.out k hk hl).1 (HX.out k hk hl).2.1) (HX.out k hk hl).2.2))⟩
        refine hK.out _ _ ⟨((blk_cell BGw1.out 0).trans rfl), ((blk_cell BAw1.out 0).trans rfl), ((blk_cell BAw1.out 4).trans rfl), ((blk_cell BAw1.out 5).trans rfl)⟩ (fun hHeld => ?_)
        clear hK K
        refine norm_ (a' := ?_) ?_ ?_
        rotate_left
        · show Act.put _ (some 50) _ = _
          simp only [Act.put, List.setIfInBounds_toArray, List.set_cons_zero, List.set_cons_succ, i64_w, i32_w]
          rfl
        refine one_ (i := 15) (N := some 53) #[true, true, true, true, true, true, true, true, true, true, true, true, true, true, true, true, false, false, false, false, false, false, false, false, false, false, false, false] rfl rfl (by kernel_rfl) (by decide) (fun K hK => ?_)
        refine goes_ Try.func15 (by kernel_rfl) rfl #[.slice Ks0 a.keys.length kc] (by rfl) rfl rfl (by simp only [List.map_toArray, List.map_cons, List.map_nil]; rfl) ?_
        with_reducible refine (clones_calls Ks0 a.keys.length kc a.keys _ HX2.out (by omega)).mono ?_
        rintro e w2 ⟨v3, rfl, ho, hb2⟩
        refine ⟨_, rfl, ?_⟩
        have Bw2 : Aside0 (Below w1.heap.size w1 w2) := ⟨⟨hb2.os, hb2.tape, hb2.output, hb2.size, hb2.block⟩⟩
        have Pw2 : Aside0 (Kd.N CK 40 w2 0 ok (.slice (some ⟨gl, 0, none⟩) h.list.length cap) (h.list.set n cm) ∧ (∀ i x, (cc cm vd vo vk)[i]? = some x → w2.cell? ⟨gl, n * 10 + i, none⟩ = some x)) := ⟨Kd.N_below Pw1.out.1 Bw2.out, fun i x hx => pw_cell_below Bw2.out (Pw1.out.2 i x hx)⟩
        have Fw2 : Aside0 (∀ j, w2.frozen? ⟨gl, n * 10 + j, none⟩ = false) := ⟨fun j => (Bw2.out.frozen (p := ⟨gl, n * 10 + j, none⟩) (Nat.lt_of_lt_of_le HGL0.out KQw1.out.size)).trans (Fw1.out j)⟩
        have KQw2 : Aside0 (Kq w w2 (fun k => ok k ∨ k = mb) g) := ⟨KQw1.out.below Bw2.out⟩
        have VDw2 : Aside0 (Vo w2 (fun k => ok k ∧ k ≠ gl) vd cm.data) := ⟨Kd.FK_below VDw1.out Bw2.out⟩
        have VOw2 : Aside0 (Vo w2 (fun k => ok k ∧ k ≠ gl) vo cm.out) := ⟨Kd.FK_below VOw1.out Bw2.out⟩
        have VKw2 : Aside0 (Vs w2 (fun k => ok k ∧ k ≠ gl) vk cm.keys) := ⟨Kd.V_below VKw1.out Bw2.out⟩
        have BGw2 : Aside0 (w2.heap[g]? = _) := ⟨blk_below BGw1.out Bw2.out⟩
        have BAw2 : Aside0 (w2.heap[w.heap.size]? = _) := ⟨blk_below BAw1.out Bw2.out⟩
        have HMWw2 : Aside0 (IsM Try.prog 3 w2 mb (mval h.opn)) := ⟨HMWw1.out.step (Bw2.out.block mb HMWw1.out.lt)⟩
        clear hb2
        have VPw2 : Aside0 (Vo w2 (fun k => ok k ∧ k ≠ gl) (.slice A2 a.data.length n2) a.data) := ⟨Kd.FK_below VPw1.out Bw2.out⟩
        have VQw2 : Aside0 (Vs w2 (fun k => ok k ∧ k ≠ gl) v3 a.keys) := ⟨vs_new ho (fun k hk => HOK2.out k (Nat.le_trans Bw1.out.size hk))⟩
        obtain ⟨A3, n3, rfl⟩ := Kd.V_slice VQw2.out
        clear ho
        have k5 : w2.cell? ⟨gl, n * 10 + 5, none⟩ = some _ := Pw2.out.2 5 _ rfl
        have f5 : w2.frozen? ⟨gl, n * 10 + 5, none⟩ = false := Fw2.out 5
        refine hK.out _ _ ⟨((blk_cell BGw2.out 0).trans rfl), ((blk_cell BAw2.out 0).trans rfl), ((blk_cell BAw2.out 4).trans rfl), ((blk_cell BAw2.out 5).trans rfl)⟩ (fun hHeld => ?_)
        clear hK K
        refine norm_ (a' := ?_) ?_ ?_
        rotate_left
        · show Act.put _ (some 53) _ = _
          simp only [Act.put, List.setIfInBounds_toArray, List.set_cons_zero, List.set_cons_succ, i64_w, i32_w]
          rfl
        refine pure_ (i := 16) (N := some 54) (v := ?_) (a' := ?_) #[true, true, true, true, true, true, true, true, true, true, true, true, true, true, true, true, true, false, false, false, false, false, false, false, false, false, false, false] rfl rfl (by kernel_rfl) (fun _ _ _ h => h) (Or.inl ⟨by rfl, ?_⟩) ?_ ?_
        rotate_left
        · intro w'
          go_simp
          with_reducible rfl
        rotate_left
        · simp only [Act.put, List.setIfInBounds_toArray, List.set_cons_zero, List.set_cons_succ, i64_w, i32_w]
          rfl
        refine pure_ (i := 17) (N := some 55) (v := ?_) (a' := ?_) #[true, true, true, true, true, true, true, true, true, true, true, true, true, true, true, true, true, true, false, false, false, false, false, false, false, false, false, false] rfl rfl (by kernel_rfl) (fun _ _ _ h => h) (Or.inl ⟨by rfl, ?_⟩) ?_ ?_
        rotate_left
        · intro w'
          go_simp
          with_reducible rfl
        rotate_left
        · simp only [Act.put, List.setIfInBounds_toArray, List.set_cons_zero, List.set_cons_succ, i64_w, i32_w]
          rfl
        refine one_ (i := 18) (N := none) #[true, true, true, true, true, true, true, true, true, true, true, true, true, true, true, true, true, true, true, false, false, false, false, false, false, false, false, false] rfl rfl (by kernel_rfl) (by decide) (fun K hK => ?_)
        refine skip_ (w1 := ?_) (by rfl) rfl ?_ ?_
        rotate_left
        · go_simp
          rfl
        obtain ⟨w3, hhw3⟩ : ∃ w3, w3 = w2.setCell ⟨gl, n * 10 + 5, none⟩ (.int .i64 h.now) := ⟨_, rfl⟩
        rw [← hhw3]
        have ppw3 := hl_put Pw2.out.1 n (by rw [List.length_set]; exact hn) (cs := cc cm vd vo vk) rfl Pw2.out.2 5 (by decide) (.int .i64 h.now) (c' := { cm with to_ := h.now }) (cl_fk (vd := vd) (vo := vo) (vk := vk) VDw2.out VOw2.out VKw2.out) (fun k hk => hk)
        rw [← hhw3, List.set_set] at ppw3
        have Pw3 : Aside0 (Kd.N CK 40 w3 0 ok (.slice (some ⟨gl, 0, none⟩) h.list.length cap) (h.list.set n { cm with to_ := h.now }) ∧ (∀ i x, (cc { cm with to_ := h.now } vd vo vk)[i]? = some x → w3.cell? ⟨gl, n * 10 + i, none⟩ = some x)) := ⟨ppw3⟩
        have Mw3 : Aside0 (∀ k, k ≠ gl → w3.heap[k]? = w2.heap[k]?) := ⟨fun k hk => by rw [hhw3]; exact Below.heap_setCell _ _ _ _ hk⟩
        have Fw3 : Aside0 (∀ j, w3.frozen? ⟨gl, n * 10 + j, none⟩ = false) := ⟨fun j => by rw [hhw3]; exact (World.frozen?_setCell _ _ _ _).trans (Fw2.out j)⟩
        have KQw3 : Aside0 (Kq w w3 (fun k => ok k ∨ k = mb) g) := ⟨by rw [hhw3]; exact KQw2.out.set (p := ⟨gl, n * 10 + 5, none⟩) (.inr (.inl (.inl HGL.out))) _⟩
        have VDw3 : Aside0 (Vo w3 (fun k => ok k ∧ k ≠ gl) vd cm.data) := ⟨Kd.FK_step VDw2.out (fun k hk _ => Mw3.out k hk.2)⟩
        have VOw3 : Aside0 (Vo w3 (fun k => ok k ∧ k ≠ gl) vo cm.out) := ⟨Kd.FK_step VOw2.out (fun k hk _ => Mw3.out k hk.2)⟩
        have VKw3 : Aside0 (Vs w3 (fun k => ok k ∧ k ≠ gl) vk cm.keys) := ⟨Kd.V_step VKw2.out (fun k hk _ => Mw3.out k hk.2)⟩
        have VPw3 : Aside0 (Vo w3 (fun k => ok k ∧ k ≠ gl) (.slice A2 a.data.length n2) a.data) := ⟨Kd.FK_step VPw2.out (fun k hk _ => Mw3.out k hk.2)⟩
        have VQw3 : Aside0 (Vs w3 (fun k => ok k ∧ k ≠ gl) (.slice A3 a.keys.length n3) a.keys) := ⟨Kd.V_step VQw2.out (fun k hk _ => Mw3.out k hk.2)⟩
        have BGw3 : Aside0 (w3.heap[g]? = _) := ⟨(Mw3.out g HGN.out).trans BGw2.out⟩
        have BAw3 : Aside0 (w3.heap[w.heap.size]? = _) := ⟨(Mw3.out _ HAG.out).trans BAw2.out⟩
        have HMWw3 : Aside0 (IsM Try.prog 3 w3 mb (mval h.opn)) := ⟨HMWw2.out.step (Mw3.out mb HMN.out)⟩
        clear ppw3 hhw3
        have k7 : w3.cell? ⟨gl, n * 10 + 7, none⟩ = some _ := Pw3.out.2 7 _ rfl
        have f7 : w3.frozen? ⟨gl, n * 10 + 7, none⟩ = false := Fw3.out 7
        refine hK.out _ _ ⟨((blk_cell BGw3.out 0).trans rfl), ((blk_cell BAw3.out 0).trans rfl), ((blk_cell BAw3.out 4).trans rfl), ((blk_cell BAw3.out 5).trans rfl)⟩ (fun hHeld => ?_)
        clear hK K
        refine pure_ (i := 19) (N := some 56) (v := ?_) (a' := ?_) #[true, true, true, true, true, true, true, true, true, true, true, true, true, true, true, true, true, true, true, true, false, false, false, false, false, false, false, false] rfl rfl (by kernel_rfl) (fun _ _ _ h => h) (Or.inl ⟨by rfl, ?_⟩) ?_ ?_
        rotate_left
        · intro w'
          go_simp
          with_reducible rfl
        rotate_left
        · simp only [Act.put, List.setIfInBounds_toArray, List.set_cons_zero, List.set_cons_succ, i64_w, i32_w]
          rfl
        refine pure_ (i := 20) (N := some 57) (v := ?_) (a' := ?_) #[true, true, true, true, true, true, true, true, true, true, true, true, true, true, true, true, true, true, true, true, true, false, false, false, false, false, false, false] rfl rfl (by kernel_rfl) (fun _ _ _ h => h) (Or.inl ⟨by rfl, ?_⟩) ?_ ?_
        rotate_left
        · intro w'
          go_simp
          with_reducible rfl
        rotate_left
        · simp only [Act.put, List.setIfInBounds_toArray, List.set_cons_zero, List.set_cons_succ, i64_w, i32_w]
          rfl
        refine one_ (i := 21) (N := none) #[true, true, true, true, true, true, true, true, true, true, true, true, true, true, true, true, true, true, true, true, true, true, false, false, false, false, false, false] rfl rfl (by kernel_rfl) (by decide) (fun K hK => ?_)
        refine skip_ (w1 := ?_) (by rfl) rfl ?_ ?_
        rotate_left
        · go_simp
          rfl
        obtain ⟨w4, hhw4⟩ : ∃ w4, w4 = w3.setCell ⟨gl, n * 10 + 7, none⟩ (.int .i64 a.e) := ⟨_, rfl⟩
        rw [← hhw4]
        have ppw4 := hl_put Pw3.out.1 n (by rw [List.length_set]; exact hn) (cs := cc { cm with to_ := h.now } vd vo vk) rfl Pw3.out.2 7 (by decide) (.int .i64 a.e) (c' := { cm with to_ := h.now, e := a.e }) (cl_fk (vd := vd) (vo := vo) (vk := vk) VDw3.out VOw3.out VKw3.out) (fun k hk => hk)
        rw [← hhw4, List.set_set] at ppw4
        have Pw4 : Aside0 (Kd.N CK 40 w4 0 ok (.slice (some ⟨gl, 0, none⟩) h.list.length cap) (h.list.set n { cm with to_ := h.now, e := a.e }) ∧ (∀ i x, (cc { cm with to_ := h.now, e := a.e } vd vo vk)[i]? = some x → w4.cell? ⟨gl, n * 10 + i, none⟩ = some x)) := ⟨ppw4⟩
        have Mw4 : Aside0 (∀ k, k ≠ gl → w4.heap[k]? = w3.heap[k]?) := ⟨fun k hk => by rw [hhw4]; exact Below.heap_setCell _ _ _ _ hk⟩
        have Fw4 : Aside0 (∀ j, w4.frozen? ⟨gl, n * 10 + j, none⟩ = false) := ⟨fun j => by rw [hhw4]; exact (World.frozen?_setCell _ _ _ _).trans (Fw3.out j)⟩
        have KQw4 : Aside0 (Kq w w4 (fun k => ok k ∨ k = mb) g) := ⟨by rw [hhw4]; exact KQw3.out.set (p := ⟨gl, n * 10 + 7, none⟩) (.inr (.inl (.inl HGL.out))) _⟩
        have VDw4 : Aside0 (Vo w4 (fun k => ok k ∧ k ≠ gl) vd cm.data) := ⟨Kd.FK_step VDw3.out (fun k hk _ => Mw4.out k hk.2)⟩
        have VOw4 : Aside0 (Vo w4 (fun k => ok k ∧ k ≠ gl) vo cm.out) := ⟨Kd.FK_step VOw3.out (fun k hk _ => Mw4.out k hk.2)⟩
        have VKw4 : Aside0 (Vs w4 (fun k => ok k ∧ k ≠ gl) vk cm.keys) := ⟨Kd.V_step VKw3.out (fun k hk _ => Mw4.out k hk.2)⟩
        have VPw4 : Aside0 (Vo w4 (fun k => ok k ∧ k ≠ gl) (.slice A2 a.data.length n2) a.data) := ⟨Kd.FK_step VPw3.out (fun k hk _ => Mw4.out k hk.2)⟩
        have VQw4 : Aside0 (Vs w4 (fun k => ok k ∧ k ≠ gl) (.slice A3 a.keys.length n3) a.keys) := ⟨Kd.V_step VQw3.out (fun k hk _ => Mw4.out k hk.2)⟩
        have BGw4 : Aside0 (w4.heap[g]? = _) := ⟨(Mw4.out g HGN.out).trans BGw3.out⟩
        have BAw4 : Aside0 (w4.heap[w.heap.size]? = _) := ⟨(Mw4.out _ HAG.out).trans BAw3.out⟩
        have HMWw4 : Aside0 (IsM Try.prog 3 w4 mb (mval h.opn)) := ⟨HMWw3.out.step (Mw4.out mb HMN.out)⟩
        clear ppw4 hhw4
        have k8 : w4.cell? ⟨gl, n * 10 + 8, none⟩ = some _ := Pw4.out.2 8 _ rfl
        have f8 : w4.frozen? ⟨gl, n * 10 + 8, none⟩ = false := Fw4.out 8
        refine hK.out _ _ ⟨((blk_cell BGw4.out 0).trans rfl), ((blk_cell BAw4.out 0).trans rfl), ((blk_cell BAw4.out 4).trans rfl), ((blk_cell BAw4.out 5).trans rfl)⟩ (fun hHeld => ?_)
        clear hK K
        refine pure_ (i := 22) (N := some 58) (v := ?_) (a' := ?_) #[true, true, true, true, true, true, true, true, true, true, true, true, true, true, true, true, true, true, true, true, true, true, true, false, false, false, false, false] rfl rfl (by kernel_rfl) (fun _ _ _ h => h) (Or.inl ⟨by rfl, ?_⟩) ?_ ?_
        rotate_left
        · intro w'
          go_simp
          with_reducible rfl
        rotate_left
        · simp only [Act.put, List.setIfInBounds_toArray, List.set_cons_zero, List.set_cons_succ, i64_w, i32_w]
          rfl
        refine pure_ (i := 23) (N := some 59) (v := ?_) (a' := ?_) #[true, true, true, true, true, true, true, true, true, true, true, true, true, true, true, true, true, true, true, true, true, true, true, true, false, false, false, false] rfl rfl (by kernel_rfl) (fun _ _ _ h => h) (Or.inl ⟨by rfl, ?_⟩) ?_ ?_
        rotate_left
        · intro w'
          go_simp
          with_reducible rfl
        rotate_left
        · simp only [Act.put, List.setIfInBounds_toArray, List.set_cons_zero, List.set_cons_succ, i64_w, i32_w]
          rfl
        refine one_ (i := 24) (N := none) #[true, true, true, true, true, true, true, true, true, true, true, true, true, true, true, true, true, true, true, true, true, true, true, true, true, false, false, false] rfl rfl (by kernel_rfl) (by decide) (fun K hK => ?_)
        refine skip_ (w1 := ?_) (by rfl) rfl ?_ ?_
        rotate_left
        · go_simp
          rfl
        obtain ⟨w5, hhw5⟩ : ∃ w5, w5 = w4.setCell ⟨gl, n * 10 + 8, none⟩ (.slice A2 a.data.length n2) := ⟨_, rfl⟩
        rw [← hhw5]
        have ppw5 := hl_put Pw4.out.1 n (by rw [List.length_set]; exact hn) (cs := cc { cm with to_ := h.now, e := a.e } vd vo vk) rfl Pw4.out.2 8 (by decide) (.slice A2 a.data.length n2) (c' := { cm with to_ := h.now, e := a.e, out := a.data }) (cl_fk (vd := vd) (vo := (.slice A2 a.data.length n2)) (vk := vk) VDw4.out VPw4.out VKw4.out) (fun k hk => hk)
        rw [← hhw5, List.set_set] at ppw5
        have Pw5 : Aside0 (Kd.N CK 40 w5 0 ok (.slice (some ⟨gl, 0, none⟩) h.list.length cap) (h.list.set n { cm with to_ := h.now, e := a.e, out := a.data }) ∧ (∀ i x, (cc { cm with to_ := h.now, e := a.e, out := a.data } vd (.slice A2 a.data.length n2) vk)[i]? = some x → w5.cell? ⟨gl, n * 10 + i, none⟩ = some x)) := ⟨ppw5⟩
        have Mw5 : Aside0 (∀ k, k ≠ gl → w5.heap[k]? = w4.heap[k]?) := ⟨fun k hk => by rw [hhw5]; exact Below.heap_setCell _ _ _ _ hk⟩
        have Fw5 : Aside0 (∀ j, w5.frozen? ⟨gl, n * 10 + j, none⟩ = false) := ⟨fun j => by rw [hhw5]; exact (World.frozen?_setCell _ _ _ _).trans (Fw4.out j)⟩
        have KQw5 : Aside0 (Kq w w5 (fun k => ok k ∨ k = mb) g) := ⟨by rw [hhw5]; exact KQw4.out.set (p := ⟨gl, n * 10 + 8, none⟩) (.inr (.inl (.inl HGL.out))) _⟩
        have VDw5 : Aside0 (Vo w5 (fun k => ok k ∧ k ≠ gl) vd cm.data) := ⟨Kd.FK_step VDw4.out (fun k hk _ => Mw5.out k hk.2)⟩
        have VOw5 : Aside0 (Vo w5 (fun k => ok k ∧ k ≠ gl) vo cm.out) := ⟨Kd.FK_step VOw4.out (fun k hk _ => Mw5.out k hk.2)⟩
        have VKw5 : Aside0 (Vs w5 (fun k => ok k ∧ k ≠ gl) vk cm.keys) := ⟨Kd.V_step VKw4.out (fun k hk _ => Mw5.out k hk.2)⟩
        have VPw5 : Aside0 (Vo w5 (fun k => ok k ∧ k ≠ gl) (.slice A2 a.data.length n2) a.data) := ⟨Kd.FK_step VPw4.out (fun k hk _ => Mw5.out k hk.2)⟩
        have VQw5 : Aside0 (Vs w5 (fun k => ok k ∧ k ≠ gl) (.slice A3 a.keys.length n3) a.keys) := ⟨Kd.V_step VQw4.out (fun k hk _ => Mw5.out k hk.2)⟩
        have BGw5 : Aside0 (w5.heap[g]? = _) := ⟨(Mw5.out g HGN.out).trans BGw4.out⟩
        have BAw5 : Aside0 (w5.heap[w.heap.size]? = _) := ⟨(Mw5.out _ HAG.out).trans BAw4.out⟩
        have HMWw5 : Aside0 (IsM Try.prog 3 w5 mb (mval h.opn)) := ⟨HMWw4.out.step (Mw5.out mb HMN.out)⟩
        clear ppw5 hhw5
        have k9 : w5.cell? ⟨gl, n * 10 + 9, none⟩ = some _ := Pw5.out.2 9 _ rfl
        have f9 : w5.frozen? ⟨gl, n * 10 + 9, none⟩ = false := Fw5.out 9
        refine hK.out _ _ ⟨((blk_cell BGw5.out 0).trans rfl), ((blk_cell BAw5.out 0).trans rfl), ((blk_cell BAw5.out 4).trans rfl), ((blk_cell BAw5.out 5).trans rfl)⟩ (fun hHeld => ?_)
        clear hK K
        refine pure_ (i := 25) (N := some 60) (v := ?_) (a' := ?_) #[true, true, true, true, true, true, true, true, true, true, true, true, true, true, true, true, true, true, true, true, true, true, true, true, true, true, false, false] rfl rfl (by kernel_rfl) (fun _ _ _ h => h) (Or.inl ⟨by rfl, ?_⟩) ?_ ?_
        rotate_left
        · intro w'
          go_simp
          with_reducible rfl
        rotate_left
        · simp only [Act.put, List.setIfInBounds_toArray, List.set_cons_zero, List.set_cons_succ, i64_w, i32_w]
          rfl
        refine pure_ (i := 26) (N := some 61) (v := ?_) (a' := ?_) #[true, true, true, true, true, true, true, true, true, true, true, true, true, true, true, true, true, true, true, true, true, true, true, true, true, true, true, false] rfl rfl (by kernel_rfl) (fun _ _ _ h => h) (Or.inl ⟨by rfl, ?_⟩) ?_ ?_
        rotate_left
        · intro w'
          go_simp
          with_reducible rfl
        rotate_left
        · simp only [Act.put, List.setIfInBounds_toArray, List.set_cons_zero, List.set_cons_succ, i64_w, i32_w]
          rfl
        refine one_ (i := 27) (N := none) #[true, true, true, true, true, true, true, true, true, true, true, true, true, true, true, true, true, true, true, true, true, true, true, true, true, true, true, true] rfl rfl (by kernel_rfl) (by decide) (fun K hK => ?_)
        refine skip_ (w1 := ?_) (by rfl) rfl ?_ ?_
        rotate_left
        · go_simp
          rfl
        obtain ⟨w6, hhw6⟩ : ∃ w6, w6 = w5.setCell ⟨gl, n * 10 + 9, none⟩ (.slice A3 a.keys.length n3) := ⟨_, rfl⟩
        rw [← hhw6]
        have ppw6 := hl_put Pw5.out.1 n (by rw [List.length_set]; exact hn) (cs := cc { cm with to_ := h.now, e := a.e, out := a.data } vd (.slice A2 a.data.length n2) vk) rfl Pw5.out.2 9 (by decide) (.slice A3 a.keys.length n3) (c' := { cm with to_ := h.now, e := a.e, out := a.data, keys := a.keys }) (cl_fk (vd := vd) (vo := (.slice A2 a.data.length n2)) (vk := (.slice A3 a.keys.length n3)) VDw5.out VPw5.out VQw5.out) (fun k hk => hk)
        rw [← hhw6, List.set_set] at ppw6
        have Pw6 : Aside0 (Kd.N CK 40 w6 0 ok (.slice (some ⟨gl, 0, none⟩) h.list.length cap) (h.list.set n { cm with to_ := h.now, e := a.e, out := a.data, keys := a.keys }) ∧ (∀ i x, (cc { cm with to_ := h.now, e := a.e, out := a.data, keys := a.keys } vd (.slice A2 a.data.length n2) (.slice A3 a.keys.length n3))[i]? = some x → w6.cell? ⟨gl, n * 10 + i, none⟩ = some x)) := ⟨ppw6⟩
        have Mw6 : Aside0 (∀ k, k ≠ gl → w6.heap[k]? = w5.heap[k]?) := ⟨fun k hk => by rw [hhw6]; exact Below.heap_setCell _ _ _ _ hk⟩
        have Fw6 : Aside0 (∀ j, w6.frozen? ⟨gl, n * 10 + j, none⟩ = false) := ⟨fun j => by rw [hhw6]; exact (World.frozen?_setCell _ _ _ _).trans (Fw5.out j)⟩
        have KQw6 : Aside0 (Kq w w6 (fun k => ok k ∨ k = mb) g) := ⟨by rw [hhw6]; exact KQw5.out.set (p := ⟨gl, n * 10 + 9, none⟩) (.inr (.inl (.inl HGL.out))) _⟩
        have VDw6 : Aside0 (Vo w6 (fun k => ok k ∧ k ≠ gl) vd cm.data) := ⟨Kd.FK_step VDw5.out (fun k hk _ => Mw6.out k hk.2)⟩
        have VOw6 : Aside0 (Vo w6 (fun k => ok k ∧ k ≠ gl) vo cm.out) := ⟨Kd.FK_step VOw5.out (fun k hk _ => Mw6.out k hk.2)⟩
        have VKw6 : Aside0 (Vs w6 (fun k => ok k ∧ k ≠ gl) vk cm.keys) := ⟨Kd.V_step VKw5.out (fun k hk _ => Mw6.out k hk.2)⟩
        have VPw6 : Aside0 (Vo w6 (fun k => ok k ∧ k ≠ gl) (.slice A2 a.data.length n2) a.data) := ⟨Kd.FK_step VPw5.out (fun k hk _ => Mw6.out k hk.2)⟩
        have VQw6 : Aside0 (Vs w6 (fun k => ok k ∧ k ≠ gl) (.slice A3 a.keys.length n3) a.keys) := ⟨Kd.V_step VQw5.out (fun k hk _ => Mw6.out k hk.2)⟩
        have BGw6 : Aside0 (w6.heap[g]? = _) := ⟨(Mw6.out g HGN.out).trans BGw5.out⟩
        have BAw6 : Aside0 (w6.heap[w.heap.size]? = _) := ⟨(Mw6.out _ HAG.out).trans BAw5.out⟩
        have HMWw6 : Aside0 (IsM Try.prog 3 w6 mb (mval h.opn)) := ⟨HMWw5.out.step (Mw6.out mb HMN.out)⟩
        clear ppw6 hhw6
        refine hK.out _ _ ⟨((blk_cell BGw6.out 0).trans rfl), ((blk_cell BAw6.out 0).trans rfl), ((blk_cell BAw6.out 4).trans rfl), ((blk_cell BAw6.out 5).trans rfl)⟩ (fun hHeld => ?_)
        clear hK K
        refine done_ (by kernel_rfl) ?_
        have c26 : w6.cell? ⟨g, 2, none⟩ = some (.map (some mb)) := (blk_cell BGw6.out 2).trans rfl
        go_wp2_with ((with_reducible refine gate_builtin (b := .delete) (xs := #[.tmp 65, .tmp 66]) rfl ?_); refine wpList_drop_m rfl (.tmp 65) (.tmp 66) 48 3 rfl keyed3 Try.underlying48 (mval (upd h.opn task none)) rfl HMWw6.out (.int .i64 task) rfl (key3 _ HT.out) (mval_at _ _ _) (mval_upd _ _ _) ?_; intro w7 hT7 hM7; have HT7 := Aside0.mk hT7; have HM7 := Aside0.mk hM7; clear hT7 hM7)
        go_end0
        rw [HXX.out]
        refine ⟨rfl, ⟨.slice (some ⟨gl, 0, none⟩) h.list.length cap, ⟨(HT7.out.block g HGM.out).trans BGw6.out, HNG.out, HNM.out, ?_, HM7.out⟩⟩, KQw6.out.then_ (turned_kq HT7.out (.inr rfl))⟩
        exact Kd.N_step Pw6.out.1 (fun k hk hl => HT7.out.block k (fun e => HNM.out (e ▸ hk)))
end Go.Proofs.Ytfcfiojkkpnhlaa.Hs
