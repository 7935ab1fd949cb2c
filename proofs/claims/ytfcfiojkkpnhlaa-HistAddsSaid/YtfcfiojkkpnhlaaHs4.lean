/- Histories: a history of the call's own; the answers. -/
import Derived.Test.YtfcfiojkkpnhlaaProg
import Derived.Below
import Derived.Deep.Draws
import Derived.Deep.AppendLies
import Derived.Maps.AppendAt
import Derived.OwnWalk
import Derived.Laws.BytesArg
import Derived.Laws.MakeOwn
import Derived.Laws.OwnMore
import Derived.Deep.OwnRows
import Derived.Tactics
import Derived.Lib.ConvBytes
import Derived.Laws.Slices
import Derived.WalkKit
import Derived.KernelRfl
import Derived.RowKit3
import Derived.Deep.LoopGhost
import Derived.Deep.QuietTactic
import Derived.BigQuiet
import Derived.WideLaws
import Derived.Deep.DeepCutAuto
import Derived.Deep.CutBlock
import Derived.Deep.RegionHeld3
import Derived.Laws.Rows
import Derived.Lib.AppendStr
import Derived.ArgAppend
import Derived.Laws.IdiomCopy
import Derived.OrdersHeld
import Derived.Laws.BitsLemmas
import Derived.RowKit
import Derived.Test.YtfcfiojkkpnhlaaWWords
import Derived.Test.YtfcfiojkkpnhlaaWLast
import Derived.Test.YtfcfiojkkpnhlaaWTab
import Derived.Test.YtfcfiojkkpnhlaaWFour
import Derived.Test.YtfcfiojkkpnhlaaWQPut
import Derived.Test.YtfcfiojkkpnhlaaWApart
import Derived.Test.YtfcfiojkkpnhlaaWArr
import Derived.Test.YtfcfiojkkpnhlaaWZeros
import Derived.Test.YtfcfiojkkpnhlaaWFoot
import Derived.Test.YtfcfiojkkpnhlaaWKept
import Derived.Test.YtfcfiojkkpnhlaaWShare
import Derived.Test.YtfcfiojkkpnhlaaWN
import Derived.Test.YtfcfiojkkpnhlaaWFootNe
import Derived.Test.YtfcfiojkkpnhlaaWAt
import Derived.Test.YtfcfiojkkpnhlaaWEqStruct
import Derived.Test.YtfcfiojkkpnhlaaWRepsOne
import Derived.Test.YtfcfiojkkpnhlaaWInv
import Derived.Test.YtfcfiojkkpnhlaaWInvWords
import Derived.Test.YtfcfiojkkpnhlaaWGuard
import Derived.Test.YtfcfiojkkpnhlaaWNEv
import Derived.Test.YtfcfiojkkpnhlaaWMore
import Derived.Test.YtfcfiojkkpnhlaaHs3
namespace Go.Proofs.Ytfcfiojkkpnhlaa.Hs
open Go.RowKit Go.Proofs.YtfcfiojkkpnhlaaW.PrintWords Go.Proofs.YtfcfiojkkpnhlaaW.PrintLast Go.Proofs.YtfcfiojkkpnhlaaW.PrintMore
attribute [local go_sem] max2_int min2_int max_two min_two max_three min_three max_four min_four
set_option linter.unusedVariables false
set_option linter.unusedSimpArgs false
open Go.Proofs.Ytfcfiojkkpnhlaa.Mp
structure Hst.Fm (h : Hst) (m : Nat) : Prop where
  opn : ∀ t n, h.opn t = some n → n < h.list.length
  len : h.list.length ≤ m
  now : 0 ≤ h.now ∧ h.now ≤ m
  sm : h.Sm
theorem Hst.Fm.fit {h : Hst} {m : Nat} (H : h.Fm m) (hm : m < 999999) : h.Fit ∧ h.now < 999999 := ⟨⟨H.opn, by have := H.len; omega, by have := H.now; omega⟩, by have := H.now; omega⟩
theorem getD_set (l : List Cl) (n i : Nat) (c : Cl) : (l.set n c).getD i clz = if i = n ∧ n < l.length then c else l.getD i clz := by
  rw [List.getD_eq_getElem?_getD, List.getD_eq_getElem?_getD, List.getElem?_set]
  by_cases h : n = i
  · subst h
    by_cases h2 : n < l.length
    · simp [h2]
    · simp [h2]
  · rw [if_neg h, if_neg (fun e => h e.1.symm)]
theorem Hst.marked_sm {h : Hst} (H : h.Sm) (n : Nat) (a : Ans) : (h.marked n a).data.length < 1000000 ∧ (h.marked n a).out.length < 1000000 ∧ (h.marked n a).keys.length < 1000000 := by
  unfold Hst.marked
  split
  · exact H n
  · exact H n
theorem Hst.sm_set {h : Hst} (H : h.Sm) (n : Nat) (c : Cl) (o : Int → Option Nat) (hc : c.data.length < 1000000 ∧ c.out.length < 1000000 ∧ c.keys.length < 1000000) : Hst.Sm ⟨h.now, h.list.set n c, o⟩ := by
  intro i
  show ((h.list.set n c).getD i clz).data.length < 1000000 ∧ ((h.list.set n c).getD i clz).out.length < 1000000 ∧ ((h.list.set n c).getD i clz).keys.length < 1000000
  rw [getD_set]
  split
  · exact hc
  · exact H i
theorem Hst.fm_run {h : Hst} {m : Nat} (H : h.Fm m) (t : Int) (a : Ans) (ld : a.data.length < 1000000) (lk : a.keys.length < 1000000) : (h.run t a).Fm m := by
  unfold Hst.run
  split
  · exact H
  · rename_i n hn
    have hms := Hst.marked_sm H.sm n a
    split
    · refine ⟨fun t' n' ht => ?_, by simpa using H.len, H.now, Hst.sm_set H.sm n _ _ ⟨hms.1, ld, lk⟩⟩
      simp only [List.length_set]
      simp only [upd] at ht
      split at ht
      · cases ht
      · exact H.opn t' n' ht
    · exact ⟨fun t' n' ht => by simpa using H.opn t' n' ht, by simpa using H.len, H.now, Hst.sm_set H.sm n _ _ hms⟩
theorem Hst.fm_tick {h : Hst} {m : Nat} (H : h.Fm m) : h.tick.Fm (m + 1) := ⟨H.opn, by have := H.len; show h.list.length ≤ m + 1; omega, by have := H.now; show 0 ≤ h.now + 1 ∧ h.now + 1 ≤ ((m + 1 : Nat) : Int); omega, H.sm⟩
theorem Hst.fm_add {h : Hst} {m : Nat} (H : h.Fm m) (x : Stp) (a : Ans) (lx : x.data.length < 1000000) (ld : a.data.length < 1000000) (lk : a.keys.length < 1000000) : (h.add x a).Fm (m + 1) := by
  have hn := H.now
  have hl := H.len
  unfold Hst.add
  split
  · refine ⟨fun t n ht => ?_, by simpa using hl, by simp only; omega, fun i => ?_⟩
    · simp only [upd] at ht
      simp only [List.length_append, List.length_singleton]
      split at ht
      · injection ht with ht; omega
      · have := H.opn t n ht; omega
    · simp only [List.getD_eq_getElem?_getD, List.getElem?_append]
      split
      · have := H.sm i
        rwa [List.getD_eq_getElem?_getD] at this
      · by_cases hi : i - h.list.length = 0
        · rw [hi]
          exact ⟨lx, by simp [Hst.call], by simp [Hst.call]⟩
        · obtain ⟨j, hj⟩ : ∃ j, i - h.list.length = j + 1 := ⟨i - h.list.length - 1, by omega⟩
          rw [hj]
          simp [clz]
  · split
    · exact Hst.fm_run (Hst.fm_tick H) x.a a ld lk
    · split
      · exact ⟨fun t n ht => (by cases ht), by simpa using Nat.le_succ_of_le hl, by simp only; omega, H.sm⟩
      · exact Hst.fm_tick H
theorem Hst.fm0 : h0.Fm 0 := ⟨fun t n ht => (by cases ht), Nat.le_refl _, by decide, fun i => by simp [h0, clz]⟩
/-- A history of the call's own. -/
structure Own (w W : World) (g mb : Nat) (ok : Nat → Prop) (h : Hst) (m : Nat) : Prop where
  hp : Hp W ok g mb h
  bl : Below w.heap.size w W
  gk : w.heap.size ≤ g
  bk : w.heap.size ≤ mb
  okk : ∀ k, ok k → w.heap.size ≤ k
  new : ∀ k, W.heap.size ≤ k → ok k
  fm : h.Fm m
theorem Own.window {w W W' : World} {g mb : Nat} {ok : Nat → Prop} {h : Hst} {m : Nat} (O : Own w W g mb ok h m) (hB : Below W.heap.size W W') : Own w W' g mb (fun k => ok k ∧ (k < W.heap.size ∨ W'.heap.size ≤ k)) h m := by
  have hp := O.hp
  have hl := hp.lt
  obtain ⟨v, H⟩ := hp
  have H2 : Hv W (fun k => ok k ∧ (k < W.heap.size ∨ W'.heap.size ≤ k)) g mb v h := H.mono (fun k h1 h2 => ⟨h1, .inl h2⟩) (fun e => H.ng e.1) (fun e => H.nm e.1)
  exact ⟨⟨v, H2.below hB⟩, O.bl.trans (hB.mono O.bl.size), O.gk, O.bk, fun k hk => O.okk k hk.1, fun k hk => ⟨O.new k (Nat.le_trans hB.size hk), .inr hk⟩, O.fm⟩
theorem Own.far {w W : World} {g mb : Nat} {ok : Nat → Prop} {h : Hst} {m : Nat} (O : Own w W g mb ok h m) {p : Addr} (h1 : ¬ ok p.block) (h2 : p.block ≠ g) (h3 : p.block ≠ mb) (h4 : w.heap.size ≤ p.block) (x : Value) : Own w (W.setCell p x) g mb ok h m := by
  have hz : (W.setCell p x).heap.size = W.heap.size := by simp [World.setCell]
  refine ⟨O.hp.step (fun k hk _ => Below.heap_setCell _ _ _ _ (fun e => h1 (e ▸ hk))) (Below.heap_setCell _ _ _ _ (Ne.symm h2)) (Below.heap_setCell _ _ _ _ (Ne.symm h3)), O.bl.setCell h4 x, O.gk, O.bk, O.okk, fun k hk => O.new k (by rw [hz] at hk; exact hk), O.fm⟩
theorem Own.below {w W W' : World} {g mb : Nat} {ok : Nat → Prop} {h : Hst} {m : Nat} (O : Own w W g mb ok h m) (hB : Below W.heap.size W W') : Own w W' g mb ok h m :=
  ⟨O.hp.below hB, O.bl.trans (hB.mono O.bl.size), O.gk, O.bk, O.okk, fun k hk => O.new k (Nat.le_trans hB.size hk), O.fm⟩
theorem own_new (w : World) : Calls Try.prog 8 #[] w fun e w' => ∃ g mb, e = .returned (.pointer (some ⟨g, 0, none⟩)) ∧ Own w w' g mb (fun k => w.heap.size + 2 ≤ k) h0 0 := by
  refine (new_calls w).mono ?_
  rintro e w' ⟨rfl, hp, hb, hz⟩
  exact ⟨_, _, rfl, hp, hb, by omega, Nat.le_refl _, fun k hk => by omega, fun k hk => by omega, Hst.fm0⟩
theorem own_add {w W : World} {g mb : Nat} {ok okx : Nat → Prop} {h : Hst} {m : Nat} (O : Own w W g mb ok h m) (hm : m < 999999) (x : Stp) (a : Ans) (vx va vk : Value) (hA : AArg W okx x a vx va vk) (hx : ∀ k, okx k → k < W.heap.size → ¬ ok k ∧ k ≠ mb ∧ k ≠ g) :
    Calls Try.prog 9 #[.pointer (some ⟨g, 0, none⟩), .agg #[.int .i64 x.kind, .int .i64 x.a, .string x.key, vx, .int .u64 x.keep], .agg #[.int .i64 a.e, .int .i64 a.task, .bool a.done, .int .i64 a.mark, va, vk]] W fun e w' => e = .returned (.tuple #[]) ∧ Own w w' g mb ok (h.add x a) (m + 1) ∧ Kq W w' (fun k => ok k ∨ k = mb) g := by
  obtain ⟨hf, hn⟩ := O.fm.fit hm
  refine (add_calls g mb h x a vx va vk ok okx W O.hp hA O.new hf hn hx).mono ?_
  rintro e w' ⟨rfl, hp, hk⟩
  exact ⟨rfl, ⟨hp, hk.under O.bl O.gk (fun k hk => hk.elim (O.okk k) (fun e => e ▸ O.bk)), O.gk, O.bk, O.okk, fun k hk' => O.new k (Nat.le_trans hk.size hk'), Hst.fm_add O.fm x a hA.lx hA.ld hA.lk⟩, hk⟩
theorem own_calls {w W : World} {g mb : Nat} {ok : Nat → Prop} {h : Hst} {m : Nat} (O : Own w W g mb ok h m) (hm : m < 999999) :
    Calls Try.prog 11 #[.pointer (some ⟨g, 0, none⟩)] W fun e w' => ∃ v0_ : Value, e = .returned v0_ ∧ Kd.N CK 40 w' W.heap.size (fun k => W.heap.size ≤ k ∧ k < w'.heap.size) v0_ h.list ∧ Below W.heap.size W w' ∧ Own w w' g mb (fun k => ok k ∧ (k < W.heap.size ∨ w'.heap.size ≤ k)) h m := by
  refine (calls_calls g mb h ok W O.hp (by have := O.fm.len; omega) O.fm.sm).mono ?_
  rintro e w' ⟨v0, rfl, hN, hB⟩
  exact ⟨v0, rfl, Kd.N_bound hN, hB, O.window hB⟩
/-- Arguments without memory. -/
theorem arg_nil (W : World) (x : Stp) (a : Ans) (hx : x.data = []) (ha : a.data = []) (hk : a.keys = []) (h1 : (Lit.int .i64 a.task).wf = true) (h2 : (Lit.int .i64 x.a).wf = true) : AArg W (fun _ => False) x a (.slice none 0 0) (.slice none 0 0) (.slice none 0 0) :=
  ⟨by rw [hx]; exact Kd.V_nil _ _ _ _ _, by rw [ha]; exact Kd.V_nil _ _ _ _ _, by rw [hk]; exact Kd.V_nil _ _ _ _ _, by rw [hx]; decide, by rw [ha]; decide, by rw [hk]; decide, h1, h2⟩
def sx1 : Stp := ⟨1, 2, ⟨#[97]⟩, [], 0⟩
def sa1 : Ans := ⟨0, 2, false, 0, [], []⟩
def sx2 : Stp := ⟨2, 2, ⟨#[]⟩, [], 0⟩
def sa2 : Ans := ⟨7, 2, true, 1, [], []⟩
theorem list2 : ((h0.add sx1 sa1).add sx2 sa2).list = [⟨2, 2, ⟨#[97]⟩, [], 1, 2, 2, 7, [], []⟩] := rfl
set_option maxRecDepth 100000 in
set_option maxHeartbeats 2000000 in
theorem answers_calls (w : World) : Calls Try.prog 7 #[] w fun e w' => e = .returned (.bool true) ∧ Below w.heap.size w w' := by
  go_enter Try.func7, Try.ntmps7
  go_wp2_with fail
  refine (own_new w).mono ?_
  rintro e w1 ⟨g, mb, rfl, hO1⟩
  have O1 := Aside0.mk hO1
  clear hO1
  go_wp2_with fail
  refine (own_add O1.out (by omega) sx1 sa1 _ _ _ (arg_nil _ _ _ rfl rfl rfl rfl rfl) (fun k hk _ => hk.elim)).mono ?_
  rintro e w2 ⟨rfl, hO2, _⟩
  have O2 := Aside0.mk hO2
  clear hO2
  go_wp2_with fail
  refine (own_add O2.out (by omega) sx2 sa2 _ _ _ (arg_nil _ _ _ rfl rfl rfl rfl rfl) (fun k hk _ => hk.elim)).mono ?_
  rintro e w3 ⟨rfl, hO3, _⟩
  have O3 := Aside0.mk hO3
  clear hO3
  go_wp2_with fail
  refine (own_calls O3.out (by omega)).mono ?_
  rintro e w4 ⟨v0, rfl, hN, _, hO4⟩
  rw [list2] at hN
  obtain ⟨gl, cap, rfl, _, _, _⟩ := Kd.N_form hN (by decide)
  obtain ⟨vd, vo, vk, hcc, _⟩ := hl_elem (Kd.N_lower hN (Nat.zero_le _)) 0 (by decide)
  have m4 : w4.cell? ⟨gl, 4, none⟩ = some (.int .i64 1) := hcc 4 _ rfl
  have m5 : w4.cell? ⟨gl, 5, none⟩ = some (.int .i64 2) := hcc 5 _ rfl
  have m6 : w4.cell? ⟨gl, 6, none⟩ = some (.int .i64 2) := hcc 6 _ rfl
  have m7 : w4.cell? ⟨gl, 7, none⟩ = some (.int .i64 7) := hcc 7 _ rfl
  have O4 := Aside0.mk hO4
  clear hcc hO4 hN
  go_wp2
  go_ret
  exact ⟨rfl, O4.out.bl⟩
end Go.Proofs.Ytfcfiojkkpnhlaa.Hs
