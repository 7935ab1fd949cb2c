/- Drives: the contracts of check, Lost, Cap, Loose, Lose, New, do. -/
import Derived.Test.YtemmhjghlmhheaaProg
import Derived.Below
import Derived.Deep.Draws
import Derived.Deep.AppendLies
import Derived.Maps.AppendAt
import Derived.OwnWalk
import Derived.Laws.BytesArg
import Derived.Laws.MakeOwn
import Derived.Laws.OwnMore
import Derived.Deep.OwnRows
import Derived.Tactics
import Derived.Lib.ConvBytes
import Derived.Laws.Slices
import Derived.WalkKit
import Derived.KernelRfl
import Derived.RowKit3
import Derived.Deep.LoopGhost
import Derived.Deep.QuietTactic
import Derived.BigQuiet
import Derived.WideLaws
import Derived.Deep.DeepCutAuto
import Derived.Deep.CutBlock
import Derived.Deep.RegionHeld3
import Derived.Laws.Rows
import Derived.Lib.AppendStr
import Derived.ArgAppend
import Derived.Laws.IdiomCopy
import Derived.OrdersHeld
import Derived.Laws.BitsLemmas
import Derived.RowKit
import Derived.Test.YtemmhjghlmhheaaWWords
import Derived.Test.YtemmhjghlmhheaaWLast
import Derived.Test.YtemmhjghlmhheaaWTab
import Derived.Test.YtemmhjghlmhheaaWFour
import Derived.Test.YtemmhjghlmhheaaWQPut
import Derived.Test.YtemmhjghlmhheaaWApart
import Derived.Test.YtemmhjghlmhheaaWArr
import Derived.Test.YtemmhjghlmhheaaWZeros
import Derived.Test.YtemmhjghlmhheaaWFoot
import Derived.Test.YtemmhjghlmhheaaWKept
import Derived.Test.YtemmhjghlmhheaaWShare
import Derived.Test.YtemmhjghlmhheaaWN
import Derived.Test.YtemmhjghlmhheaaWFootNe
import Derived.Test.YtemmhjghlmhheaaWAt
import Derived.Test.YtemmhjghlmhheaaWEqStruct
import Derived.Test.YtemmhjghlmhheaaWRepsOne
import Derived.Test.YtemmhjghlmhheaaWInv
import Derived.Test.YtemmhjghlmhheaaWInvWords
import Derived.Test.YtemmhjghlmhheaaWGuard
import Derived.Test.YtemmhjghlmhheaaWNEv
import Derived.Test.YtemmhjghlmhheaaWMore
import Derived.Test.YtemmhjghlmhheaaDr0
namespace Go.Proofs.Ytemmhjghlmhheaa.Dr
open Go.RowKit Go.Proofs.YtemmhjghlmhheaaW.PrintWords Go.Proofs.YtemmhjghlmhheaaW.PrintLast Go.Proofs.YtemmhjghlmhheaaW.PrintMore
attribute [local go_sem] max2_int min2_int max_two min_two max_three min_three max_four min_four
set_option linter.unusedVariables false
set_option linter.unusedSimpArgs false
def Dr.check (d : Dr) (i : Int) : Int := if d.lost then 8 else if i < 0 ∨ (d.slots.length : Int) ≤ i then 1 else 0
/-- The lengths that the model's ints bear. -/
theorem dv_len {T Tw : Nat} {W : World} {ok : Nat → Prop} {g : Nat} {v u : Value} {d : Dr} (h : Dv T Tw W ok g v u d) : ∃ A c B e, v = .slice A d.slots.length c ∧ u = .slice B d.loose.length e ∧ d.slots.length ≤ 9223372036854775807 ∧ d.loose.length ≤ 9223372036854775807 := by
  obtain ⟨A, c, e1, _, h1⟩ := Kd.N_reads h.hv
  obtain ⟨B, e, e2, _, h2⟩ := Kd.N_reads h.hu
  exact ⟨A, c, B, e, e1, e2, h1.2.1, h2.2.1⟩
set_option maxHeartbeats 8000000 in
set_option maxRecDepth 100000 in
theorem check_calls (g : Nat) (d : Dr) (i : Int) (ok : Nat → Prop) (w : World) (h : Dp 55 58 w ok g d) :
    Calls Try.prog 26 #[.pointer (some ⟨g, 0, none⟩), .int .i64 i] w fun e w' => e = .returned (.int .i64 (d.check i)) ∧ w' = w := by
  obtain ⟨v, u, h⟩ := h
  obtain ⟨A, c, B, e, rfl, rfl, hl1, hl2⟩ := dv_len h
  obtain ⟨c0, c1, c2, hfz⟩ := dv_cell h
  obtain ⟨sl, lo, lost⟩ := d
  simp only at c0 c1 c2 hl1 hl2
  clear h
  cases lost with
  | true =>
    go_enter Try.func26, Try.ntmps26
    go_wp2
    go_ret
    exact ⟨rfl, rfl⟩
  | false =>
    by_cases h0 : i < 0
    · have h1 : decide (i < 0) = true := decide_eq_true h0
      have hs : Dr.check ⟨sl, lo, false⟩ i = 1 := by simp [Dr.check, h0]
      rw [hs]
      clear hs h0
      go_enter Try.func26, Try.ntmps26
      go_wp2
      go_ret
      exact ⟨rfl, rfl⟩
    · have h1 : decide (i < 0) = false := decide_eq_false h0
      by_cases h2 : (sl.length : Int) ≤ i
      · have h3 : decide ((sl.length : Int) ≤ i) = true := decide_eq_true h2
        have hs : Dr.check ⟨sl, lo, false⟩ i = 1 := by simp [Dr.check, h0, h2]
        rw [hs]
        clear hs h0 h2
        go_enter Try.func26, Try.ntmps26
        go_wp2
        go_ret
        exact ⟨rfl, rfl⟩
      · have h3 : decide ((sl.length : Int) ≤ i) = false := decide_eq_false h2
        have hs : Dr.check ⟨sl, lo, false⟩ i = 0 := by simp [Dr.check, h0, h2]
        rw [hs]
        clear hs h0 h2
        go_enter Try.func26, Try.ntmps26
        go_wp2
        go_ret
        exact ⟨rfl, rfl⟩
theorem check_nil (i : Int) (w : World) :
    Calls Try.prog 26 #[.pointer none, .int .i64 i] w fun e w' => e = .returned (.int .i64 1) ∧ w' = w := by
  go_enter Try.func26, Try.ntmps26
  go_wp2
  go_ret
  exact ⟨rfl, rfl⟩
theorem lost_calls (g : Nat) (d : Dr) (ok : Nat → Prop) (w : World) (h : Dp 55 58 w ok g d) :
    Calls Try.prog 22 #[.pointer (some ⟨g, 0, none⟩)] w fun e w' => e = .returned (.bool d.lost) ∧ w' = w := by
  obtain ⟨v, u, h⟩ := h
  obtain ⟨c0, c1, c2, hfz⟩ := dv_cell h
  obtain ⟨sl, lo, lost⟩ := d
  simp only at c0 c1 c2
  clear h
  go_enter Try.func22, Try.ntmps22
  go_wp2
  go_ret
  exact ⟨rfl, rfl⟩
theorem lost_nil (w : World) :
    Calls Try.prog 22 #[.pointer none] w fun e w' => e = .returned (.bool false) ∧ w' = w := by
  go_enter Try.func22, Try.ntmps22
  go_wp2
  go_ret
  exact ⟨rfl, rfl⟩
def Dr.cap (d : Dr) : Int := if d.lost then 0 else d.slots.length
set_option maxHeartbeats 8000000 in
theorem cap_calls (g : Nat) (d : Dr) (ok : Nat → Prop) (w : World) (h : Dp 55 58 w ok g d) :
    Calls Try.prog 23 #[.pointer (some ⟨g, 0, none⟩)] w fun e w' => e = .returned (.int .i64 d.cap) ∧ w' = w := by
  have HC := Aside0.mk (lost_calls g d ok w h)
  obtain ⟨v, u, h⟩ := h
  obtain ⟨A, c, B, e, rfl, rfl, hl1, hl2⟩ := dv_len h
  obtain ⟨c0, c1, c2, hfz⟩ := dv_cell h
  obtain ⟨sl, lo, lost⟩ := d
  simp only at c0 c1 c2 hl1 hl2
  clear h
  cases lost with
  | true =>
    go_enter Try.func23, Try.ntmps23
    go_wp2_with fail
    refine HC.out.mono ?_
    rintro e w' ⟨rfl, rfl⟩
    go_wp2
    go_ret
    exact ⟨rfl, rfl⟩
  | false =>
    go_enter Try.func23, Try.ntmps23
    go_wp2_with fail
    refine HC.out.mono ?_
    rintro e w' ⟨rfl, rfl⟩
    go_wp2
    go_ret
    exact ⟨rfl, rfl⟩
theorem cap_nil (w : World) :
    Calls Try.prog 23 #[.pointer none] w fun e w' => e = .returned (.int .i64 0) ∧ w' = w := by
  go_enter Try.func23, Try.ntmps23
  go_wp2_with fail
  refine (lost_nil _).mono ?_
  rintro e w' ⟨rfl, rfl⟩
  go_wp2
  go_ret
  exact ⟨rfl, rfl⟩
theorem loose_calls (g : Nat) (d : Dr) (ok : Nat → Prop) (w : World) (h : Dp 55 58 w ok g d) :
    Calls Try.prog 11 #[.pointer (some ⟨g, 0, none⟩)] w fun e w' => e = .returned (.int .i64 d.loose.length) ∧ w' = w := by
  obtain ⟨v, u, h⟩ := h
  obtain ⟨A, c, B, e, rfl, rfl, hl1, hl2⟩ := dv_len h
  obtain ⟨c0, c1, c2, hfz⟩ := dv_cell h
  obtain ⟨sl, lo, lost⟩ := d
  simp only at c0 c1 c2 hl1 hl2
  clear h
  go_enter Try.func11, Try.ntmps11
  go_wp2
  go_ret
  exact ⟨rfl, rfl⟩
theorem loose_nil (w : World) :
    Calls Try.prog 11 #[.pointer none] w fun e w' => e = .returned (.int .i64 0) ∧ w' = w := by
  go_enter Try.func11, Try.ntmps11
  go_wp2
  go_ret
  exact ⟨rfl, rfl⟩
theorem dv_empty {T Tw : Nat} {W : World} {ok : Nat → Prop} {g : Nat} {b : Bool} (hb : W.heap[g]? = some (.cells #[.slice none 0 0, .slice none 0 0, .bool b] T (0, 0))) (hn : ¬ ok g) : Dv T Tw W ok g (.slice none 0 0) (.slice none 0 0) ⟨[], [], b⟩ :=
  ⟨hb, hn, Kd.N_nil _ _ _ _ _, Kd.N_nil _ _ _ _ _⟩
theorem lose_calls (g : Nat) (d : Dr) (ok : Nat → Prop) (w : World) (h : Dp 55 58 w ok g d) :
    Calls Try.prog 21 #[.pointer (some ⟨g, 0, none⟩)] w fun e w' => e = .returned (.tuple #[]) ∧ Dp 55 58 w' ok g ⟨[], [], true⟩ ∧ Kq w w' ok g := by
  obtain ⟨v, u, h⟩ := h
  obtain ⟨c0, c1, c2, hfz⟩ := dv_cell h
  have HD := Aside0.mk h
  clear h
  go_enter Try.func21, Try.ntmps21
  go_wp2
  go_end0
  have hb := blk_set (blk_set (blk_set HD.out.blk 0 (.slice none 0 0)) 1 (.slice none 0 0)) 2 (.bool true)
  have hk : Kq w (((w.setCell ⟨g, 0, none⟩ (.slice none 0 0)).setCell ⟨g, 1, none⟩ (.slice none 0 0)).setCell ⟨g, 2, none⟩ (.bool true)) ok g := (((Kq.refl w ok g).set (p := ⟨g, 0, none⟩) (.inl rfl) _).set (p := ⟨g, 1, none⟩) (.inl rfl) _).set (p := ⟨g, 2, none⟩) (.inl rfl) _
  exact ⟨rfl, ⟨_, _, dv_empty hb HD.out.ng⟩, hk⟩
theorem lose_nil (w : World) :
    Calls Try.prog 21 #[.pointer none] w fun e w' => e = .returned (.tuple #[]) ∧ w' = w := by
  go_enter Try.func21, Try.ntmps21
  go_wp2
  go_end0
  exact ⟨rfl, rfl⟩
/-- do: a slot has other bytes. -/
theorem dv_put {T Tw : Nat} {W : World} {ok okx : Nat → Prop} {g gv cap : Nat} {x y u : Value} {d : Dr} {xs : List Int} (h : Dv T Tw W ok g (.slice (some ⟨gv, 0, none⟩) d.slots.length cap) u d) (i : Int) (h0 : 0 ≤ i) (h1 : i < d.slots.length)
    (hc : W.cell? ⟨gv, i.toNat, none⟩ = some y) (hx : Vb W okx x xs) (hok : ∀ k, okx k → (ok k ∧ some k ≠ u.ownBlock) ∧ k ≠ gv) : Dv T Tw (W.setCell ⟨gv, i.toNat, none⟩ x) ok g (.slice (some ⟨gv, 0, none⟩) d.slots.length cap) u { d with slots := d.slots.set i.toNat xs } := by
  have hgv : ok gv ∧ some gv ≠ u.ownBlock := h.hv.1 gv (by simp [Value.ownBlock])
  have hg : g ≠ gv := fun e => h.ng (e ▸ hgv.1)
  have hz : By.sz = 1 := rfl
  obtain ⟨hN, _⟩ := Kd.N_seg h.hv i h0 (by omega) (c := [y]) (seg := [x]) (j := 0) (x' := xs) (okp := okx) rfl (fun j q hq => by
    rcases j with _ | j
    · simp only [List.getElem?_cons_zero, Option.some.injEq] at hq
      subst hq
      simpa [hz] using hc
    · simp at hq) (by simp [hz]) (by simpa using vb_fk hx) hok
  have e1 : W.setCells gv (i.toNat * By.sz + 0) [x] = W.setCell ⟨gv, i.toNat, none⟩ x := by simp [World.setCells, hz]
  rw [e1] at hN
  refine ⟨(Below.heap_setCell W _ x g hg).trans h.blk, h.ng, ?_, ?_⟩
  · show Kd.N By 22 _ 0 _ (.slice _ _ _) (d.slots.set i.toNat xs)
    exact hN
  · refine Kd.N_far h.hu (p := ⟨gv, i.toNat, none⟩) (fun k hk => ?_) x
    intro e
    have e' : k = gv := e
    exact hk.2 (by simp [Value.ownBlock, e'])
end Go.Proofs.Ytemmhjghlmhheaa.Dr
