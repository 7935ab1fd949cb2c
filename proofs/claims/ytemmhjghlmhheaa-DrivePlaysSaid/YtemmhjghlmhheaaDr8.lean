/- Drives: two drives at once. -/
import Derived.Test.YtemmhjghlmhheaaProg
import Derived.Below
import Derived.Deep.Draws
import Derived.Deep.AppendLies
import Derived.Maps.AppendAt
import Derived.OwnWalk
import Derived.Laws.BytesArg
import Derived.Laws.MakeOwn
import Derived.Laws.OwnMore
import Derived.Deep.OwnRows
import Derived.Tactics
import Derived.Lib.ConvBytes
import Derived.Laws.Slices
import Derived.WalkKit
import Derived.KernelRfl
import Derived.RowKit3
import Derived.Deep.LoopGhost
import Derived.Deep.QuietTactic
import Derived.BigQuiet
import Derived.WideLaws
import Derived.Deep.DeepCutAuto
import Derived.Deep.CutBlock
import Derived.Deep.RegionHeld3
import Derived.Laws.Rows
import Derived.Lib.AppendStr
import Derived.ArgAppend
import Derived.Laws.IdiomCopy
import Derived.OrdersHeld
import Derived.Laws.BitsLemmas
import Derived.RowKit
import Derived.Test.YtemmhjghlmhheaaWWords
import Derived.Test.YtemmhjghlmhheaaWLast
import Derived.Test.YtemmhjghlmhheaaWTab
import Derived.Test.YtemmhjghlmhheaaWFour
import Derived.Test.YtemmhjghlmhheaaWQPut
import Derived.Test.YtemmhjghlmhheaaWApart
import Derived.Test.YtemmhjghlmhheaaWArr
import Derived.Test.YtemmhjghlmhheaaWZeros
import Derived.Test.YtemmhjghlmhheaaWFoot
import Derived.Test.YtemmhjghlmhheaaWKept
import Derived.Test.YtemmhjghlmhheaaWShare
import Derived.Test.YtemmhjghlmhheaaWN
import Derived.Test.YtemmhjghlmhheaaWFootNe
import Derived.Test.YtemmhjghlmhheaaWAt
import Derived.Test.YtemmhjghlmhheaaWEqStruct
import Derived.Test.YtemmhjghlmhheaaWRepsOne
import Derived.Test.YtemmhjghlmhheaaWInv
import Derived.Test.YtemmhjghlmhheaaWInvWords
import Derived.Test.YtemmhjghlmhheaaWGuard
import Derived.Test.YtemmhjghlmhheaaWNEv
import Derived.Test.YtemmhjghlmhheaaWMore
import Derived.Test.YtemmhjghlmhheaaDr7
namespace Go.Proofs.Ytemmhjghlmhheaa.Dr
open Go.RowKit Go.Proofs.YtemmhjghlmhheaaW.PrintWords Go.Proofs.YtemmhjghlmhheaaW.PrintLast Go.Proofs.YtemmhjghlmhheaaW.PrintMore
attribute [local go_sem] max2_int min2_int max_two min_two max_three min_three max_four min_four
set_option linter.unusedVariables false
set_option linter.unusedSimpArgs false
/-- The program's drive (g1) and the reference's (g2), of the call's own (it began at w); what pr names is neither's. -/
structure Two (w W : World) (g1 g2 : Nat) (pr : Nat → Prop) (d e : Dr) : Prop where
  hb : Below w.heap.size w W
  h1 : w.heap.size ≤ g1
  h2 : w.heap.size ≤ g2
  pb : ∀ k, pr k → k < W.heap.size
  p1 : ¬ pr g1
  p2 : ¬ pr g2
  ex : ∃ oka okb : Nat → Prop, (∀ k, oka k → w.heap.size ≤ k ∧ k < W.heap.size ∧ k ≠ g2 ∧ ¬ okb k ∧ ¬ pr k) ∧ (∀ k, okb k → w.heap.size ≤ k ∧ k < W.heap.size ∧ k ≠ g1 ∧ ¬ pr k) ∧ g1 ≠ g2 ∧ Dp 55 58 W oka g1 d ∧ Dp 47 61 W okb g2 e
theorem Two.lt {w W : World} {g1 g2 : Nat} {pr : Nat → Prop} {d e : Dr} (h : Two w W g1 g2 pr d e) : g1 < W.heap.size ∧ g2 < W.heap.size := by
  obtain ⟨oka, okb, _, _, _, ha, hb⟩ := h.ex
  exact ⟨ha.lt, hb.lt⟩
/-- A world that differs in what pr names, and in what is new. -/
theorem Two.touch {w W W' : World} {g1 g2 : Nat} {pr : Nat → Prop} {d e : Dr} (h : Two w W g1 g2 pr d e) (hb : Below w.heap.size w W') (hs : W.heap.size ≤ W'.heap.size) (hk : ∀ k, k < W.heap.size → ¬ pr k → W'.heap[k]? = W.heap[k]?) : Two w W' g1 g2 pr d e := by
  obtain ⟨oka, okb, ha, hb', hg, hd, he⟩ := h.ex
  have hlt := h.lt
  exact ⟨hb, h.h1, h.h2, fun k hk => Nat.lt_of_lt_of_le (h.pb k hk) hs, h.p1, h.p2, oka, okb, fun k hk' => by have := ha k hk'; exact ⟨this.1, by omega, this.2.2⟩, fun k hk' => by have := hb' k hk'; exact ⟨this.1, by omega, this.2.2⟩, hg,
    hd.step (fun k hk' hl => hk k hl (ha k hk').2.2.2.2) (hk _ hlt.1 h.p1), he.step (fun k hk' hl => hk k hl (hb' k hk').2.2.2) (hk _ hlt.2 h.p2)⟩
theorem Two.below {w W W' : World} {g1 g2 : Nat} {pr : Nat → Prop} {d e : Dr} (h : Two w W g1 g2 pr d e) (hb : Below W.heap.size W W') : Two w W' g1 g2 pr d e :=
  h.touch (h.hb.trans (hb.mono h.hb.size)) hb.size (fun k hk _ => hb.block k hk)
/-- What is new is protected from here on. -/
theorem Two.guard_ {w W W' : World} {g1 g2 : Nat} {pr pr' : Nat → Prop} {d e : Dr} (h : Two w W g1 g2 pr d e) (hb : Below W.heap.size W W') (hp : ∀ k, pr' k → pr k ∨ (W.heap.size ≤ k ∧ k < W'.heap.size)) : Two w W' g1 g2 pr' d e := by
  have h' := h.below hb
  obtain ⟨oka, okb, ha, hb', hg, hd, he⟩ := h.ex
  have hlt := h.lt
  refine ⟨h'.hb, h.h1, h.h2, fun k hk => ?_, fun hk => ?_, fun hk => ?_, oka, okb, fun k hk => ?_, fun k hk => ?_, hg, hd.below hb, he.below hb⟩
  · rcases hp _ hk with h1 | h1
    · exact Nat.lt_of_lt_of_le (h.pb k h1) hb.size
    · exact h1.2
  · rcases hp _ hk with h1 | h1
    · exact h.p1 h1
    · omega
  · rcases hp _ hk with h1 | h1
    · exact h.p2 h1
    · omega
  · have h1 := ha k hk
    have h2 := hb.size
    refine ⟨h1.1, by omega, h1.2.2.1, h1.2.2.2.1, fun hq => ?_⟩
    rcases hp _ hq with h3 | h3
    · exact h1.2.2.2.2 h3
    · omega
  · have h1 := hb' k hk
    have h2 := hb.size
    refine ⟨h1.1, by omega, h1.2.2.1, fun hq => ?_⟩
    rcases hp _ hq with h3 | h3
    · exact h1.2.2.2 h3
    · omega
theorem Two.less {w W : World} {g1 g2 : Nat} {pr pr' : Nat → Prop} {d e : Dr} (h : Two w W g1 g2 pr d e) (hp : ∀ k, pr' k → pr k) : Two w W g1 g2 pr' d e :=
  h.guard_ (Below.refl _ _) (fun k hk => .inl (hp k hk))
/-- The program's drive, to be written. -/
theorem Two.fst {w W : World} {g1 g2 : Nat} {pr : Nat → Prop} {d e : Dr} (h : Two w W g1 g2 pr d e) :
    ∃ ok : Nat → Prop, Dp 55 58 W ok g1 d ∧ (∀ k, W.heap.size ≤ k → ok k) ∧ ∀ W' d', Dp 55 58 W' ok g1 d' → Kq W W' ok g1 → Two w W' g1 g2 pr d' e ∧ (∀ k, pr k → W'.heap[k]? = W.heap[k]?) := by
  obtain ⟨oka, okb, ha, hb, hg, hd, he⟩ := h.ex
  have hlt := h.lt
  have hs := h.hb.size
  refine ⟨fun k => oka k ∨ (W.heap.size ≤ k), hd.mono (fun k hk _ => .inl hk) (fun hk => by rcases hk with hk | hk; exact hd.ng hk; omega), fun k hk => .inr hk, fun W' d' hd' hk => ⟨⟨hk.under h.hb h.h1 (fun k hk' => by rcases hk' with h1 | h1; exact (ha k h1).1; omega), h.h1, h.h2, fun k hk' => Nat.lt_of_lt_of_le (h.pb k hk') hk.size, h.p1, h.p2, fun k => (oka k ∨ W.heap.size ≤ k) ∧ k < W'.heap.size ∧ ¬ pr k, okb, ?_, ?_, hg, ?_, ?_⟩, ?_⟩⟩
  · rintro k ⟨h1 | h1, h2, h3⟩
    · have := ha k h1; exact ⟨this.1, h2, this.2.2.1, this.2.2.2.1, h3⟩
    · exact ⟨by omega, h2, by omega, fun h4 => by have := hb k h4; omega, h3⟩
  · intro k h1
    have h2 := hb k h1
    have h3 := hk.size
    exact ⟨h2.1, by omega, h2.2.2⟩
  · refine hd'.mono (fun k h1 h2 => ⟨h1, h2, fun h3 => ?_⟩) (fun h1 => hd'.ng h1.1)
    rcases h1 with h1 | h1
    · exact (ha k h1).2.2.2.2 h3
    · have := h.pb k h3; omega
  · refine he.step (fun k h1 h2 => hk.block k h2 (fun h3 => ?_) (hb k h1).2.2.1) (hk.block _ hlt.2 (fun h3 => ?_) hg.symm)
    · rcases h3 with h3 | h3
      · exact (ha k h3).2.2.2.1 h1
      · omega
    · rcases h3 with h3 | h3
      · exact (ha _ h3).2.2.1 rfl
      · omega
  · intro k h2
    have h1 := h.pb k h2
    refine hk.block k h1 (fun h3 => ?_) (fun h3 => h.p1 (h3 ▸ h2))
    rcases h3 with h3 | h3
    · exact (ha k h3).2.2.2.2 h2
    · omega
/-- The reference's drive, to be written. -/
theorem Two.snd {w W : World} {g1 g2 : Nat} {pr : Nat → Prop} {d e : Dr} (h : Two w W g1 g2 pr d e) :
    ∃ ok : Nat → Prop, Dp 47 61 W ok g2 e ∧ (∀ k, W.heap.size ≤ k → ok k) ∧ ∀ W' e', Dp 47 61 W' ok g2 e' → Kq W W' ok g2 → Two w W' g1 g2 pr d e' ∧ (∀ k, pr k → W'.heap[k]? = W.heap[k]?) := by
  obtain ⟨oka, okb, ha, hb, hg, hd, he⟩ := h.ex
  have hlt := h.lt
  have hs := h.hb.size
  refine ⟨fun k => okb k ∨ (W.heap.size ≤ k), he.mono (fun k hk _ => .inl hk) (fun hk => by rcases hk with hk | hk; exact he.ng hk; omega), fun k hk => .inr hk, fun W' e' he' hk => ⟨⟨hk.under h.hb h.h2 (fun k hk' => by rcases hk' with h1 | h1; exact (hb k h1).1; omega), h.h1, h.h2, fun k hk' => Nat.lt_of_lt_of_le (h.pb k hk') hk.size, h.p1, h.p2, oka, fun k => (okb k ∨ W.heap.size ≤ k) ∧ k < W'.heap.size ∧ ¬ pr k, ?_, ?_, hg, ?_, ?_⟩, ?_⟩⟩
  · intro k h1
    have h2 := ha k h1
    have h3 := hk.size
    refine ⟨h2.1, by omega, h2.2.2.1, fun h4 => ?_, h2.2.2.2.2⟩
    rcases h4.1 with h4 | h4
    · exact h2.2.2.2.1 h4
    · omega
  · rintro k ⟨h1 | h1, h2, h3⟩
    · have := hb k h1; exact ⟨this.1, h2, this.2.2.1, h3⟩
    · exact ⟨by omega, h2, by omega, h3⟩
  · refine hd.step (fun k h1 h2 => hk.block k h2 (fun h3 => ?_) (ha k h1).2.2.1) (hk.block _ hlt.1 (fun h3 => ?_) hg)
    · rcases h3 with h3 | h3
      · exact (ha k h1).2.2.2.1 h3
      · omega
    · rcases h3 with h3 | h3
      · exact (hb _ h3).2.2.1 rfl
      · omega
  · refine he'.mono (fun k h1 h2 => ⟨h1, h2, fun h3 => ?_⟩) (fun h1 => he'.ng h1.1)
    rcases h1 with h1 | h1
    · exact (hb k h1).2.2.2 h3
    · have := h.pb k h3; omega
  · intro k h2
    have h1 := h.pb k h2
    refine hk.block k h1 (fun h3 => ?_) (fun h3 => h.p2 (h3 ▸ h2))
    rcases h3 with h3 | h3
    · exact (hb k h3).2.2.2 h2
    · omega
theorem Two.dp1 {w W : World} {g1 g2 : Nat} {pr : Nat → Prop} {d e : Dr} (h : Two w W g1 g2 pr d e) : ∃ ok, Dp 55 58 W ok g1 d := by
  obtain ⟨oka, okb, _, _, _, hd, _⟩ := h.ex
  exact ⟨_, hd⟩
theorem Two.dp2 {w W : World} {g1 g2 : Nat} {pr : Nat → Prop} {d e : Dr} (h : Two w W g1 g2 pr d e) : ∃ ok, Dp 47 61 W ok g2 e := by
  obtain ⟨oka, okb, _, _, _, _, hd⟩ := h.ex
  exact ⟨_, hd⟩
/-- The value that Get gives, of the loose writes' first k. -/
def gval (W : World) (u x : Value) (lo : List (Int × List Int)) (j : Int) : Nat → Value
  | 0 => x
  | k + 1 => if (lo.getD k (0, [])).1 = j then (match u with | .slice (some a) _ _ => (W.cell? ⟨a.block, k * 2 + 1, none⟩).getD undef | _ => undef) else gval W u x lo j k
set_option maxRecDepth 100000 in
set_option maxHeartbeats 1000000 in
theorem rget_val (g : Nat) (d : Dr) (j : Nat) (ok : Nat → Prop) (w : World) (h : Dp 47 61 w ok g d) (hj : j < d.slots.length) :
    ∃ v_, Vb w ok v_ (d.get j) ∧ ∀ n, Calls Try.prog 25 #[.pointer (some ⟨g, 0, none⟩), .int .i64 (j : Int)] (w.drewN n) fun e w' => e = .returned v_ ∧ w' = w.drewN n := by
  obtain ⟨v, u, h⟩ := h
  obtain ⟨A, c, B, cu, hv, rfl, hl1, hl2⟩ := dv_len h
  obtain ⟨gv, cap, x, hv2, hx1, hx2, hV⟩ := dv_slotN h j hj
  rw [hv2] at hv
  injection hv with e1 e2 e3
  subst hv2
  have HD := Aside0.mk h
  obtain ⟨b0, hb0⟩ : ∃ b0, b0 = d.slots.getD j [] := ⟨_, rfl⟩
  have hg : d.get j = getw b0 d.loose j := by rw [hb0]; rfl
  rw [← hb0] at hV
  have HV : Aside0 (Vb w ok x b0) := ⟨Kd.V_mono hV (fun k hk => hk.1.1)⟩
  have hall : ∀ k, k ≤ d.loose.length → Vb w ok (gval w (.slice B d.loose.length cu) x d.loose j k) (getw b0 (d.loose.take k) j) := by
    intro k
    induction k with
    | zero => intro _; exact HV.out
    | succ k ih =>
      intro hk
      rw [getw_take b0 d.loose j k (by omega)]
      unfold gval
      obtain ⟨gu, cu', y, hu, hc0, hc1, hx⟩ := dv_looseN h k (by omega)
      split
      · rw [hu]
        show Vb w ok ((w.cell? ⟨gu, k * 2 + 1, none⟩).getD undef) _
        rw [hc1]
        exact Kd.V_mono hx (fun k hk => hk.1.1)
      · exact ih (by omega)
  refine ⟨gval w (.slice B d.loose.length cu) x d.loose j d.loose.length, by rw [hg]; have := hall _ (Nat.le_refl _); rwa [List.take_length] at this, fun n => ?_⟩
  obtain ⟨W, hW⟩ : ∃ W, W = w.drewN n := ⟨_, rfl⟩
  have hDW : Dv 47 61 W ok g (.slice (some ⟨gv, 0, none⟩) d.slots.length cap) (.slice B d.loose.length cu) d := by rw [hW]; exact h.step (fun _ _ _ => rfl) rfl
  have hx1' : W.cell? ⟨gv, j, none⟩ = some x := by rw [hW]; exact hx1
  have hgv : ∀ k, gval w (.slice B d.loose.length cu) x d.loose j k = gval W (.slice B d.loose.length cu) x d.loose j k := by
    intro k
    rw [hW]
    induction k with
    | zero => rfl
    | succ k ih =>
      unfold gval
      rw [ih]
      rfl
  rw [hgv, ← hW]
  obtain ⟨c0, c1, c2, hfz⟩ := dv_cell hDW
  have HDW := Aside0.mk hDW
  have hj2 : (j : Int) < (d.slots.length : Int) := by omega
  obtain ⟨Ax, cx, rfl⟩ := Kd.V_slice hV
  clear h hV hb0 hg e1 e2 e3 hW hDW hgv hx1 hall HV HD hx2
  go_enter Try.func25, Try.ntmps25
  go_wp2
  go_loop [5, 6, 14, 15, 16, 17, 18, 19, 20, 21, 22, 23, 24, 25, 26, 27, 28, 29, 30, 31, 32, 33, 34, 35, 36, 37, 38, 39, 40] (fun b i q1 q2 q3 q4 q5 q6 q7 q8 q9 q10 q11 q12 q13 q14 q15 q16 q17 q18 q19 q20 q21 q22 q23 q24 q25 q26 q27 => ∃ k : Nat, k ≤ d.loose.length ∧ i = .int .i64 k ∧ b = gval W (.slice B d.loose.length cu) (.slice Ax b0.length cx) d.loose j k) (fun _ i _ _ _ _ _ _ _ _ _ _ _ _ _ _ _ _ _ _ _ _ _ _ _ _ _ _ _ => d.loose.length - (intOf i).toNat)
  case atStart => exact ⟨0, Nat.zero_le _, rfl, rfl⟩
  case round =>
    obtain ⟨k, hk, rfl, hb⟩ := hrel
    by_cases hlt : k < d.loose.length
    · obtain ⟨gu, cu', y, hu, hc0, hc1, hx⟩ := dv_looseN HDW.out k hlt
      have hgt : gval W (.slice B d.loose.length cu) (.slice Ax b0.length cx) d.loose j (k + 1) = if (d.loose.getD k (0, [])).1 = j then y else gval W (.slice B d.loose.length cu) (.slice Ax b0.length cx) d.loose j k := by
        show (if (d.loose.getD k (0, [])).1 = j then _ else _) = _
        rw [hu]
        show (if (d.loose.getD k (0, [])).1 = j then (W.cell? ⟨gu, k * 2 + 1, none⟩).getD undef else _) = _
        rw [hc1]
        rfl
      obtain ⟨p, hp⟩ : ∃ p, p = d.loose.getD k (0, []) := ⟨_, rfl⟩
      rw [← hp] at hc0 hx hgt
      obtain ⟨pi, pb⟩ := p
      simp only at hc0 hx hgt
      injection hu with e1 e2 e3
      subst e1
      obtain ⟨Ay, cy, rfl⟩ := Kd.V_slice hx
      have HG := Aside0.mk hgt
      have HB := Aside0.mk hb
      clear hp hgt hx e2 e3 hb
      by_cases hq : pi = (j : Int)
      · subst hq
        go_wp2
        go_round
        case rel => exact ⟨k + 1, by omega, by go_num, by rw [HG.out]; (first | rw [if_pos rfl] | rw [if_pos trivial])⟩
        case measure => simp [intOf]; omega
      · have hq1 : (pi == (j : Int)) = false := by simpa using hq
        have HQ := Aside0.mk hq
        clear hq
        go_wp2
        go_round
        case rel => exact ⟨k + 1, by omega, by go_num, by rw [HG.out, if_neg HQ.out]; exact HB.out⟩
        case measure => simp [intOf]; omega
    · obtain rfl : k = d.loose.length := by omega
      have hd : decide (d.loose.length < d.loose.length) = false := decide_eq_false (Nat.lt_irrefl _)
      have HB := Aside0.mk hb
      clear hk hlt hb
      go_wp2
      go_ret
      exact ⟨congrArg Ending.returned HB.out, rfl⟩
end Go.Proofs.Ytemmhjghlmhheaa.Dr
