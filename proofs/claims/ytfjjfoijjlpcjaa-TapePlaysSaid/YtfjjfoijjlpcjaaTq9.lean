/- Tapes: two of them side by side, the program's and the reference's. -/
import Derived.Test.YtfjjfoijjlpcjaaProg
import Derived.Below
import Derived.Deep.Draws
import Derived.Deep.AppendLies
import Derived.Maps.AppendAt
import Derived.OwnWalk
import Derived.Laws.BytesArg
import Derived.Laws.MakeOwn
import Derived.Laws.OwnMore
import Derived.Deep.OwnRows
import Derived.Tactics
import Derived.Lib.ConvBytes
import Derived.Laws.Slices
import Derived.WalkKit
import Derived.KernelRfl
import Derived.RowKit3
import Derived.Deep.LoopGhost
import Derived.Deep.QuietTactic
import Derived.BigQuiet
import Derived.WideLaws
import Derived.Deep.DeepCutAuto
import Derived.Deep.CutBlock
import Derived.Deep.RegionHeld3
import Derived.Laws.Rows
import Derived.Lib.AppendStr
import Derived.ArgAppend
import Derived.Laws.IdiomCopy
import Derived.OrdersHeld
import Derived.Laws.BitsLemmas
import Derived.RowKit
import Derived.Test.YtfjjfoijjlpcjaaWWords
import Derived.Test.YtfjjfoijjlpcjaaWLast
import Derived.Test.YtfjjfoijjlpcjaaWTab
import Derived.Test.YtfjjfoijjlpcjaaWFour
import Derived.Test.YtfjjfoijjlpcjaaWQPut
import Derived.Test.YtfjjfoijjlpcjaaWApart
import Derived.Test.YtfjjfoijjlpcjaaWArr
import Derived.Test.YtfjjfoijjlpcjaaWZeros
import Derived.Test.YtfjjfoijjlpcjaaWFoot
import Derived.Test.YtfjjfoijjlpcjaaWKept
import Derived.Test.YtfjjfoijjlpcjaaWShare
import Derived.Test.YtfjjfoijjlpcjaaWN
import Derived.Test.YtfjjfoijjlpcjaaWFootNe
import Derived.Test.YtfjjfoijjlpcjaaWAt
import Derived.Test.YtfjjfoijjlpcjaaWEqStruct
import Derived.Test.YtfjjfoijjlpcjaaWRepsOne
import Derived.Test.YtfjjfoijjlpcjaaWInv
import Derived.Test.YtfjjfoijjlpcjaaWInvWords
import Derived.Test.YtfjjfoijjlpcjaaWGuard
import Derived.Test.YtfjjfoijjlpcjaaWNEv
import Derived.Test.YtfjjfoijjlpcjaaWMore
import Derived.Test.YtfjjfoijjlpcjaaTq8
namespace Go.Proofs.Ytfjjfoijjlpcjaa.Tp
open Go.RowKit Go.Proofs.YtfjjfoijjlpcjaaW.PrintWords Go.Proofs.YtfjjfoijjlpcjaaW.PrintLast Go.Proofs.YtfjjfoijjlpcjaaW.PrintMore
attribute [local go_sem] max2_int min2_int max_two min_two max_three min_three max_four min_four
set_option linter.unusedVariables false
set_option linter.unusedSimpArgs false
/-- Blocks that the tapes' bytes may lie in. -/
def Ok2 (g1 g2 : Nat) (pr : Nat → Prop) : Nat → Prop := fun k => k ≠ g1 ∧ k ≠ g2 ∧ ¬ pr k
structure Two (w W : World) (g1 g2 : Nat) (pr : Nat → Prop) (t u : Ta) : Prop where
  hb : Below w.heap.size w W
  h1 : w.heap.size ≤ g1
  h2 : w.heap.size ≤ g2
  ne : g1 ≠ g2
  pb : ∀ k, pr k → k < W.heap.size
  p1 : ¬ pr g1
  p2 : ¬ pr g2
  T : Tp W (Ok2 g1 g2 pr) g1 t
  R : Rp W (Ok2 g1 g2 pr) g2 u
theorem Two.touch {w W W' : World} {g1 g2 : Nat} {pr : Nat → Prop} {t u : Ta} (h : Two w W g1 g2 pr t u) (hb : Below w.heap.size w W') (hs : W.heap.size ≤ W'.heap.size) (hk : ∀ k, k < W.heap.size → ¬ pr k → W'.heap[k]? = W.heap[k]?) : Two w W' g1 g2 pr t u :=
  ⟨hb, h.h1, h.h2, h.ne, fun k hk' => Nat.lt_of_lt_of_le (h.pb k hk') hs, h.p1, h.p2, tp_step h.T (fun k hk' hl => hk k hl hk'.2.2) (hk _ (tp_lt h.T) h.p1), rp_step h.R (fun k hk' hl => hk k hl hk'.2.2) (hk _ (rp_lt h.R) h.p2)⟩
theorem Two.below {w W W' : World} {g1 g2 : Nat} {pr : Nat → Prop} {t u : Ta} (h : Two w W g1 g2 pr t u) (hb : Below W.heap.size W W') : Two w W' g1 g2 pr t u :=
  h.touch (h.hb.trans (hb.mono h.hb.size)) hb.size (fun k hk _ => hb.block k hk)
theorem Two.guard_ {w W W' : World} {g1 g2 : Nat} {pr pr' : Nat → Prop} {t u : Ta} (h : Two w W g1 g2 pr t u) (hb : Below W.heap.size W W') (hp : ∀ k, pr' k → pr k ∨ (W.heap.size ≤ k ∧ k < W'.heap.size)) : Two w W' g1 g2 pr' t u := by
  have l1 := tp_lt h.T
  have l2 := rp_lt h.R
  have hq : ∀ k, pr' k → k < W.heap.size → pr k := fun k hk hl => by
    rcases hp k hk with h1 | h1
    · exact h1
    · omega
  have hok : ∀ k, Ok2 g1 g2 pr k → k < W.heap.size → Ok2 g1 g2 pr' k := fun k hk hl => ⟨hk.1, hk.2.1, fun h1 => hk.2.2 (hq k h1 hl)⟩
  refine ⟨h.hb.trans (hb.mono h.hb.size), h.h1, h.h2, h.ne, fun k hk => ?_, fun hk => h.p1 (hq _ hk l1), fun hk => h.p2 (hq _ hk l2), tp_below (tp_mono h.T hok) hb, rp_below (rp_mono h.R hok) hb⟩
  rcases hp k hk with h1 | h1
  · exact Nat.lt_of_lt_of_le (h.pb k h1) hb.size
  · exact h1.2
theorem Two.less {w W : World} {g1 g2 : Nat} {pr pr' : Nat → Prop} {t u : Ta} (h : Two w W g1 g2 pr t u) (hp : ∀ k, pr' k → pr k) : Two w W g1 g2 pr' t u := h.guard_ (Below.refl _ _) (fun k hk => .inl (hp k hk))
theorem Two.new {w W : World} {g1 g2 : Nat} {pr : Nat → Prop} {t u : Ta} (h : Two w W g1 g2 pr t u) : ∀ k, W.heap.size ≤ k → Ok2 g1 g2 pr k := fun k hk => by
  have l1 := tp_lt h.T
  have l2 := rp_lt h.R
  exact ⟨by omega, by omega, fun h1 => by have := h.pb k h1; omega⟩
theorem Two.fst {w W W' : World} {g1 g2 : Nat} {pr : Nat → Prop} {t t' u : Ta} (h : Two w W g1 g2 pr t u) (hT : Tp W' (Ok2 g1 g2 pr) g1 t') (hk : Kp W W' g1) : Two w W' g1 g2 pr t' u ∧ (∀ k, pr k → W'.heap[k]? = W.heap[k]?) :=
  ⟨⟨hk.under h.hb h.h1, h.h1, h.h2, h.ne, fun k hk' => Nat.lt_of_lt_of_le (h.pb k hk') hk.size, h.p1, h.p2, hT, rp_step h.R (fun k hk' hl => hk.block k hl hk'.1) (hk.block _ (rp_lt h.R) (Ne.symm h.ne))⟩, fun k hk' => hk.block k (h.pb k hk') (fun e => h.p1 (e ▸ hk'))⟩
theorem Two.snd {w W W' : World} {g1 g2 : Nat} {pr : Nat → Prop} {t u u' : Ta} (h : Two w W g1 g2 pr t u) (hR : Rp W' (Ok2 g1 g2 pr) g2 u') (hk : Kp W W' g2) : Two w W' g1 g2 pr t u' ∧ (∀ k, pr k → W'.heap[k]? = W.heap[k]?) :=
  ⟨⟨hk.under h.hb h.h2, h.h1, h.h2, h.ne, fun k hk' => Nat.lt_of_lt_of_le (h.pb k hk') hk.size, h.p1, h.p2, tp_step h.T (fun k hk' hl => hk.block k hl hk'.2.1) (hk.block _ (tp_lt h.T) h.ne), hR⟩, fun k hk' => hk.block k (h.pb k hk') (fun e => h.p2 (e ▸ hk'))⟩
/-- The same side: how what is loose came counts only where something is. -/
structure Sim1 (s r : Sd) : Prop where
  b : r.b = s.b
  l : r.l = s.l
  wet : r.wet = s.wet
  lost : r.lost = s.lost
  sw : s.wet = true → r.sw = s.sw
structure Sim (t u : Ta) : Prop where
  s0 : Sim1 t.s0 u.s0
  s1 : Sim1 t.s1 u.s1
  fuse : u.fuse = t.fuse
  down : u.down = t.down
theorem Sim1.refl (s : Sd) : Sim1 s s := ⟨rfl, rfl, rfl, rfl, fun _ => rfl⟩
theorem Sim1.apply {s r : Sd} (h : Sim1 s r) (b : List Int) (sw : Bool) : Sim1 (s.apply b sw) (r.apply b sw) := ⟨by simp [Sd.apply, h.b], h.l, h.wet, h.lost, h.sw⟩
theorem Sim1.loose {s r : Sd} (h : Sim1 s r) (b : List Int) (sw : Bool) : Sim1 (s.loose b sw) (r.loose b sw) := ⟨h.b, rfl, rfl, h.lost, fun _ => rfl⟩
theorem Sim.burn {t u : Ta} (h : Sim t u) : Sim t.burn u.burn := ⟨h.s0, h.s1, by simp [Ta.burn, h.fuse], h.down⟩
theorem Sim.step0 {t u : Ta} (h : Sim t u) (b : List Int) (sw : Bool) : (u.step0 b sw).2 = (t.step0 b sw).2 ∧ Sim (t.step0 b sw).1 (u.step0 b sw).1 := by
  unfold Ta.step0 Ta.one0
  rw [h.s0.lost, h.fuse]
  split
  · exact ⟨rfl, h⟩
  · split
    · exact ⟨rfl, h.s0.loose b sw, h.s1, rfl, rfl⟩
    · exact ⟨rfl, h.s0.apply b sw, h.s1, h.burn.fuse, h.down⟩
theorem Sim.step1 {t u : Ta} (h : Sim t u) (b : List Int) (sw : Bool) : (u.step1 b sw).2 = (t.step1 b sw).2 ∧ Sim (t.step1 b sw).1 (u.step1 b sw).1 := by
  unfold Ta.step1 Ta.one1
  rw [h.s1.lost, h.fuse]
  split
  · exact ⟨rfl, h⟩
  · split
    · exact ⟨rfl, h.s0, h.s1.loose b sw, rfl, rfl⟩
    · exact ⟨rfl, h.s0, h.s1.apply b sw, h.burn.fuse, h.down⟩
theorem Sim.write {t u : Ta} (h : Sim t u) (b : List Int) (sw : Bool) : (u.write b sw).2 = (t.write b sw).2 ∧ Sim (t.write b sw).1 (u.write b sw).1 := by
  have h0 := h.step0 b sw
  have h1 := h0.2.step1 b sw
  unfold Ta.write
  rw [h.down, h.s0.lost, h.s1.lost, h0.1, h1.1]
  split
  · exact ⟨rfl, h⟩
  · split
    · exact ⟨rfl, h⟩
    · split
      · split
        · exact ⟨rfl, h1.2⟩
        · exact ⟨rfl, h1.2⟩
      · exact ⟨rfl, h0.2⟩
theorem Sim1.crB {s r : Sd} (h : Sim1 s r) (k : Int) : r.crB k = s.crB k := by
  unfold Sd.crB
  rw [h.wet, h.b, h.l]
  cases hw : s.wet
  · rfl
  · rw [h.sw hw]
theorem Sim.crash {t u : Ta} (h : Sim t u) (k : Int) : Sim ⟨t.s0.crash k, t.s1.crash k, -1, false⟩ ⟨u.s0.rcrash k, u.s1.rcrash k, -1, false⟩ :=
  ⟨⟨h.s0.crB k, rfl, rfl, h.s0.lost, fun h1 => by cases h1⟩, ⟨h.s1.crB k, rfl, rfl, h.s1.lost, fun h1 => by cases h1⟩, rfl, rfl⟩
theorem Sim.set0 {t u : Ta} (h : Sim t u) {s r : Sd} (h0 : Sim1 s r) : Sim { t with s0 := s } { u with s0 := r } := ⟨h0, h.s1, h.fuse, h.down⟩
theorem Sim.set1 {t u : Ta} (h : Sim t u) {s r : Sd} (h0 : Sim1 s r) : Sim { t with s1 := s } { u with s1 := r } := ⟨h.s0, h0, h.fuse, h.down⟩
theorem Sim.setF {t u : Ta} (h : Sim t u) (f : Int) : Sim { t with fuse := f } { u with fuse := f } := ⟨h.s0, h.s1, rfl, h.down⟩
/-- Few bytes; the fuse is a number that may be. -/
structure Few (t : Ta) (m : Nat) : Prop where
  f0 : -1 ≤ t.fuse
  f1 : t.fuse < 9223372036854775808
  l0 : t.s0.b.length + t.s0.l.length ≤ m
  l1 : t.s1.b.length + t.s1.l.length ≤ m
theorem Few.mono {t : Ta} {m n : Nat} (h : Few t m) (hn : m ≤ n) : Few t n := ⟨h.f0, h.f1, Nat.le_trans h.l0 hn, Nat.le_trans h.l1 hn⟩
theorem Few.fit {t : Ta} {m : Nat} (h : Few t m) (hm : m ≤ 1000000) (n : Nat) (hn : n ≤ 1000000) : t.Fit n := ⟨h.f0, h.f1, by have := h.l0; omega, by have := h.l1; omega⟩
theorem sd_few {s : Sd} {m n : Nat} (b : List Int) (sw : Bool) (h : s.b.length + s.l.length ≤ m) (hn : b.length ≤ n) : (s.apply b sw).b.length + (s.apply b sw).l.length ≤ m + n ∧ (s.loose b sw).b.length + (s.loose b sw).l.length ≤ m + n := by
  unfold Sd.apply Sd.loose
  constructor
  · cases sw
    · show (s.b ++ b).length + s.l.length ≤ _
      rw [List.length_append]; omega
    · show b.length + s.l.length ≤ _
      omega
  · show s.b.length + b.length ≤ _
    omega
theorem Few.step0 {t : Ta} {m : Nat} (h : Few t m) (b : List Int) (sw : Bool) (n : Nat) (hn : b.length ≤ n) : -1 ≤ (t.step0 b sw).1.fuse ∧ (t.step0 b sw).1.fuse < 9223372036854775808 ∧ (t.step0 b sw).1.s0.b.length + (t.step0 b sw).1.s0.l.length ≤ m + n ∧ (t.step0 b sw).1.s1 = t.s1 := by
  have := h.f0
  have := h.f1
  have h2 := sd_few b sw h.l0 hn
  unfold Ta.step0 Ta.one0
  split
  · exact ⟨h.f0, h.f1, Nat.le_trans h.l0 (by omega), rfl⟩
  · split
    · exact ⟨h.f0, h.f1, h2.2, rfl⟩
    · refine ⟨?_, ?_, h2.1, rfl⟩ <;> simp only [Ta.burn] <;> split <;> omega
theorem few_step1 {t : Ta} {m : Nat} (h0 : -1 ≤ t.fuse) (h1 : t.fuse < 9223372036854775808) (h : t.s1.b.length + t.s1.l.length ≤ m) (b : List Int) (sw : Bool) (n : Nat) (hn : b.length ≤ n) : -1 ≤ (t.step1 b sw).1.fuse ∧ (t.step1 b sw).1.fuse < 9223372036854775808 ∧ (t.step1 b sw).1.s1.b.length + (t.step1 b sw).1.s1.l.length ≤ m + n ∧ (t.step1 b sw).1.s0 = t.s0 := by
  have h2 := sd_few b sw h hn
  unfold Ta.step1 Ta.one1
  split
  · exact ⟨h0, h1, Nat.le_trans h (by omega), rfl⟩
  · split
    · exact ⟨h0, h1, h2.2, rfl⟩
    · refine ⟨?_, ?_, h2.1, rfl⟩ <;> simp only [Ta.burn] <;> split <;> omega
theorem Few.write {t : Ta} {m : Nat} (h : Few t m) (b : List Int) (sw : Bool) (n : Nat) (hn : b.length ≤ n) : Few (t.write b sw).1 (m + n) := by
  have h0 := h.step0 b sw n hn
  have h1 := few_step1 h0.1 h0.2.1 (m := m) (by rw [h0.2.2.2]; exact h.l1) b sw n hn
  have e0 : Few (t.step0 b sw).1 (m + n) := ⟨h0.1, h0.2.1, h0.2.2.1, by rw [h0.2.2.2]; have := h.l1; omega⟩
  have e1 : Few ((t.step0 b sw).1.step1 b sw).1 (m + n) := ⟨h1.1, h1.2.1, by rw [h1.2.2.2]; exact h0.2.2.1, h1.2.2.1⟩
  have e2 := h.mono (Nat.le_add_right m n)
  unfold Ta.write
  split
  · exact e2
  · split
    · exact e2
    · split
      · split
        · exact e1
        · exact e1
      · exact e0
theorem crB_len (s : Sd) (k : Int) : (s.crB k).length ≤ s.b.length + s.l.length := by
  unfold Sd.crB
  split
  · split
    · split <;> omega
    · rw [List.length_append, List.length_take]; omega
  · omega
theorem Few.crash {t : Ta} {m : Nat} (h : Few t m) (k : Int) : Few ⟨t.s0.crash k, t.s1.crash k, -1, false⟩ m :=
  ⟨(show (-1 : Int) ≤ -1 by decide), (show (-1 : Int) < 9223372036854775808 by decide), Nat.le_trans (crB_len _ _) h.l0, Nat.le_trans (crB_len _ _) h.l1⟩
theorem Few.set0 {t : Ta} {m : Nat} (h : Few t m) {s : Sd} (hs : s.b.length + s.l.length ≤ m) : Few { t with s0 := s } m := ⟨h.f0, h.f1, hs, h.l1⟩
theorem Few.set1 {t : Ta} {m : Nat} (h : Few t m) {s : Sd} (hs : s.b.length + s.l.length ≤ m) : Few { t with s1 := s } m := ⟨h.f0, h.f1, h.l0, hs⟩
theorem Few.setF {t : Ta} {m : Nat} (h : Few t m) {f : Int} (h0 : -1 ≤ f) (h1 : f < 9223372036854775808) : Few { t with fuse := f } m := ⟨h0, h1, h.l0, h.l1⟩
theorem or1 (n : Nat) (hn : n < 1000000000) : ∃ m : Nat, Go.bits .or .i64 (n : Int) 1 = (m : Int) ∧ n ≤ m ∧ (m : Int) % 2 = 1 := by
  refine ⟨n ||| 1, ?_, Nat.left_le_or, ?_⟩
  · show IntKind.i64.wrap ((BitVec.ofInt 64 (n : Int) ||| BitVec.ofInt 64 1).toNat : Int) = _
    rw [BitVec.toNat_or, show (BitVec.ofInt 64 1).toNat = 1 from by decide, BitVec.toNat_ofInt, IntKind.wrap_i64]
    have e1 : (((n : Int) % ((2 ^ 64 : Nat) : Int)).toNat) = n := by omega
    rw [e1]
    have : n ||| 1 < 2 ^ 62 := Nat.or_lt_two_pow (by omega) (by decide)
    omega
  · have : (n ||| 1) % 2 = 1 := Nat.or_mod_two_eq_one.2 (.inr rfl)
    omega
theorem crB_all (s : Sd) (k : Int) (m : Nat) (hk : k = (m : Int)) (hm : s.l.length ≤ m) (ho : (m : Int) % 2 = 1) : s.crB k = s.all := by
  subst hk
  unfold Sd.crB Sd.all Sd.apply
  cases s.wet
  · rfl
  · cases s.sw
    · show s.b ++ s.l.take (keeps m s.l.length) = s.b ++ s.l
      have : keeps (m : Int) s.l.length = s.l.length := by
        unfold keeps
        rw [if_neg (by omega)]
        split
        · omega
        · rfl
      rw [this, List.take_of_length_le (Nat.le_refl _)]
    · show (if (m : Int) % 2 = 1 then s.l else s.b) = s.l
      rw [if_pos ho]
theorem all_len (s : Sd) : s.all.length ≤ s.b.length + s.l.length := by
  unfold Sd.all Sd.apply
  cases s.wet
  · show s.b.length ≤ _; omega
  · cases s.sw
    · show (s.b ++ s.l).length ≤ _; rw [List.length_append]; omega
    · show s.l.length ≤ _; omega
end Go.Proofs.Ytfjjfoijjlpcjaa.Tp
