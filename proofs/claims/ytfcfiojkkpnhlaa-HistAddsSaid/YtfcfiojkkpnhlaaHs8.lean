/- Histories: what is wanted grows, and is written. -/
import Derived.Test.YtfcfiojkkpnhlaaProg
import Derived.Below
import Derived.Deep.Draws
import Derived.Deep.AppendLies
import Derived.Maps.AppendAt
import Derived.OwnWalk
import Derived.Laws.BytesArg
import Derived.Laws.MakeOwn
import Derived.Laws.OwnMore
import Derived.Deep.OwnRows
import Derived.Tactics
import Derived.Lib.ConvBytes
import Derived.Laws.Slices
import Derived.WalkKit
import Derived.KernelRfl
import Derived.RowKit3
import Derived.Deep.LoopGhost
import Derived.Deep.QuietTactic
import Derived.BigQuiet
import Derived.WideLaws
import Derived.Deep.DeepCutAuto
import Derived.Deep.CutBlock
import Derived.Deep.RegionHeld3
import Derived.Laws.Rows
import Derived.Lib.AppendStr
import Derived.ArgAppend
import Derived.Laws.IdiomCopy
import Derived.OrdersHeld
import Derived.Laws.BitsLemmas
import Derived.RowKit
import Derived.Test.YtfcfiojkkpnhlaaWWords
import Derived.Test.YtfcfiojkkpnhlaaWLast
import Derived.Test.YtfcfiojkkpnhlaaWTab
import Derived.Test.YtfcfiojkkpnhlaaWFour
import Derived.Test.YtfcfiojkkpnhlaaWQPut
import Derived.Test.YtfcfiojkkpnhlaaWApart
import Derived.Test.YtfcfiojkkpnhlaaWArr
import Derived.Test.YtfcfiojkkpnhlaaWZeros
import Derived.Test.YtfcfiojkkpnhlaaWFoot
import Derived.Test.YtfcfiojkkpnhlaaWKept
import Derived.Test.YtfcfiojkkpnhlaaWShare
import Derived.Test.YtfcfiojkkpnhlaaWN
import Derived.Test.YtfcfiojkkpnhlaaWFootNe
import Derived.Test.YtfcfiojkkpnhlaaWAt
import Derived.Test.YtfcfiojkkpnhlaaWEqStruct
import Derived.Test.YtfcfiojkkpnhlaaWRepsOne
import Derived.Test.YtfcfiojkkpnhlaaWInv
import Derived.Test.YtfcfiojkkpnhlaaWInvWords
import Derived.Test.YtfcfiojkkpnhlaaWGuard
import Derived.Test.YtfcfiojkkpnhlaaWNEv
import Derived.Test.YtfcfiojkkpnhlaaWMore
import Derived.Test.YtfcfiojkkpnhlaaHs7
namespace Go.Proofs.Ytfcfiojkkpnhlaa.Hs
open Go.RowKit Go.Proofs.YtfcfiojkkpnhlaaW.PrintWords Go.Proofs.YtfcfiojkkpnhlaaW.PrintLast Go.Proofs.YtfcfiojkkpnhlaaW.PrintMore
attribute [local go_sem] max2_int min2_int max_two min_two max_three min_three max_four min_four
set_option linter.unusedVariables false
set_option linter.unusedSimpArgs false
open Go.Proofs.Ytfcfiojkkpnhlaa.Mp
section
variable {w W W' : World} {g mb : Nat} {pr : Nat → Prop} {h : Hst} {m : Nat} {v v' u u' : Value} {ws ws' : List Cl} {es es' : List Bool}
theorem Three.pr_lt (T : Three w W g mb pr h m v ws u es) : ∀ k, pr k → k < W.heap.size := by
  obtain ⟨ok, O, N, R, a, b, c⟩ := T
  exact fun k hk => (a k (.inr (.inr hk))).1
theorem Three.want_ (T : Three w W g mb pr h m v ws u es) (hN : NT w.heap.size W' v' ws') (hg : W.grownBy W' v.ownBlock) (hat : v'.ownBlock = v.ownBlock ∨ ∃ b, v'.ownBlock = some b ∧ W.heap.size ≤ b) :
    Three w W' g mb pr h m v' ws' u es ∧ ∀ k, pr k → W'.heap[k]? = W.heap[k]? := by
  have hv : ∀ k, v'.ownBlock = some k → v.ownBlock = some k ∨ W.heap.size ≤ k := fun k hk => by
    rcases hat with e | ⟨b, e, hb⟩
    · exact .inl (e ▸ hk)
    · rw [e] at hk; injection hk with hk; exact .inr (hk ▸ hb)
  have hu := fun k (e : u.ownBlock = some k) => Kd.R_lt T.bs k e
  refine ⟨T.grow hg (fun k e => .inl e) hN ?_ hv (fun k e => .inl e) (fun k hk e => ?_) (fun k hk => .inl hk) (fun k hk => ⟨fun e => ?_, (T.pr_ne k hk).2⟩), fun k hk => hg.block k (T.pr_lt k hk) (fun e => (T.pr_ne k hk).1 e.symm)⟩
  · exact Kd.R_mono (Kd.R_step (Kd.R_tight rfl T.bs) (fun k hk hl => hg.block k hl (fun e => T.ne k e.symm hk.symm))) (fun _ _ => trivial)
  · rcases hv k hk with e2 | e2
    · exact T.ne k e2 e
    · have := hu k e; omega
  · rcases hv k e with e2 | e2
    · exact (T.pr_ne k hk).1 e2
    · have := T.pr_lt k hk; omega
theorem Three.ended_ (T : Three w W g mb pr h m v ws u es) (hR : Kd.bool.R 4 W' w.heap.size (fun _ => True) u' es') (hg : W.grownBy W' u.ownBlock) (hat : u'.ownBlock = u.ownBlock ∨ ∃ b, u'.ownBlock = some b ∧ W.heap.size ≤ b) :
    Three w W' g mb pr h m v ws u' es' ∧ ∀ k, (pr k ∨ v.ownBlock = some k) → W'.heap[k]? = W.heap[k]? := by
  have hu : ∀ k, u'.ownBlock = some k → u.ownBlock = some k ∨ W.heap.size ≤ k := fun k hk => by
    rcases hat with e | ⟨b, e, hb⟩
    · exact .inl (e ▸ hk)
    · rw [e] at hk; injection hk with hk; exact .inr (hk ▸ hb)
  refine ⟨T.grow hg (fun k e => .inr e) (T.nt.grown hg (fun k e => Kd.R_base T.bs k e) (fun k e e2 => T.ne k e e2)) hR (fun k e => .inl e) hu (fun k hk e => ?_) (fun k hk => .inl hk) (fun k hk => ⟨(T.pr_ne k hk).1, fun e => ?_⟩), fun k hk => ?_⟩
  · rcases hu k e with e2 | e2
    · exact T.ne k hk e2
    · have := T.nt.lt k hk; omega
  · rcases hu k e with e2 | e2
    · exact (T.pr_ne k hk).2 e2
    · have := T.pr_lt k hk; omega
  · rcases hk with hk | hk
    · exact hg.block k (T.pr_lt k hk) (fun e => (T.pr_ne k hk).2 e.symm)
    · exact hg.block k (T.nt.lt k hk) (fun e => T.ne k hk e.symm)
theorem set_grown (W : World) (p : Addr) (x : Value) : W.grownBy (W.setCell p x) (some p.block) :=
  ⟨rfl, rfl, rfl, by simp [World.setCell], fun k _ hne => Below.heap_setCell _ _ _ _ (fun e => hne (by rw [e]))⟩
theorem grown_trans {a b c : World} {row : Option Nat} (h : a.grownBy b row) (k : b.grownBy c row) : a.grownBy c row :=
  ⟨k.os.trans h.os, k.tape.trans h.tape, k.output.trans h.output, Nat.le_trans h.size k.size, fun i hi hne => (k.block i (Nat.lt_of_lt_of_le hi h.size) hne).trans (h.block i hi hne)⟩
/-- One has ended. -/
theorem Three.end_ {ge n cap : Nat} (T : Three w W g mb pr h m v ws (.slice (some ⟨ge, 0, none⟩) n cap) es) (j : Nat) (b : Bool) :
    Three w (W.setCell ⟨ge, j, none⟩ (.bool b)) g mb pr h m v ws (.slice (some ⟨ge, 0, none⟩) n cap) (es.set j b) ∧ ∀ k, (pr k ∨ v.ownBlock = some k) → (W.setCell ⟨ge, j, none⟩ (.bool b)).heap[k]? = W.heap[k]? := by
  have hR := Kd.R_putn (h := T.bs) (j : Int) b
  rw [Int.toNat_natCast] at hR
  exact T.ended_ hR (set_grown _ _ _) (.inl rfl)
theorem Three.end_cell {ge n cap : Nat} (T : Three w W g mb pr h m v ws (.slice (some ⟨ge, 0, none⟩) n cap) es) (j : Nat) (hj : j < es.length) :
    W.cell? ⟨ge, j, none⟩ = some (.bool (es.getD j true)) ∧ W.frozen? ⟨ge, j, none⟩ = false := by
  have hn : n = es.length := (Kd.R_reads' T.bs).1
  have := Kd.R_celln (d := true) T.bs (j : Int) (by omega) (by omega)
  rw [Int.toNat_natCast] at this
  have e : rdOf true es (j : Int) = es.getD j true := by unfold rdOf; rw [Int.toNat_natCast]
  rw [e] at this
  exact this
/-- A cell of what is wanted is written. -/
theorem Three.put_ {gl ln cap : Nat} (T : Three w W g mb pr h m (.slice (some ⟨gl, 0, none⟩) ln cap) ws u es) (n : Nat) (hn : n < ws.length) {cs : List Value} (hcl : cs.length = 10) (hcc : ∀ j x, cs[j]? = some x → W.cell? ⟨gl, n * 10 + j, none⟩ = some x)
    (j : Nat) (hj : j < 10) (y : Value) {c' : Cl} (hM : Kd.FK CKy W (fun k => k < w.heap.size) c' (cs.set j y)) :
    Three w (W.setCell ⟨gl, n * 10 + j, none⟩ y) g mb pr h m (.slice (some ⟨gl, 0, none⟩) ln cap) (ws.set n c') u es ∧ (∀ i x, (cs.set j y)[i]? = some x → (W.setCell ⟨gl, n * 10 + j, none⟩ y).cell? ⟨gl, n * 10 + i, none⟩ = some x) ∧
      (∀ k, k ≠ gl → (W.setCell ⟨gl, n * 10 + j, none⟩ y).heap[k]? = W.heap[k]?) := by
  have hb := T.nt.base gl rfl
  obtain ⟨h3, h2⟩ := hly_put T.nt n hn hcl hcc j hj y hM (fun k hk => ⟨.inl hk, by omega⟩)
  exact ⟨(T.want_ h3 (set_grown _ _ _) (.inl rfl)).1, h2, fun k hk => Below.heap_setCell _ _ _ _ hk⟩
end
end Go.Proofs.Ytfcfiojkkpnhlaa.Hs
