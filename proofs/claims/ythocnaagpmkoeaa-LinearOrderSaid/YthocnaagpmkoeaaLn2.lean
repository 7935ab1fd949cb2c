/- Calls, one after the other: what one call does with a map. -/
import Derived.Test.YthocnaagpmkoeaaProg
import Derived.Below
import Derived.Deep.Draws
import Derived.Deep.AppendLies
import Derived.Maps.AppendAt
import Derived.OwnWalk
import Derived.Laws.BytesArg
import Derived.Laws.MakeOwn
import Derived.Laws.OwnMore
import Derived.Deep.OwnRows
import Derived.Tactics
import Derived.Lib.ConvBytes
import Derived.Laws.Slices
import Derived.WalkKit
import Derived.KernelRfl
import Derived.RowKit3
import Derived.Deep.LoopGhost
import Derived.Deep.QuietTactic
import Derived.BigQuiet
import Derived.WideLaws
import Derived.Deep.DeepCutAuto
import Derived.Deep.CutBlock
import Derived.Deep.RegionHeld3
import Derived.Laws.Rows
import Derived.Lib.AppendStr
import Derived.ArgAppend
import Derived.Laws.IdiomCopy
import Derived.OrdersHeld
import Derived.Laws.BitsLemmas
import Derived.RowKit
import Derived.Test.YthocnaagpmkoeaaWWords
import Derived.Test.YthocnaagpmkoeaaWLast
import Derived.Test.YthocnaagpmkoeaaWTab
import Derived.Test.YthocnaagpmkoeaaWFour
import Derived.Test.YthocnaagpmkoeaaWQPut
import Derived.Test.YthocnaagpmkoeaaWApart
import Derived.Test.YthocnaagpmkoeaaWArr
import Derived.Test.YthocnaagpmkoeaaWZeros
import Derived.Test.YthocnaagpmkoeaaWFoot
import Derived.Test.YthocnaagpmkoeaaWKept
import Derived.Test.YthocnaagpmkoeaaWShare
import Derived.Test.YthocnaagpmkoeaaWN
import Derived.Test.YthocnaagpmkoeaaWFootNe
import Derived.Test.YthocnaagpmkoeaaWAt
import Derived.Test.YthocnaagpmkoeaaWEqStruct
import Derived.Test.YthocnaagpmkoeaaWRepsOne
import Derived.Test.YthocnaagpmkoeaaWInv
import Derived.Test.YthocnaagpmkoeaaWInvWords
import Derived.Test.YthocnaagpmkoeaaWGuard
import Derived.Test.YthocnaagpmkoeaaWNEv
import Derived.Test.YthocnaagpmkoeaaWMore
import Derived.Test.YthocnaagpmkoeaaLn1
namespace Go.Proofs.Ythocnaagpmkoeaa.Ln
open Go.RowKit Go.Proofs.YthocnaagpmkoeaaW.PrintWords Go.Proofs.YthocnaagpmkoeaaW.PrintLast Go.Proofs.YthocnaagpmkoeaaW.PrintMore
attribute [local go_sem] max2_int min2_int max_two min_two max_three min_three max_four min_four
set_option linter.unusedVariables false
set_option linter.unusedSimpArgs false
open Go.Proofs.Ythocnaagpmkoeaa.Mp
/-- All but block b is as it was. -/
structure Bq (w w' : World) (b : Nat) : Prop where
  os : w'.os = w.os
  tape : w'.tape = w.tape
  output : w'.output = w.output
  size : w.heap.size ≤ w'.heap.size
  block : ∀ k, k < w.heap.size → k ≠ b → w'.heap[k]? = w.heap[k]?
theorem Bq.of_below {w w' : World} {b : Nat} (h : Below w.heap.size w w') : Bq w w' b := ⟨h.os, h.tape, h.output, h.size, fun k hk _ => h.block k hk⟩
theorem Bq.turn {w w1 w2 : World} {b : Nat} (h : Below w.heap.size w w1) (k : Turned w1 w2 b) : Bq w w2 b :=
  ⟨k.os.trans h.os, k.tape.trans h.tape, k.output.trans h.output, by rw [k.size]; exact h.size, fun i hi hn => (k.block i hn).trans (h.block i hi)⟩
theorem Bq.below {w0 w w' : World} {b : Nat} (h : Bq w w' b) (hB : Below w0.heap.size w0 w) (hb : w0.heap.size ≤ b) : Below w0.heap.size w0 w' :=
  ⟨h.os.trans hB.os, h.tape.trans hB.tape, h.output.trans hB.output, Nat.le_trans hB.size h.size, fun k hk => (h.block k (Nat.lt_of_lt_of_le hk hB.size) (by omega)).trans (hB.block k hk)⟩
def doF (m : ByteArray → Option Ds) (x : Fc) : Bool × (ByteArray → Option Ds) := if x.op = 1 then (true, if x.e = 0 then updK m x.key x.data else m) else (decide (x.to_ = 0) || getF m x, m)
theorem updK_ok {m : ByteArray → Option Ds} {k : ByteArray} {d : Ds} {w : World} (h : ∀ q d, m q = some d → d.ok w) (hd : d.ok w) : ∀ q d', updK m k d q = some d' → d'.ok w := fun q d' h2 => by
  unfold updK at h2
  split at h2
  · injection h2 with h2
    subst h2
    exact hd
  · exact h q d' h2
set_option maxHeartbeats 2000000 in
set_option maxRecDepth 100000 in
theorem do_calls (b : Nat) (m : ByteArray → Option Ds) (x : Fc) (w0 w : World) (hB : Below w0.heap.size w0 w) (hb : w0.heap.size ≤ b) (hM : IsM Try.prog 9 w b (mapOf m)) (hO : ∀ k d, m k = some d → d.ok w0) (hx : x.ok w0) (hk : x.key.size ≤ 1000) (hop : x.op = 1 ∨ x.op = 2) :
    Calls Try.prog 12 #[.map (some b), .agg (encF x).toArray] w fun e w' => e = .returned (.bool (doF m x).1) ∧ IsM Try.prog 9 w' b (mapOf (doF m x).2) ∧ (∀ k d, (doF m x).2 k = some d → d.ok w0) ∧ Bq w w' b := by
  have HB : Aside0 (∀ o, Below w.heap.size w (w.alloc o)) := ⟨fun o => (Below.refl _ _).alloc (Nat.le_refl _) o⟩
  have HM : Aside0 (∀ o, IsM Try.prog 9 (w.alloc o) b (mapOf m)) := ⟨fun o => hM.step ((HB.out o).block b hM.lt)⟩
  have HK := Aside0.mk (key9 x.key hk)
  have HO := Aside0.mk hO
  have HOU : Aside0 (∀ k d, updK m x.key x.data k = some d → d.ok w0) := ⟨updK_ok hO hx.data⟩
  have HG : Aside0 (∀ o, Calls Try.prog 16 #[.map (some b), .agg (encF x).toArray] (w.alloc o) fun e w' => e = .returned (.bool (getF m x)) ∧ Below (w.alloc o).heap.size (w.alloc o) w') :=
    ⟨fun o => get_calls b m x _ ⟨HM.out o, fun k d h => (hO k d h).below (hB.trans ((HB.out o).mono hB.size))⟩ (hx.out.below (hB.trans ((HB.out o).mono hB.size))) hk⟩
  have HWO : Aside0 (∀ o w', Below (w.alloc o).heap.size (w.alloc o) w' → IsM Try.prog 9 w' b (mapOf m) ∧ Bq w w' b) := ⟨fun o w' h => ⟨(HM.out o).step (h.block b (HM.out o).lt), Bq.of_below ((HB.out o).trans (h.mono (HB.out o).size))⟩⟩
  have hmb := hM.lt
  clear hM hk hO hB hb hx
  obtain ⟨task, op, key, data, fr, to_, at_, ex, out, ka, kl, kc⟩ := x
  simp only at HK HOU hop
  rcases hop with hop | hop
  · subst hop
    by_cases h0 : ex = 0
    · subst h0
      have e : doF m ⟨task, 1, key, data, fr, to_, at_, 0, out, ka, kl, kc⟩ = (true, updK m key data) := by simp [doF]
      rw [e]
      unfold encF
      clear e HG HWO
      go_enter Try.func12, Try.ntmps12
      go_wp2_with (at_mapUpdate; refine wpList_put_m rfl (.tmp 12) (.tmp 14) (.tmp 16) 39 rfl keyed9 Try.underlying39 (mapOf (updK m key data)) rfl (HM.out _) (.string key) rfl HK.out data.v rfl (mapOf_at _ _ _) (fun q hq => mapOf_ne _ _ _ q hq) ?_; intro w2 hT2 hM2; have HT2 := Aside0.mk hT2; have HM2 := Aside0.mk hM2; clear hT2 hM2)
      go_ret
      exact ⟨rfl, HM2.out, HOU.out, Bq.turn (HB.out _) HT2.out⟩
    · have e : doF m ⟨task, 1, key, data, fr, to_, at_, ex, out, ka, kl, kc⟩ = (true, m) := by simp [doF, h0]
      rw [e]
      have d0 : (ex == 0) = false := by simpa using h0
      unfold encF
      clear e HG HWO
      go_enter Try.func12, Try.ntmps12
      go_wp2_with fail
      go_ret
      exact ⟨rfl, HM.out _, HO.out, Bq.of_below (HB.out _)⟩
  · subst hop
    by_cases h0 : to_ = 0
    · subst h0
      have e : doF m ⟨task, 2, key, data, fr, 0, at_, ex, out, ka, kl, kc⟩ = (true, m) := by simp [doF]
      rw [e]
      unfold encF
      clear e HG HWO
      go_enter Try.func12, Try.ntmps12
      go_wp2_with fail
      go_ret
      exact ⟨rfl, HM.out _, HO.out, Bq.of_below (HB.out _)⟩
    · obtain ⟨r, hr⟩ : ∃ r, r = getF m ⟨task, 2, key, data, fr, to_, at_, ex, out, ka, kl, kc⟩ := ⟨_, rfl⟩
      have e : doF m ⟨task, 2, key, data, fr, to_, at_, ex, out, ka, kl, kc⟩ = (r, m) := by simp [doF, h0, hr]
      rw [e]
      rw [← hr] at HG
      have d0 : (to_ == 0) = false := by simpa using h0
      unfold encF at HG ⊢
      clear e hr
      go_enter Try.func12, Try.ntmps12
      go_wp2_with (go_at_call 16; refine (HG.out _).mono ?_; rintro e w3 ⟨rfl, hb3⟩; have HB3 := Aside0.mk hb3; clear hb3)
      go_ret
      exact ⟨rfl, (HWO.out _ _ HB3.out).1, HO.out, (HWO.out _ _ HB3.out).2⟩
end Go.Proofs.Ythocnaagpmkoeaa.Ln
