/- Calls, one after the other: what a map has, and what is done with it. -/
import Derived.Test.YthocnaagpmkoeaaProg
import Derived.Below
import Derived.Deep.Draws
import Derived.Deep.AppendLies
import Derived.Maps.AppendAt
import Derived.OwnWalk
import Derived.Laws.BytesArg
import Derived.Laws.MakeOwn
import Derived.Laws.OwnMore
import Derived.Deep.OwnRows
import Derived.Tactics
import Derived.Lib.ConvBytes
import Derived.Laws.Slices
import Derived.WalkKit
import Derived.KernelRfl
import Derived.RowKit3
import Derived.Deep.LoopGhost
import Derived.Deep.QuietTactic
import Derived.BigQuiet
import Derived.WideLaws
import Derived.Deep.DeepCutAuto
import Derived.Deep.CutBlock
import Derived.Deep.RegionHeld3
import Derived.Laws.Rows
import Derived.Lib.AppendStr
import Derived.ArgAppend
import Derived.Laws.IdiomCopy
import Derived.OrdersHeld
import Derived.Laws.BitsLemmas
import Derived.RowKit
import Derived.Test.YthocnaagpmkoeaaWWords
import Derived.Test.YthocnaagpmkoeaaWLast
import Derived.Test.YthocnaagpmkoeaaWTab
import Derived.Test.YthocnaagpmkoeaaWFour
import Derived.Test.YthocnaagpmkoeaaWQPut
import Derived.Test.YthocnaagpmkoeaaWApart
import Derived.Test.YthocnaagpmkoeaaWArr
import Derived.Test.YthocnaagpmkoeaaWZeros
import Derived.Test.YthocnaagpmkoeaaWFoot
import Derived.Test.YthocnaagpmkoeaaWKept
import Derived.Test.YthocnaagpmkoeaaWShare
import Derived.Test.YthocnaagpmkoeaaWN
import Derived.Test.YthocnaagpmkoeaaWFootNe
import Derived.Test.YthocnaagpmkoeaaWAt
import Derived.Test.YthocnaagpmkoeaaWEqStruct
import Derived.Test.YthocnaagpmkoeaaWRepsOne
import Derived.Test.YthocnaagpmkoeaaWInv
import Derived.Test.YthocnaagpmkoeaaWInvWords
import Derived.Test.YthocnaagpmkoeaaWGuard
import Derived.Test.YthocnaagpmkoeaaWNEv
import Derived.Test.YthocnaagpmkoeaaWMore
import Derived.Test.YthocnaagpmkoeaaLn0
import Derived.Test.YthocnaagpmkoeaaMp
import Derived.StringKeys
namespace Go.Proofs.Ythocnaagpmkoeaa.Ln
open Go.RowKit Go.Proofs.YthocnaagpmkoeaaW.PrintWords Go.Proofs.YthocnaagpmkoeaaW.PrintLast Go.Proofs.YthocnaagpmkoeaaW.PrintMore
attribute [local go_sem] max2_int min2_int max_two min_two max_three min_three max_four min_four
set_option linter.unusedVariables false
set_option linter.unusedSimpArgs false
open Go.Proofs.Ythocnaagpmkoeaa.Mp
theorem keyed9 : Go.Maps.Keyed Try.prog 9 := Go.Maps.string_keyed Try.underlying9
theorem key9 (s : ByteArray) (h : s.size ≤ 1000) : keyOf Try.prog 9 (.string s) = some (.string s.data.toList) := Go.WideMaps.keyOf_string_mk Try.underlying9 (by unfold maxLen; omega)
theorem zero22 (w : World) : (zeroValue 22).run Try.prog w = .ok (.slice none 0 0) w := by kernel_rfl
def mapOf (m : ByteArray → Option Ds) : Value → Option Value
  | .string s => (m s).map Ds.v
  | _ => none
def updK (m : ByteArray → Option Ds) (k : ByteArray) (d : Ds) : ByteArray → Option Ds := fun s => if s = k then some d else m s
theorem mapOf_at (m : ByteArray → Option Ds) (k : ByteArray) (d : Ds) : mapOf (updK m k d) (.string k) = some d.v := by simp [mapOf, updK]
theorem mapOf_ne (m : ByteArray → Option Ds) (k : ByteArray) (d : Ds) (q : Value) (hq : q ≠ .string k) : mapOf (updK m k d) q = mapOf m q := by
  unfold mapOf
  split
  · rename_i s
    have : s ≠ k := fun e => hq (by rw [e])
    simp [updK, this]
  · rfl
/-- A map at block b that has what m says. -/
structure IsW (w : World) (b : Nat) (m : ByteArray → Option Ds) : Prop where
  map : IsM Try.prog 9 w b (mapOf m)
  ok : ∀ k d, m k = some d → d.ok w
theorem IsW.lt {w : World} {b : Nat} {m : ByteArray → Option Ds} (h : IsW w b m) : b < w.heap.size := h.map.lt
theorem IsW.below {w w' : World} {b : Nat} {m : ByteArray → Option Ds} (h : IsW w b m) (hb : Below w.heap.size w w') : IsW w' b m := ⟨h.map.step (hb.block b h.lt), fun k d hk => (h.ok k d hk).below hb⟩
def sameB (a b : List Int) : Bool := (strOfNums a).toList == (strOfNums b).toList
theorem eqF (a b : List Int) : bytes_Equal.f a b = some (sameB a b) := by unfold bytes_Equal.f sameB; rfl
theorem eq_calls (d o : Ds) (w : World) (hd : d.ok w) (ho : o.ok w) : Calls Try.prog 22 #[d.v, o.v] w fun e w' => e = .returned (.bool (sameB d.bs o.bs)) ∧ ∃ n, w' = w.drewN n := by
  obtain ⟨a, c, l⟩ := d
  obtain ⟨a', c', l'⟩ := o
  obtain ⟨h1, h2⟩ := hd
  obtain ⟨h3, h4⟩ := ho
  simp only [Ds.v] at *
  refine (bytes_Equal.calls a c l a' c' l' (sameB l l') w h2 h1 h4 h3 (eqF l l')).mono ?_
  rintro e w' ⟨rfl, ⟨nd, rfl⟩⟩
  exact ⟨rfl, nd, rfl⟩
def getF (m : ByteArray → Option Ds) (x : Fc) : Bool := if x.e = 0 then (match m x.key with | some d => sameB d.bs x.out.bs | none => false) else if x.e = 7 then (m x.key).isNone else decide (x.e = 8)
set_option maxHeartbeats 2000000 in
set_option maxRecDepth 100000 in
theorem get_calls (b : Nat) (m : ByteArray → Option Ds) (x : Fc) (w : World) (hM : IsW w b m) (hx : x.out.ok w) (hk : x.key.size ≤ 1000) :
    Calls Try.prog 16 #[.map (some b), .agg (encF x).toArray] w fun e w' => e = .returned (.bool (getF m x)) ∧ Below w.heap.size w w' := by
  have HB : Aside0 (∀ o, Below w.heap.size w (w.alloc o)) := ⟨fun o => (Below.refl _ _).alloc (Nat.le_refl _) o⟩
  have HM : Aside0 (∀ o, IsW (w.alloc o) b m) := ⟨fun o => hM.below (HB.out o)⟩
  have HX : Aside0 (∀ o, x.out.ok (w.alloc o)) := ⟨fun o => hx.below (HB.out o)⟩
  have HK := Aside0.mk (key9 x.key hk)
  clear hM hx hk
  unfold encF
  cases hm : m x.key with
  | none =>
    have HF : Aside0 (mapOf m (.string x.key) = none) := ⟨by simp [mapOf, hm]⟩
    by_cases h0 : x.e = 0
    · have e : getF m x = false := by simp [getF, hm, h0]
      rw [e, h0]
      clear hm e
      go_enter Try.func16, Try.ntmps16
      go_wp2_with (at_lookup; refine wpList_look_m rfl (.tmp 8) (.tmp 10) 39 true rfl keyed9 Try.underlying39 (zero22 _) rfl (HM.out _).map (.string x.key) rfl HK.out ?_; rw [HF.out]; simp only [Option.getD_none, Option.isSome_none, if_true])
      go_ret
      exact ⟨rfl, HB.out _⟩
    · by_cases h7 : x.e = 7
      · have e : getF m x = true := by simp [getF, hm, h7]
        rw [e, h7]
        clear hm e
        go_enter Try.func16, Try.ntmps16
        go_wp2_with (at_lookup; refine wpList_look_m rfl (.tmp 8) (.tmp 10) 39 true rfl keyed9 Try.underlying39 (zero22 _) rfl (HM.out _).map (.string x.key) rfl HK.out ?_; rw [HF.out]; simp only [Option.getD_none, Option.isSome_none, if_true])
        go_ret
        exact ⟨rfl, HB.out _⟩
      · have e : getF m x = decide (x.e = 8) := by simp [getF, h0, h7]
        rw [e]
        have d0 : (x.e == 0) = false := by simpa using h0
        have d7 : (x.e == 7) = false := by simpa using h7
        clear hm e
        go_enter Try.func16, Try.ntmps16
        go_wp2_with (at_lookup; refine wpList_look_m rfl (.tmp 8) (.tmp 10) 39 true rfl keyed9 Try.underlying39 (zero22 _) rfl (HM.out _).map (.string x.key) rfl HK.out ?_; rw [HF.out]; simp only [Option.getD_none, Option.isSome_none, if_true])
        go_ret
        exact ⟨by first | rfl | simp, HB.out _⟩
  | some d =>
    have HF : Aside0 (mapOf m (.string x.key) = some d.v) := ⟨by simp [mapOf, hm]⟩
    have HD : Aside0 (∀ o, d.ok (w.alloc o)) := ⟨fun o => (HM.out o).ok _ _ hm⟩
    by_cases h0 : x.e = 0
    · have e : getF m x = sameB d.bs x.out.bs := by simp [getF, hm, h0]
      rw [e, h0]
      clear hm e
      go_enter Try.func16, Try.ntmps16
      go_wp2_with (first | (at_lookup; refine wpList_look_m rfl (.tmp 8) (.tmp 10) 39 true rfl keyed9 Try.underlying39 (zero22 _) rfl (HM.out _).map (.string x.key) rfl HK.out ?_; rw [HF.out]; simp only [Option.getD_some, Option.isSome_some, if_true]) | (go_at_call 22; refine (eq_calls d x.out _ (HD.out _) (HX.out _)).mono ?_; rintro e w' ⟨rfl, ⟨nd, rfl⟩⟩))
      go_ret
      exact ⟨rfl, by (with_reducible repeat (first | exact HB.out _ | refine pw_below_drewN ?_ _ | refine below_drew1 ?_))⟩
    · by_cases h7 : x.e = 7
      · have e : getF m x = false := by simp [getF, hm, h7]
        rw [e, h7]
        clear hm e
        go_enter Try.func16, Try.ntmps16
        go_wp2_with (at_lookup; refine wpList_look_m rfl (.tmp 8) (.tmp 10) 39 true rfl keyed9 Try.underlying39 (zero22 _) rfl (HM.out _).map (.string x.key) rfl HK.out ?_; rw [HF.out]; simp only [Option.getD_some, Option.isSome_some, if_true])
        go_ret
        exact ⟨rfl, HB.out _⟩
      · have e : getF m x = decide (x.e = 8) := by simp [getF, h0, h7]
        rw [e]
        have d0 : (x.e == 0) = false := by simpa using h0
        have d7 : (x.e == 7) = false := by simpa using h7
        clear hm e
        go_enter Try.func16, Try.ntmps16
        go_wp2_with (at_lookup; refine wpList_look_m rfl (.tmp 8) (.tmp 10) 39 true rfl keyed9 Try.underlying39 (zero22 _) rfl (HM.out _).map (.string x.key) rfl HK.out ?_; rw [HF.out]; simp only [Option.getD_some, Option.isSome_some, if_true])
        go_ret
        exact ⟨by first | rfl | simp, HB.out _⟩
end Go.Proofs.Ythocnaagpmkoeaa.Ln
