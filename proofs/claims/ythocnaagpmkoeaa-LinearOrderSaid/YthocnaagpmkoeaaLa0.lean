-- The print's text, as a module of our own.
import Derived.Test.YthocnaagpmkoeaaProg
import Derived.Below
import Derived.Deep.Draws
import Derived.Deep.AppendLies
import Derived.Maps.AppendAt
import Derived.OwnWalk
import Derived.Laws.BytesArg
import Derived.Laws.MakeOwn
import Derived.Laws.OwnMore
import Derived.Deep.OwnRows
import Derived.Tactics
import Derived.Lib.ConvBytes
import Derived.Laws.Slices
import Derived.WalkKit
import Derived.KernelRfl
import Derived.RowKit3
import Derived.Deep.LoopGhost
import Derived.Deep.QuietTactic
import Derived.BigQuiet
import Derived.WideLaws
import Derived.Deep.DeepCutAuto
import Derived.Deep.CutBlock
import Derived.Deep.RegionHeld3
import Derived.Laws.Rows
import Derived.Lib.AppendStr
import Derived.ArgAppend
import Derived.Laws.IdiomCopy
import Derived.OrdersHeld
import Derived.Laws.BitsLemmas
import Derived.RowKit
import Derived.Test.YthocnaagpmkoeaaWWords
import Derived.Test.YthocnaagpmkoeaaWLast
import Derived.Test.YthocnaagpmkoeaaWTab
import Derived.Test.YthocnaagpmkoeaaWFour
import Derived.Test.YthocnaagpmkoeaaWQPut
import Derived.Test.YthocnaagpmkoeaaWApart
import Derived.Test.YthocnaagpmkoeaaWArr
import Derived.Test.YthocnaagpmkoeaaWZeros
import Derived.Test.YthocnaagpmkoeaaWFoot
import Derived.Test.YthocnaagpmkoeaaWKept
import Derived.Test.YthocnaagpmkoeaaWShare
import Derived.Test.YthocnaagpmkoeaaWN
import Derived.Test.YthocnaagpmkoeaaWFootNe
import Derived.Test.YthocnaagpmkoeaaWAt
import Derived.Test.YthocnaagpmkoeaaWEqStruct
import Derived.Test.YthocnaagpmkoeaaWRepsOne
import Derived.Test.YthocnaagpmkoeaaWInv
import Derived.Test.YthocnaagpmkoeaaWInvWords
import Derived.Test.YthocnaagpmkoeaaWGuard
import Derived.Test.YthocnaagpmkoeaaWNEv
import Derived.Test.YthocnaagpmkoeaaWMore
namespace Go.Proofs.Ythocnaagpmkoeaa.Ln
open Go.RowKit Go.Proofs.YthocnaagpmkoeaaW.PrintWords Go.Proofs.YthocnaagpmkoeaaW.PrintLast Go.Proofs.YthocnaagpmkoeaaW.PrintMore
attribute [local go_sem] max2_int min2_int max_two min_two max_three min_three max_four min_four   -- for this text's walks alone
set_option linter.unusedVariables false
set_option linter.unusedSimpArgs false



def errW : Option Int → Value
  | none => .nilIface
  | some c => .iface 0 (.int .i64 c)
theorem errW_none : errW none = .nilIface := rfl
theorem errW_some (c : Int) : errW (some c) = .iface 0 (.int .i64 c) := rfl

-- the values' own types
def rd_L3 (xs : List (List Int)) (i : Int) : (List Int) := xs.getD i.toNat ([] : List Int)
theorem at_L3 {w : World} {A : Option Addr} {n : Nat} {xs : List (List Int)} (h : Kd.C (Kd.slice 5 (Kd.int .u8)) w A n xs) (i : Int) (h0 : 0 ≤ i) (h1 : i < n) : ∃ ad A0 c0, A = some ad ∧ w.cell? (ad.add i.toNat) = some (.slice A0 (rd_L3 xs i).length c0) ∧ (rd_L3 xs i).length ≤ c0 ∧ (Kd.int .u8).C w A0 (rd_L3 xs i).length (rd_L3 xs i) := by
  obtain ⟨ad, c, e, _, hK, hc0⟩ := Kd.C_get h ([] : List Int) i h0 h1
  have hc : ∀ j u, c[j]? = some u → w.cell? (ad.add (i.toNat * 1 + j)) = some u := hc0
  obtain ⟨A0, c0, rfl, l0, g0⟩ := hK
  exact ⟨ad, A0, c0, e, by have hq := hc 0 _ rfl; rwa [Nat.mul_one, Nat.add_zero] at hq, l0, g0⟩

def rd_L4 (xs : List (List ByteArray)) (i : Int) : (List ByteArray) := xs.getD i.toNat ([] : List ByteArray)
theorem at_L4 {w : World} {A : Option Addr} {n : Nat} {xs : List (List ByteArray)} (h : Kd.C (Kd.slice 9 Kd.string) w A n xs) (i : Int) (h0 : 0 ≤ i) (h1 : i < n) : ∃ ad A0 c0, A = some ad ∧ w.cell? (ad.add i.toNat) = some (.slice A0 (rd_L4 xs i).length c0) ∧ (rd_L4 xs i).length ≤ c0 ∧ Kd.string.C w A0 (rd_L4 xs i).length (rd_L4 xs i) := by
  obtain ⟨ad, c, e, _, hK, hc0⟩ := Kd.C_get h ([] : List ByteArray) i h0 h1
  have hc : ∀ j u, c[j]? = some u → w.cell? (ad.add (i.toNat * 1 + j)) = some u := hc0
  obtain ⟨A0, c0, rfl, l0, g0⟩ := hK
  exact ⟨ad, A0, c0, e, by have hq := hc 0 _ rfl; rwa [Nat.mul_one, Nat.add_zero] at hq, l0, g0⟩

/-! #### struct type 29 -/
structure S29 where
  f0 : Int
  f1 : Int
  f2 : ByteArray
  f3 : (List Int)
  f4 : Int
  f5 : Int
  f6 : Int
  f7 : Int
  f8 : (List Int)
  f9 : (List ByteArray)
def z29 : S29 := ⟨(0 : Int), (0 : Int), (⟨#[]⟩ : ByteArray), ([] : List Int), (0 : Int), (0 : Int), (0 : Int), (0 : Int), ([] : List Int), ([] : List ByteArray)⟩
def k29 : Kd S29 := Kd.iso (Kd.pair (Kd.int .i64) (Kd.pair (Kd.int .i64) (Kd.pair Kd.string (Kd.pair (Kd.slice 5 (Kd.int .u8)) (Kd.pair (Kd.int .i64) (Kd.pair (Kd.int .i64) (Kd.pair (Kd.int .i64) (Kd.pair (Kd.int .i64) (Kd.pair (Kd.slice 5 (Kd.int .u8)) (Kd.slice 9 Kd.string)))))))))) (fun x : S29 => (x.f0, x.f1, x.f2, x.f3, x.f4, x.f5, x.f6, x.f7, x.f8, x.f9))
theorem k29_open {w : World} {x : S29} {cs : List Value} (h : k29.K w x cs) : ∃ A3 c3 A8 c8 A9 c9, cs = [.int .i64 x.f0, .int .i64 x.f1, .string x.f2, .slice A3 x.f3.length c3, .int .i64 x.f4, .int .i64 x.f5, .int .i64 x.f6, .int .i64 x.f7, .slice A8 x.f8.length c8, .slice A9 x.f9.length c9] ∧ x.f3.length ≤ c3 ∧ (Kd.int .u8).C w A3 x.f3.length x.f3 ∧ x.f8.length ≤ c8 ∧ (Kd.int .u8).C w A8 x.f8.length x.f8 ∧ x.f9.length ≤ c9 ∧ Kd.string.C w A9 x.f9.length x.f9 := by
  obtain ⟨_, _, rfl, rfl, ⟨_, _, rfl, rfl, ⟨_, _, rfl, rfl, ⟨_, _, rfl, ⟨A3, c3, rfl, l3, g3⟩, ⟨_, _, rfl, rfl, ⟨_, _, rfl, rfl, ⟨_, _, rfl, rfl, ⟨_, _, rfl, rfl, ⟨_, _, rfl, ⟨A8, c8, rfl, l8, g8⟩, ⟨A9, c9, rfl, l9, g9⟩⟩⟩⟩⟩⟩⟩⟩⟩⟩ := h
  exact ⟨A3, c3, A8, c8, A9, c9, rfl, l3, g3, l8, g8, l9, g9⟩
theorem k29_openM {w : World} {base : Nat} {ok : Nat → Prop} {x : S29} {cs : List Value} (h : k29.M w base ok x cs) : ∃ v3 v8 v9, cs = [.int .i64 x.f0, .int .i64 x.f1, .string x.f2, v3, .int .i64 x.f4, .int .i64 x.f5, .int .i64 x.f6, .int .i64 x.f7, v8, v9] ∧ (Kd.int .u8).R 5 w base ok v3 x.f3 ∧ (Kd.int .u8).R 5 w base ok v8 x.f8 ∧ Kd.string.R 9 w base ok v9 x.f9 := by
  obtain ⟨_, _, rfl, rfl, ⟨_, _, rfl, rfl, ⟨_, _, rfl, rfl, ⟨_, _, rfl, ⟨v3, rfl, g3⟩, ⟨_, _, rfl, rfl, ⟨_, _, rfl, rfl, ⟨_, _, rfl, rfl, ⟨_, _, rfl, rfl, ⟨_, _, rfl, ⟨v8, rfl, g8⟩, ⟨v9, rfl, g9⟩⟩⟩⟩⟩⟩⟩⟩⟩⟩ := h
  exact ⟨v3, v8, v9, rfl, g3, g8, g9⟩
theorem k29_mk (w : World) (x : S29) {A3 : Option Addr} {c3 : Nat} (l3 : x.f3.length ≤ c3) (g3 : (Kd.int .u8).C w A3 x.f3.length x.f3) {A8 : Option Addr} {c8 : Nat} (l8 : x.f8.length ≤ c8) (g8 : (Kd.int .u8).C w A8 x.f8.length x.f8) {A9 : Option Addr} {c9 : Nat} (l9 : x.f9.length ≤ c9) (g9 : Kd.string.C w A9 x.f9.length x.f9) : k29.K w x [.int .i64 x.f0, .int .i64 x.f1, .string x.f2, .slice A3 x.f3.length c3, .int .i64 x.f4, .int .i64 x.f5, .int .i64 x.f6, .int .i64 x.f7, .slice A8 x.f8.length c8, .slice A9 x.f9.length c9] := ⟨[.int .i64 x.f0], [.int .i64 x.f1, .string x.f2, .slice A3 x.f3.length c3, .int .i64 x.f4, .int .i64 x.f5, .int .i64 x.f6, .int .i64 x.f7, .slice A8 x.f8.length c8, .slice A9 x.f9.length c9], rfl, rfl, ⟨[.int .i64 x.f1], [.string x.f2, .slice A3 x.f3.length c3, .int .i64 x.f4, .int .i64 x.f5, .int .i64 x.f6, .int .i64 x.f7, .slice A8 x.f8.length c8, .slice A9 x.f9.length c9], rfl, rfl, ⟨[.string x.f2], [.slice A3 x.f3.length c3, .int .i64 x.f4, .int .i64 x.f5, .int .i64 x.f6, .int .i64 x.f7, .slice A8 x.f8.length c8, .slice A9 x.f9.length c9], rfl, rfl, ⟨[.slice A3 x.f3.length c3], [.int .i64 x.f4, .int .i64 x.f5, .int .i64 x.f6, .int .i64 x.f7, .slice A8 x.f8.length c8, .slice A9 x.f9.length c9], rfl, ⟨A3, c3, rfl, l3, g3⟩, ⟨[.int .i64 x.f4], [.int .i64 x.f5, .int .i64 x.f6, .int .i64 x.f7, .slice A8 x.f8.length c8, .slice A9 x.f9.length c9], rfl, rfl, ⟨[.int .i64 x.f5], [.int .i64 x.f6, .int .i64 x.f7, .slice A8 x.f8.length c8, .slice A9 x.f9.length c9], rfl, rfl, ⟨[.int .i64 x.f6], [.int .i64 x.f7, .slice A8 x.f8.length c8, .slice A9 x.f9.length c9], rfl, rfl, ⟨[.int .i64 x.f7], [.slice A8 x.f8.length c8, .slice A9 x.f9.length c9], rfl, rfl, ⟨[.slice A8 x.f8.length c8], [.slice A9 x.f9.length c9], rfl, ⟨A8, c8, rfl, l8, g8⟩, ⟨A9, c9, rfl, l9, g9⟩⟩⟩⟩⟩⟩⟩⟩⟩⟩
theorem k29_mkM (w : World) (base : Nat) (ok : Nat → Prop) (x : S29) {v3 : Value} (g3 : (Kd.int .u8).R 5 w base ok v3 x.f3) {v8 : Value} (g8 : (Kd.int .u8).R 5 w base ok v8 x.f8) {v9 : Value} (g9 : Kd.string.R 9 w base ok v9 x.f9) : k29.M w base ok x [.int .i64 x.f0, .int .i64 x.f1, .string x.f2, v3, .int .i64 x.f4, .int .i64 x.f5, .int .i64 x.f6, .int .i64 x.f7, v8, v9] := ⟨[.int .i64 x.f0], [.int .i64 x.f1, .string x.f2, v3, .int .i64 x.f4, .int .i64 x.f5, .int .i64 x.f6, .int .i64 x.f7, v8, v9], rfl, rfl, ⟨[.int .i64 x.f1], [.string x.f2, v3, .int .i64 x.f4, .int .i64 x.f5, .int .i64 x.f6, .int .i64 x.f7, v8, v9], rfl, rfl, ⟨[.string x.f2], [v3, .int .i64 x.f4, .int .i64 x.f5, .int .i64 x.f6, .int .i64 x.f7, v8, v9], rfl, rfl, ⟨[v3], [.int .i64 x.f4, .int .i64 x.f5, .int .i64 x.f6, .int .i64 x.f7, v8, v9], rfl, ⟨v3, rfl, g3⟩, ⟨[.int .i64 x.f4], [.int .i64 x.f5, .int .i64 x.f6, .int .i64 x.f7, v8, v9], rfl, rfl, ⟨[.int .i64 x.f5], [.int .i64 x.f6, .int .i64 x.f7, v8, v9], rfl, rfl, ⟨[.int .i64 x.f6], [.int .i64 x.f7, v8, v9], rfl, rfl, ⟨[.int .i64 x.f7], [v8, v9], rfl, rfl, ⟨[v8], [v9], rfl, ⟨v8, rfl, g8⟩, ⟨v9, rfl, g9⟩⟩⟩⟩⟩⟩⟩⟩⟩⟩
theorem k29_openF {W : World} {ok : Nat → Prop} {x : S29} {cs : List Value} (h : Kd.FK k29 W ok x cs) : ∃ A3 c3 A8 c8 A9 c9, cs = [.int .i64 x.f0, .int .i64 x.f1, .string x.f2, .slice A3 x.f3.length c3, .int .i64 x.f4, .int .i64 x.f5, .int .i64 x.f6, .int .i64 x.f7, .slice A8 x.f8.length c8, .slice A9 x.f9.length c9] ∧ x.f3.length ≤ c3 ∧ Kd.F (Kd.int .u8) W ok A3 x.f3.length x.f3 ∧ x.f8.length ≤ c8 ∧ Kd.F (Kd.int .u8) W ok A8 x.f8.length x.f8 ∧ x.f9.length ≤ c9 ∧ Kd.F Kd.string W ok A9 x.f9.length x.f9 := by
  obtain ⟨A3, c3, A8, c8, A9, c9, rfl, l3, _, l8, _, l9, _⟩ := k29_open (Kd.FK_now h)
  exact ⟨A3, c3, A8, c8, A9, c9, rfl, l3, (fun W' hW => by obtain ⟨A3_, c3_, A8_, c8_, A9_, c9_, he, l3_, g3_, l8_, g8_, l9_, g9_⟩ := k29_open (h W' hW); injection (Option.some.inj (show some (Value.slice A3 x.f3.length c3) = some (Value.slice A3_ x.f3.length c3_) from congrArg (fun l => l[3]?) he)) with ha_ _ _; rw [ha_]; exact g3_), l8, (fun W' hW => by obtain ⟨A3_, c3_, A8_, c8_, A9_, c9_, he, l3_, g3_, l8_, g8_, l9_, g9_⟩ := k29_open (h W' hW); injection (Option.some.inj (show some (Value.slice A8 x.f8.length c8) = some (Value.slice A8_ x.f8.length c8_) from congrArg (fun l => l[8]?) he)) with ha_ _ _; rw [ha_]; exact g8_), l9, (fun W' hW => by obtain ⟨A3_, c3_, A8_, c8_, A9_, c9_, he, l3_, g3_, l8_, g8_, l9_, g9_⟩ := k29_open (h W' hW); injection (Option.some.inj (show some (Value.slice A9 x.f9.length c9) = some (Value.slice A9_ x.f9.length c9_) from congrArg (fun l => l[9]?) he)) with ha_ _ _; rw [ha_]; exact g9_)⟩
theorem k29_mkF (W : World) (ok : Nat → Prop) (x : S29) {A3 : Option Addr} {c3 : Nat} (l3 : x.f3.length ≤ c3) (g3 : Kd.F (Kd.int .u8) W ok A3 x.f3.length x.f3) {A8 : Option Addr} {c8 : Nat} (l8 : x.f8.length ≤ c8) (g8 : Kd.F (Kd.int .u8) W ok A8 x.f8.length x.f8) {A9 : Option Addr} {c9 : Nat} (l9 : x.f9.length ≤ c9) (g9 : Kd.F Kd.string W ok A9 x.f9.length x.f9) : Kd.FK k29 W ok x [.int .i64 x.f0, .int .i64 x.f1, .string x.f2, .slice A3 x.f3.length c3, .int .i64 x.f4, .int .i64 x.f5, .int .i64 x.f6, .int .i64 x.f7, .slice A8 x.f8.length c8, .slice A9 x.f9.length c9] := fun W2 hW => k29_mk W2 x l3 (g3 W2 hW) l8 (g8 W2 hW) l9 (g9 W2 hW)
def rd_T29 (xs : List S29) (i : Int) : S29 := xs.getD i.toNat z29
theorem at_T29 {w : World} {A : Option Addr} {n : Nat} {xs : List S29} (h : Kd.C k29 w A n xs) (i : Int) (h0 : 0 ≤ i) (h1 : i < n) : ∃ ad A3 c3 A8 c8 A9 c9, A = some ad ∧ w.cell? (ad.add (i.toNat * 10)) = some (.int .i64 (rd_T29 xs i).f0) ∧ w.cell? ⟨(ad.add (i.toNat * 10)).block, (ad.add (i.toNat * 10)).off + 1, none⟩ = some (.int .i64 (rd_T29 xs i).f1) ∧ w.cell? ⟨(ad.add (i.toNat * 10)).block, (ad.add (i.toNat * 10)).off + 2, none⟩ = some (.string (rd_T29 xs i).f2) ∧ w.cell? ⟨(ad.add (i.toNat * 10)).block, (ad.add (i.toNat * 10)).off + 3, none⟩ = some (.slice A3 (rd_T29 xs i).f3.length c3) ∧ w.cell? ⟨(ad.add (i.toNat * 10)).block, (ad.add (i.toNat * 10)).off + 4, none⟩ = some (.int .i64 (rd_T29 xs i).f4) ∧ w.cell? ⟨(ad.add (i.toNat * 10)).block, (ad.add (i.toNat * 10)).off + 5, none⟩ = some (.int .i64 (rd_T29 xs i).f5) ∧ w.cell? ⟨(ad.add (i.toNat * 10)).block, (ad.add (i.toNat * 10)).off + 6, none⟩ = some (.int .i64 (rd_T29 xs i).f6) ∧ w.cell? ⟨(ad.add (i.toNat * 10)).block, (ad.add (i.toNat * 10)).off + 7, none⟩ = some (.int .i64 (rd_T29 xs i).f7) ∧ w.cell? ⟨(ad.add (i.toNat * 10)).block, (ad.add (i.toNat * 10)).off + 8, none⟩ = some (.slice A8 (rd_T29 xs i).f8.length c8) ∧ w.cell? ⟨(ad.add (i.toNat * 10)).block, (ad.add (i.toNat * 10)).off + 9, none⟩ = some (.slice A9 (rd_T29 xs i).f9.length c9) ∧ (rd_T29 xs i).f3.length ≤ c3 ∧ (Kd.int .u8).C w A3 (rd_T29 xs i).f3.length (rd_T29 xs i).f3 ∧ (rd_T29 xs i).f8.length ≤ c8 ∧ (Kd.int .u8).C w A8 (rd_T29 xs i).f8.length (rd_T29 xs i).f8 ∧ (rd_T29 xs i).f9.length ≤ c9 ∧ Kd.string.C w A9 (rd_T29 xs i).f9.length (rd_T29 xs i).f9 := by
  obtain ⟨ad, c, e, _, hK, hc0⟩ := Kd.C_get h z29 i h0 h1
  have hc : ∀ j u, c[j]? = some u → w.cell? (ad.add (i.toNat * 10 + j)) = some u := hc0
  obtain ⟨A3, c3, A8, c8, A9, c9, rfl, l3, g3, l8, g8, l9, g9⟩ := k29_open hK
  exact ⟨ad, A3, c3, A8, c8, A9, c9, e, hc 0 _ rfl, by rw [← add_field _ _ 1 (by omega)]; exact hc 1 _ rfl, by rw [← add_field _ _ 2 (by omega)]; exact hc 2 _ rfl, by rw [← add_field _ _ 3 (by omega)]; exact hc 3 _ rfl, by rw [← add_field _ _ 4 (by omega)]; exact hc 4 _ rfl, by rw [← add_field _ _ 5 (by omega)]; exact hc 5 _ rfl, by rw [← add_field _ _ 6 (by omega)]; exact hc 6 _ rfl, by rw [← add_field _ _ 7 (by omega)]; exact hc 7 _ rfl, by rw [← add_field _ _ 8 (by omega)]; exact hc 8 _ rfl, by rw [← add_field _ _ 9 (by omega)]; exact hc 9 _ rfl, l3, g3, l8, g8, l9, g9⟩

end Go.Proofs.Ythocnaagpmkoeaa.Ln
