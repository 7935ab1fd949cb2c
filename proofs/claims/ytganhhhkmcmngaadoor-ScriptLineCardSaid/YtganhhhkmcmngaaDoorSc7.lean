/- Scripts: two digits, read. -/
import Derived.Test.YtganhhhkmcmngaaDoorProg
import Derived.Below
import Derived.Deep.Draws
import Derived.Deep.AppendLies
import Derived.Maps.AppendAt
import Derived.OwnWalk
import Derived.Laws.BytesArg
import Derived.Laws.MakeOwn
import Derived.Laws.OwnMore
import Derived.Deep.OwnRows
import Derived.Tactics
import Derived.Lib.ConvBytes
import Derived.Laws.Slices
import Derived.WalkKit
import Derived.KernelRfl
import Derived.RowKit3
import Derived.Deep.LoopGhost
import Derived.Deep.QuietTactic
import Derived.BigQuiet
import Derived.WideLaws
import Derived.Deep.DeepCutAuto
import Derived.Deep.CutBlock
import Derived.Deep.RegionHeld3
import Derived.Laws.Rows
import Derived.Lib.AppendStr
import Derived.ArgAppend
import Derived.Laws.IdiomCopy
import Derived.OrdersHeld
import Derived.Laws.BitsLemmas
import Derived.RowKit
import Derived.Test.YtganhhhkmcmngaaDoorWWords
import Derived.Test.YtganhhhkmcmngaaDoorWLast
import Derived.Test.YtganhhhkmcmngaaDoorWTab
import Derived.Test.YtganhhhkmcmngaaDoorWFour
import Derived.Test.YtganhhhkmcmngaaDoorWQPut
import Derived.Test.YtganhhhkmcmngaaDoorWApart
import Derived.Test.YtganhhhkmcmngaaDoorWArr
import Derived.Test.YtganhhhkmcmngaaDoorWZeros
import Derived.Test.YtganhhhkmcmngaaDoorWFoot
import Derived.Test.YtganhhhkmcmngaaDoorWKept
import Derived.Test.YtganhhhkmcmngaaDoorWShare
import Derived.Test.YtganhhhkmcmngaaDoorWN
import Derived.Test.YtganhhhkmcmngaaDoorWFootNe
import Derived.Test.YtganhhhkmcmngaaDoorWAt
import Derived.Test.YtganhhhkmcmngaaDoorWEqStruct
import Derived.Test.YtganhhhkmcmngaaDoorWRepsOne
import Derived.Test.YtganhhhkmcmngaaDoorWInv
import Derived.Test.YtganhhhkmcmngaaDoorWInvWords
import Derived.Test.YtganhhhkmcmngaaDoorWGuard
import Derived.Test.YtganhhhkmcmngaaDoorWNEv
import Derived.Test.YtganhhhkmcmngaaDoorWMore
import Derived.Test.YtganhhhkmcmngaaDoorSc6
namespace Go.Proofs.YtganhhhkmcmngaaDoor.Sc
open Go.RowKit Go.Proofs.YtganhhhkmcmngaaDoorW.PrintWords Go.Proofs.YtganhhhkmcmngaaDoorW.PrintLast Go.Proofs.YtganhhhkmcmngaaDoorW.PrintMore
attribute [local go_sem] max2_int min2_int max_two min_two max_three min_three max_four min_four
set_option linter.unusedVariables false
set_option linter.unusedSimpArgs false
open Go.Shelf
def IsHex (b : UInt8) : Prop := (48 ≤ b.toNat ∧ b.toNat ≤ 57) ∨ (97 ≤ b.toNat ∧ b.toNat ≤ 102)
def hexv (b : UInt8) : Nat := if b.toNat ≤ 57 then b.toNat - 48 else b.toNat - 87
theorem or32_all : ∀ n : Fin 256, 97 ≤ n.val ∧ n.val ≤ 102 → bits BinOp.or IntKind.u8 (n.val : Int) 32 = (n.val : Int) := by decide +kernel
theorem or32_u8 (m : Nat) (h0 : 97 ≤ m) (h1 : m ≤ 102) : bits BinOp.or IntKind.u8 (m : Int) 32 = (m : Int) := or32_all ⟨m, by omega⟩ ⟨h0, h1⟩
def two (x y : UInt8) : ByteArray := ⟨#[x, y]⟩
def nx (x y : UInt8) : Nat → Nat
  | 0 => 0
  | 1 => hexv x
  | _ => 16 * hexv x + hexv y
def at2 (x y : UInt8) (q : Nat) : UInt8 := if q = 0 then x else y
theorem hexv_lt {b : UInt8} (h : IsHex b) : hexv b < 16 := by unfold hexv; rcases h with h | h <;> split <;> omega
theorem nx_lt {x y : UInt8} (hx : IsHex x) (hy : IsHex y) (q : Nat) : nx x y q < 256 := by
  have := hexv_lt hx; have := hexv_lt hy
  unfold nx; split <;> omega
theorem nx_step (x y : UInt8) (q : Nat) (hq : q < 2) : nx x y (q + 1) = nx x y q * 16 + hexv (at2 x y q) := by
  have : q = 0 ∨ q = 1 := by omega
  rcases this with rfl | rfl
  · simp [nx, at2]
  · simp [nx, at2]; omega
set_option maxHeartbeats 4000000 in
set_option maxRecDepth 100000 in
theorem pu16_inner (x y : UInt8) (hx : IsHex x) (hy : IsHex y) (w : World) :
    Calls Tryd.prog 35 #[.string (two x y), .int .i64 16, .int .i64 8] w fun e w' => e = .returned (.tuple #[.int .u64 (nx x y 2 : Nat), .nilIface]) ∧ Below w.heap.size w w' := by
  have kb := print_bytes (P := Tryd.prog) 9 30 5 Tryd.underlying9 Tryd.underlying30 Tryd.underlying5 (two x y) w
  have HR := bytes_reads w 5 (two x y) (by show (2 : Nat) ≤ _; decide)
  have HBY : Aside0 (Below w.heap.size w (Lib.bytesWorld w 5 (two x y))) := ⟨below_bytes w (two x y)⟩
  have HNX : Aside0 (∀ q, nx x y q < 256) := ⟨nx_lt hx hy⟩
  have HXY : Aside0 (IsHex x ∧ IsHex y) := ⟨hx, hy⟩
  have hsz : (two x y).size = 2 := rfl
  have hne : (two x y).toList.isEmpty = false := by rw [Lib.toList_data]; rfl
  have HAT : Aside0 (∀ q, q < 2 → (bytesOf (two x y)).getD q 0 = (at2 x y q).toNat) := ⟨fun q hq => by
    have : q = 0 ∨ q = 1 := by omega
    rcases this with rfl | rfl <;> rfl⟩
  rw [hsz] at kb HR
  clear hx hy
  generalize two x y = s at *
  generalize grownCap w 2 0 5 = cp at *
  obtain ⟨ad, had⟩ : ∃ ad : Addr, (⟨w.heap.size, 0, none⟩ : Addr) = ad := ⟨_, rfl⟩
  obtain ⟨W1, hW1⟩ : ∃ W1, Lib.bytesWorld w 5 s = W1 := ⟨_, rfl⟩
  rw [had, hW1] at kb HR
  rw [hW1] at HBY
  clear had hW1
  have HR := Aside0.mk HR
  go_enter Tryd.func35, Tryd.ntmps35
  go_wp2_with fail
  go_loopw [12, 13, 101] (fun b v i wr => ∃ q : Nat, q ≤ 2 ∧ i = .int .i64 q ∧ b = .bool false ∧ v = .int .u64 (nx x y q : Nat) ∧ wr = W1) (fun _ _ i _ => 2 - (intOf i).toNat)
  case atStart => exact ⟨0, Nat.zero_le _, rfl, rfl, rfl, rfl⟩
  case round =>
    obtain ⟨q, hq, rfl, rfl, rfl, rfl⟩ := hrel
    by_cases hlt : q < 2
    · have hd : decide (q < 2) = true := decide_eq_true hlt
      obtain ⟨ad', e, hcs⟩ := HR.out.2.2 (by decide)
      cases e
      have k0 := hcs q hlt
      rw [HAT.out q hlt] at k0
      have hst := nx_step x y q hlt
      have hb0 := HNX.out (q + 1)
      have hb1 := HNX.out q
      have hh : IsHex (at2 x y q) := by
        unfold at2
        split
        · exact HXY.out.1
        · exact HXY.out.2
      generalize at2 x y q = ch at *
      have hv : hexv ch = hexv ch := rfl
      unfold IsHex at hh
      unfold hexv at hst
      obtain ⟨m, hm⟩ : ∃ m, ch.toNat = m := ⟨_, rfl⟩
      rw [hm] at hh hst k0
      have HST2 : Aside0 (nx x y (q + 1) = nx x y q * 16 + (if m ≤ 57 then m - 48 else m - 87)) := ⟨hst⟩
      clear hm hv hst hcs
      have hs16 : IntKind.u64.wrap ((nx x y q : Int) * 16) = ((nx x y q * 16 : Nat) : Int) := by rw [IntKind.wrap_u64]; omega
      rcases hh with ⟨h1, h2⟩ | ⟨h1, h2⟩
      · have d1 : decide (48 ≤ m) = true := decide_eq_true h1
        have d2 : decide (m ≤ 57) = true := decide_eq_true h2
        have d1' : decide (48 ≤ (m : Int)) = true := decide_eq_true (by omega)
        have d2' : decide ((m : Int) ≤ 57) = true := decide_eq_true (by omega)
        have d3 : (m == 95) = false := by simp; omega
        have d3' : ((m : Int) == 95) = false := by simp; omega
        have hst2 : nx x y (q + 1) = nx x y q * 16 + (m - 48) := by rw [HST2.out, if_pos h2]
        have hw : IntKind.u8.wrap ((m : Int) - 48) = ((m - 48 : Nat) : Int) := by rw [IntKind.wrap_u8]; omega
        obtain ⟨d, hdd⟩ : ∃ d, m - 48 = d := ⟨_, rfl⟩
        have hd16 : d < 16 := by omega
        rw [hdd] at hw hst2
        clear hdd
        have HST3 := Aside0.mk hst2
        clear hst2
        obtain ⟨N, hN⟩ : ∃ N : Int, (nx x y q : Int) = N := ⟨_, rfl⟩
        obtain ⟨N2, hN2⟩ : ∃ N2 : Int, (nx x y (q + 1) : Int) = N2 := ⟨_, rfl⟩
        obtain ⟨D, hD⟩ : ∃ D : Int, (d : Int) = D := ⟨_, rfl⟩
        obtain ⟨M, hM⟩ : ∃ M : Int, (m : Int) = M := ⟨_, rfl⟩
        have e1 : N2 = N * 16 + D := by have := HST3.out; omega
        have e2 : 0 ≤ N ∧ N < 256 ∧ 0 ≤ N2 ∧ N2 < 256 ∧ 0 ≤ D ∧ D < 16 := by omega
        have w1 : IntKind.u64.wrap (N * 16) = N * 16 := by rw [IntKind.wrap_u64]; omega
        have w2 : IntKind.u64.wrap (N * 16 + D) = N2 := by rw [IntKind.wrap_u64]; omega
        have w3 : IntKind.u64.wrap D = D := by rw [IntKind.wrap_u64]; omega
        have f1 : decide (1152921504606846976 ≤ N) = false := decide_eq_false (by omega)
        have f2 : decide (N2 < N * 16) = false := decide_eq_false (by omega)
        have f3 : decide (255 < N2) = false := decide_eq_false (by omega)
        have f4 : decide (16 ≤ D) = false := decide_eq_false (by omega)
        have HN2 := Aside0.mk hN2
        rw [hM] at hw d1' d2' d3' k0
        rw [hD] at hw
        rw [hN]
        clear e1 e2 hN hN2 hD hM hs16 hb0 hb1 d1 d2 d3
        go_wp2_with fail
        exact ⟨⟨q + 1, by omega, by go_num, rfl, by rw [HN2.out], trivial⟩, by simp [intOf]; omega⟩
      · have d1 : decide (48 ≤ m) = true := decide_eq_true (by omega)
        have d2 : decide (m ≤ 57) = false := decide_eq_false (by omega)
        have d1' : decide (48 ≤ (m : Int)) = true := decide_eq_true (by omega)
        have d2' : decide ((m : Int) ≤ 57) = false := decide_eq_false (by omega)
        have h32 := or32_u8 m h1 h2
        have d4' : decide (97 ≤ (m : Int)) = true := decide_eq_true (by omega)
        have d5' : decide ((m : Int) ≤ 122) = true := decide_eq_true (by omega)
        have d3 : (m == 95) = false := by simp; omega
        have d3' : ((m : Int) == 95) = false := by simp; omega
        have hst2 : nx x y (q + 1) = nx x y q * 16 + (m - 87) := by rw [HST2.out, if_neg (by omega)]
        have hv : IntKind.u8.wrap ((m : Int) - 97) = (m : Int) - 97 := by rw [IntKind.wrap_u8]; omega
        have hw : IntKind.u8.wrap ((m : Int) - 97 + 10) = ((m - 87 : Nat) : Int) := by rw [IntKind.wrap_u8]; omega
        obtain ⟨d, hdd⟩ : ∃ d, m - 87 = d := ⟨_, rfl⟩
        have hd16 : d < 16 := by omega
        rw [hdd] at hw hst2
        clear hdd
        have HST3 := Aside0.mk hst2
        clear hst2
        obtain ⟨N, hN⟩ : ∃ N : Int, (nx x y q : Int) = N := ⟨_, rfl⟩
        obtain ⟨N2, hN2⟩ : ∃ N2 : Int, (nx x y (q + 1) : Int) = N2 := ⟨_, rfl⟩
        obtain ⟨D, hD⟩ : ∃ D : Int, (d : Int) = D := ⟨_, rfl⟩
        obtain ⟨M, hM⟩ : ∃ M : Int, (m : Int) = M := ⟨_, rfl⟩
        have e1 : N2 = N * 16 + D := by have := HST3.out; omega
        have e2 : 0 ≤ N ∧ N < 256 ∧ 0 ≤ N2 ∧ N2 < 256 ∧ 0 ≤ D ∧ D < 16 := by omega
        have w1 : IntKind.u64.wrap (N * 16) = N * 16 := by rw [IntKind.wrap_u64]; omega
        have w2 : IntKind.u64.wrap (N * 16 + D) = N2 := by rw [IntKind.wrap_u64]; omega
        have w3 : IntKind.u64.wrap D = D := by rw [IntKind.wrap_u64]; omega
        have f1 : decide (1152921504606846976 ≤ N) = false := decide_eq_false (by omega)
        have f2 : decide (N2 < N * 16) = false := decide_eq_false (by omega)
        have f3 : decide (255 < N2) = false := decide_eq_false (by omega)
        have f4 : decide (16 ≤ D) = false := decide_eq_false (by omega)
        have HN2 := Aside0.mk hN2
        rw [hM] at hw hv d1' d2' d3' d4' d5' h32 k0
        rw [hD] at hw
        rw [hN]
        clear e1 e2 hN hN2 hD hM hs16 hb0 hb1 d1 d2 d3
        go_wp2_with fail
        refine (Tryd.internal_strconv_lower M _).mono ?_
        rintro e w' ⟨rfl, rfl⟩
        rw [h32]
        go_wp2_with fail
        refine (Tryd.internal_strconv_lower M _).mono ?_
        rintro e w' ⟨rfl, rfl⟩
        rw [h32]
        go_wp2_with fail
        refine (Tryd.internal_strconv_lower M _).mono ?_
        rintro e w' ⟨rfl, rfl⟩
        rw [h32]
        go_wp2_with fail
        exact ⟨⟨q + 1, by omega, by go_num, rfl, by rw [HN2.out], trivial⟩, by simp [intOf]; omega⟩
    · obtain rfl : q = 2 := by omega
      have hd : decide (2 < 2) = false := rfl
      go_wp2_with fail
      go_ret2
      exact ⟨rfl, HBY.out⟩
theorem pu16_calls (x y : UInt8) (hx : IsHex x) (hy : IsHex y) (w : World) :
    Calls Tryd.prog 24 #[.string (two x y), .int .i64 16, .int .i64 8] w fun e w' => e = .returned (.tuple #[.int .u64 (nx x y 2 : Nat), .nilIface]) ∧ Below w.heap.size w w' := by
  have HI := Aside0.mk (pu16_inner x y hx hy w)
  generalize two x y = s at *
  generalize nx x y 2 = v at *
  go_enter Tryd.func24, Tryd.ntmps24
  go_wp2_with fail
  refine HI.out.mono ?_
  rintro e w1 ⟨rfl, hb⟩
  go_wp2_with fail
  go_ret2
  exact ⟨rfl, hb⟩
end Go.Proofs.YtganhhhkmcmngaaDoor.Sc
