/- Scripts: a line, and the law's text. -/
import Derived.Test.YtganhhhkmcmngaaDoorProg
import Derived.Below
import Derived.Deep.Draws
import Derived.Deep.AppendLies
import Derived.Maps.AppendAt
import Derived.OwnWalk
import Derived.Laws.BytesArg
import Derived.Laws.MakeOwn
import Derived.Laws.OwnMore
import Derived.Deep.OwnRows
import Derived.Tactics
import Derived.Lib.ConvBytes
import Derived.Laws.Slices
import Derived.WalkKit
import Derived.KernelRfl
import Derived.RowKit3
import Derived.Deep.LoopGhost
import Derived.Deep.QuietTactic
import Derived.BigQuiet
import Derived.WideLaws
import Derived.Deep.DeepCutAuto
import Derived.Deep.CutBlock
import Derived.Deep.RegionHeld3
import Derived.Laws.Rows
import Derived.Lib.AppendStr
import Derived.ArgAppend
import Derived.Laws.IdiomCopy
import Derived.OrdersHeld
import Derived.Laws.BitsLemmas
import Derived.RowKit
import Derived.Test.YtganhhhkmcmngaaDoorWWords
import Derived.Test.YtganhhhkmcmngaaDoorWLast
import Derived.Test.YtganhhhkmcmngaaDoorWTab
import Derived.Test.YtganhhhkmcmngaaDoorWFour
import Derived.Test.YtganhhhkmcmngaaDoorWQPut
import Derived.Test.YtganhhhkmcmngaaDoorWApart
import Derived.Test.YtganhhhkmcmngaaDoorWArr
import Derived.Test.YtganhhhkmcmngaaDoorWZeros
import Derived.Test.YtganhhhkmcmngaaDoorWFoot
import Derived.Test.YtganhhhkmcmngaaDoorWKept
import Derived.Test.YtganhhhkmcmngaaDoorWShare
import Derived.Test.YtganhhhkmcmngaaDoorWN
import Derived.Test.YtganhhhkmcmngaaDoorWFootNe
import Derived.Test.YtganhhhkmcmngaaDoorWAt
import Derived.Test.YtganhhhkmcmngaaDoorWEqStruct
import Derived.Test.YtganhhhkmcmngaaDoorWRepsOne
import Derived.Test.YtganhhhkmcmngaaDoorWInv
import Derived.Test.YtganhhhkmcmngaaDoorWInvWords
import Derived.Test.YtganhhhkmcmngaaDoorWGuard
import Derived.Test.YtganhhhkmcmngaaDoorWNEv
import Derived.Test.YtganhhhkmcmngaaDoorWMore
import Derived.Test.YtganhhhkmcmngaaDoorSc4
namespace Go.Proofs.YtganhhhkmcmngaaDoor.Sc
open Go.RowKit Go.Proofs.YtganhhhkmcmngaaDoorW.PrintWords Go.Proofs.YtganhhhkmcmngaaDoorW.PrintLast Go.Proofs.YtganhhhkmcmngaaDoorW.PrintMore
attribute [local go_sem] max2_int min2_int max_two min_two max_three min_three max_four min_four
set_option linter.unusedVariables false
set_option linter.unusedSimpArgs false
open Go.Shelf
/-! ### flittinglaw24_small: function 8 -/
def flittinglaw24_small.l0 : Nat → List (S32) → Int → Option (Bool)
  | 0, _, _ => none
  | k + 1, x0, x3 => if x3 < (x0.length : Int) then (if (x0.length : Int) > 100 then (some false) else (if 0 ≤ x3 then (if (wrap64 ((((rd_T32 x0 x3).f2).size : Int) + (((rd_T32 x0 x3).f3).length : Int))) > 300 then (some false) else (flittinglaw24_small.l0 k x0 (wrap64 (x3 + 1)))) else (none))) else (some true)
def flittinglaw24_small.f (k : Nat) (l0 : List (S32)) : Option (Bool) := flittinglaw24_small.l0 k l0 0
theorem flittinglaw24_small.mono_l : ∀ k, (∀ y0 y1, LeO (flittinglaw24_small.l0 k y0 y1) (flittinglaw24_small.l0 (k + 1) y0 y1))
  | 0 => fun _ _ r h => by simp [flittinglaw24_small.l0] at h
  | k + 1 => by
    have ih0 := flittinglaw24_small.mono_l k
    · intro y0 y1
      unfold flittinglaw24_small.l0
      repeat' first
      | (with_reducible exact ih0 _ _)
      | (with_reducible exact LeO.refl _)
      | (with_reducible exact LeO.none _)
      | (with_reducible refine LeO.ite ?_ ?_)
      | (with_reducible refine LeO.bind ?_ (fun _ => ?_))
      | exact ih0 _ _
      | exact LeO.none _
      | refine LeO.ite ?_ ?_
      | refine LeO.bind ?_ (fun _ => ?_)
theorem flittinglaw24_small.mono : ∀ a0 k, LeO (flittinglaw24_small.f k a0) (flittinglaw24_small.f (k + 1) a0) := by
  intro a0 k
  have ih0 := flittinglaw24_small.mono_l k
  unfold flittinglaw24_small.f
  repeat' first
      | (with_reducible exact ih0 _ _)
      | (with_reducible exact LeO.refl _)
      | (with_reducible exact LeO.none _)
      | (with_reducible refine LeO.ite ?_ ?_)
      | (with_reducible refine LeO.bind ?_ (fun _ => ?_))
      | exact ih0 _ _
      | exact LeO.none _
      | refine LeO.ite ?_ ?_
      | refine LeO.bind ?_ (fun _ => ?_)
set_option maxHeartbeats 8000000 in
set_option maxRecDepth 100000 in
theorem flittinglaw24_small.calls (k : Nat) (A0 : Option Addr) (c0 : Nat) (l0 : List (S32)) (r : Bool) (w : World) (hr0 : Kd.C k32 w A0 l0.length l0) (hc0 : l0.length ≤ c0) (h : flittinglaw24_small.f k l0 = some r) :
    Calls Tryd.prog 8 #[.slice A0 l0.length c0] w fun e w' => e = .returned (.bool r) ∧ Drawn0 w w' := by
  have HR0 := Aside0.mk hr0
  have HC0 := Aside0.mk hc0
  clear hr0 hc0
  have H : (flittinglaw24_small.l0 k l0 0) = some r := h
  clear h
  have H' := Aside0.mk H
  clear H
  go_enter Tryd.func8, Tryd.ntmps8
  go_wp2
  repeat (go_quiet (fail); try go_wp2)
  go_loopg [3] k (fun kq v3 w' => ∃ (x3_1 : Int), v3 = .int .i64 x3_1 ∧ Aside0 (flittinglaw24_small.l0 kq l0 x3_1 = some r) ∧ Aside0 (kq ≤ k) ∧ Drawn0 w w')
  case atStart => exact ⟨(0), (by first | rfl | (simp; done) | (simp [*]; done)), H', ⟨Nat.le_refl _⟩, by repeat (first | exact Drawn0.refl _ | apply Drawn0.step)⟩
  case round =>
    clear H'
    obtain ⟨x3_1, rfl, HA, HK1, ⟨m1, rfl⟩⟩ := hrel
    cases gk with
    | zero => exact absurd HA.out (by simp [flittinglaw24_small.l0])
    | succ k1 =>
      have H := HA.out
      clear HA
      simp only [flittinglaw24_small.l0] at H
      by_cases c2 : x3_1 < (l0.length : Int)
      · rw [if_pos c2] at H
        have c2b0 : decide (x3_1 < (l0.length : Int)) = true := decide_eq_true c2
        clear c2
        by_cases c3 : (l0.length : Int) > 100
        · rw [if_pos c3] at H
          have c3b0 : decide (100 < (l0.length : Int)) = true := decide_eq_true c3
          have c3b1 : decide (100 < l0.length) = true := decide_eq_true (by omega)
          clear c3
          obtain rfl := Option.some.inj H
          go_wp2
          repeat (go_quiet (fail); try go_wp2)
          go_ret
          exact ⟨by first | rfl | (simp; done) | (simp [*]; done), by repeat (first | exact Drawn0.refl _ | apply Drawn0.step)⟩
        · rw [if_neg c3] at H
          have c3b0 : decide (100 < (l0.length : Int)) = false := decide_eq_false c3
          have c3b1 : decide (100 < l0.length) = false := decide_eq_false (by omega)
          clear c3
          by_cases c4 : 0 ≤ x3_1
          · rw [if_pos c4] at H
            have c4b0 : decide (0 ≤ x3_1) = true := decide_eq_true c4
            clear c4
            by_cases c5 : (wrap64 ((((rd_T32 l0 x3_1).f2).size : Int) + (((rd_T32 l0 x3_1).f3).length : Int))) > 300
            · rw [if_pos c5] at H
              have c5b0 : decide (300 < (wrap64 ((((rd_T32 l0 x3_1).f2).size : Int) + (((rd_T32 l0 x3_1).f3).length : Int)))) = true := decide_eq_true c5
              clear c5
              obtain rfl := Option.some.inj H
              have p101 : 0 ≤ (x3_1 : Int) := of_decide_eq_true (by first | (with_reducible assumption) | assumption)
              have q101 : x3_1 < (l0.length : Int) := of_decide_eq_true (by first | (with_reducible assumption) | assumption)
              obtain ⟨ad101, A101_3, c101_3, e101, hx101_0, hx101_1, hx101_2, hx101_3, hx101_4, hl101_3, hi101_3⟩ := at_T32 HR0.out x3_1 p101 q101
              cases e101
              have HR101_3 := Aside0.mk hi101_3
              have HC101_3 := Aside0.mk hl101_3
              clear hi101_3 hl101_3
              replace p101 := eq_true p101
              replace q101 := eq_true q101
              have p102 : 0 ≤ (x3_1 : Int) := of_decide_eq_true (by first | (with_reducible assumption) | assumption)
              have q102 : x3_1 < (l0.length : Int) := of_decide_eq_true (by first | (with_reducible assumption) | assumption)
              obtain ⟨ad102, A102_3, c102_3, e102, hx102_0, hx102_1, hx102_2, hx102_3, hx102_4, hl102_3, hi102_3⟩ := at_T32 HR0.out x3_1 p102 q102
              obtain rfl : ad101 = ad102 := (by injection e102)
              have HR102_3 := Aside0.mk hi102_3
              have HC102_3 := Aside0.mk hl102_3
              clear hi102_3 hl102_3
              replace p102 := eq_true p102
              replace q102 := eq_true q102
              have ea_ := Option.some.inj (hx101_3.symm.trans hx102_3)
              injection ea_ with ea_ en_ ec_
              subst ea_
              subst ec_
              clear en_
              go_wp2
              repeat (go_quiet (fail); try go_wp2)
              go_ret
              exact ⟨by first | rfl | (simp; done) | (simp [*]; done), by repeat (first | exact Drawn0.refl _ | apply Drawn0.step)⟩
            · rw [if_neg c5] at H
              have c5b0 : decide (300 < (wrap64 ((((rd_T32 l0 x3_1).f2).size : Int) + (((rd_T32 l0 x3_1).f3).length : Int)))) = false := decide_eq_false c5
              clear c5
              have H' := Aside0.mk H
              clear H
              have p101 : 0 ≤ (x3_1 : Int) := of_decide_eq_true (by first | (with_reducible assumption) | assumption)
              have q101 : x3_1 < (l0.length : Int) := of_decide_eq_true (by first | (with_reducible assumption) | assumption)
              obtain ⟨ad101, A101_3, c101_3, e101, hx101_0, hx101_1, hx101_2, hx101_3, hx101_4, hl101_3, hi101_3⟩ := at_T32 HR0.out x3_1 p101 q101
              cases e101
              have HR101_3 := Aside0.mk hi101_3
              have HC101_3 := Aside0.mk hl101_3
              clear hi101_3 hl101_3
              replace p101 := eq_true p101
              replace q101 := eq_true q101
              have p102 : 0 ≤ (x3_1 : Int) := of_decide_eq_true (by first | (with_reducible assumption) | assumption)
              have q102 : x3_1 < (l0.length : Int) := of_decide_eq_true (by first | (with_reducible assumption) | assumption)
              obtain ⟨ad102, A102_3, c102_3, e102, hx102_0, hx102_1, hx102_2, hx102_3, hx102_4, hl102_3, hi102_3⟩ := at_T32 HR0.out x3_1 p102 q102
              obtain rfl : ad101 = ad102 := (by injection e102)
              have HR102_3 := Aside0.mk hi102_3
              have HC102_3 := Aside0.mk hl102_3
              clear hi102_3 hl102_3
              replace p102 := eq_true p102
              replace q102 := eq_true q102
              have ea_ := Option.some.inj (hx101_3.symm.trans hx102_3)
              injection ea_ with ea_ en_ ec_
              subst ea_
              subst ec_
              clear en_
              go_wp2
              repeat (go_quiet (fail); try go_wp2)
              go_roundg k1
              case measure => have := HK1.out; omega
              case rel => exact ⟨(wrap64 (x3_1 + 1)), (by first | rfl | (simp; done) | (simp [*]; done)), H', ⟨by have := HK1.out; omega⟩, by repeat (first | exact Drawn0.refl _ | apply Drawn0.step)⟩
          · rw [if_neg c4] at H
            exact absurd H (by simp)
      · rw [if_neg c2] at H
        have c2b0 : decide (x3_1 < (l0.length : Int)) = false := decide_eq_false c2
        clear c2
        obtain rfl := Option.some.inj H
        go_wp2
        repeat (go_quiet (fail); try go_wp2)
        go_ret
        exact ⟨by first | rfl | (simp; done) | (simp [*]; done), by repeat (first | exact Drawn0.refl _ | apply Drawn0.step)⟩
/-- A step of ordinary size. -/
structure WfS (x : S32) : Prop where
  a0 : -9223372036854775808 ≤ x.f0
  a1 : x.f0 ≤ 9223372036854775807
  b0 : -9223372036854775808 ≤ x.f1
  b1 : x.f1 ≤ 9223372036854775807
  k0 : 0 ≤ x.f4
  k1 : x.f4 < 18446744073709551616
  key : x.f2.size ≤ 100000
  len : x.f3.length ≤ 100000
  byt : Byt x.f3
def lineU (x : S32) : List UInt8 := Lib.itoa x.f0 ++ [32] ++ Lib.itoa x.f1 ++ [32] ++ Lib.decDigits x.f4.toNat ++ [32, 120] ++ hexU (bytesOf x.f2) ++ [32, 120] ++ hexU x.f3
def textU (l : List S32) : List UInt8 := l.flatMap fun x => lineU x ++ [10]
theorem byt_bytesOf (s : ByteArray) : Byt (bytesOf s) := fun x hx => by
  unfold bytesOf at hx
  obtain ⟨b, _, rfl⟩ := List.mem_map.mp hx
  have := b.toNat_lt
  omega
theorem itoa_len (n : Int) (h0 : -9223372036854775808 ≤ n) (h1 : n ≤ 9223372036854775807) : (Lib.itoa n).length ≤ 21 := by
  have := dec_short n.natAbs (by omega)
  have h2 := dec_short n.toNat (by omega)
  unfold Lib.itoa
  split
  · rw [List.length_cons]; omega
  · omega
theorem lineU_len (x : S32) (h : WfS x) : (lineU x).length ≤ 500000 := by
  have h1 := itoa_len x.f0 h.a0 h.a1
  have h2 := itoa_len x.f1 h.b0 h.b1
  have h3 := dec_short x.f4.toNat (by have := h.k0; have := h.k1; omega)
  have h4 := hexU_len (bytesOf x.f2)
  rw [bytesOf_length] at h4
  have h5 := hexU_len x.f3
  have h6 := h.key
  have h7 := h.len
  unfold lineU
  simp only [List.length_append, h4, h5]
  show _ + 1 + _ + 1 + _ + 2 + _ + 2 + _ ≤ _
  omega
theorem textU_len (l : List S32) (h : ∀ x, x ∈ l → WfS x) : (textU l).length ≤ 500001 * l.length := by
  induction l with
  | nil => exact Nat.zero_le _
  | cons x l ih =>
    have h1 := lineU_len x (h x (List.mem_cons_self ..))
    have h2 := ih fun y hy => h y (List.mem_cons_of_mem _ hy)
    unfold textU at h2 ⊢
    rw [List.flatMap_cons, List.length_append, List.length_append]
    show _ + 1 + _ ≤ 500001 * (l.length + 1)
    omega
theorem Hex_callsN (A : Option Addr) (c n : Nat) (l : List Int) (w : World) (hn : l.length = n) (hC : U8.C w A n l) (hY : Byt l) (hl : n ≤ 1000000) :
    Calls Tryd.prog 29 #[.slice A n c] w fun e w' => e = .returned (.string ⟨(120 :: hexU l).toArray⟩) ∧ Below w.heap.size w w' := by
  subst hn; exact Hex_calls A c l w hC hY hl
theorem hex_callsN (A : Option Addr) (c n : Nat) (l : List Int) (w : World) (hn : l.length = n) (hC : U8.C w A n l) (hY : Byt l) (hl : n ≤ 1000000) :
    Calls Tryd.prog 15 #[.slice A n c] w fun e w' => e = .returned (.string ⟨(hexU l).toArray⟩) ∧ Below w.heap.size w w' := by
  subst hn; exact hex_calls A c l w hC hY hl
theorem str_C (W : World) (s : ByteArray) (hs : s.size ≤ 100000) : U8.C (Lib.bytesWorld W 5 s) (some ⟨W.heap.size, 0, none⟩) s.size (bytesOf s) := by
  exact Kd.C_of_reads (enc := Value.int .u8) (h1 := fun _ => rfl) (d := (0 : Int)) (bytes_reads W 5 s (by omega))
theorem lineU_eq (x : S32) : (⟨(Lib.join [Lib.itoa x.f0, Lib.itoa x.f1, Lib.decDigits x.f4.toNat, 120 :: hexU (bytesOf x.f2), 120 :: hexU x.f3] [32]).toArray⟩ : ByteArray) = ⟨(lineU x).toArray⟩ := by
  apply Go.WideShapes.bytes_inj
  simp [lineU, Lib.join]
set_option maxHeartbeats 4000000 in
set_option maxRecDepth 100000 in
theorem line_calls (x : S32) (A : Option Addr) (c : Nat) (w : World) (hw : WfS x) (hC : U8.C w A x.f3.length x.f3) (hT : Tb w) :
    Calls Tryd.prog 19 #[.agg #[.int .i64 x.f0, .int .i64 x.f1, .string x.f2, .slice A x.f3.length c, .int .u64 x.f4]] w fun e w' => e = .returned (.string ⟨(lineU x ++ [10]).toArray⟩) ∧ Below w.heap.size w w' := by
  have HE := Aside0.mk (lineU_eq x)
  have HL := Aside0.mk (lineU_len x hw)
  have HJ : Aside0 ((Lib.join [Lib.itoa x.f0, Lib.itoa x.f1, Lib.decDigits x.f4.toNat, 120 :: hexU (bytesOf x.f2), 120 :: hexU x.f3] [32]) = lineU x) := ⟨by simp [lineU, Lib.join]⟩
  generalize lineU x = lx at HE HL HJ ⊢
  obtain ⟨k, a, key, l, u⟩ := x
  obtain ⟨a0, a1, b0, b1, k0, k1, hk, hl, hY⟩ := hw
  dsimp only at *
  obtain ⟨n, hn⟩ : ∃ n, l.length = n := ⟨_, rfl⟩
  rw [hn] at hC hl ⊢
  obtain ⟨m, rfl⟩ : ∃ m : Nat, u = (m : Int) := ⟨u.toNat, by omega⟩
  rw [Int.toNat_natCast] at HE HJ
  have HN := Aside0.mk hn
  have HW : Aside0 (-9223372036854775808 ≤ k ∧ k ≤ 9223372036854775807 ∧ -9223372036854775808 ≤ a ∧ a ≤ 9223372036854775807 ∧ m < 18446744073709551616 ∧ key.size ≤ 100000 ∧ n ≤ 100000 ∧ Byt l) := ⟨a0, a1, b0, b1, by omega, hk, hl, hY⟩
  obtain ⟨W0, hW0⟩ : ∃ W0, W0 = w.alloc (.cells #[.int .i64 k, .int .i64 a, .string key, .slice A n c, .int .u64 (m : Int)] 32) := ⟨_, rfl⟩
  have hbk : W0.heap[w.heap.size]? = some (.cells #[.int .i64 k, .int .i64 a, .string key, .slice A n c, .int .u64 (m : Int)] 32 (0, 0)) := by rw [hW0]; exact heap_alloc_new _ _
  have HB0 : Aside0 (Below w.heap.size w W0) := ⟨by rw [hW0]; exact (Below.refl _ _).alloc (Nat.le_refl _) _⟩
  have HC0 : Aside0 (U8.C w A n l) := ⟨hC⟩
  have HT0 : Aside0 (Tb w) := ⟨hT⟩
  have HZ : Aside0 (w.heap.size < W0.heap.size) := ⟨blk_lt hbk⟩
  have hc0 : W0.cell? ⟨w.heap.size, 0, none⟩ = some (.int .i64 k) := by simp [World.cell?, hbk]
  have hc1 : W0.cell? ⟨w.heap.size, 1, none⟩ = some (.int .i64 a) := by simp [World.cell?, hbk]
  have hc2 : W0.cell? ⟨w.heap.size, 2, none⟩ = some (.string key) := by simp [World.cell?, hbk]
  have hc3 : W0.cell? ⟨w.heap.size, 3, none⟩ = some (.slice A n c) := by simp [World.cell?, hbk]
  have hc4 : W0.cell? ⟨w.heap.size, 4, none⟩ = some (.int .u64 (m : Int)) := by simp [World.cell?, hbk]
  have HC5 : Aside0 (W0.cell? ⟨w.heap.size, 0, none⟩ = some (.int .i64 k) ∧ W0.cell? ⟨w.heap.size, 1, none⟩ = some (.int .i64 a) ∧ W0.cell? ⟨w.heap.size, 2, none⟩ = some (.string key) ∧ W0.cell? ⟨w.heap.size, 3, none⟩ = some (.slice A n c) ∧ W0.cell? ⟨w.heap.size, 4, none⟩ = some (.int .u64 (m : Int))) := ⟨hc0, hc1, hc2, hc3, hc4⟩
  clear hT hC a0 a1 b0 b1 k0 k1 hk hl hY hn hbk hc0 hc1 hc2 hc3 hc4
  obtain ⟨si, hsi⟩ : ∃ s, s = Lib.itoa k := ⟨_, rfl⟩
  obtain ⟨sa, hsa⟩ : ∃ s, s = Lib.itoa a := ⟨_, rfl⟩
  obtain ⟨sd, hsd⟩ : ∃ s, s = Lib.decDigits m := ⟨_, rfl⟩
  obtain ⟨sk, hsk⟩ : ∃ s, s = 120 :: hexU (bytesOf key) := ⟨_, rfl⟩
  obtain ⟨sv, hsv⟩ : ∃ s, s = 120 :: hexU l := ⟨_, rfl⟩
  rw [← hsi, ← hsa, ← hsd, ← hsk, ← hsv] at HE HJ
  have HSI := Aside0.mk hsi
  have HSA := Aside0.mk hsa
  have HSD := Aside0.mk hsd
  have HSK := Aside0.mk hsk
  have HSV := Aside0.mk hsv
  clear hsi hsa hsd hsk hsv
  have hsz : (9223372036854775807 < lx.length + 1) = False := eq_false (by have := HL.out; omega)
  go_enter Tryd.func19, Tryd.ntmps19
  go_upto_region 1 with fail
  rw [← hW0]
  clear hW0
  refine start_ (n := 18) (S := fun w' => w'.cell? ⟨w.heap.size, 0, none⟩ = some (.int .i64 k) ∧ w'.cell? ⟨w.heap.size, 1, none⟩ = some (.int .i64 a) ∧ w'.cell? ⟨w.heap.size, 2, none⟩ = some (.string key) ∧ w'.cell? ⟨w.heap.size, 3, none⟩ = some (.slice A n c) ∧ w'.cell? ⟨w.heap.size, 4, none⟩ = some (.int .u64 (m : Int))) (ds := []) #[false, false, false, false, false, false, false, false, false, false, false, false, false, false, false, false, false, false] (by kernel_rfl) rfl rfl ⟨HC5.out.1, HC5.out.2.1, HC5.out.2.2.1, HC5.out.2.2.2.1, HC5.out.2.2.2.2⟩ (fun hHeld => ?_)
  obtain ⟨w20, hw20⟩ : ∃ w20, w20 = W0.drew := ⟨_, rfl⟩
  have HB : Aside0 (Below w.heap.size w w20) := ⟨by rw [hw20]; exact HB0.out.drew⟩
  have HQ : Aside0 (Below W0.heap.size W0 w20) := ⟨by rw [hw20]; exact (Below.refl _ _).drew⟩
  rw [← hw20] at hHeld ⊢
  clear hw20
  refine pure_ (i := 0) (N := some 4) (v := ?_) (a' := ?_) #[true, false, false, false, false, false, false, false, false, false, false, false, false, false, false, false, false, false] rfl rfl (by kernel_rfl) (fun _ _ _ h => h) (Or.inl ⟨by rfl, ?_⟩) ?_ ?_
  rotate_left
  · intro w'
    go_simp
    with_reducible rfl
  rotate_left
  · simp only [Act.put, List.setIfInBounds_toArray, List.set_cons_zero, List.set_cons_succ, i64_w, i32_w]
    rfl
  refine pure_ (i := 3) (N := some 7) (v := ?_) (a' := ?_) #[true, false, false, true, false, false, false, false, false, false, false, false, false, false, false, false, false, false] rfl rfl (by kernel_rfl) (fun _ _ _ h => h) (Or.inl ⟨by rfl, ?_⟩) ?_ ?_
  rotate_left
  · intro w'
    go_simp
    with_reducible rfl
  rotate_left
  · simp only [Act.put, List.setIfInBounds_toArray, List.set_cons_zero, List.set_cons_succ, i64_w, i32_w]
    rfl
  refine pure_ (i := 6) (N := some 10) (v := ?_) (a' := ?_) #[true, false, false, true, false, false, true, false, false, false, false, false, false, false, false, false, false, false] rfl rfl (by kernel_rfl) (fun _ _ _ h => h) (Or.inl ⟨by rfl, ?_⟩) ?_ ?_
  rotate_left
  · intro w'
    go_simp
    with_reducible rfl
  rotate_left
  · simp only [Act.put, List.setIfInBounds_toArray, List.set_cons_zero, List.set_cons_succ, i64_w, i32_w]
    rfl
  refine pure_ (i := 9) (N := some 13) (v := ?_) (a' := ?_) #[true, false, false, true, false, false, true, false, false, true, false, false, false, false, false, false, false, false] rfl rfl (by kernel_rfl) (fun _ _ _ h => h) (Or.inl ⟨by rfl, ?_⟩) ?_ ?_
  rotate_left
  · intro w'
    go_simp
    with_reducible rfl
  rotate_left
  · simp only [Act.put, List.setIfInBounds_toArray, List.set_cons_zero, List.set_cons_succ, i64_w, i32_w]
    rfl
  refine pure_ (i := 13) (N := some 17) (v := ?_) (a' := ?_) #[true, false, false, true, false, false, true, false, false, true, false, false, false, true, false, false, false, false] rfl rfl (by kernel_rfl) (fun _ _ _ h => h) (Or.inl ⟨by rfl, ?_⟩) ?_ ?_
  rotate_left
  · intro w'
    go_simp
    with_reducible rfl
  rotate_left
  · simp only [Act.put, List.setIfInBounds_toArray, List.set_cons_zero, List.set_cons_succ, i64_w, i32_w]
    rfl
  refine take_ (i := 1) (N := some 5) (v := ?_) (a' := ?_) #[true, true, false, true, false, false, true, false, false, true, false, false, false, true, false, false, false, false] rfl rfl (by kernel_rfl) (fun _ _ _ h => h) (Or.inl ⟨by rfl, ?_⟩) hHeld ?_ ?_
  rotate_left
  · rintro w' ⟨s0, s1, s2, s3, s4⟩
    go_simp
    with_reducible rfl
  rotate_left
  · simp only [Act.put, List.setIfInBounds_toArray, List.set_cons_zero, List.set_cons_succ, i64_w, i32_w]
    rfl
  refine take_ (i := 4) (N := some 8) (v := ?_) (a' := ?_) #[true, true, false, true, true, false, true, false, false, true, false, false, false, true, false, false, false, false] rfl rfl (by kernel_rfl) (fun _ _ _ h => h) (Or.inl ⟨by rfl, ?_⟩) hHeld ?_ ?_
  rotate_left
  · rintro w' ⟨s0, s1, s2, s3, s4⟩
    go_simp
    with_reducible rfl
  rotate_left
  · simp only [Act.put, List.setIfInBounds_toArray, List.set_cons_zero, List.set_cons_succ, i64_w, i32_w]
    rfl
  refine take_ (i := 7) (N := some 11) (v := ?_) (a' := ?_) #[true, true, false, true, true, false, true, true, false, true, false, false, false, true, false, false, false, false] rfl rfl (by kernel_rfl) (fun _ _ _ h => h) (Or.inl ⟨by rfl, ?_⟩) hHeld ?_ ?_
  rotate_left
  · rintro w' ⟨s0, s1, s2, s3, s4⟩
    go_simp
    with_reducible rfl
  rotate_left
  · simp only [Act.put, List.setIfInBounds_toArray, List.set_cons_zero, List.set_cons_succ, i64_w, i32_w]
    rfl
  refine take_ (i := 10) (N := some 14) (v := ?_) (a' := ?_) #[true, true, false, true, true, false, true, true, false, true, true, false, false, true, false, false, false, false] rfl rfl (by kernel_rfl) (fun _ _ _ h => h) (Or.inl ⟨by rfl, ?_⟩) hHeld ?_ ?_
  rotate_left
  · rintro w' ⟨s0, s1, s2, s3, s4⟩
    go_simp
    with_reducible rfl
  rotate_left
  · simp only [Act.put, List.setIfInBounds_toArray, List.set_cons_zero, List.set_cons_succ, i64_w, i32_w]
    rfl
  refine take_ (i := 14) (N := some 18) (v := ?_) (a' := ?_) #[true, true, false, true, true, false, true, true, false, true, true, false, false, true, true, false, false, false] rfl rfl (by kernel_rfl) (fun _ _ _ h => h) (Or.inl ⟨by rfl, ?_⟩) hHeld ?_ ?_
  rotate_left
  · rintro w' ⟨s0, s1, s2, s3, s4⟩
    go_simp
    with_reducible rfl
  rotate_left
  · simp only [Act.put, List.setIfInBounds_toArray, List.set_cons_zero, List.set_cons_succ, i64_w, i32_w]
    rfl
  refine join_ (σ := Nat × Nat) 4 #[true, true, true, true, true, true, true, true, true, true, true, true, false, true, true, false, false, false] (fun s_ => [(6, .string ⟨si.toArray⟩), (9, .string ⟨sa.toArray⟩), (12, .string ⟨sd.toArray⟩), (15, .slice (some ⟨s_.1, 0, none⟩) key.size s_.2)]) (fun s_ w' => Below w.heap.size w w' ∧ Below W0.heap.size W0 w' ∧ U8.C w' (some ⟨s_.1, 0, none⟩) key.size (bytesOf key)) ?_ ?_
  rotate_left
  · intro hCont
    refine two_ (i := 2) (j := 11) (Ni := some 6) (Nj := some 15) #[true, true, true, true, true, false, true, true, false, true, true, false, false, true, true, false, false, false] #[true, true, false, true, true, false, true, true, false, true, true, true, false, true, true, false, false, false] rfl rfl rfl rfl (by kernel_rfl) (by decide) (by decide) (fun K hK => ?_) (fun K hK => ?_)
    · skip
      refine goes_ Tryd.func27 (by kernel_rfl) rfl #[.int .i64 k] (by rfl) rfl rfl (by simp only [List.map_toArray, List.map_cons, List.map_nil]; rfl) ?_
      with_reducible refine (itoa_calls k HW.out.1 HW.out.2.1 _ (HT0.out.below HB.out)).mono ?_
      rintro e w21 ⟨rfl, hb⟩
      rw [← HSI.out]
      refine ⟨_, rfl, ?_⟩
      have n0_ := Aside0.mk (HB.out.trans (hb.mono HB.out.size))
      clear HB
      have HB := n0_
      clear n0_
      have n0_ := Aside0.mk (HQ.out.trans (hb.mono HQ.out.size))
      clear HQ
      have HQ := n0_
      clear n0_
      clear hb
      refine hK.out _ _ ⟨pw_cell_below HQ.out HC5.out.1, pw_cell_below HQ.out HC5.out.2.1, pw_cell_below HQ.out HC5.out.2.2.1, pw_cell_below HQ.out HC5.out.2.2.2.1, pw_cell_below HQ.out HC5.out.2.2.2.2⟩ (fun hHeld => ?_)
      clear hK K
      refine norm_ (a' := ?_) ?_ ?_
      rotate_left
      · show Act.put _ (some 6) _ = _
        simp only [Act.put, List.setIfInBounds_toArray, List.set_cons_zero, List.set_cons_succ, i64_w, i32_w]
        rfl
      refine two_ (i := 5) (j := 11) (Ni := some 9) (Nj := some 15) #[true, true, true, true, true, true, true, true, false, true, true, false, false, true, true, false, false, false] #[true, true, true, true, true, false, true, true, false, true, true, true, false, true, true, false, false, false] rfl rfl rfl rfl (by kernel_rfl) (by decide) (by decide) (fun K hK => ?_) (fun K hK => ?_)
      · skip
        refine goes_ Tryd.func27 (by kernel_rfl) rfl #[.int .i64 a] (by rfl) rfl rfl (by simp only [List.map_toArray, List.map_cons, List.map_nil]; rfl) ?_
        with_reducible refine (itoa_calls a HW.out.2.2.1 HW.out.2.2.2.1 _ (HT0.out.below HB.out)).mono ?_
        rintro e w22 ⟨rfl, hb⟩
        rw [← HSA.out]
        refine ⟨_, rfl, ?_⟩
        have n0_ := Aside0.mk (HB.out.trans (hb.mono HB.out.size))
        clear HB
        have HB := n0_
        clear n0_
        have n0_ := Aside0.mk (HQ.out.trans (hb.mono HQ.out.size))
        clear HQ
        have HQ := n0_
        clear n0_
        clear hb
        refine hK.out _ _ ⟨pw_cell_below HQ.out HC5.out.1, pw_cell_below HQ.out HC5.out.2.1, pw_cell_below HQ.out HC5.out.2.2.1, pw_cell_below HQ.out HC5.out.2.2.2.1, pw_cell_below HQ.out HC5.out.2.2.2.2⟩ (fun hHeld => ?_)
        clear hK K
        refine norm_ (a' := ?_) ?_ ?_
        rotate_left
        · show Act.put _ (some 9) _ = _
          simp only [Act.put, List.setIfInBounds_toArray, List.set_cons_zero, List.set_cons_succ, i64_w, i32_w]
          rfl
        refine two_ (i := 8) (j := 11) (Ni := some 12) (Nj := some 15) #[true, true, true, true, true, true, true, true, true, true, true, false, false, true, true, false, false, false] #[true, true, true, true, true, true, true, true, false, true, true, true, false, true, true, false, false, false] rfl rfl rfl rfl (by kernel_rfl) (by decide) (by decide) (fun K hK => ?_) (fun K hK => ?_)
        · skip
          refine goes_ Tryd.func28 (by kernel_rfl) rfl #[.int .u64 (m : Int), .int .i64 10] (by rfl) rfl rfl (by simp only [List.map_toArray, List.map_cons, List.map_nil]; rfl) ?_
          with_reducible refine (fmtu_calls m HW.out.2.2.2.2.1 _ (HT0.out.below HB.out)).mono ?_
          rintro e w23 ⟨rfl, hb⟩
          rw [← HSD.out]
          refine ⟨_, rfl, ?_⟩
          have n0_ := Aside0.mk (HB.out.trans (hb.mono HB.out.size))
          clear HB
          have HB := n0_
          clear n0_
          have n0_ := Aside0.mk (HQ.out.trans (hb.mono HQ.out.size))
          clear HQ
          have HQ := n0_
          clear n0_
          clear hb
          refine hK.out _ _ ⟨pw_cell_below HQ.out HC5.out.1, pw_cell_below HQ.out HC5.out.2.1, pw_cell_below HQ.out HC5.out.2.2.1, pw_cell_below HQ.out HC5.out.2.2.2.1, pw_cell_below HQ.out HC5.out.2.2.2.2⟩ (fun hHeld => ?_)
          clear hK K
          refine norm_ (a' := ?_) ?_ ?_
          rotate_left
          · show Act.put _ (some 12) _ = _
            simp only [Act.put, List.setIfInBounds_toArray, List.set_cons_zero, List.set_cons_succ, i64_w, i32_w]
            rfl
          refine one_ (i := 11) (N := some 15) #[true, true, true, true, true, true, true, true, true, true, true, true, false, true, true, false, false, false] rfl rfl (by kernel_rfl) (by decide) (fun K hK => ?_)
          have kb := print_bytes (P := Tryd.prog) 9 30 5 Tryd.underlying9 Tryd.underlying30 Tryd.underlying5 key w23
          refine value_ (w1 := ?_) (v := ?_) (by rfl) rfl ?_ ?_
          rotate_left 2
          · go_simp
            constructor
            · rfl
            · rfl
          clear kb
          have hb := below_bytes w23 key
          have HC := Aside0.mk (str_C w23 key HW.out.2.2.2.2.2.1)
          generalize Lib.bytesWorld w23 5 key = w24 at hb HC ⊢
          generalize grownCap w23 key.size 0 5 = cp at HC ⊢
          have n0_ := Aside0.mk (HB.out.trans (hb.mono HB.out.size))
          clear HB
          have HB := n0_
          clear n0_
          have n0_ := Aside0.mk (HQ.out.trans (hb.mono HQ.out.size))
          clear HQ
          have HQ := n0_
          clear n0_
          clear hb
          generalize w23.heap.size = g at HC ⊢
          refine hK.out _ _ ⟨pw_cell_below HQ.out HC5.out.1, pw_cell_below HQ.out HC5.out.2.1, pw_cell_below HQ.out HC5.out.2.2.1, pw_cell_below HQ.out HC5.out.2.2.2.1, pw_cell_below HQ.out HC5.out.2.2.2.2⟩ (fun hHeld => ?_)
          clear hK K
          refine norm_ (a' := ?_) ?_ ?_
          rotate_left
          · show Act.put _ (some 15) _ = _
            simp only [Act.put, List.setIfInBounds_toArray, List.set_cons_zero, List.set_cons_succ, i64_w, i32_w]
            rfl
          exact norm_ (by simp only [putAll, Act.put, List.setIfInBounds_toArray, List.set_cons_zero, List.set_cons_succ]) (hCont (g, cp) _ ⟨HB.out, HQ.out, HC.out⟩)
        · skip
          have kb := print_bytes (P := Tryd.prog) 9 30 5 Tryd.underlying9 Tryd.underlying30 Tryd.underlying5 key w22
          refine value_ (w1 := ?_) (v := ?_) (by rfl) rfl ?_ ?_
          rotate_left 2
          · go_simp
            constructor
            · rfl
            · rfl
          clear kb
          have hb := below_bytes w22 key
          have HC := Aside0.mk (str_C w22 key HW.out.2.2.2.2.2.1)
          generalize Lib.bytesWorld w22 5 key = w23 at hb HC ⊢
          generalize grownCap w22 key.size 0 5 = cp at HC ⊢
          have n0_ := Aside0.mk (HB.out.trans (hb.mono HB.out.size))
          clear HB
          have HB := n0_
          clear n0_
          have n0_ := Aside0.mk (HQ.out.trans (hb.mono HQ.out.size))
          clear HQ
          have HQ := n0_
          clear n0_
          clear hb
          generalize w22.heap.size = g at HC ⊢
          refine hK.out _ _ ⟨pw_cell_below HQ.out HC5.out.1, pw_cell_below HQ.out HC5.out.2.1, pw_cell_below HQ.out HC5.out.2.2.1, pw_cell_below HQ.out HC5.out.2.2.2.1, pw_cell_below HQ.out HC5.out.2.2.2.2⟩ (fun hHeld => ?_)
          clear hK K
          refine norm_ (a' := ?_) ?_ ?_
          rotate_left
          · show Act.put _ (some 15) _ = _
            simp only [Act.put, List.setIfInBounds_toArray, List.set_cons_zero, List.set_cons_succ, i64_w, i32_w]
            rfl
          refine one_ (i := 8) (N := some 12) #[true, true, true, true, true, true, true, true, true, true, true, true, false, true, true, false, false, false] rfl rfl (by kernel_rfl) (by decide) (fun K hK => ?_)
          refine goes_ Tryd.func28 (by kernel_rfl) rfl #[.int .u64 (m : Int), .int .i64 10] (by rfl) rfl rfl (by simp only [List.map_toArray, List.map_cons, List.map_nil]; rfl) ?_
          with_reducible refine (fmtu_calls m HW.out.2.2.2.2.1 _ (HT0.out.below HB.out)).mono ?_
          rintro e w24 ⟨rfl, hb⟩
          rw [← HSD.out]
          refine ⟨_, rfl, ?_⟩
          have n0_ := Aside0.mk (HB.out.trans (hb.mono HB.out.size))
          clear HB
          have HB := n0_
          clear n0_
          have n0_ := Aside0.mk (HQ.out.trans (hb.mono HQ.out.size))
          clear HQ
          have HQ := n0_
          clear n0_
          have n0_ := Aside0.mk (Kd.C_below HC.out hb)
          clear HC
          have HC := n0_
          clear n0_
          clear hb
          refine hK.out _ _ ⟨pw_cell_below HQ.out HC5.out.1, pw_cell_below HQ.out HC5.out.2.1, pw_cell_below HQ.out HC5.out.2.2.1, pw_cell_below HQ.out HC5.out.2.2.2.1, pw_cell_below HQ.out HC5.out.2.2.2.2⟩ (fun hHeld => ?_)
          clear hK K
          refine norm_ (a' := ?_) ?_ ?_
          rotate_left
          · show Act.put _ (some 12) _ = _
            simp only [Act.put, List.setIfInBounds_toArray, List.set_cons_zero, List.set_cons_succ, i64_w, i32_w]
            rfl
          exact norm_ (by simp only [putAll, Act.put, List.setIfInBounds_toArray, List.set_cons_zero, List.set_cons_succ]) (hCont (g, cp) _ ⟨HB.out, HQ.out, HC.out⟩)
      · skip
        have kb := print_bytes (P := Tryd.prog) 9 30 5 Tryd.underlying9 Tryd.underlying30 Tryd.underlying5 key w21
        refine value_ (w1 := ?_) (v := ?_) (by rfl) rfl ?_ ?_
        rotate_left 2
        · go_simp
          constructor
          · rfl
          · rfl
        clear kb
        have hb := below_bytes w21 key
        have HC := Aside0.mk (str_C w21 key HW.out.2.2.2.2.2.1)
        generalize Lib.bytesWorld w21 5 key = w22 at hb HC ⊢
        generalize grownCap w21 key.size 0 5 = cp at HC ⊢
        have n0_ := Aside0.mk (HB.out.trans (hb.mono HB.out.size))
        clear HB
        have HB := n0_
        clear n0_
        have n0_ := Aside0.mk (HQ.out.trans (hb.mono HQ.out.size))
        clear HQ
        have HQ := n0_
        clear n0_
        clear hb
        generalize w21.heap.size = g at HC ⊢
        refine hK.out _ _ ⟨pw_cell_below HQ.out HC5.out.1, pw_cell_below HQ.out HC5.out.2.1, pw_cell_below HQ.out HC5.out.2.2.1, pw_cell_below HQ.out HC5.out.2.2.2.1, pw_cell_below HQ.out HC5.out.2.2.2.2⟩ (fun hHeld => ?_)
        clear hK K
        refine norm_ (a' := ?_) ?_ ?_
        rotate_left
        · show Act.put _ (some 15) _ = _
          simp only [Act.put, List.setIfInBounds_toArray, List.set_cons_zero, List.set_cons_succ, i64_w, i32_w]
          rfl
        refine one_ (i := 5) (N := some 9) #[true, true, true, true, true, true, true, true, false, true, true, true, false, true, true, false, false, false] rfl rfl (by kernel_rfl) (by decide) (fun K hK => ?_)
        refine goes_ Tryd.func27 (by kernel_rfl) rfl #[.int .i64 a] (by rfl) rfl rfl (by simp only [List.map_toArray, List.map_cons, List.map_nil]; rfl) ?_
        with_reducible refine (itoa_calls a HW.out.2.2.1 HW.out.2.2.2.1 _ (HT0.out.below HB.out)).mono ?_
        rintro e w23 ⟨rfl, hb⟩
        rw [← HSA.out]
        refine ⟨_, rfl, ?_⟩
        have n0_ := Aside0.mk (HB.out.trans (hb.mono HB.out.size))
        clear HB
        have HB := n0_
        clear n0_
        have n0_ := Aside0.mk (HQ.out.trans (hb.mono HQ.out.size))
        clear HQ
        have HQ := n0_
        clear n0_
        have n0_ := Aside0.mk (Kd.C_below HC.out hb)
        clear HC
        have HC := n0_
        clear n0_
        clear hb
        refine hK.out _ _ ⟨pw_cell_below HQ.out HC5.out.1, pw_cell_below HQ.out HC5.out.2.1, pw_cell_below HQ.out HC5.out.2.2.1, pw_cell_below HQ.out HC5.out.2.2.2.1, pw_cell_below HQ.out HC5.out.2.2.2.2⟩ (fun hHeld => ?_)
        clear hK K
        refine norm_ (a' := ?_) ?_ ?_
        rotate_left
        · show Act.put _ (some 9) _ = _
          simp only [Act.put, List.setIfInBounds_toArray, List.set_cons_zero, List.set_cons_succ, i64_w, i32_w]
          rfl
        refine one_ (i := 8) (N := some 12) #[true, true, true, true, true, true, true, true, true, true, true, true, false, true, true, false, false, false] rfl rfl (by kernel_rfl) (by decide) (fun K hK => ?_)
        refine goes_ Tryd.func28 (by kernel_rfl) rfl #[.int .u64 (m : Int), .int .i64 10] (by rfl) rfl rfl (by simp only [List.map_toArray, List.map_cons, List.map_nil]; rfl) ?_
        with_reducible refine (fmtu_calls m HW.out.2.2.2.2.1 _ (HT0.out.below HB.out)).mono ?_
        rintro e w24 ⟨rfl, hb⟩
        rw [← HSD.out]
        refine ⟨_, rfl, ?_⟩
        have n0_ := Aside0.mk (HB.out.trans (hb.mono HB.out.size))
        clear HB
        have HB := n0_
        clear n0_
        have n0_ := Aside0.mk (HQ.out.trans (hb.mono HQ.out.size))
        clear HQ
        have HQ := n0_
        clear n0_
        have n0_ := Aside0.mk (Kd.C_below HC.out hb)
        clear HC
        have HC := n0_
        clear n0_
        clear hb
        refine hK.out _ _ ⟨pw_cell_below HQ.out HC5.out.1, pw_cell_below HQ.out HC5.out.2.1, pw_cell_below HQ.out HC5.out.2.2.1, pw_cell_below HQ.out HC5.out.2.2.2.1, pw_cell_below HQ.out HC5.out.2.2.2.2⟩ (fun hHeld => ?_)
        clear hK K
        refine norm_ (a' := ?_) ?_ ?_
        rotate_left
        · show Act.put _ (some 12) _ = _
          simp only [Act.put, List.setIfInBounds_toArray, List.set_cons_zero, List.set_cons_succ, i64_w, i32_w]
          rfl
        exact norm_ (by simp only [putAll, Act.put, List.setIfInBounds_toArray, List.set_cons_zero, List.set_cons_succ]) (hCont (g, cp) _ ⟨HB.out, HQ.out, HC.out⟩)
    · skip
      have kb := print_bytes (P := Tryd.prog) 9 30 5 Tryd.underlying9 Tryd.underlying30 Tryd.underlying5 key w20
      refine value_ (w1 := ?_) (v := ?_) (by rfl) rfl ?_ ?_
      rotate_left 2
      · go_simp
        constructor
        · rfl
        · rfl
      clear kb
      have hb := below_bytes w20 key
      have HC := Aside0.mk (str_C w20 key HW.out.2.2.2.2.2.1)
      generalize Lib.bytesWorld w20 5 key = w21 at hb HC ⊢
      generalize grownCap w20 key.size 0 5 = cp at HC ⊢
      have n0_ := Aside0.mk (HB.out.trans (hb.mono HB.out.size))
      clear HB
      have HB := n0_
      clear n0_
      have n0_ := Aside0.mk (HQ.out.trans (hb.mono HQ.out.size))
      clear HQ
      have HQ := n0_
      clear n0_
      clear hb
      generalize w20.heap.size = g at HC ⊢
      refine hK.out _ _ ⟨pw_cell_below HQ.out HC5.out.1, pw_cell_below HQ.out HC5.out.2.1, pw_cell_below HQ.out HC5.out.2.2.1, pw_cell_below HQ.out HC5.out.2.2.2.1, pw_cell_below HQ.out HC5.out.2.2.2.2⟩ (fun hHeld => ?_)
      clear hK K
      refine norm_ (a' := ?_) ?_ ?_
      rotate_left
      · show Act.put _ (some 15) _ = _
        simp only [Act.put, List.setIfInBounds_toArray, List.set_cons_zero, List.set_cons_succ, i64_w, i32_w]
        rfl
      refine one_ (i := 2) (N := some 6) #[true, true, true, true, true, false, true, true, false, true, true, true, false, true, true, false, false, false] rfl rfl (by kernel_rfl) (by decide) (fun K hK => ?_)
      refine goes_ Tryd.func27 (by kernel_rfl) rfl #[.int .i64 k] (by rfl) rfl rfl (by simp only [List.map_toArray, List.map_cons, List.map_nil]; rfl) ?_
      with_reducible refine (itoa_calls k HW.out.1 HW.out.2.1 _ (HT0.out.below HB.out)).mono ?_
      rintro e w22 ⟨rfl, hb⟩
      rw [← HSI.out]
      refine ⟨_, rfl, ?_⟩
      have n0_ := Aside0.mk (HB.out.trans (hb.mono HB.out.size))
      clear HB
      have HB := n0_
      clear n0_
      have n0_ := Aside0.mk (HQ.out.trans (hb.mono HQ.out.size))
      clear HQ
      have HQ := n0_
      clear n0_
      have n0_ := Aside0.mk (Kd.C_below HC.out hb)
      clear HC
      have HC := n0_
      clear n0_
      clear hb
      refine hK.out _ _ ⟨pw_cell_below HQ.out HC5.out.1, pw_cell_below HQ.out HC5.out.2.1, pw_cell_below HQ.out HC5.out.2.2.1, pw_cell_below HQ.out HC5.out.2.2.2.1, pw_cell_below HQ.out HC5.out.2.2.2.2⟩ (fun hHeld => ?_)
      clear hK K
      refine norm_ (a' := ?_) ?_ ?_
      rotate_left
      · show Act.put _ (some 6) _ = _
        simp only [Act.put, List.setIfInBounds_toArray, List.set_cons_zero, List.set_cons_succ, i64_w, i32_w]
        rfl
      refine one_ (i := 5) (N := some 9) #[true, true, true, true, true, true, true, true, false, true, true, true, false, true, true, false, false, false] rfl rfl (by kernel_rfl) (by decide) (fun K hK => ?_)
      refine goes_ Tryd.func27 (by kernel_rfl) rfl #[.int .i64 a] (by rfl) rfl rfl (by simp only [List.map_toArray, List.map_cons, List.map_nil]; rfl) ?_
      with_reducible refine (itoa_calls a HW.out.2.2.1 HW.out.2.2.2.1 _ (HT0.out.below HB.out)).mono ?_
      rintro e w23 ⟨rfl, hb⟩
      rw [← HSA.out]
      refine ⟨_, rfl, ?_⟩
      have n0_ := Aside0.mk (HB.out.trans (hb.mono HB.out.size))
      clear HB
      have HB := n0_
      clear n0_
      have n0_ := Aside0.mk (HQ.out.trans (hb.mono HQ.out.size))
      clear HQ
      have HQ := n0_
      clear n0_
      have n0_ := Aside0.mk (Kd.C_below HC.out hb)
      clear HC
      have HC := n0_
      clear n0_
      clear hb
      refine hK.out _ _ ⟨pw_cell_below HQ.out HC5.out.1, pw_cell_below HQ.out HC5.out.2.1, pw_cell_below HQ.out HC5.out.2.2.1, pw_cell_below HQ.out HC5.out.2.2.2.1, pw_cell_below HQ.out HC5.out.2.2.2.2⟩ (fun hHeld => ?_)
      clear hK K
      refine norm_ (a' := ?_) ?_ ?_
      rotate_left
      · show Act.put _ (some 9) _ = _
        simp only [Act.put, List.setIfInBounds_toArray, List.set_cons_zero, List.set_cons_succ, i64_w, i32_w]
        rfl
      refine one_ (i := 8) (N := some 12) #[true, true, true, true, true, true, true, true, true, true, true, true, false, true, true, false, false, false] rfl rfl (by kernel_rfl) (by decide) (fun K hK => ?_)
      refine goes_ Tryd.func28 (by kernel_rfl) rfl #[.int .u64 (m : Int), .int .i64 10] (by rfl) rfl rfl (by simp only [List.map_toArray, List.map_cons, List.map_nil]; rfl) ?_
      with_reducible refine (fmtu_calls m HW.out.2.2.2.2.1 _ (HT0.out.below HB.out)).mono ?_
      rintro e w24 ⟨rfl, hb⟩
      rw [← HSD.out]
      refine ⟨_, rfl, ?_⟩
      have n0_ := Aside0.mk (HB.out.trans (hb.mono HB.out.size))
      clear HB
      have HB := n0_
      clear n0_
      have n0_ := Aside0.mk (HQ.out.trans (hb.mono HQ.out.size))
      clear HQ
      have HQ := n0_
      clear n0_
      have n0_ := Aside0.mk (Kd.C_below HC.out hb)
      clear HC
      have HC := n0_
      clear n0_
      clear hb
      refine hK.out _ _ ⟨pw_cell_below HQ.out HC5.out.1, pw_cell_below HQ.out HC5.out.2.1, pw_cell_below HQ.out HC5.out.2.2.1, pw_cell_below HQ.out HC5.out.2.2.2.1, pw_cell_below HQ.out HC5.out.2.2.2.2⟩ (fun hHeld => ?_)
      clear hK K
      refine norm_ (a' := ?_) ?_ ?_
      rotate_left
      · show Act.put _ (some 12) _ = _
        simp only [Act.put, List.setIfInBounds_toArray, List.set_cons_zero, List.set_cons_succ, i64_w, i32_w]
        rfl
      exact norm_ (by simp only [putAll, Act.put, List.setIfInBounds_toArray, List.set_cons_zero, List.set_cons_succ]) (hCont (g, cp) _ ⟨HB.out, HQ.out, HC.out⟩)
  rintro ⟨g, cp⟩ w30 ⟨hb0, hb1, hc1⟩
  have HB1 := Aside0.mk hb0
  have HQ1 := Aside0.mk hb1
  have HC1 := Aside0.mk hc1
  clear hb0 hb1 hc1
  dsimp only
  refine norm_ (a' := ?_) ?_ ?_
  rotate_left
  · simp only [putAll, Act.put, List.setIfInBounds_toArray, List.set_cons_zero, List.set_cons_succ]
    rfl
  refine one_ (i := 12) (N := some 16) #[true, true, true, true, true, true, true, true, true, true, true, true, true, true, true, false, false, false] rfl rfl (by kernel_rfl) (by decide) (fun K hK => ?_)
  refine goes_ Tryd.func29 (by kernel_rfl) rfl #[.slice (some ⟨g, 0, none⟩) key.size cp] (by rfl) rfl rfl (by simp only [List.map_toArray, List.map_cons, List.map_nil]; rfl) ?_
  with_reducible refine (Hex_callsN (some ⟨g, 0, none⟩) cp key.size (bytesOf key) _ (bytesOf_length key) HC1.out (byt_bytesOf key) (Nat.le_trans HW.out.2.2.2.2.2.1 (by decide))).mono ?_
  rintro e w31 ⟨rfl, hb⟩
  refine ⟨_, rfl, ?_⟩
  rw [← HSK.out]
  have HB2 := Aside0.mk (HB1.out.trans (hb.mono HB1.out.size))
  have HQ2 := Aside0.mk (HQ1.out.trans (hb.mono HQ1.out.size))
  clear hb
  refine hK.out _ _ ⟨pw_cell_below HQ2.out HC5.out.1, pw_cell_below HQ2.out HC5.out.2.1, pw_cell_below HQ2.out HC5.out.2.2.1, pw_cell_below HQ2.out HC5.out.2.2.2.1, pw_cell_below HQ2.out HC5.out.2.2.2.2⟩ (fun hHeld => ?_)
  clear hK K
  refine norm_ (a' := ?_) ?_ ?_
  rotate_left
  · show Act.put _ (some 16) _ = _
    simp only [Act.put, List.setIfInBounds_toArray, List.set_cons_zero, List.set_cons_succ, i64_w, i32_w]
    rfl
  refine one_ (i := 15) (N := some 19) #[true, true, true, true, true, true, true, true, true, true, true, true, true, true, true, true, false, false] rfl rfl (by kernel_rfl) (by decide) (fun K hK => ?_)
  refine goes_ Tryd.func29 (by kernel_rfl) rfl #[.slice A n c] (by rfl) rfl rfl (by simp only [List.map_toArray, List.map_cons, List.map_nil]; rfl) ?_
  with_reducible refine (Hex_callsN A c n l _ HN.out (Kd.C_below HC0.out HB2.out) HW.out.2.2.2.2.2.2.2 (Nat.le_trans HW.out.2.2.2.2.2.2.1 (by decide))).mono ?_
  rintro e w32 ⟨rfl, hb⟩
  refine ⟨_, rfl, ?_⟩
  rw [← HSV.out]
  have HB3 := Aside0.mk (HB2.out.trans (hb.mono HB2.out.size))
  have HQ3 := Aside0.mk (HQ2.out.trans (hb.mono HQ2.out.size))
  clear hb
  refine hK.out _ _ ⟨pw_cell_below HQ3.out HC5.out.1, pw_cell_below HQ3.out HC5.out.2.1, pw_cell_below HQ3.out HC5.out.2.2.1, pw_cell_below HQ3.out HC5.out.2.2.2.1, pw_cell_below HQ3.out HC5.out.2.2.2.2⟩ (fun hHeld => ?_)
  clear hK K
  refine norm_ (a' := ?_) ?_ ?_
  rotate_left
  · show Act.put _ (some 19) _ = _
    simp only [Act.put, List.setIfInBounds_toArray, List.set_cons_zero, List.set_cons_succ, i64_w, i32_w]
    rfl
  refine one_ (i := 16) (N := some 20) #[true, true, true, true, true, true, true, true, true, true, true, true, true, true, true, true, true, false] rfl rfl (by kernel_rfl) (by decide) (fun K hK => ?_)
  refine value_ (w1 := ?_) (v := ?_) (by rfl) rfl ?_ ?_
  rotate_left 2
  · go_simp
    constructor
    · rfl
    · rfl
  have hbk := heap_alloc_new w32 (.cells #[.string ⟨si.toArray⟩, .string ⟨sa.toArray⟩, .string ⟨sd.toArray⟩, .string ⟨sk.toArray⟩, .string ⟨sv.toArray⟩] 9)
  have hba : Below w32.heap.size w32 (w32.alloc (.cells #[.string ⟨si.toArray⟩, .string ⟨sa.toArray⟩, .string ⟨sd.toArray⟩, .string ⟨sk.toArray⟩, .string ⟨sv.toArray⟩] 9)) := (Below.refl _ _).alloc (Nat.le_refl _) _
  generalize w32.alloc (.cells #[.string ⟨si.toArray⟩, .string ⟨sa.toArray⟩, .string ⟨sd.toArray⟩, .string ⟨sk.toArray⟩, .string ⟨sv.toArray⟩] 9) = w33 at hbk hba ⊢
  have HB4 := Aside0.mk (HB3.out.trans (hba.mono HB3.out.size))
  have HQ4 := Aside0.mk (HQ3.out.trans (hba.mono HQ3.out.size))
  clear hba
  generalize w32.heap.size = g2 at hbk ⊢
  have HLT : Aside0 (g2 < w33.heap.size) := ⟨blk_lt hbk⟩
  have HCE : Aside0 (∀ (j : Nat) x, ([⟨si.toArray⟩, ⟨sa.toArray⟩, ⟨sd.toArray⟩, ⟨sk.toArray⟩, ⟨sv.toArray⟩] : List ByteArray)[j]? = some x → w33.cell? ⟨g2, 0 + j, none⟩ = some (.string x)) := ⟨fun j x hx => by
    rcases j with _ | _ | _ | _ | _ | j <;> simp at hx <;> (try subst hx) <;> simp [World.cell?, hbk]⟩
  clear hbk
  refine hK.out _ _ ⟨pw_cell_below HQ4.out HC5.out.1, pw_cell_below HQ4.out HC5.out.2.1, pw_cell_below HQ4.out HC5.out.2.2.1, pw_cell_below HQ4.out HC5.out.2.2.2.1, pw_cell_below HQ4.out HC5.out.2.2.2.2⟩ (fun hHeld => ?_)
  clear hK K
  refine norm_ (a' := ?_) ?_ ?_
  rotate_left
  · show Act.put _ (some 20) _ = _
    simp only [Act.put, List.setIfInBounds_toArray, List.set_cons_zero, List.set_cons_succ, i64_w, i32_w]
    rfl
  refine pure_ (i := 17) (N := some 3) (v := ?_) (a' := ?_) #[true, true, true, true, true, true, true, true, true, true, true, true, true, true, true, true, true, true] rfl rfl (by kernel_rfl) (fun _ _ _ h => h) (Or.inl ⟨by rfl, ?_⟩) ?_ ?_
  rotate_left
  · intro w'
    go_simp
    with_reducible rfl
  rotate_left
  · simp only [Act.put, List.setIfInBounds_toArray, List.set_cons_zero, List.set_cons_succ, i64_w, i32_w]
    rfl
  refine done_ (by kernel_rfl) ?_
  go_wp2_with fail
  refine (Tryd.strings_Join g2 0 5 [⟨si.toArray⟩, ⟨sa.toArray⟩, ⟨sd.toArray⟩, ⟨sk.toArray⟩, ⟨sv.toArray⟩] ⟨#[32]⟩ _ HCE.out HLT.out (by show (5 : Nat) ≤ _; decide) (by show (5 : Nat) ≤ _; decide) (by show (Lib.join [si, sa, sd, sk, sv] [32]).length ≤ _; rw [HJ.out]; exact Nat.le_trans HL.out (by decide))).mono ?_
  rintro e w9 ⟨rfl, hb9⟩
  have HB9 : Aside0 (Below w.heap.size w w9) := ⟨HB4.out.trans (hb9.mono HB4.out.size)⟩
  clear hb9
  rw [show (⟨(Lib.join (List.map (fun x : ByteArray => x.data.toList) [⟨si.toArray⟩, ⟨sa.toArray⟩, ⟨sd.toArray⟩, ⟨sk.toArray⟩, ⟨sv.toArray⟩]) (⟨#[32]⟩ : ByteArray).data.toList).toArray⟩ : ByteArray) = ⟨lx.toArray⟩ from by
    show (⟨(Lib.join [si, sa, sd, sk, sv] [32]).toArray⟩ : ByteArray) = _
    rw [HJ.out]]
  go_wp2_with fail
  go_ret
  refine ⟨?_, HB9.out⟩
  have e : (⟨lx.toArray⟩ : ByteArray) ++ ⟨#[10]⟩ = ⟨(lx ++ [10]).toArray⟩ := by
    apply Go.WideShapes.bytes_inj
    simp
  rw [← e]
  rfl
end Go.Proofs.YtganhhhkmcmngaaDoor.Sc
