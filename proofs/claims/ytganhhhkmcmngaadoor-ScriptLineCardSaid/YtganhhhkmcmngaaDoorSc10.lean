/- Scripts: a text, read. -/
import Derived.Test.YtganhhhkmcmngaaDoorProg
import Derived.Below
import Derived.Deep.Draws
import Derived.Deep.AppendLies
import Derived.Maps.AppendAt
import Derived.OwnWalk
import Derived.Laws.BytesArg
import Derived.Laws.MakeOwn
import Derived.Laws.OwnMore
import Derived.Deep.OwnRows
import Derived.Tactics
import Derived.Lib.ConvBytes
import Derived.Laws.Slices
import Derived.WalkKit
import Derived.KernelRfl
import Derived.RowKit3
import Derived.Deep.LoopGhost
import Derived.Deep.QuietTactic
import Derived.BigQuiet
import Derived.WideLaws
import Derived.Deep.DeepCutAuto
import Derived.Deep.CutBlock
import Derived.Deep.RegionHeld3
import Derived.Laws.Rows
import Derived.Lib.AppendStr
import Derived.ArgAppend
import Derived.Laws.IdiomCopy
import Derived.OrdersHeld
import Derived.Laws.BitsLemmas
import Derived.RowKit
import Derived.Test.YtganhhhkmcmngaaDoorWWords
import Derived.Test.YtganhhhkmcmngaaDoorWLast
import Derived.Test.YtganhhhkmcmngaaDoorWTab
import Derived.Test.YtganhhhkmcmngaaDoorWFour
import Derived.Test.YtganhhhkmcmngaaDoorWQPut
import Derived.Test.YtganhhhkmcmngaaDoorWApart
import Derived.Test.YtganhhhkmcmngaaDoorWArr
import Derived.Test.YtganhhhkmcmngaaDoorWZeros
import Derived.Test.YtganhhhkmcmngaaDoorWFoot
import Derived.Test.YtganhhhkmcmngaaDoorWKept
import Derived.Test.YtganhhhkmcmngaaDoorWShare
import Derived.Test.YtganhhhkmcmngaaDoorWN
import Derived.Test.YtganhhhkmcmngaaDoorWFootNe
import Derived.Test.YtganhhhkmcmngaaDoorWAt
import Derived.Test.YtganhhhkmcmngaaDoorWEqStruct
import Derived.Test.YtganhhhkmcmngaaDoorWRepsOne
import Derived.Test.YtganhhhkmcmngaaDoorWInv
import Derived.Test.YtganhhhkmcmngaaDoorWInvWords
import Derived.Test.YtganhhhkmcmngaaDoorWGuard
import Derived.Test.YtganhhhkmcmngaaDoorWNEv
import Derived.Test.YtganhhhkmcmngaaDoorWMore
import Derived.Test.YtganhhhkmcmngaaDoorSc9
namespace Go.Proofs.YtganhhhkmcmngaaDoor.Sc
open Go.RowKit Go.Proofs.YtganhhhkmcmngaaDoorW.PrintWords Go.Proofs.YtganhhhkmcmngaaDoorW.PrintLast Go.Proofs.YtganhhhkmcmngaaDoorW.PrintMore
attribute [local go_sem] max2_int min2_int max_two min_two max_three min_three max_four min_four
set_option linter.unusedVariables false
set_option linter.unusedSimpArgs false
open Go.Shelf
theorem index_no (c : UInt8) : ∀ l : List UInt8, c ∉ l → Lib.index l [c] = -1
  | [], _ => rfl
  | b :: l, h => by
    have h1 : ¬ (c = b) := fun e => h (by rw [e]; exact List.mem_cons_self)
    have h2 := index_no c l fun e => h (List.mem_cons_of_mem _ e)
    unfold Lib.index
    rw [if_neg (by simpa [List.isPrefixOf] using h1), h2]
    rfl
theorem index_app (c : UInt8) : ∀ a b : List UInt8, c ∉ a → Lib.index (a ++ c :: b) [c] = (a.length : Int)
  | [], b, _ => by simp [Lib.index, List.isPrefixOf]
  | x :: a, b, h => by
    have h1 : ¬ (c = x) := fun e => h (by rw [e]; exact List.mem_cons_self)
    have h2 := index_app c a b fun e => h (List.mem_cons_of_mem _ e)
    rw [List.cons_append]
    unfold Lib.index
    rw [if_neg (by simpa [List.isPrefixOf] using h1), h2, if_neg (by simp)]
    simp
theorem cut_app (c : UInt8) (a b : List UInt8) (h : c ∉ a) : Lib.cut (a ++ c :: b) [c] = (a, b, true) := by
  unfold Lib.cut
  rw [index_app c a b h, if_pos (by omega)]
  simp
theorem cut_no (c : UInt8) (l : List UInt8) (h : c ∉ l) : Lib.cut l [c] = (l, [], false) := by
  unfold Lib.cut
  rw [index_no c l h, if_neg (by omega)]
theorem cut_ex (c : UInt8) : ∀ l : List UInt8, c ∉ l ∨ ∃ a b, l = a ++ c :: b ∧ c ∉ a
  | [] => .inl (by simp)
  | x :: l => by
    by_cases hx : c = x
    · exact .inr ⟨[], l, by rw [hx]; rfl, by simp⟩
    · rcases cut_ex c l with h | ⟨a, b, rfl, h⟩
      · exact .inl (by simp [hx, h])
      · exact .inr ⟨x :: a, b, rfl, by simp [hx, h]⟩
/-- A text, read: its steps, and the first line that is none. -/
inductive Prs : List UInt8 → Nat → List S32 → Option Nat → Prop
  | nil (n : Nat) : Prs [] n [] none
  | cut {l : List UInt8} (n : Nat) (h : l ≠ []) (hc : (10 : UInt8) ∉ l) : Prs l n [] (some n)
  | bad {a : List UInt8} (b : List UInt8) (n : Nat) (hc : (10 : UInt8) ∉ a) (hs : stepP a = none) : Prs (a ++ 10 :: b) n [] (some n)
  | good {a b : List UInt8} {n : Nat} {x : S32} {xs : List S32} {r : Option Nat} (hc : (10 : UInt8) ∉ a) (hs : stepP a = some x) (ht : Prs b (n + 1) xs r) : Prs (a ++ 10 :: b) n (x :: xs) r
theorem prs_ex : ∀ (k : Nat) (l : List UInt8) (n : Nat), l.length ≤ k → ∃ xs r, Prs l n xs r
  | 0, l, n, h => by
    have : l = [] := List.length_eq_zero_iff.mp (by omega)
    subst this
    exact ⟨_, _, Prs.nil n⟩
  | k + 1, l, n, h => by
    cases hl : l with
    | nil => exact ⟨_, _, Prs.nil n⟩
    | cons c l' =>
      rw [← hl]
      rcases cut_ex 10 l with hc | ⟨a, b, rfl, hc⟩
      · exact ⟨_, _, Prs.cut n (by rw [hl]; simp) hc⟩
      · cases hs : stepP a with
        | none => exact ⟨_, _, Prs.bad b n hc hs⟩
        | some x =>
          obtain ⟨xs, r, hr⟩ := prs_ex k b (n + 1) (by simp at h; omega)
          exact ⟨_, _, Prs.good hc hs hr⟩
/-- How a text's reading ends. -/
def ParseEnd (xs : List S32) (r : Option Nat) (w : World) (e : Ending) (w' : World) : Prop :=
  ((r = none ∧ ∃ A c, e = .returned (.tuple #[.slice A xs.length c, .int .i64 0, .int .i64 0]) ∧ k32.R 32 w' w.heap.size (fun _ => True) (.slice A xs.length c) xs) ∨ ∃ k : Nat, r = some k ∧ e = .returned (.tuple #[.slice none 0 0, .int .i64 k, .int .i64 13])) ∧ Below w.heap.size w w'
theorem info32 : (Tryd.prog.info? 32).map (fun i => (i.zero, i.size, i.bytes)) = some (some (.agg #[.int .i64 0, .int .i64 0, .string ⟨#[]⟩, .slice none 0 0, .int .u64 0]), 5, 64) := by kernel_rfl
theorem below_drewN (w : World) : ∀ n, Below w.heap.size w (w.drewN n)
  | 0 => Below.refl _ _
  | n + 1 => (below_drewN w n).drew
/-- The row that is handed on, and where the walk is. -/
structure PSt (w : World) (s : ByteArray) (XS : List S32) (RR : Option Nat) (sv : ByteArray) (v : Value) (n : Nat) (wr : World) : Prop where
  ex : ∃ (ys xs : List S32), Prs sv.data.toList n xs RR ∧ XS = ys ++ xs ∧ k32.R 32 wr w.heap.size (fun _ => True) v ys ∧ ys.length + sv.data.toList.length ≤ 100000 ∧ n ≤ ys.length + 1
  bel : Below w.heap.size w wr
set_option maxHeartbeats 8000000 in
set_option maxRecDepth 100000 in
theorem parse_calls (s : ByteArray) (hs : s.size ≤ 100000) (w : World) (hT : Tb w) (XS : List S32) (RR : Option Nat) (hP : Prs s.data.toList 1 XS RR) :
    Calls Tryd.prog 11 #[.string s] w fun e w' => ParseEnd XS RR w e w' := by
  have HT := Aside0.mk hT
  have HP0 : Aside0 (PSt w s XS RR s (.slice none 0 0) 1 w) := ⟨⟨[], XS, hP, rfl, Kd.R_nil _ _ _ _ _, by rw [data_length]; simpa using hs, Nat.le_refl _⟩, Below.refl _ _⟩
  clear hT hP
  go_enter Tryd.func11, Tryd.ntmps11
  go_wp2_with fail
  go_loopw [0, 5, 6] (fun si v i wr => ∃ (sv : ByteArray) (n : Nat), si = .string sv ∧ i = .int .i64 n ∧ Aside0 (PSt w s XS RR sv v n wr)) (fun si _ _ _ => match si with | .string s => s.data.toList.length | _ => 0)
  case atStart => exact ⟨s, 1, rfl, rfl, HP0⟩
  case round =>
    obtain ⟨sv, n, rfl, rfl, HS⟩ := hrel
    obtain ⟨⟨ys, xs, hp, hxs, hR, hlen, hn⟩, hb⟩ := HS.out
    obtain ⟨A1, c1, rfl⟩ := Kd.R_slice hR
    generalize hL : sv.data.toList = L at *
    have HB := Aside0.mk hb
    have HR := Aside0.mk hR
    have HXS := Aside0.mk hxs
    have HLEN := Aside0.mk hlen
    have HL := Aside0.mk hL
    have hsz : sv.size = L.length := by rw [← data_length, hL]
    clear hb hR hxs HS
    cases hp with
    | nil =>
      have hemp : sv.toList.isEmpty = true := by rw [Lib.toList_data, hL]; rfl
      clear hL hsz hlen hn
      go_wp2_with fail
      go_ret3
      refine ⟨.inl ⟨rfl, A1, c1, ?_, ?_⟩, HB.out⟩
      · rw [HXS.out, List.append_nil]; rfl
      · rw [HXS.out, List.append_nil]; exact HR.out
    | cut _ h hc =>
      have hemp : sv.toList.isEmpty = false := by rw [Lib.toList_data, hL]; cases hq : L with
        | nil => exact absurd hq h
        | cons _ _ => rfl
      obtain ⟨m, hm⟩ := (HT.out.below HB.out).max
      have HCU := Aside0.mk (Tryd.strings_Cut sv ⟨#[10]⟩ m wr (by omega) hm)
      rw [hL, show (⟨#[10]⟩ : ByteArray).data.toList = [10] from rfl, cut_no 10 L hc] at HCU
      obtain ⟨s1, hs1⟩ : ∃ s1 : ByteArray, (⟨(L).toArray⟩ : ByteArray) = s1 := ⟨_, rfl⟩
      have hd1 : s1.data.toList = L := by rw [← hs1]
      have HS1 : Aside0 (s1.data.toList = L) := ⟨hd1⟩
      have HZ1 : Aside0 (s1.size ≤ 100000) := ⟨by rw [← data_length, hd1]; omega⟩
      obtain ⟨s2, hs2⟩ : ∃ s2 : ByteArray, (⟨(([] : List UInt8)).toArray⟩ : ByteArray) = s2 := ⟨_, rfl⟩
      have HS2 : Aside0 (s2.data.toList = []) := ⟨by rw [← hs2]⟩
      rw [hs1, hs2] at HCU
      clear hm hs1 hs2 hd1 hL hsz
      go_wp2_with fail
      refine HCU.out.mono ?_
      rintro e w1 ⟨rfl, nd, hw1⟩
      have HB1 : Aside0 (Below w.heap.size w w1) := ⟨by rw [hw1]; exact HB.out.trans ((below_drewN wr nd).mono HB.out.size)⟩
      have HR1 : Aside0 (k32.R 32 w1 w.heap.size (fun _ => True) (.slice A1 ys.length c1) ys) := ⟨by rw [hw1]; exact Kd.R_below HR.out (below_drewN wr nd)⟩
      clear hw1
      go_wp2_with fail
      refine (step_calls s1 HZ1.out w1 (HT.out.below HB1.out)).mono ?_
      rintro e w2 ⟨⟨k, a2, key, A, lv, c, u, ok, rfl, hR2, hso⟩, hb2⟩
      rw [HS1.out] at hso
      have HB2 : Aside0 (Below w.heap.size w w2) := ⟨HB1.out.trans (hb2.mono HB1.out.size)⟩
      have HR2 : Aside0 (k32.R 32 w2 w.heap.size (fun _ => True) (.slice A1 ys.length c1) ys) := ⟨Kd.R_below HR1.out hb2⟩
      have HD2 := Aside0.mk hR2
      have HW12 : Aside0 (w1.heap.size ≤ w2.heap.size) := ⟨hb2.size⟩
      obtain ⟨nv, hnv⟩ : ∃ nv, lv.length = nv := ⟨_, rfl⟩
      rw [hnv] at HD2 ⊢
      have HNV := Aside0.mk hnv
      clear hb2 hR2 hnv
      have HB3 : Aside0 (Below w.heap.size w (w2.alloc (.cells #[.int .i64 k, .int .i64 a2, .string key, .slice A nv c, .int .u64 u] 32))) := ⟨HB2.out.alloc HB2.out.size _⟩
      rcases hso with ⟨_, rfl⟩ | ⟨_, rfl⟩
      · skip
        go_wp2_with fail
        go_ret3
        exact ⟨.inr ⟨_, rfl, rfl⟩, HB3.out⟩
      · skip
        go_wp2_with fail
        go_ret3
        exact ⟨.inr ⟨_, rfl, rfl⟩, HB3.out⟩
    | @bad a b _ hc hst =>
      have hemp : sv.toList.isEmpty = false := by rw [Lib.toList_data, hL]; cases a <;> rfl
      obtain ⟨m, hm⟩ := (HT.out.below HB.out).max
      have HCU := Aside0.mk (Tryd.strings_Cut sv ⟨#[10]⟩ m wr (by omega) hm)
      rw [hL, show (⟨#[10]⟩ : ByteArray).data.toList = [10] from rfl, cut_app 10 a b hc] at HCU
      obtain ⟨s1, hs1⟩ : ∃ s1 : ByteArray, (⟨(a).toArray⟩ : ByteArray) = s1 := ⟨_, rfl⟩
      have hd1 : s1.data.toList = a := by rw [← hs1]
      have HS1 : Aside0 (s1.data.toList = a) := ⟨hd1⟩
      have HZ1 : Aside0 (s1.size ≤ 100000) := ⟨by rw [← data_length, hd1]; simp at hlen; omega⟩
      obtain ⟨s2, hs2⟩ : ∃ s2 : ByteArray, (⟨(b).toArray⟩ : ByteArray) = s2 := ⟨_, rfl⟩
      have HS2 : Aside0 (s2.data.toList = b) := ⟨by rw [← hs2]⟩
      rw [hs1, hs2] at HCU
      clear hm hs1 hs2 hd1 hL hsz
      go_wp2_with fail
      refine HCU.out.mono ?_
      rintro e w1 ⟨rfl, nd, hw1⟩
      have HB1 : Aside0 (Below w.heap.size w w1) := ⟨by rw [hw1]; exact HB.out.trans ((below_drewN wr nd).mono HB.out.size)⟩
      have HR1 : Aside0 (k32.R 32 w1 w.heap.size (fun _ => True) (.slice A1 ys.length c1) ys) := ⟨by rw [hw1]; exact Kd.R_below HR.out (below_drewN wr nd)⟩
      clear hw1
      go_wp2_with fail
      refine (step_calls s1 HZ1.out w1 (HT.out.below HB1.out)).mono ?_
      rintro e w2 ⟨⟨k, a2, key, A, lv, c, u, ok, rfl, hR2, hso⟩, hb2⟩
      rw [HS1.out] at hso
      have HB2 : Aside0 (Below w.heap.size w w2) := ⟨HB1.out.trans (hb2.mono HB1.out.size)⟩
      have HR2 : Aside0 (k32.R 32 w2 w.heap.size (fun _ => True) (.slice A1 ys.length c1) ys) := ⟨Kd.R_below HR1.out hb2⟩
      have HD2 := Aside0.mk hR2
      have HW12 : Aside0 (w1.heap.size ≤ w2.heap.size) := ⟨hb2.size⟩
      obtain ⟨nv, hnv⟩ : ∃ nv, lv.length = nv := ⟨_, rfl⟩
      rw [hnv] at HD2 ⊢
      have HNV := Aside0.mk hnv
      clear hb2 hR2 hnv
      have HB3 : Aside0 (Below w.heap.size w (w2.alloc (.cells #[.int .i64 k, .int .i64 a2, .string key, .slice A nv c, .int .u64 u] 32))) := ⟨HB2.out.alloc HB2.out.size _⟩
      rcases hso with ⟨_, rfl⟩ | ⟨hs2, _⟩
      · skip
        go_wp2_with fail
        go_ret3
        exact ⟨.inr ⟨_, rfl, rfl⟩, HB3.out⟩
      · rw [hst] at hs2; cases hs2
    | @good a b _ x xs2 _ hc hst ht =>
      have HTT : Aside0 (Prs b (n + 1) xs2 RR) := ⟨ht⟩
      have HXS2 : Aside0 (XS = (ys ++ [x]) ++ xs2) := ⟨by rw [HXS.out]; simp⟩
      have HLE2 : Aside0 ((ys ++ [x]).length + b.length ≤ 100000 ∧ n + 1 ≤ (ys ++ [x]).length + 1 ∧ ys.length ≤ 100000) := ⟨by simp at hlen ⊢; omega⟩
      have hemp : sv.toList.isEmpty = false := by rw [Lib.toList_data, hL]; cases a <;> rfl
      obtain ⟨m, hm⟩ := (HT.out.below HB.out).max
      have HCU := Aside0.mk (Tryd.strings_Cut sv ⟨#[10]⟩ m wr (by omega) hm)
      rw [hL, show (⟨#[10]⟩ : ByteArray).data.toList = [10] from rfl, cut_app 10 a b hc] at HCU
      obtain ⟨s1, hs1⟩ : ∃ s1 : ByteArray, (⟨(a).toArray⟩ : ByteArray) = s1 := ⟨_, rfl⟩
      have hd1 : s1.data.toList = a := by rw [← hs1]
      have HS1 : Aside0 (s1.data.toList = a) := ⟨hd1⟩
      have HZ1 : Aside0 (s1.size ≤ 100000) := ⟨by rw [← data_length, hd1]; simp at hlen; omega⟩
      obtain ⟨s2, hs2⟩ : ∃ s2 : ByteArray, (⟨(b).toArray⟩ : ByteArray) = s2 := ⟨_, rfl⟩
      have HS2 : Aside0 (s2.data.toList = b) := ⟨by rw [← hs2]⟩
      rw [hs1, hs2] at HCU
      clear hm hs1 hs2 hd1 hL hsz
      go_wp2_with fail
      refine HCU.out.mono ?_
      rintro e w1 ⟨rfl, nd, hw1⟩
      have HB1 : Aside0 (Below w.heap.size w w1) := ⟨by rw [hw1]; exact HB.out.trans ((below_drewN wr nd).mono HB.out.size)⟩
      have HR1 : Aside0 (k32.R 32 w1 w.heap.size (fun _ => True) (.slice A1 ys.length c1) ys) := ⟨by rw [hw1]; exact Kd.R_below HR.out (below_drewN wr nd)⟩
      clear hw1
      go_wp2_with fail
      refine (step_calls s1 HZ1.out w1 (HT.out.below HB1.out)).mono ?_
      rintro e w2 ⟨⟨k, a2, key, A, lv, c, u, ok, rfl, hR2, hso⟩, hb2⟩
      rw [HS1.out] at hso
      have HB2 : Aside0 (Below w.heap.size w w2) := ⟨HB1.out.trans (hb2.mono HB1.out.size)⟩
      have HR2 : Aside0 (k32.R 32 w2 w.heap.size (fun _ => True) (.slice A1 ys.length c1) ys) := ⟨Kd.R_below HR1.out hb2⟩
      have HD2 := Aside0.mk hR2
      have HW12 : Aside0 (w1.heap.size ≤ w2.heap.size) := ⟨hb2.size⟩
      obtain ⟨nv, hnv⟩ : ∃ nv, lv.length = nv := ⟨_, rfl⟩
      rw [hnv] at HD2 ⊢
      have HNV := Aside0.mk hnv
      clear hb2 hR2 hnv
      have HB3 : Aside0 (Below w.heap.size w (w2.alloc (.cells #[.int .i64 k, .int .i64 a2, .string key, .slice A nv c, .int .u64 u] 32))) := ⟨HB2.out.alloc HB2.out.size _⟩
      rcases hso with ⟨hs2, _⟩ | ⟨hs2, rfl⟩
      · rw [hst] at hs2; cases hs2
      · rw [hst] at hs2
        have hxe := Option.some.inj hs2
        have HXE := Aside0.mk hxe
        have hsz3 : w2.heap.size < (w2.alloc (.cells #[.int .i64 k, .int .i64 a2, .string key, .slice A nv c, .int .u64 u] 32)).heap.size := blk_lt (heap_alloc_new _ _)
        have HR3 : Aside0 (k32.R 32 (w2.alloc (.cells #[.int .i64 k, .int .i64 a2, .string key, .slice A nv c, .int .u64 u] 32)) w.heap.size (fun _ => True) (.slice A1 ys.length c1) ys) := ⟨Kd.R_below HR2.out ((Below.refl _ _).alloc (Nat.le_refl _) _)⟩
        have HM3 : Aside0 (k32.M (w2.alloc (.cells #[.int .i64 k, .int .i64 a2, .string key, .slice A nv c, .int .u64 u] 32)) w.heap.size (fun b => w1.heap.size ≤ b) x [.int .i64 k, .int .i64 a2, .string key, .slice A nv c, .int .u64 u]) := ⟨by
          rw [hxe]
          refine k32_mkM _ _ _ ⟨k, a2, key, lv, u⟩ ?_
          exact Kd.R_lower (Kd.R_mono (Kd.R_bound (Kd.R_below HD2.out ((Below.refl _ _).alloc (Nat.le_refl _) _))) (fun _ hk => hk.2.1)) HB1.out.size⟩
        have HOW : Aside0 (∀ b, (Value.slice A1 ys.length c1).ownBlock = some b → b < w1.heap.size) := ⟨fun b hb => by
          obtain ⟨_, inner, ho, _⟩ := HR1.out
          exact own_lt ho b hb⟩
        clear hs2 hxe hst
        obtain ⟨Wz, hWz⟩ : ∃ Wz, w2.alloc (.cells #[.int .i64 k, .int .i64 a2, .string key, .slice A nv c, .int .u64 u] 32) = Wz := ⟨_, rfl⟩
        have hbz : Wz.heap[w2.heap.size]? = some (.cells #[.int .i64 k, .int .i64 a2, .string key, .slice A nv c, .int .u64 u] 32 (0, 0)) := by rw [← hWz]; exact heap_alloc_new _ _
        rw [hWz] at HB3 HR3 HM3
        obtain ⟨gz, hgz⟩ : ∃ g, w2.heap.size = g := ⟨_, rfl⟩
        rw [hgz] at hbz
        have y0 : Wz.cell? ⟨gz, 0, none⟩ = some (.int .i64 k) := (blk_cell hbz 0).trans rfl
        have y1 : Wz.cell? ⟨gz, 1, none⟩ = some (.int .i64 a2) := (blk_cell hbz 1).trans rfl
        have y2 : Wz.cell? ⟨gz, 2, none⟩ = some (.string key) := (blk_cell hbz 2).trans rfl
        have y3 : Wz.cell? ⟨gz, 3, none⟩ = some (.slice A nv c) := (blk_cell hbz 3).trans rfl
        have y4 : Wz.cell? ⟨gz, 4, none⟩ = some (.int .u64 u) := (blk_cell hbz 4).trans rfl
        clear hbz
        go_wp2_with (at_builtin; refine Kd.R_append k32 (w0 := w) (W := Wz) w.heap.size rfl (.tmp 34) (.tmp 36) 22 32 _ 64 rfl Tryd.underlying22 info32 rfl (by decide) (by decide) (.slice A1 ys.length c1) ys x [.int .i64 k, .int .i64 a2, .string key, .slice A nv c, .int .u64 u] (fun _ => True) (fun b => w1.heap.size ≤ b) rfl rfl HM3.out (fun b hb => ⟨trivial, fun e => by have := HOW.out b e.symm; omega⟩) (fun _ _ => trivial) HR3.out HB3.out HB3.out.size (by have := HLE2.out.2.2; omega) ?_; intro v4 w4 ho hb hg hat; have HO4 := Aside0.mk ho; have HB4 := Aside0.mk hb; clear ho hb hg hat)
        go_roundw
        case rel => exact ⟨s2, n + 1, rfl, by go_num, ⟨⟨⟨ys ++ [x], xs2, by rw [HS2.out]; exact HTT.out, HXS2.out, HO4.out, by rw [HS2.out]; exact HLE2.out.1, HLE2.out.2.1⟩, HB4.out⟩⟩⟩
        case measure =>
          show s2.data.toList.length < sv.data.toList.length
          rw [HS2.out, HL.out]
          simp only [List.length_append, List.length_cons]
          omega
end Go.Proofs.YtganhhhkmcmngaaDoor.Sc
