/- Scripts: the plain law. -/
import Derived.Test.YtganhhhkmcmngaaDoorProg
import Derived.Below
import Derived.Deep.Draws
import Derived.Deep.AppendLies
import Derived.Maps.AppendAt
import Derived.OwnWalk
import Derived.Laws.BytesArg
import Derived.Laws.MakeOwn
import Derived.Laws.OwnMore
import Derived.Deep.OwnRows
import Derived.Tactics
import Derived.Lib.ConvBytes
import Derived.Laws.Slices
import Derived.WalkKit
import Derived.KernelRfl
import Derived.RowKit3
import Derived.Deep.LoopGhost
import Derived.Deep.QuietTactic
import Derived.BigQuiet
import Derived.WideLaws
import Derived.Deep.DeepCutAuto
import Derived.Deep.CutBlock
import Derived.Deep.RegionHeld3
import Derived.Laws.Rows
import Derived.Lib.AppendStr
import Derived.ArgAppend
import Derived.Laws.IdiomCopy
import Derived.OrdersHeld
import Derived.Laws.BitsLemmas
import Derived.RowKit
import Derived.Test.YtganhhhkmcmngaaDoorWWords
import Derived.Test.YtganhhhkmcmngaaDoorWLast
import Derived.Test.YtganhhhkmcmngaaDoorWTab
import Derived.Test.YtganhhhkmcmngaaDoorWFour
import Derived.Test.YtganhhhkmcmngaaDoorWQPut
import Derived.Test.YtganhhhkmcmngaaDoorWApart
import Derived.Test.YtganhhhkmcmngaaDoorWArr
import Derived.Test.YtganhhhkmcmngaaDoorWZeros
import Derived.Test.YtganhhhkmcmngaaDoorWFoot
import Derived.Test.YtganhhhkmcmngaaDoorWKept
import Derived.Test.YtganhhhkmcmngaaDoorWShare
import Derived.Test.YtganhhhkmcmngaaDoorWN
import Derived.Test.YtganhhhkmcmngaaDoorWFootNe
import Derived.Test.YtganhhhkmcmngaaDoorWAt
import Derived.Test.YtganhhhkmcmngaaDoorWEqStruct
import Derived.Test.YtganhhhkmcmngaaDoorWRepsOne
import Derived.Test.YtganhhhkmcmngaaDoorWInv
import Derived.Test.YtganhhhkmcmngaaDoorWInvWords
import Derived.Test.YtganhhhkmcmngaaDoorWGuard
import Derived.Test.YtganhhhkmcmngaaDoorWNEv
import Derived.Test.YtganhhhkmcmngaaDoorWMore
import Derived.Test.YtganhhhkmcmngaaDoorSc10
import Derived.Lib.AtoiAllCases
namespace Go.Proofs.YtganhhhkmcmngaaDoor.Sc
open Go.RowKit Go.Proofs.YtganhhhkmcmngaaDoorW.PrintWords Go.Proofs.YtganhhhkmcmngaaDoorW.PrintLast Go.Proofs.YtganhhhkmcmngaaDoorW.PrintMore
attribute [local go_sem] max2_int min2_int max_two min_two max_three min_three max_four min_four
set_option linter.unusedVariables false
set_option linter.unusedSimpArgs false
open Go.Shelf
theorem split_app (c : UInt8) (a b : List UInt8) (h : c ∉ a) : Lib.split (a ++ c :: b) [c] = a :: Lib.split b [c] := by
  have hi := index_app c a b h
  have hc := Lib.count_hit (sub := [c]) (by simp) hi
  have hd : (a ++ c :: b).drop (a.length + [c].length) = b := by simp
  rw [hd] at hc
  unfold Lib.split
  rw [hc, Nat.add_comm]
  rw [Lib.splitK, hi, if_neg (by simp)]
  simp
theorem split_no (c : UInt8) (a : List UInt8) (h : c ∉ a) : Lib.split a [c] = [a] := by
  unfold Lib.split
  rw [Lib.count_miss (index_no c a h)]
  rfl
theorem dec_char (n : Nat) : ∀ c, c ∈ Lib.decDigits n → 48 ≤ c.toNat ∧ c.toNat ≤ 57 := by
  induction n using Nat.strongRecOn with
  | _ n ih =>
  intro c hc
  rw [Lib.decDigits] at hc
  split at hc
  · rw [List.mem_singleton] at hc
    subst hc
    rw [UInt8.toNat_ofNat_of_lt' (by show 48 + n < 256; omega)]
    omega
  · rcases List.mem_append.mp hc with hc | hc
    · exact ih (n / 10) (by omega) c hc
    · rw [List.mem_singleton] at hc
      subst hc
      rw [UInt8.toNat_ofNat_of_lt' (by show 48 + n % 10 < 256; omega)]
      omega
theorem dec_ne (n : Nat) : Lib.decDigits n ≠ [] := by
  rw [Lib.decDigits]
  split <;> simp
theorem um_snoc (M : Nat) (c : UInt8) : ∀ (l : List UInt8) (acc u : Nat), Lib.parseUintM M acc l = .ok u → Lib.parseUintM M acc (l ++ [c]) = Lib.parseUintM M u [c]
  | [], acc, u, h => by
    simp only [Lib.parseUintM, Lib.NumEnd.ok.injEq] at h
    subst h; rfl
  | d :: l, acc, u, h => by
    rw [Lib.parseUintM] at h
    rw [List.cons_append, Lib.parseUintM]
    split at h
    · rename_i h1
      rw [if_pos h1]
      split at h
      · cases h
      · rename_i h2
        rw [if_neg h2]
        split at h
        · cases h
        · rename_i h3
          rw [if_neg h3]
          exact um_snoc M c l _ u h
    · cases h
theorem um_dec (n : Nat) (h : n < 18446744073709551616) : Lib.parseUintM 18446744073709551615 0 (Lib.decDigits n) = .ok n := by
  induction n using Nat.strongRecOn with
  | _ n ih =>
  rw [Lib.decDigits]
  split
  · rename_i hn
    have e : (UInt8.ofNat (48 + n)).toNat = 48 + n := UInt8.toNat_ofNat_of_lt' (by show 48 + n < 256; omega)
    rw [Lib.parseUintM, e, if_pos (by omega), if_neg (by omega), if_neg (by omega), Lib.parseUintM]
    congr 1; omega
  · rename_i hn
    have e : (UInt8.ofNat (48 + n % 10)).toNat = 48 + n % 10 := UInt8.toNat_ofNat_of_lt' (by show 48 + n % 10 < 256; omega)
    rw [um_snoc _ _ _ _ _ (ih (n / 10) (by omega) (by omega))]
    rw [Lib.parseUintM, e, if_pos (by omega), if_neg (by omega), if_neg (by omega), Lib.parseUintM]
    congr 1; omega
theorem ub_dec (n : Nat) (h : n < 18446744073709551616) : Lib.parseUintB 64 (Lib.decDigits n) = .ok n := by
  unfold Lib.parseUintB
  rw [if_neg (dec_ne n)]
  exact um_dec n h
theorem atoi_itoa (n : Int) (h0 : -9223372036854775808 ≤ n) (h1 : n ≤ 9223372036854775807) : Lib.atoiAll (Lib.itoa n) = .ok n := by
  unfold Lib.itoa
  by_cases hn : n < 0
  · rw [if_pos hn, Lib.atoiAll_minus, ← Lib.parseUintB_64, ub_dec _ (by omega)]
    show (if 9223372036854775808 < n.natAbs then Lib.NumEnd.range else Lib.NumEnd.ok (-(n.natAbs : Int))) = _
    rw [if_neg (by omega)]
    congr 1; omega
  · rw [if_neg hn]
    cases hd : Lib.decDigits n.toNat with
    | nil => exact absurd hd (dec_ne _)
    | cons c r =>
      have hc := dec_char n.toNat c (by rw [hd]; simp)
      rw [Lib.atoiAll_plain c r (by omega) (by omega), ← hd, ← Lib.parseUintB_64, ub_dec _ (by omega)]
      show (if 9223372036854775808 ≤ n.toNat then Lib.NumEnd.range else Lib.NumEnd.ok (n.toNat : Int)) = _
      rw [if_neg (by omega)]
      congr 1; omega
theorem hexD_ok : ∀ n : Fin 16, hexS (hexD n.val) = true ∧ hexv (hexD n.val) = n.val ∧ hexD n.val ≠ 32 ∧ hexD n.val ≠ 10 := by decide +kernel
theorem hexPairs_hexU : ∀ l : List Int, Byt l → hexPairs (hexU l) = some l
  | [], _ => rfl
  | x :: l, h => by
    have hx := h x (by simp)
    have h1 := hexD_ok ⟨x.toNat / 16, by omega⟩
    have h2 := hexD_ok ⟨x.toNat % 16, by omega⟩
    have e : hexU (x :: l) = hexD (x.toNat / 16) :: hexD (x.toNat % 16) :: hexU l := rfl
    rw [e, hexPairs]
    simp only at h1 h2
    rw [h1.1, h2.1, h1.2.1, h2.2.1, hexPairs_hexU l fun y hy => h y (by simp [hy])]
    simp
    omega
theorem hexU_no : ∀ l : List Int, Byt l → ∀ c, c ∈ hexU l → c ≠ 32 ∧ c ≠ 10
  | [], _, c, hc => by simp [hexU] at hc
  | x :: l, h, c, hc => by
    have hx := h x (by simp)
    have h1 := hexD_ok ⟨x.toNat / 16, by omega⟩
    have h2 := hexD_ok ⟨x.toNat % 16, by omega⟩
    have e : hexU (x :: l) = hexD (x.toNat / 16) :: hexD (x.toNat % 16) :: hexU l := rfl
    rw [e] at hc
    simp only at h1 h2
    rcases List.mem_cons.mp hc with rfl | hc
    · exact h1.2.2
    · rcases List.mem_cons.mp hc with rfl | hc
      · exact h2.2.2
      · exact hexU_no l (fun y hy => h y (by simp [hy])) c hc
theorem itoa_no (n : Int) : ∀ c, c ∈ Lib.itoa n → c ≠ 32 ∧ c ≠ 10 := by
  have key : ∀ (c : UInt8), 48 ≤ c.toNat ∧ c.toNat ≤ 57 → c ≠ 32 ∧ c ≠ 10 := fun c h => ⟨fun e => by subst e; exact absurd h.1 (by decide), fun e => by subst e; exact absurd h.1 (by decide)⟩
  intro c hc
  unfold Lib.itoa at hc
  split at hc
  · rcases List.mem_cons.mp hc with rfl | hc
    · decide
    · exact key c (dec_char _ c hc)
  · exact key c (dec_char _ c hc)
theorem dec_no (n : Nat) : ∀ c, c ∈ Lib.decDigits n → c ≠ 32 ∧ c ≠ 10 := fun c hc => by
  have h := dec_char _ c hc
  exact ⟨fun e => by subst e; exact absurd h.1 (by decide), fun e => by subst e; exact absurd h.1 (by decide)⟩
theorem xhex_no (l : List Int) (h : Byt l) : ∀ c, c ∈ (120 : UInt8) :: hexU l → c ≠ 32 ∧ c ≠ 10 := fun c hc => by
  rcases List.mem_cons.mp hc with rfl | hc
  · decide
  · exact hexU_no l h c hc
theorem lineU_eq2 (x : S32) : lineU x = Lib.itoa x.f0 ++ 32 :: (Lib.itoa x.f1 ++ 32 :: (Lib.decDigits x.f4.toNat ++ 32 :: ((120 :: hexU (bytesOf x.f2)) ++ 32 :: (120 :: hexU x.f3)))) := by simp [lineU]
theorem str_bytesOf (s : ByteArray) : strOfNums (bytesOf s) = s := by
  apply Go.WideShapes.bytes_inj
  rw [strOfNums_data, bytesOf, List.map_map]
  conv => rhs; rw [← List.map_id s.data.toList]
  apply List.map_congr_left
  intro b _
  simp
theorem step_line (x : S32) (h : WfS x) : stepP (lineU x) = some x := by
  have hs : Lib.split (lineU x) [32] = [Lib.itoa x.f0, Lib.itoa x.f1, Lib.decDigits x.f4.toNat, 120 :: hexU (bytesOf x.f2), 120 :: hexU x.f3] := by
    rw [lineU_eq2]
    rw [split_app 32 _ _ fun e => (itoa_no _ _ e).1 rfl, split_app 32 _ _ fun e => (itoa_no _ _ e).1 rfl, split_app 32 _ _ fun e => (dec_no _ _ e).1 rfl, split_app 32 _ _ fun e => (xhex_no _ (byt_bytesOf _) _ e).1 rfl, split_no 32 _ fun e => (xhex_no _ h.byt _ e).1 rfl]
  unfold stepP
  rw [hs]
  simp only
  rw [atoi_itoa _ h.a0 h.a1, atoi_itoa _ h.b0 h.b1, ub_dec _ (by have := h.k0; have := h.k1; omega)]
  simp only [okN, okU, Option.bind_some]
  simp only [hexP, if_true, hexPairs_hexU _ (byt_bytesOf _), hexPairs_hexU _ h.byt, Option.bind_some, str_bytesOf]
  have hk : ((x.f4.toNat : Nat) : Int) = x.f4 := by have := h.k0; omega
  rw [hk]
  obtain ⟨a, b, c, d, e⟩ := x
  rw [if_pos rfl]
theorem line_no (x : S32) (h : WfS x) : (10 : UInt8) ∉ lineU x := by
  rw [lineU_eq2]
  intro hc
  simp only [List.mem_append, List.mem_cons] at hc
  rcases hc with hc | hc | hc | hc | hc | hc | (hc | hc) | hc | hc | hc
  · exact (itoa_no _ _ hc).2 rfl
  · exact absurd hc (by decide)
  · exact (itoa_no _ _ hc).2 rfl
  · exact absurd hc (by decide)
  · exact (dec_no _ _ hc).2 rfl
  · exact absurd hc (by decide)
  · exact absurd hc (by decide)
  · exact (hexU_no _ (byt_bytesOf _) _ hc).2 rfl
  · exact absurd hc (by decide)
  · exact absurd hc (by decide)
  · exact (hexU_no _ h.byt _ hc).2 rfl
theorem prs_app (rest : List UInt8) (xs : List S32) (r : Option Nat) : ∀ (l : List S32) (n : Nat), (∀ x, x ∈ l → WfS x) → Prs rest (n + l.length) xs r → Prs (textU l ++ rest) n (l ++ xs) r
  | [], n, _, h => by simpa [textU] using h
  | x :: l, n, hw, h => by
    have hx := hw x (by simp)
    have ih := prs_app rest xs r l (n + 1) (fun y hy => hw y (by simp [hy])) (by rw [List.length_cons] at h; rwa [show n + 1 + l.length = n + (l.length + 1) by omega])
    have e : textU (x :: l) ++ rest = lineU x ++ 10 :: (textU l ++ rest) := by simp [textU]
    rw [e]
    exact Prs.good (line_no x hx) (step_line x hx) ih
theorem prs_text (l : List S32) (n : Nat) (hw : ∀ x, x ∈ l → WfS x) : Prs (textU l) n l none := by
  have := prs_app [] [] none l n hw (Prs.nil _)
  rwa [List.append_nil, List.append_nil] at this
theorem stepP_line {a : List UInt8} {x : S32} (h : stepP a = some x) : lineU x = a ∧ (a.length ≤ 100000 → WfS x) := by
  unfold stepP at h
  split at h
  · rename_i p0 p1 p2 p3 p4 hs
    have hsm : ∀ p, p ∈ [p0, p1, p2, p3, p4] → p.length ≤ a.length := fun p hp => by
      rw [← hs] at hp
      exact split_short [32] _ _ p hp
    cases h0 : okN (Lib.atoiAll p0) with
    | none => rw [h0] at h; simp at h
    | some k =>
    cases h1 : okN (Lib.atoiAll p1) with
    | none => rw [h0, h1] at h; simp at h
    | some a1 =>
    cases h2 : okU (Lib.parseUintB 64 p2) with
    | none => rw [h0, h1, h2] at h; simp at h
    | some u =>
    cases h3 : hexP p3 with
    | none => rw [h0, h1, h2, h3] at h; simp at h
    | some key =>
    cases h4 : hexP p4 with
    | none => rw [h0, h1, h2, h3, h4] at h; simp at h
    | some data =>
    rw [h0, h1, h2, h3, h4] at h
    simp only [Option.bind_some] at h
    split at h
    · rename_i hl
      have hx := Option.some.inj h
      subst hx
      refine ⟨hl, fun hz => ?_⟩
      have g0 := Lib.atoiAll_bounds (okN_some h0)
      have g1 := Lib.atoiAll_bounds (okN_some h1)
      have g2 := u_bounds h2
      have g3 := hexP_byt h3
      have g4 := hexP_byt h4
      have z3 := hsm p3 (by simp)
      have z4 := hsm p4 (by simp)
      exact ⟨g0.1, g0.2, g1.1, g1.2, g2.1, g2.2, by rw [str_size]; omega, by show data.length ≤ _; omega, g4.1⟩
    · cases h
  · cases h
theorem prs_reads {l : List UInt8} {n : Nat} {xs : List S32} {r : Option Nat} (h : Prs l n xs r) : (r = none → textU xs = l) ∧ (∀ k, r = some k → n ≤ k ∧ k ≤ n + l.count 10) ∧ (l.length ≤ 100000 → ∀ x, x ∈ xs → WfS x) ∧ xs.length ≤ l.length := by
  induction h with
  | nil n => exact ⟨fun _ => rfl, (fun k h => by cases h), (fun _ x hx => by simp at hx), Nat.le_refl _⟩
  | cut n h hc => exact ⟨(fun h => by cases h), (fun k h => by injection h with h; omega), (fun _ x hx => by simp at hx), Nat.zero_le _⟩
  | bad b n hc hs => exact ⟨(fun h => by cases h), (fun k h => by injection h with h; omega), (fun _ x hx => by simp at hx), Nat.zero_le _⟩
  | @good a b n x xs r hc hs ht ih =>
    obtain ⟨i1, i2, i3, i4⟩ := ih
    have hl := stepP_line hs
    refine ⟨fun h => ?_, fun k h => ?_, fun hz y hy => ?_, ?_⟩
    · rw [← i1 h, ← hl.1]; simp [textU]
    · have := i2 k h
      rw [List.count_append, List.count_cons_self]
      omega
    · simp at hz
      rcases List.mem_cons.mp hy with rfl | hy
      · exact hl.2 (by omega)
      · exact i3 (by omega) y hy
    · simp; omega
end Go.Proofs.YtganhhhkmcmngaaDoor.Sc
