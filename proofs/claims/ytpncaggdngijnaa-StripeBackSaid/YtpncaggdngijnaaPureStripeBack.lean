/- Any data in parts, and whole again: pure part. No condition. -/
import Derived.Test.YtpncaggdngijnaaPStripeBackx0
import Derived.Test.YtpncaggdngijnaaPStripeBackx1
import Derived.Test.YtpncaggdngijnaaPStripeBackx2
namespace Go.Proofs.Ytpncaggdngijnaa.PureStripeBack
open Go.RowKit Go.Proofs.Ytpncaggdngijnaa.PStripeBack Go.Proofs.YtpncaggdngijnaaW.PrintWords Go.Proofs.YtpncaggdngijnaaW.PrintLast Go.Proofs.YtpncaggdngijnaaW.PrintMore 
set_option linter.unusedVariables false
set_option linter.unusedSimpArgs false
theorem ans : flittinglaw16_answers.f = some true := rfl
theorem count_zero2 (a b : Int) (h : a < 1 ∨ b < 1) : stripe_Count.f a b = some 0 := by
  unfold stripe_Count.f
  by_cases h1 : a < 1
  · rw [if_pos h1]
  · rw [if_neg h1, if_pos (by omega)]
theorem same_run (d : Nat) : ∀ (k i : Nat) (a : List Int), d + i = a.length → d < k → a.length < 1000000 → flittingref01_Same.l0 k a a (i : Int) = some true := by
  induction d with
  | zero =>
    intro k i a hd hk _
    obtain ⟨k, rfl⟩ : ∃ m, k = m + 1 := ⟨k - 1, by omega⟩
    simp only [flittingref01_Same.l0]
    rw [if_neg (by omega)]
  | succ d ih =>
    intro k i a hd hk hm
    obtain ⟨k, rfl⟩ : ∃ m, k = m + 1 := ⟨k - 1, by omega⟩
    simp only [flittingref01_Same.l0]
    rw [if_pos (by omega), if_pos (by omega), if_pos (by omega), show wrap64 ((i : Int) + 1) = ((i + 1 : Nat) : Int) from by unfold wrap64; omega]
    exact ih k (i + 1) a (by omega) (by omega) hm
theorem same_f (k : Nat) (a : List Int) (hk : a.length < k) (hm : a.length < 1000000) : flittingref01_Same.f k a a = some true := by
  unfold flittingref01_Same.f
  rw [if_pos rfl]
  exact same_run a.length k 0 a (by omega) hk hm
theorem rd_take (L : List (List Int)) (i : Nat) (hi : i < L.length) : (L.take i).flatten ++ rd_L1 L (i : Int) = (L.take (i + 1)).flatten := by
  have e : rd_L1 L (i : Int) = L[i] := by simp [rd_L1, hi]
  rw [e, List.take_succ_eq_append_getElem hi, List.flatten_append]
  simp
theorem flatten_take_le (L : List (List Int)) (i B : Nat) (h : ∀ l ∈ L, l.length ≤ B) : (L.take i).flatten.length ≤ i * B := by
  induction i generalizing L with
  | zero => simp
  | succ i ih =>
    cases L with
    | nil => simp
    | cons x L =>
      have h1 := ih L (fun l hl => h l (List.mem_cons_of_mem _ hl))
      have h2 := h x List.mem_cons_self
      rw [List.take_succ_cons, List.flatten_cons, List.length_append, Nat.add_mul, Nat.one_mul]
      omega
theorem pieces_flatten (l : List Int) (p : Nat) : ∀ N : Nat, p * N ≤ l.length → ((List.range N).map (pieceF l p)).flatten = l.take (p * N)
  | 0, _ => by simp
  | N + 1, h => by
    have h1 : p * N + p ≤ l.length := by rw [← Nat.mul_succ]; exact h
    rw [List.range_succ, List.map_append, List.flatten_append, pieces_flatten l p N (by omega), Nat.mul_succ, List.take_add]
    simp [pieceF]
structure Parts (m : Nat) (d : List Int) (L : List (List Int)) : Prop where
  split : stripe_Split.f (m : Int) d = some L
  count : stripe_Count.f (m : Int) (d.length : Int) = some (L.length : Int)
  each : ∀ l ∈ L, l.length = 8 * m
  all : ∃ z : Nat, L.flatten = d ++ List.replicate z 0
  few : L.length ≤ 500
theorem parts_of_split (m : Nat) (d : List Int) (hm : 1 ≤ m) (hm2 : m ≤ 5) (hd : d.length ≤ 500) : ∃ L, Parts m d L := by
  by_cases h0 : d.length = 0
  · obtain rfl : d = [] := List.eq_nil_of_length_eq_zero h0
    refine ⟨[], ?_, count_zero2 _ _ (Or.inr (by simp)), by simp, ⟨0, by simp⟩, by simp⟩
    unfold stripe_Split.f splitF
    rw [if_pos ⟨by omega, by omega, by simp⟩, if_pos (Or.inr h0)]
  · have hb := cntN_bound m d.length hm (by omega)
    have hl := fullF_length m d hm (by omega)
    refine ⟨(List.range (cntN m d.length)).map (pieceF (fullF m d) (8 * m)), ?_, ?_, ?_, ?_, ?_⟩
    · unfold stripe_Split.f splitF
      rw [if_pos ⟨by omega, by omega, by omega⟩, if_neg (by omega), Int.toNat_natCast]
    · rw [count_pos m d.length hm (by omega) (by omega) (by omega), List.length_map, List.length_range]
    · intro l hl'
      obtain ⟨i, hi, rfl⟩ := List.mem_map.1 hl'
      have hi := List.mem_range.1 hi
      have : 8 * m * i + 8 * m ≤ 8 * m * cntN m d.length := by rw [← Nat.mul_succ]; exact Nat.mul_le_mul_left _ hi
      unfold pieceF
      rw [List.length_take, List.length_drop]
      omega
    · refine ⟨8 * m * cntN m d.length - d.length, ?_⟩
      rw [pieces_flatten _ _ _ (by omega), List.take_of_length_le (by omega)]
      rfl
    · rw [List.length_map, List.length_range]
      have : (d.length - 1) / (8 * m) ≤ d.length - 1 := Nat.div_le_self _ _
      unfold cntN
      omega
theorem zeros_run (d : Nat) : ∀ (k i z : Nat) (x1 : List Int) (L : List (List Int)), d + i = x1.length + z → x1.length ≤ i → d + 600 ≤ k → L.flatten = x1 ++ List.replicate z 0 → x1.length ≤ 500 → L.length ≤ 500 → z < 100000 → (∀ x ∈ x1, 0 ≤ x ∧ x < 256) →
    flittinglaw16_StripeBack.l1 k x1 L (x1 ++ List.replicate z 0) (i : Int) = some true := by
  induction d with
  | zero =>
    intro k i z x1 L hd hi hk hL hx hLl hz hb
    obtain ⟨k, rfl⟩ : ∃ m, k = m + 1 := ⟨k - 1, by omega⟩
    have hlen : (x1 ++ List.replicate z (0 : Int)).length = x1.length + z := by simp
    have hLb : ∀ l ∈ L, ∀ x ∈ l, 0 ≤ x ∧ x < 256 := fun l hl x hx' => by
      have h : x ∈ L.flatten := List.mem_flatten.2 ⟨l, hl, hx'⟩
      rw [hL] at h
      rcases List.mem_append.1 h with h | h
      · exact hb x h
      · rw [List.eq_of_mem_replicate h]; decide
    have hfl : L.flatten.length = x1.length + z := by rw [hL]; exact hlen
    have hJ : stripe_Join.f L (x1.length : Int) = some (x1, true) := by
      unfold stripe_Join.f joinF
      rw [if_pos ⟨by omega, by omega, hLb⟩, if_pos ⟨by omega, by omega⟩, Int.toNat_natCast, hL, List.take_left]
    simp only [flittinglaw16_StripeBack.l1]
    rw [if_neg (by omega), hJ, Option.bind_some, ans, Option.bind_some, if_pos rfl, if_pos rfl, same_f k x1 (by omega) (by omega)]
    rfl
  | succ d ih =>
    intro k i z x1 L hd hi hk hL hx hLl hz hb
    obtain ⟨k, rfl⟩ : ∃ m, k = m + 1 := ⟨k - 1, by omega⟩
    have hlen : (x1 ++ List.replicate z (0 : Int)).length = x1.length + z := by simp
    have hr : rd (x1 ++ List.replicate z (0 : Int)) (i : Int) = 0 := by
      unfold rd
      rw [Int.toNat_natCast, List.getD_eq_getElem?_getD, List.getElem?_append_right hi, List.getElem?_replicate, if_pos (by omega)]
      rfl
    simp only [flittinglaw16_StripeBack.l1]
    rw [if_pos (by omega), if_pos (by omega), hr, if_pos rfl, show wrap64 ((i : Int) + 1) = ((i + 1 : Nat) : Int) from by unfold wrap64; omega]
    exact ih k (i + 1) z x1 L (by omega) (by omega) (by omega) hL hx hLl hz hb
theorem parts_run (d : Nat) : ∀ (k i m : Nat) (x1 : List Int) (L : List (List Int)), d + i = L.length → d + 30000 ≤ k → 1 ≤ m → m ≤ 5 → Parts m x1 L → x1.length ≤ 500 → (∀ x ∈ x1, 0 ≤ x ∧ x < 256) →
    flittinglaw16_StripeBack.l0 k x1 (m : Int) L (L.take i).flatten (i : Int) = some true := by
  induction d with
  | zero =>
    intro k i m x1 L hd hk hm1 hm2 hP hx hb
    obtain ⟨k, rfl⟩ : ∃ q, k = q + 2 := ⟨k - 2, by omega⟩
    obtain ⟨z, hz⟩ := hP.all
    have hfl : L.flatten.length ≤ L.length * 40 := by
      have := flatten_take_le L L.length 40 (fun l hl => by rw [hP.each l hl]; omega)
      rwa [List.take_length] at this
    have hfew := hP.few
    have hzl : x1.length + z = L.flatten.length := by rw [hz]; simp
    have hlen : (x1 ++ List.replicate z (0 : Int)).length = x1.length + z := by simp
    have e : L.take i = L := List.take_of_length_le (by omega)
    rw [e, hz]
    simp only [flittinglaw16_StripeBack.l0]
    rw [if_neg (by omega), hP.count, Option.bind_some, if_pos rfl, if_neg (by omega), if_pos (by omega), if_pos (by omega), Int.toNat_natCast, List.take_left, same_f (k + 1) x1 (by omega) (by omega), Option.bind_some]
    simp only [flittinglaw16_StripeBack.j1]
    rw [if_neg (by decide)]
    exact zeros_run z k x1.length z x1 L (by omega) (by omega) (by omega) hz hx hfew (by omega) hb
  | succ d ih =>
    intro k i m x1 L hd hk hm1 hm2 hP hx hb
    obtain ⟨k, rfl⟩ : ∃ q, k = q + 1 := ⟨k - 1, by omega⟩
    have hi : i < L.length := by omega
    have hfew := hP.few
    have hrl : (rd_L1 L (i : Int)).length = 8 * m := by
      have : rd_L1 L (i : Int) = L[i] := by simp [rd_L1, hi]
      rw [this]
      exact hP.each _ (List.getElem_mem hi)
    have hfl := flatten_take_le L i 40 (fun l hl => by rw [hP.each l hl]; omega)
    simp only [flittinglaw16_StripeBack.l0]
    rw [if_pos (by omega), if_pos (by omega), hrl, show wrap64 (8 * (m : Int)) = ((8 * m : Nat) : Int) from by unfold wrap64; omega, if_pos rfl, if_pos (by omega), rd_take L i hi, show wrap64 ((i : Int) + 1) = ((i + 1 : Nat) : Int) from by unfold wrap64; omega]
    exact ih k (i + 1) m x1 L (by omega) (by omega) hm1 hm2 hP hx hb
theorem StripeBack : flittinglaw16_StripeBack.Pure := by
  intro a0 l1 h0 _ _ hw
  simp [Lit.wf, IntKind.min, IntKind.max, IntKind.bits, IntKind.signed] at h0
  have hb : ∀ x ∈ l1, 0 ≤ x ∧ x < 256 := fun x hx => by
    have := hw x hx
    simp [Lit.wf, IntKind.min, IntKind.max, IntKind.bits, IntKind.signed] at this
    omega
  obtain ⟨m, hm1, hm2, em⟩ : ∃ m : Nat, 1 ≤ m ∧ m ≤ 5 ∧ wrap64 ((wrap64 (Int.tmod a0 5)) + 1) = (m : Int) := by
    refine ⟨(Int.tmod a0 5).toNat + 1, by omega, ?_, ?_⟩
    · rw [Int.tmod_eq_emod_of_nonneg (by omega)]; omega
    · rw [Int.tmod_eq_emod_of_nonneg (by omega)]; unfold wrap64; omega
  by_cases hl : (l1.length : Int) > 500
  · refine ⟨0, ?_⟩
    unfold flittinglaw16_StripeBack.f
    rw [if_pos hl]
    rfl
  · obtain ⟨L, hP⟩ := parts_of_split m l1 hm1 hm2 (by omega)
    refine ⟨L.length + 30000, ?_⟩
    unfold flittinglaw16_StripeBack.f
    rw [if_neg hl, em, hP.split, Option.bind_some]
    exact parts_run L.length _ 0 m l1 L (by omega) (by omega) hm1 hm2 hP (by omega) hb
end Go.Proofs.Ytpncaggdngijnaa.PureStripeBack
namespace Go.Proofs.Ytpncaggdngijnaa.Pure
theorem StripeBack : Go.Proofs.Ytpncaggdngijnaa.PStripeBack.flittinglaw16_StripeBack.Pure := Go.Proofs.Ytpncaggdngijnaa.PureStripeBack.StripeBack
end Go.Proofs.Ytpncaggdngijnaa.Pure
