/- The first bytes of any parts: pure part. No condition. -/
import Derived.Test.YtpncaggdngijnaaPStripeJoinx0
import Derived.Test.YtpncaggdngijnaaPStripeJoinx1
import Derived.Test.YtpncaggdngijnaaPStripeJoinx2
namespace Go.Proofs.Ytpncaggdngijnaa.PureStripeJoin
open Go.RowKit Go.Proofs.Ytpncaggdngijnaa.PStripeJoin Go.Proofs.YtpncaggdngijnaaW.PrintWords Go.Proofs.YtpncaggdngijnaaW.PrintLast Go.Proofs.YtpncaggdngijnaaW.PrintMore 
set_option linter.unusedVariables false
set_option linter.unusedSimpArgs false
theorem ans : flittinglaw16_answers.f = some true := rfl
theorem count_zero2 (a b : Int) (h : a < 1 ∨ b < 1) : stripe_Count.f a b = some 0 := by
  unfold stripe_Count.f
  by_cases h1 : a < 1
  · rw [if_pos h1]
  · rw [if_neg h1, if_pos (by omega)]
theorem same_run (d : Nat) : ∀ (k i : Nat) (a : List Int), d + i = a.length → d < k → a.length < 1000000 → flittingref01_Same.l0 k a a (i : Int) = some true := by
  induction d with
  | zero =>
    intro k i a hd hk _
    obtain ⟨k, rfl⟩ : ∃ m, k = m + 1 := ⟨k - 1, by omega⟩
    simp only [flittingref01_Same.l0]
    rw [if_neg (by omega)]
  | succ d ih =>
    intro k i a hd hk hm
    obtain ⟨k, rfl⟩ : ∃ m, k = m + 1 := ⟨k - 1, by omega⟩
    simp only [flittingref01_Same.l0]
    rw [if_pos (by omega), if_pos (by omega), if_pos (by omega), show wrap64 ((i : Int) + 1) = ((i + 1 : Nat) : Int) from by unfold wrap64; omega]
    exact ih k (i + 1) a (by omega) (by omega) hm
theorem same_f (k : Nat) (a : List Int) (hk : a.length < k) (hm : a.length < 1000000) : flittingref01_Same.f k a a = some true := by
  unfold flittingref01_Same.f
  rw [if_pos rfl]
  exact same_run a.length k 0 a (by omega) hk hm
theorem rd_take (L : List (List Int)) (i : Nat) (hi : i < L.length) : (L.take i).flatten ++ rd_L1 L (i : Int) = (L.take (i + 1)).flatten := by
  have e : rd_L1 L (i : Int) = L[i] := by simp [rd_L1, hi]
  rw [e, List.take_succ_eq_append_getElem hi, List.flatten_append]
  simp
theorem flatten_take_le (L : List (List Int)) (i B : Nat) (h : ∀ l ∈ L, l.length ≤ B) : (L.take i).flatten.length ≤ i * B := by
  induction i generalizing L with
  | zero => simp
  | succ i ih =>
    cases L with
    | nil => simp
    | cons x L =>
      have h1 := ih L (fun l hl => h l (List.mem_cons_of_mem _ hl))
      have h2 := h x List.mem_cons_self
      rw [List.take_succ_cons, List.flatten_cons, List.length_append, Nat.add_mul, Nat.one_mul]
      omega
def Pure : Prop := ∀ (l0 : List (List Int)) (a1 : Int), l0.length ≤ maxLen → (∀ l ∈ l0, ∀ x ∈ l, 0 ≤ x ∧ x < 256) → ∃ k, flittinglaw16_StripeJoin.f k l0 a1 = some true
theorem join_end (k : Nat) (l0 : List (List Int)) (a1 : Int) (hk : 20000 ≤ k) (hl : l0.length ≤ 50) (hb : ∀ l ∈ l0, ∀ x ∈ l, 0 ≤ x ∧ x < 256) (hs : ∀ l ∈ l0, l.length ≤ 200) (i : Int) : flittinglaw16_StripeJoin.j1 k l0 a1 l0.flatten i false = some true := by
  obtain ⟨k, rfl⟩ : ∃ q, k = q + 2 := ⟨k - 2, by omega⟩
  have hf := flatten_take_le l0 l0.length 200 hs
  rw [List.take_length] at hf
  have hJ : stripe_Join.f l0 a1 = some (joinF l0 a1) := by
    unfold stripe_Join.f
    rw [if_pos ⟨by omega, by omega, hb⟩]
  simp only [flittinglaw16_StripeJoin.j1]
  rw [if_neg (by decide), if_neg (by omega), hJ, Option.bind_some]
  unfold joinF
  by_cases h : 0 ≤ a1 ∧ a1 ≤ (l0.flatten.length : Int)
  · rw [if_pos h, if_neg (by omega), decide_eq_false (show ¬ a1 > (l0.flatten.length : Int) by omega)]
    simp only [flittinglaw16_StripeJoin.j2]
    rw [if_neg (by decide), ans, Option.bind_some, if_pos rfl, if_pos trivial, if_pos h.1, if_pos h.2, same_f k _ (by rw [List.length_take]; omega) (by rw [List.length_take]; omega)]
    rfl
  · rw [if_neg h]
    by_cases h0 : a1 < 0
    · rw [if_pos h0]
      simp only [flittinglaw16_StripeJoin.j2]
      rfl
    · rw [if_neg h0, decide_eq_true (show a1 > (l0.flatten.length : Int) by omega)]
      simp only [flittinglaw16_StripeJoin.j2]
      rfl
theorem join_run (d : Nat) : ∀ (k i : Nat) (l0 : List (List Int)) (a1 : Int), d + i = min l0.length 51 → d + d + 30000 ≤ k → (∀ l ∈ l0, ∀ x ∈ l, 0 ≤ x ∧ x < 256) → l0.length ≤ maxLen → (∀ l ∈ l0.take i, l.length ≤ 200) →
    flittinglaw16_StripeJoin.l0 k l0 a1 (l0.take i).flatten (i : Int) = some true := by
  induction d with
  | zero =>
    intro k i l0 a1 hd hk hb hm hs
    obtain ⟨k, rfl⟩ : ∃ q, k = q + 1 := ⟨k - 1, by omega⟩
    simp only [flittinglaw16_StripeJoin.l0]
    by_cases hl : l0.length ≤ 50
    · have e : l0.take i = l0 := List.take_of_length_le (by omega)
      rw [if_neg (by omega), e]
      exact join_end k l0 a1 (by omega) hl hb (by rw [e] at hs; exact hs) _
    · obtain ⟨k, rfl⟩ : ∃ q, k = q + 1 := ⟨k - 1, by omega⟩
      have hj : flittinglaw16_StripeJoin.j1 (k + 1) l0 a1 (l0.take i).flatten (i : Int) false = some true := by
        simp only [flittinglaw16_StripeJoin.j1]
        rw [if_neg (by decide), if_pos (by omega)]
        rfl
      by_cases hi : (i : Int) < (l0.length : Int)
      · rw [if_pos hi, decide_eq_false (show ¬ (i : Int) ≤ 50 by omega), hj]
      · rw [if_neg hi, hj]
  | succ d ih =>
    intro k i l0 a1 hd hk hb hm hs
    obtain ⟨k, rfl⟩ : ∃ q, k = q + 2 := ⟨k - 2, by omega⟩
    have hi : i < l0.length := by omega
    have hf := flatten_take_le (l0.take i) (l0.take i).length 200 hs
    rw [List.take_length, List.length_take] at hf
    simp only [flittinglaw16_StripeJoin.l0]
    rw [if_pos (by omega), decide_eq_true (show (i : Int) ≤ 50 by omega)]
    simp only [flittinglaw16_StripeJoin.j1]
    rw [if_pos trivial, if_pos (by omega), if_pos (by omega)]
    by_cases h2 : ((rd_L1 l0 (i : Int)).length : Int) > 200
    · rw [if_pos h2]
      rfl
    · rw [if_neg h2, if_pos (by omega), rd_take l0 i hi, show wrap64 ((i : Int) + 1) = ((i + 1 : Nat) : Int) from by unfold wrap64; omega]
      refine ih k (i + 1) l0 a1 (by omega) (by omega) hb hm (fun l hl => ?_)
      rw [List.take_succ_eq_append_getElem hi] at hl
      rcases List.mem_append.1 hl with h | h
      · exact hs l h
      · have e : rd_L1 l0 (i : Int) = l0[i] := by simp [rd_L1, hi]
        rw [List.mem_singleton.1 h, ← e]
        omega
theorem StripeJoin : Pure := by
  intro l0 a1 hm hb
  refine ⟨102 + 30000, ?_⟩
  unfold flittinglaw16_StripeJoin.f
  exact join_run (min l0.length 51) _ 0 l0 a1 (by omega) (by omega) hb hm (by simp)
/-- The rows of an argument, as 'open_int_rows' tells them, read as one list of lists. -/
theorem rows_C {W : World} {a : Addr} {len cap : Nat} {A : Nat → Option Addr} {L C : Nat → Nat} {Z : Nat → List Int} (hl : len ≤ cap) (hm : cap ≤ maxLen)
    (h : ∀ r, r < cap → W.cell? (a.add r) = some (.slice (A r) (L r) (C r)) ∧ L r ≤ C r ∧ C r ≤ maxLen ∧ (Z r).length = C r ∧ (∀ n ∈ Z r, (Lit.int .u8 n).wf = true) ∧ (A r = none → C r = 0) ∧
      ∀ a', A r = some a' → 0 ≤ a'.block ∧ ∀ c, c < C r → W.cell? (a'.add c) = some (.int .u8 ((Z r).getD c 0))) :
    Kd.C (Kd.slice 5 (Kd.int .u8)) W (some a) ((List.range len).map fun r => (Z r).take (L r)).length ((List.range len).map fun r => (Z r).take (L r)) := by
  refine ⟨rfl, by unfold maxLen at hm; simp; omega, fun _ => ⟨a, rfl, fun j p hj => ?_⟩⟩
  obtain ⟨hj', hp⟩ := List.getElem?_eq_some_iff.1 hj
  have hjl : j < len := by simpa using hj'
  have hp' : (Z j).take (L j) = p := by simpa using hp
  obtain ⟨h1, h2, h3, h4, _, h6, h7⟩ := h j (by omega)
  have hpl : p.length = L j := by rw [← hp', List.length_take]; omega
  unfold maxLen at h3
  refine ⟨[.slice (A j) (L j) (C j)], rfl, ⟨A j, C j, by rw [hpl], by omega, ?_⟩, fun i u hu => ?_⟩
  · refine Kd.C_of_reads (d := (0 : Int)) ⟨rfl, by omega, fun hn => ?_⟩
    cases hA : A j with
    | none => have := h6 hA; omega
    | some a' =>
      refine ⟨a', rfl, fun q hq => ?_⟩
      rw [(h7 a' hA).2 q (by omega), ← hp']
      rw [List.getD_eq_getElem?_getD, List.getD_eq_getElem?_getD, List.getElem?_take, if_pos (by omega)]
  · have hi : i = 0 := by
      have := (List.getElem?_eq_some_iff.1 hu).1
      simpa using this
    subst hi
    obtain rfl : Value.slice (A j) (L j) (C j) = u := by simpa using hu
    simpa [Kd.slice] using h1
theorem rows_bytes {len cap : Nat} {L : Nat → Nat} {Z : Nat → List Int} (hl : len ≤ cap) (h : ∀ r, r < cap → ∀ n ∈ Z r, (Lit.int .u8 n).wf = true) : ∀ l ∈ (List.range len).map fun r => (Z r).take (L r), ∀ x ∈ l, 0 ≤ x ∧ x < 256 := by
  intro l hl' x hx
  obtain ⟨r, hr, rfl⟩ := List.mem_map.1 hl'
  have hr := List.mem_range.1 hr
  have := h r (by omega) x (List.mem_of_mem_take hx)
  simp [Lit.wf, IntKind.min, IntKind.max, IntKind.bits, IntKind.signed] at this
  omega
end Go.Proofs.Ytpncaggdngijnaa.PureStripeJoin
