/- A drive that joins is drained, then removed, and then nothing any more. No condition. -/
import Derived.Test.YtphfaiagkgkiaaaPEpochWayx0
import Derived.Test.YtphfaiagkgkiaaaPEpochWayx1
import Derived.Test.YtphfaiagkgkiaaaPEpochWayx2
namespace Go.Proofs.Ytphfaiagkgkiaaa.PureEpochWay
open Go.RowKit Go.Proofs.Ytphfaiagkgkiaaa.PEpochWay Go.Proofs.YtphfaiagkgkiaaaW.PrintWords Go.Proofs.YtphfaiagkgkiaaaW.PrintLast Go.Proofs.YtphfaiagkgkiaaaW.PrintMore 
set_option linter.unusedVariables false
set_option linter.unusedSimpArgs false
theorem wrap_small {i : Int} (h0 : -9223372036854775808 ≤ i) (h : i < 9223372036854775808) : wrap64 i = i := by unfold wrap64; omega
theorem rd_nat (l : List Int) (i : Nat) : rd l (i : Int) = l.getD i 0 := by simp [rd]
theorem getD_lt (l : List Int) (i : Nat) (h : i < l.length) : l.getD i 0 = l[i] := by simp [h]
def cnt (l : List Int) : Nat := l.count 1
theorem cnt_le (l : List Int) : cnt l ≤ l.length := List.count_le_length
theorem cnt_drop (l : List Int) (i : Nat) (h : i < l.length) : cnt (l.drop i) = (if l.getD i 0 = 1 then 1 else 0) + cnt (l.drop (i + 1)) := by
  unfold cnt
  rw [List.drop_eq_getElem_cons h, List.count_cons, getD_lt l i h]
  by_cases e : l[i] = 1
  · simp [e]; omega
  · simp [e]
theorem in_run (d : Nat) : ∀ (k n i : Nat) (l : List Int), d + i = l.length → d < k → n ≤ i → l.length < 9223372036854775807 → epoch_In.l0 k (n : Int) l (l.length : Int) (i : Int) = some ((n + cnt (l.drop i) : Nat) : Int) := by
  induction d with
  | zero =>
    intro k n i l hd hk hn hl
    obtain ⟨k, rfl⟩ : ∃ m, k = m + 1 := ⟨k - 1, by omega⟩
    simp only [epoch_In.l0]
    rw [if_neg (by omega), List.drop_eq_nil_of_le (by omega)]
    rfl
  | succ d ih =>
    intro k n i l hd hk hn hl
    obtain ⟨k, rfl⟩ : ∃ m, k = m + 1 := ⟨k - 1, by omega⟩
    simp only [epoch_In.l0]
    rw [if_pos (by omega), if_pos (by omega), if_pos (by omega), rd_nat, cnt_drop l i (by omega), wrap_small (i := (n : Int) + 1) (by omega) (by omega), wrap_small (i := (i : Int) + 1) (by omega) (by omega)]
    by_cases e : l.getD i 0 = 1
    · rw [if_pos e, if_pos e]
      have := ih k (n + 1) (i + 1) l (by omega) (by omega) (by omega) hl
      rw [show ((n + 1 : Nat) : Int) = (n : Int) + 1 from by omega, show ((i + 1 : Nat) : Int) = (i : Int) + 1 from by omega] at this
      rw [this]; congr 1; omega
    · rw [if_neg e, if_neg e]
      have := ih k n (i + 1) l (by omega) (by omega) (by omega) hl
      rw [show ((i + 1 : Nat) : Int) = (i : Int) + 1 from by omega] at this
      rw [this]; congr 1; omega
theorem In_f (k : Nat) (l : List Int) (hk : l.length < k) (hl : l.length < 9223372036854775807) : epoch_In.f k l = some ((cnt l : Nat) : Int) := by
  have h := in_run l.length k 0 0 l (by omega) hk (Nat.le_refl _) hl
  rw [Nat.zero_add, List.drop_zero] at h
  exact h
theorem clone_f (l : List Int) (h : l.length < 17592186044416) : slices_Clone_int_int.f l = some l := if_pos h
/-- A drive's state, or Gone. -/
def st (l : List Int) (n : Int) : Int := if 0 ≤ n ∧ n < (l.length : Int) then l.getD n.toNat 0 else 0
theorem of_f (l : List Int) (n : Int) : epoch_of.f l n = some (st l n) := by
  unfold epoch_of.f st
  by_cases h : n < 0
  · rw [if_pos h, if_neg (by omega)]
  · rw [if_neg h]
    by_cases h' : n ≥ (l.length : Int)
    · rw [if_pos h', if_neg (by omega)]
    · rw [if_neg h', if_pos (by omega), if_pos (by omega), if_pos (by omega)]
      rfl
theorem turned_f (l : List Int) (n v : Int) (h0 : 0 ≤ n) (h1 : n < (l.length : Int)) (hl : l.length < 17592186044416) : epoch_turned.f l n v = some (l.set n.toNat v) := by
  unfold epoch_turned.f
  rw [clone_f l hl]
  simp only [Option.bind_some]
  rw [if_pos h0, if_pos h1]
theorem st_in {l : List Int} {n : Int} (h : st l n ≠ 0) : 0 ≤ n ∧ n < (l.length : Int) := by
  unfold st at h
  split at h
  · assumption
  · exact absurd rfl h
def drain (l : List Int) (n need : Int) : List Int × Int := if st l n = 1 then (if (cnt l : Int) - 1 < need then ([], 10) else (l.set n.toNat 2, 0)) else ([], 7)
theorem drain_f (k : Nat) (l : List Int) (n need : Int) (hk : l.length < k) (hl : l.length < 17592186044416) : epoch_Drain.f k l n need = some (drain l n need) := by
  unfold epoch_Drain.f drain
  have hc := cnt_le l
  rw [of_f, In_f k l hk (by omega)]
  simp only [Option.bind_some]
  rw [wrap_small (by omega) (by omega)]
  by_cases h : st l n = 1
  · have hi := st_in (l := l) (n := n) (by rw [h]; decide)
    rw [if_pos h, if_pos h, turned_f l n 2 hi.1 hi.2 hl]
    by_cases h' : (cnt l : Int) - 1 < need
    · rw [if_pos h', if_pos h']
    · rw [if_neg h', if_neg h']
      rfl
  · rw [if_neg h, if_neg h]
theorem join_f (l : List Int) (h : l.length < 12) : epoch_Join.f l = some (l ++ [1], 0) := if_neg (by omega)
theorem answers_f (k : Nat) (hk : 10 ≤ k) : flittinglaw13_answers.f k = some true := by
  unfold flittinglaw13_answers.f
  rw [join_f [1] (by decide), drain_f k [1, 1] 0 1 (by simp; omega) (by decide)]
  simp only [Option.bind_some]
  rw [show ([1] : List Int) ++ [1] = [1, 1] from rfl, In_f k [1, 1] (by simp; omega) (by decide)]
  decide
theorem in_run' (d : Nat) : ∀ (k n i : Nat) (l : List Int), d + i = l.length → d < k → n ≤ i → l.length < 9223372036854775807 → flittinglaw13_in.l0 k l (n : Int) (i : Int) = some ((n + cnt (l.drop i) : Nat) : Int) := by
  induction d with
  | zero =>
    intro k n i l hd hk hn hl
    obtain ⟨k, rfl⟩ : ∃ m, k = m + 1 := ⟨k - 1, by omega⟩
    simp only [flittinglaw13_in.l0]
    rw [if_neg (by omega), List.drop_eq_nil_of_le (by omega)]
    rfl
  | succ d ih =>
    intro k n i l hd hk hn hl
    obtain ⟨k, rfl⟩ : ∃ m, k = m + 1 := ⟨k - 1, by omega⟩
    simp only [flittinglaw13_in.l0]
    rw [if_pos (by omega), if_pos (by omega), rd_nat, cnt_drop l i (by omega), wrap_small (i := (n : Int) + 1) (by omega) (by omega), wrap_small (i := (i : Int) + 1) (by omega) (by omega)]
    by_cases e : l.getD i 0 = 1
    · rw [if_pos e, if_pos e]
      have := ih k (n + 1) (i + 1) l (by omega) (by omega) (by omega) hl
      rw [show ((n + 1 : Nat) : Int) = (n : Int) + 1 from by omega, show ((i + 1 : Nat) : Int) = (i : Int) + 1 from by omega] at this
      rw [this]; congr 1; omega
    · rw [if_neg e, if_neg e]
      have := ih k n (i + 1) l (by omega) (by omega) (by omega) hl
      rw [show ((i + 1 : Nat) : Int) = (i : Int) + 1 from by omega] at this
      rw [this]; congr 1; omega
theorem in_f (k : Nat) (l : List Int) (hk : l.length < k) (hl : l.length < 9223372036854775807) : flittinglaw13_in.f k l = some ((cnt l : Nat) : Int) := by
  have h := in_run' l.length k 0 0 l (by omega) hk (Nat.le_refl _) hl
  rw [Nat.zero_add, List.drop_zero] at h
  exact h
def remove (l : List Int) (n : Int) : List Int × Int := if st l n = 1 then ([], 11) else if st l n = 2 then (l.set n.toNat 0, 0) else ([], 7)
theorem remove_f (l : List Int) (n : Int) (hl : l.length < 17592186044416) : epoch_Remove.f l n = some (remove l n) := by
  unfold epoch_Remove.f remove
  rw [of_f]
  simp only [Option.bind_some]
  by_cases h : st l n = 1
  · rw [if_pos h, if_pos h]
  · rw [if_neg h, if_neg h]
    by_cases h' : st l n = 2
    · have hi := st_in (l := l) (n := n) (by rw [h']; decide)
      rw [if_pos h', if_pos h', turned_f l n 0 hi.1 hi.2 hl]
      rfl
    · rw [if_neg h', if_neg h']
theorem st_at (l : List Int) (v : Int) : st (l ++ [v]) (l.length : Int) = v := by
  unfold st
  rw [if_pos (by simp; omega)]
  simp
theorem set_at (l : List Int) (v u : Int) : (l ++ [v]).set (l.length : Int).toNat u = l ++ [u] := by
  simp [List.set_append]
theorem cnt_at (l : List Int) (v : Int) : cnt (l ++ [v]) = cnt l + (if v = 1 then 1 else 0) := by
  unfold cnt
  rw [List.count_append, List.count_singleton]
  by_cases h : v = 1 <;> simp [h]
theorem EpochWay : flittinglaw13_EpochWay.Pure := by
  intro l _ hl _
  obtain ⟨K, hK⟩ : ∃ K : Nat, K = l.length + 20 := ⟨_, rfl⟩
  refine ⟨K, ?_⟩
  unfold flittinglaw13_EpochWay.f
  have ha := answers_f K (by omega)
  by_cases h1 : (l.length : Int) > 11
  · rw [if_pos h1, ha]; rfl
  · rw [if_neg h1, join_f l (by omega)]
    simp only [Option.bind_some]
    have e1 : remove (l ++ [1]) (l.length : Int) = ([], 11) := by unfold remove; rw [st_at]; rfl
    have e2 : drain (l ++ [1]) (l.length : Int) (cnt l : Int) = (l ++ [2], 0) := by
      unfold drain
      rw [st_at, if_pos rfl, cnt_at, if_pos rfl, if_neg (by omega), set_at]
    have e3 : drain (l ++ [2]) (l.length : Int) 0 = ([], 7) := by unfold drain; rw [st_at]; rfl
    have e4 : remove (l ++ [2]) (l.length : Int) = (l ++ [0], 0) := by unfold remove; rw [st_at, set_at]; rfl
    have e5 : remove (l ++ [0]) (l.length : Int) = ([], 7) := by unfold remove; rw [st_at]; rfl
    rw [remove_f (l ++ [1]) _ (by simp; omega), e1, in_f K l (by omega) (by omega)]
    simp only [Option.bind_some]
    rw [drain_f K (l ++ [1]) _ _ (by simp; omega) (by simp; omega), e2]
    simp only [Option.bind_some]
    rw [drain_f K (l ++ [2]) _ _ (by simp; omega) (by simp; omega), e3, remove_f (l ++ [2]) _ (by simp; omega), e4]
    simp only [Option.bind_some]
    rw [remove_f (l ++ [0]) _ (by simp; omega), e5, ha]
    simp only [Option.bind_some, if_true]
    rw [In_f K (l ++ [0]) (by simp; omega) (by simp; omega), cnt_at]
    simp
end Go.Proofs.Ytphfaiagkgkiaaa.PureEpochWay
namespace Go.Proofs.Ytphfaiagkgkiaaa.Pure
theorem EpochWay : Go.Proofs.Ytphfaiagkgkiaaa.PEpochWay.flittinglaw13_EpochWay.Pure := Go.Proofs.Ytphfaiagkgkiaaa.PureEpochWay.EpochWay
end Go.Proofs.Ytphfaiagkgkiaaa.Pure
