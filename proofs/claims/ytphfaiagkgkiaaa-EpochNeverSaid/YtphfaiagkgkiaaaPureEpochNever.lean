/- However drives are drained, there are never fewer In than are needed. No condition. -/
import Derived.Test.YtphfaiagkgkiaaaPEpochNeverx0
import Derived.Test.YtphfaiagkgkiaaaPEpochNeverx1
import Derived.Test.YtphfaiagkgkiaaaPEpochNeverx2
namespace Go.Proofs.Ytphfaiagkgkiaaa.PureEpochNever
open Go.RowKit Go.Proofs.Ytphfaiagkgkiaaa.PEpochNever Go.Proofs.YtphfaiagkgkiaaaW.PrintWords Go.Proofs.YtphfaiagkgkiaaaW.PrintLast Go.Proofs.YtphfaiagkgkiaaaW.PrintMore 
set_option linter.unusedVariables false
set_option linter.unusedSimpArgs false
theorem wrap_small {i : Int} (h0 : -9223372036854775808 ≤ i) (h : i < 9223372036854775808) : wrap64 i = i := by unfold wrap64; omega
theorem rd_nat (l : List Int) (i : Nat) : rd l (i : Int) = l.getD i 0 := by simp [rd]
theorem getD_lt (l : List Int) (i : Nat) (h : i < l.length) : l.getD i 0 = l[i] := by simp [h]
def cnt (l : List Int) : Nat := l.count 1
theorem cnt_le (l : List Int) : cnt l ≤ l.length := List.count_le_length
theorem cnt_drop (l : List Int) (i : Nat) (h : i < l.length) : cnt (l.drop i) = (if l.getD i 0 = 1 then 1 else 0) + cnt (l.drop (i + 1)) := by
  unfold cnt
  rw [List.drop_eq_getElem_cons h, List.count_cons, getD_lt l i h]
  by_cases e : l[i] = 1
  · simp [e]; omega
  · simp [e]
theorem in_run (d : Nat) : ∀ (k n i : Nat) (l : List Int), d + i = l.length → d < k → n ≤ i → l.length < 9223372036854775807 → epoch_In.l0 k (n : Int) l (l.length : Int) (i : Int) = some ((n + cnt (l.drop i) : Nat) : Int) := by
  induction d with
  | zero =>
    intro k n i l hd hk hn hl
    obtain ⟨k, rfl⟩ : ∃ m, k = m + 1 := ⟨k - 1, by omega⟩
    simp only [epoch_In.l0]
    rw [if_neg (by omega), List.drop_eq_nil_of_le (by omega)]
    rfl
  | succ d ih =>
    intro k n i l hd hk hn hl
    obtain ⟨k, rfl⟩ : ∃ m, k = m + 1 := ⟨k - 1, by omega⟩
    simp only [epoch_In.l0]
    rw [if_pos (by omega), if_pos (by omega), if_pos (by omega), rd_nat, cnt_drop l i (by omega), wrap_small (i := (n : Int) + 1) (by omega) (by omega), wrap_small (i := (i : Int) + 1) (by omega) (by omega)]
    by_cases e : l.getD i 0 = 1
    · rw [if_pos e, if_pos e]
      have := ih k (n + 1) (i + 1) l (by omega) (by omega) (by omega) hl
      rw [show ((n + 1 : Nat) : Int) = (n : Int) + 1 from by omega, show ((i + 1 : Nat) : Int) = (i : Int) + 1 from by omega] at this
      rw [this]; congr 1; omega
    · rw [if_neg e, if_neg e]
      have := ih k n (i + 1) l (by omega) (by omega) (by omega) hl
      rw [show ((i + 1 : Nat) : Int) = (i : Int) + 1 from by omega] at this
      rw [this]; congr 1; omega
theorem In_f (k : Nat) (l : List Int) (hk : l.length < k) (hl : l.length < 9223372036854775807) : epoch_In.f k l = some ((cnt l : Nat) : Int) := by
  have h := in_run l.length k 0 0 l (by omega) hk (Nat.le_refl _) hl
  rw [Nat.zero_add, List.drop_zero] at h
  exact h
theorem clone_f (l : List Int) (h : l.length < 17592186044416) : slices_Clone_int_int.f l = some l := if_pos h
/-- A drive's state, or Gone. -/
def st (l : List Int) (n : Int) : Int := if 0 ≤ n ∧ n < (l.length : Int) then l.getD n.toNat 0 else 0
theorem of_f (l : List Int) (n : Int) : epoch_of.f l n = some (st l n) := by
  unfold epoch_of.f st
  by_cases h : n < 0
  · rw [if_pos h, if_neg (by omega)]
  · rw [if_neg h]
    by_cases h' : n ≥ (l.length : Int)
    · rw [if_pos h', if_neg (by omega)]
    · rw [if_neg h', if_pos (by omega), if_pos (by omega), if_pos (by omega)]
      rfl
theorem turned_f (l : List Int) (n v : Int) (h0 : 0 ≤ n) (h1 : n < (l.length : Int)) (hl : l.length < 17592186044416) : epoch_turned.f l n v = some (l.set n.toNat v) := by
  unfold epoch_turned.f
  rw [clone_f l hl]
  simp only [Option.bind_some]
  rw [if_pos h0, if_pos h1]
theorem st_in {l : List Int} {n : Int} (h : st l n ≠ 0) : 0 ≤ n ∧ n < (l.length : Int) := by
  unfold st at h
  split at h
  · assumption
  · exact absurd rfl h
def drain (l : List Int) (n need : Int) : List Int × Int := if st l n = 1 then (if (cnt l : Int) - 1 < need then ([], 10) else (l.set n.toNat 2, 0)) else ([], 7)
theorem drain_f (k : Nat) (l : List Int) (n need : Int) (hk : l.length < k) (hl : l.length < 17592186044416) : epoch_Drain.f k l n need = some (drain l n need) := by
  unfold epoch_Drain.f drain
  have hc := cnt_le l
  rw [of_f, In_f k l hk (by omega)]
  simp only [Option.bind_some]
  rw [wrap_small (by omega) (by omega)]
  by_cases h : st l n = 1
  · have hi := st_in (l := l) (n := n) (by rw [h]; decide)
    rw [if_pos h, if_pos h, turned_f l n 2 hi.1 hi.2 hl]
    by_cases h' : (cnt l : Int) - 1 < need
    · rw [if_pos h', if_pos h']
    · rw [if_neg h', if_neg h']
      rfl
  · rw [if_neg h, if_neg h]
theorem join_f (l : List Int) (h : l.length < 12) : epoch_Join.f l = some (l ++ [1], 0) := if_neg (by omega)
theorem answers_f (k : Nat) (hk : 10 ≤ k) : flittinglaw13_answers.f k = some true := by
  unfold flittinglaw13_answers.f
  rw [join_f [1] (by decide), drain_f k [1, 1] 0 1 (by simp; omega) (by decide)]
  simp only [Option.bind_some]
  rw [show ([1] : List Int) ++ [1] = [1, 1] from rfl, In_f k [1, 1] (by simp; omega) (by decide)]
  decide
theorem in_run' (d : Nat) : ∀ (k n i : Nat) (l : List Int), d + i = l.length → d < k → n ≤ i → l.length < 9223372036854775807 → flittinglaw13_in.l0 k l (n : Int) (i : Int) = some ((n + cnt (l.drop i) : Nat) : Int) := by
  induction d with
  | zero =>
    intro k n i l hd hk hn hl
    obtain ⟨k, rfl⟩ : ∃ m, k = m + 1 := ⟨k - 1, by omega⟩
    simp only [flittinglaw13_in.l0]
    rw [if_neg (by omega), List.drop_eq_nil_of_le (by omega)]
    rfl
  | succ d ih =>
    intro k n i l hd hk hn hl
    obtain ⟨k, rfl⟩ : ∃ m, k = m + 1 := ⟨k - 1, by omega⟩
    simp only [flittinglaw13_in.l0]
    rw [if_pos (by omega), if_pos (by omega), rd_nat, cnt_drop l i (by omega), wrap_small (i := (n : Int) + 1) (by omega) (by omega), wrap_small (i := (i : Int) + 1) (by omega) (by omega)]
    by_cases e : l.getD i 0 = 1
    · rw [if_pos e, if_pos e]
      have := ih k (n + 1) (i + 1) l (by omega) (by omega) (by omega) hl
      rw [show ((n + 1 : Nat) : Int) = (n : Int) + 1 from by omega, show ((i + 1 : Nat) : Int) = (i : Int) + 1 from by omega] at this
      rw [this]; congr 1; omega
    · rw [if_neg e, if_neg e]
      have := ih k n (i + 1) l (by omega) (by omega) (by omega) hl
      rw [show ((i + 1 : Nat) : Int) = (i : Int) + 1 from by omega] at this
      rw [this]; congr 1; omega
theorem in_f (k : Nat) (l : List Int) (hk : l.length < k) (hl : l.length < 9223372036854775807) : flittinglaw13_in.f k l = some ((cnt l : Nat) : Int) := by
  have h := in_run' l.length k 0 0 l (by omega) hk (Nat.le_refl _) hl
  rw [Nat.zero_add, List.drop_zero] at h
  exact h
def remove (l : List Int) (n : Int) : List Int × Int := if st l n = 1 then ([], 11) else if st l n = 2 then (l.set n.toNat 0, 0) else ([], 7)
theorem remove_f (l : List Int) (n : Int) (hl : l.length < 17592186044416) : epoch_Remove.f l n = some (remove l n) := by
  unfold epoch_Remove.f remove
  rw [of_f]
  simp only [Option.bind_some]
  by_cases h : st l n = 1
  · rw [if_pos h, if_pos h]
  · rw [if_neg h, if_neg h]
    by_cases h' : st l n = 2
    · have hi := st_in (l := l) (n := n) (by rw [h']; decide)
      rw [if_pos h', if_pos h', turned_f l n 0 hi.1 hi.2 hl]
      rfl
    · rw [if_neg h', if_neg h']
theorem byte_of {a : Int} (h : (Lit.int .u8 a).wf = true) : 0 ≤ a ∧ a < 256 := by
  simp [Lit.wf, IntKind.min, IntKind.max, IntKind.signed, IntKind.bits] at h
  omega
/-- Only In and Draining. -/
def fine (l : List Int) : Prop := ∀ x ∈ l, x = 1 ∨ x = 2
def two (l : List Int) : Nat := l.count 2
theorem cnt_two (l : List Int) (h : fine l) : cnt l + two l = l.length := by
  induction l with
  | nil => rfl
  | cons x l ih =>
    have := ih (fun y hy => h y (List.mem_cons_of_mem _ hy))
    unfold cnt two at this ⊢
    rw [List.count_cons, List.count_cons, List.length_cons]
    rcases h x List.mem_cons_self with rfl | rfl
    · simp; omega
    · simp; omega
theorem cnt_set (l : List Int) (n : Nat) (h : n < l.length) (h1 : l.getD n 0 = 1) : cnt (l.set n 2) + 1 = cnt l := by
  unfold cnt
  rw [List.count_set h]
  rw [getD_lt l n h] at h1
  rw [h1]
  have : 0 < l.count 1 := List.count_pos_iff.2 (by rw [← h1]; exact List.getElem_mem h)
  simp
  omega
theorem fine_set (l : List Int) (n : Nat) (h : fine l) : fine (l.set n 2) := by
  intro x hx
  rcases List.mem_or_eq_of_mem_set hx with hx | hx
  · exact h x hx
  · exact .inr hx
theorem fill_run (d : Nat) : ∀ (k i : Nat) (a1 : Int) (ps : List Int) (n : Nat), d + i = n → n ≤ 12 → (∀ k', 1000 ≤ k' → flittinglaw13_EpochNever.l1 k' a1 ps (n : Int) (List.replicate n 1) 0 = some true) → d + 1001 ≤ k →
    flittinglaw13_EpochNever.l0 k a1 ps (n : Int) (List.replicate i 1 ++ List.replicate d 0) (i : Int) = some true := by
  induction d with
  | zero =>
    intro k i a1 ps n hd hn hp hk
    obtain ⟨k, rfl⟩ : ∃ m, k = m + 1 := ⟨k - 1, by omega⟩
    simp only [flittinglaw13_EpochNever.l0]
    rw [if_neg (by omega)]
    obtain rfl : i = n := by omega
    simpa using hp k (by omega)
  | succ d ih =>
    intro k i a1 ps n hd hn hp hk
    obtain ⟨k, rfl⟩ : ∃ m, k = m + 1 := ⟨k - 1, by omega⟩
    simp only [flittinglaw13_EpochNever.l0]
    rw [if_pos (by omega), if_pos (by omega), if_pos (by simp; omega), wrap_small (by omega) (by omega)]
    have e : (List.replicate i (1 : Int) ++ List.replicate (d + 1) 0).set (i : Int).toNat 1 = List.replicate (i + 1) 1 ++ List.replicate d 0 := by
      rw [Int.toNat_natCast, List.set_append, if_neg (by simp), List.length_replicate, Nat.sub_self, List.replicate_succ, List.set_cons_zero, List.replicate_succ', List.append_assoc]
      rfl
    rw [e]
    exact ih k (i + 1) a1 ps n (by omega) hn hp (by omega)
theorem left_run (d : Nat) : ∀ (k i m : Nat) (l : List Int), d + i = l.length → l.length ≤ 12 → fine l → m = two (l.take i) → d + 100 ≤ k →
    flittinglaw13_EpochNever.l2 k (l.length : Int) l (m : Int) (i : Int) = some true := by
  induction d with
  | zero =>
    intro k i m l hd hl hf hm hk
    obtain ⟨k, rfl⟩ : ∃ m, k = m + 1 := ⟨k - 1, by omega⟩
    simp only [flittinglaw13_EpochNever.l2]
    rw [if_neg (by omega), answers_f k (by omega), in_f k l (by omega) (by omega)]
    simp only [Option.bind_some, if_true]
    rw [List.take_of_length_le (by omega)] at hm
    have := cnt_two l hf
    rw [wrap_small (by omega) (by omega), show ((m : Int) + (cnt l : Int)) = (l.length : Int) from by omega]
    simp
  | succ d ih =>
    intro k i m l hd hl hf hm hk
    obtain ⟨k, rfl⟩ : ∃ m, k = m + 1 := ⟨k - 1, by omega⟩
    simp only [flittinglaw13_EpochNever.l2]
    have hi : i < l.length := by omega
    have hmm : m ≤ i := by rw [hm]; exact Nat.le_trans List.count_le_length (by simp; omega)
    have ht : two (l.take (i + 1)) = two (l.take i) + (if l.getD i 0 = 2 then 1 else 0) := by
      unfold two
      rw [List.take_succ_eq_append_getElem hi, List.count_append, List.count_singleton, getD_lt l i hi]
      by_cases e : l[i] = 2 <;> simp [e]
    have hst : st l (i : Int) = l.getD i 0 := by unfold st; rw [if_pos (by omega)]; simp
    rw [if_pos (by omega), remove_f l (i : Int) (by omega), wrap_small (i := (m : Int) + 1) (by omega) (by omega), wrap_small (i := (i : Int) + 1) (by omega) (by omega)]
    simp only [Option.bind_some]
    rcases hf l[i] (List.getElem_mem hi) with e | e
    · have e' : l.getD i 0 = 1 := by rw [getD_lt l i hi, e]
      have er : (remove l (i : Int)).2 = 11 := by unfold remove; rw [hst, e']; rfl
      rw [er, if_neg (by decide)]
      exact ih k (i + 1) m l (by omega) hl hf (by rw [ht, e']; simpa using hm) (by omega)
    · have e' : l.getD i 0 = 2 := by rw [getD_lt l i hi, e]
      have er : (remove l (i : Int)).2 = 0 := by unfold remove; rw [hst, e']; rfl
      rw [er, if_pos rfl]
      exact ih k (i + 1) (m + 1) l (by omega) hl hf (by rw [ht, e']; simp [hm]) (by omega)
theorem picks_run (d : Nat) : ∀ (k i : Nat) (a1 : Int) (ps l : List Int), d + i = ps.length → ps.length ≤ 60 → 0 < l.length → l.length ≤ 12 → fine l → 0 ≤ a1 → a1 < 256 → (∀ x ∈ ps, 0 ≤ x ∧ x < 256) → d + 500 ≤ k →
    flittinglaw13_EpochNever.l1 k a1 ps (l.length : Int) l (i : Int) = some true := by
  induction d with
  | zero =>
    intro k i a1 ps l hd hp h0 hl hf ha0 ha hx hk
    obtain ⟨k, rfl⟩ : ∃ m, k = m + 1 := ⟨k - 1, by omega⟩
    simp only [flittinglaw13_EpochNever.l1]
    rw [if_neg (by omega)]
    exact left_run l.length k 0 0 l (by omega) hl hf (by simp [two]) (by omega)
  | succ d ih =>
    intro k i a1 ps l hd hp h0 hl hf ha0 ha hx hk
    obtain ⟨k, rfl⟩ : ∃ m, k = m + 1 := ⟨k - 1, by omega⟩
    simp only [flittinglaw13_EpochNever.l1]
    have hi : i < ps.length := by omega
    have hb := hx ps[i] (List.getElem_mem hi)
    rw [if_pos (by omega), if_pos (by omega), if_neg (by omega), rd_nat, getD_lt ps i hi, drain_f k l _ _ (by omega) (by omega), wrap_small (i := (i : Int) + 1) (by omega) (by omega), wrap_small (i := ps[i]) (by omega) (by omega)]
    simp only [Option.bind_some]
    have hneed : wrap64 (Int.tmod a1 13) = a1 % 13 := by rw [Int.tmod_eq_emod_of_nonneg ha0, wrap_small (by omega) (by omega)]
    rw [hneed, Int.tmod_eq_emod_of_nonneg hb.1]
    generalize hn : ps[i] % (l.length : Int) = n
    have hn0 : 0 ≤ n := by rw [← hn]; exact Int.emod_nonneg _ (by omega)
    have hn1 : n < (l.length : Int) := by rw [← hn]; exact Int.emod_lt_of_pos _ (by omega)
    have hst : st l n = l.getD n.toNat 0 := by unfold st; rw [if_pos ⟨hn0, hn1⟩]
    unfold drain
    by_cases h1 : st l n = 1
    · rw [if_pos h1]
      by_cases h2 : (cnt l : Int) - 1 < a1 % 13
      · rw [if_pos h2]
        simp only
        rw [if_neg (by decide)]
        exact ih k (i + 1) a1 ps l (by omega) hp h0 hl hf ha0 ha hx (by omega)
      · rw [if_neg h2]
        simp only
        rw [if_pos trivial, in_f k _ (by rw [List.length_set]; omega) (by rw [List.length_set]; omega)]
        simp only [Option.bind_some]
        have hc := cnt_set l n.toNat (by omega) (by rw [← hst, h1])
        rw [if_neg (by omega)]
        have := ih k (i + 1) a1 ps (l.set n.toNat 2) (by omega) hp (by rw [List.length_set]; exact h0) (by rw [List.length_set]; exact hl) (fine_set l _ hf) ha0 ha hx (by omega)
        rw [List.length_set] at this
        exact this
    · rw [if_neg h1]
      simp only
      rw [if_neg (by decide)]
      exact ih k (i + 1) a1 ps l (by omega) hp h0 hl hf ha0 ha hx (by omega)
theorem EpochNever : flittinglaw13_EpochNever.Pure := by
  intro a0 a1 ps w0 w1 _ _ hw
  have h0 := byte_of w0
  have h1 := byte_of w1
  have hx : ∀ x ∈ ps, 0 ≤ x ∧ x < 256 := fun x hx => byte_of (hw x hx)
  obtain ⟨K, hK⟩ : ∃ K : Nat, K = 2000 := ⟨_, rfl⟩
  refine ⟨K, ?_⟩
  unfold flittinglaw13_EpochNever.f
  by_cases hl : (ps.length : Int) > 60
  · rw [if_pos hl, answers_f K (by omega)]; rfl
  · rw [if_neg hl, Int.tmod_eq_emod_of_nonneg h0.1, wrap_small (i := a0 % 12) (by omega) (by omega), wrap_small (by omega) (by omega), if_pos (by omega), if_pos (by omega)]
    obtain ⟨n, hn⟩ : ∃ n : Nat, (n : Int) = a0 % 12 + 1 := ⟨(a0 % 12 + 1).toNat, by omega⟩
    rw [← hn, Int.toNat_natCast]
    refine fill_run n K 0 a1 ps n (by omega) (by omega) (fun k' hk' => ?_) (by omega)
    have := picks_run ps.length k' 0 a1 ps (List.replicate n 1) (by omega) (by omega) (by simp; omega) (by simp; omega) (fun x hx => .inl (List.eq_of_mem_replicate hx)) h1.1 h1.2 hx (by omega)
    rw [List.length_replicate] at this
    exact this
end Go.Proofs.Ytphfaiagkgkiaaa.PureEpochNever
namespace Go.Proofs.Ytphfaiagkgkiaaa.Pure
theorem EpochNever : Go.Proofs.Ytphfaiagkgkiaaa.PEpochNever.flittinglaw13_EpochNever.Pure := Go.Proofs.Ytphfaiagkgkiaaa.PureEpochNever.EpochNever
end Go.Proofs.Ytphfaiagkgkiaaa.Pure
