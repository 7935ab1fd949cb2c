/- Products of bytes are associative and distribute over sums; 1 changes nothing. No condition. -/
import Derived.Test.YtjmpdiichaokhaaPGfLawsx1
import Derived.Test.YtjmpdiichaokhaaGf
import Derived.Laws.Bits128
namespace Go.Proofs.Ytjmpdiichaokhaa.PureGfLaws
open Go.RowKit Go.Proofs.Ytjmpdiichaokhaa.PGfLaws Go.Proofs.YtjmpdiichaokhaaW.PrintWords Go.Proofs.YtjmpdiichaokhaaW.PrintLast Go.Proofs.YtjmpdiichaokhaaW.PrintMore
open Go.Proofs.Ytjmpdiichaokhaa
theorem wrap_small {i : Int} (h0 : 0 ≤ i) (h : i < 9223372036854775808) : wrap64 i = i := by unfold wrap64; omega
theorem mul_round (k a b o i : Nat) (ha : a < 256) (hb : b < 256) (ho : o < 256) (hi : i < 8) :
    gf_Mul.l0 (k + 1) (a : Int) (b : Int) (o : Int) (i : Int) = gf_Mul.l0 k ((Gf.xt a : Nat) : Int) ((b / 2 : Nat) : Int) ((o ^^^ (a * (b % 2)) : Nat) : Int) ((i + 1 : Nat) : Int) := by
  simp only [gf_Mul.l0]
  rw [if_pos (by omega)]
  have e1 : Go.bits .xor .u8 (((a : Int) * 2) % 256) ((29 * ((Int.tdiv (a : Int) 128) % 256)) % 256) = ((Gf.xt a : Nat) : Int) := by
    rw [Int.tdiv_eq_ediv_of_nonneg (by omega)]
    rw [show ((a : Int) * 2) % 256 = ((a * 2 % 256 : Nat) : Int) from by omega, show (29 * (((a : Int) / 128) % 256)) % 256 = ((29 * (a / 128 % 256) % 256 : Nat) : Int) from by omega]
    rw [Go.u8_xor_nat (a * 2 % 256) (29 * (a / 128 % 256) % 256) (by omega) (by omega)]
    rfl
  have e2 : ((a : Int) * (Go.bits .and .u8 (b : Int) 1)) % 256 = ((a * (b % 2) : Nat) : Int) := by
    rw [show (1 : Int) = ((1 : Nat) : Int) from rfl, Go.u8_and_nat b 1 hb (by decide), Go.nat_mask1]
    rcases Nat.mod_two_eq_zero_or_one b with h | h <;> rw [h] <;> omega
  have hlt : a * (b % 2) < 256 := by rcases Nat.mod_two_eq_zero_or_one b with h | h <;> rw [h] <;> omega
  rw [e1, e2, Go.u8_xor_nat _ _ ho hlt, wrap_small (by omega) (by omega)]
  rw [show ((b : Int) / 2) = ((b / 2 : Nat) : Int) from by omega, show ((i : Int) + 1) = ((i + 1 : Nat) : Int) from by omega]
theorem mul_run (n : Nat) : ∀ (k a b o i : Nat), a < 256 → b < 256 → o < 256 → n + i = 8 → n < k → gf_Mul.l0 k (a : Int) (b : Int) (o : Int) (i : Int) = some ((Gf.mulG n a b o : Nat) : Int) := by
  induction n with
  | zero =>
    intro k a b o i ha hb ho hi hk
    obtain ⟨k, rfl⟩ : ∃ m, k = m + 1 := ⟨k - 1, by omega⟩
    simp only [gf_Mul.l0]
    rw [if_neg (by omega)]
    rfl
  | succ n ih =>
    intro k a b o i ha hb ho hi hk
    obtain ⟨k, rfl⟩ : ∃ m, k = m + 1 := ⟨k - 1, by omega⟩
    have hlt : a * (b % 2) < 256 := by rcases Nat.mod_two_eq_zero_or_one b with h | h <;> rw [h] <;> omega
    rw [mul_round k a b o i ha hb ho (by omega), ih k _ _ _ _ (Gf.xt_lt a) (by omega) (Gf.xor_lt ho hlt) (by omega) (by omega)]
    rfl
theorem mul_f (k a b : Nat) (ha : a < 256) (hb : b < 256) (hk : 9 ≤ k) : gf_Mul.f k (a : Int) (b : Int) = some ((Gf.gm a b : Nat) : Int) :=
  mul_run 8 k a b 0 0 ha hb (by decide) (by decide) (by omega)
theorem and1_i64 (x : Nat) (hx : x < 9223372036854775808) : Go.bits .and .i64 (x : Int) 1 = ((x % 2 : Nat) : Int) := by
  have h := Go.bits_mask .i64 63 (by decide) (fun n h0 h1 => by rw [Go.IntKind.wrap_i64]; omega) 1 (by decide) (x : Int) (by omega) (by omega)
  rw [show ((2 : Int) ^ 1 - 1) = 1 from rfl] at h
  rw [h]
  omega
theorem pow_run (j : Nat) : ∀ (k a x o : Nat), a < 256 → o < 256 → x < 2 ^ j → x < 9223372036854775808 → j + 10 ≤ k → gf_Pow.l0 k (a : Int) (x : Int) (o : Int) = some ((Gf.gm o (Gf.gp a x) : Nat) : Int) := by
  induction j with
  | zero =>
    intro k a x o ha ho hx h63 hk
    obtain ⟨k, rfl⟩ : ∃ m, k = m + 1 := ⟨k - 1, by omega⟩
    have hx0 : x = 0 := by rw [Nat.pow_zero] at hx; omega
    subst hx0
    simp only [gf_Pow.l0]
    rw [if_neg (by omega)]
    rw [Gf.gp, Gf.gm_one o ho]
  | succ j ih =>
    intro k a x o ha ho hx h63 hk
    obtain ⟨k, rfl⟩ : ∃ m, k = m + 1 := ⟨k - 1, by omega⟩
    by_cases h0 : x = 0
    · subst h0
      simp only [gf_Pow.l0]
      rw [if_neg (by omega), Gf.gp, Gf.gm_one o ho]
    · simp only [gf_Pow.l0]
      have hd : x / 2 < 2 ^ j := by rw [Nat.pow_succ] at hx; omega
      rw [if_pos (by omega), and1_i64 x h63, mul_f k o a ho ha (by omega), mul_f k a a ha ha (by omega)]
      simp only [Option.bind_some]
      rw [show ((x : Int) / 2) = ((x / 2 : Nat) : Int) from by omega]
      have haa : Gf.gm a a < 256 := Gf.gm_lt a a ha
      by_cases h1 : x % 2 = 1
      · rw [if_pos (by omega), ih k _ _ _ haa (Gf.gm_lt o a ho) hd (by omega) (by omega), Gf.gp_double a ha]
        have e : x = 2 * (x / 2) + 1 := by omega
        conv => rhs; rw [e, Gf.gp, ← Gf.gm_comm a _ ha (Gf.gp_lt a _ ha), Gf.gm_assoc o a _ ho ha (Gf.gp_lt a _ ha)]
      · rw [if_neg (by omega), ih k _ _ _ haa ho hd (by omega) (by omega), Gf.gp_double a ha]
        have e : x = 2 * (x / 2) := by omega
        conv => rhs; rw [e]
theorem pow_f (k a x : Nat) (ha : a < 256) (hx : x < 9223372036854775808) (hk : 80 ≤ k) : gf_Pow.f k (a : Int) (x : Int) = some ((Gf.gp a x : Nat) : Int) := by
  have h := pow_run 63 k a x 1 ha (by decide) (by omega) hx (by omega)
  rw [Gf.one_gm _ (Gf.gp_lt a x ha)] at h
  exact h
theorem inv_f (k a : Nat) (ha : a < 256) (hk : 80 ≤ k) : gf_Inv.f k (a : Int) = some ((Gf.gi a : Nat) : Int) := by
  unfold gf_Inv.f
  rw [show (254 : Int) = ((254 : Nat) : Int) from rfl, pow_f k a 254 ha (by decide) hk]
  rfl
theorem answers_f (k : Nat) (hk : 80 ≤ k) : flittinglaw01_answers.f k = some true := by
  unfold flittinglaw01_answers.f
  have h1 := mul_f k 2 128 (by decide) (by decide) (by omega)
  have h2 := inv_f k 1 (by decide) hk
  have h3 := pow_f k 2 8 (by decide) (by decide) hk
  rw [show (((Gf.gm 2 128 : Nat) : Int)) = 29 from by decide +kernel] at h1
  rw [show (((Gf.gi 1 : Nat) : Int)) = 1 from by decide +kernel] at h2
  rw [show (((Gf.gp 2 8 : Nat) : Int)) = 29 from by decide +kernel] at h3
  rw [show gf_Mul.f k 2 128 = some 29 from h1, show gf_Inv.f k 1 = some 1 from h2, show gf_Pow.f k 2 8 = some 29 from h3]
  rfl
theorem byte_of {a : Int} (h : (Lit.int .u8 a).wf = true) : ∃ n : Nat, n < 256 ∧ a = (n : Int) := by
  simp [Lit.wf, IntKind.min, IntKind.max, IntKind.signed, IntKind.bits] at h
  exact ⟨a.toNat, by omega, by omega⟩
theorem GfLaws : flittinglaw01_GfLaws.Pure := by
  intro a0 a1 a2 w0 w1 w2
  obtain ⟨a, ha, rfl⟩ := byte_of w0
  obtain ⟨b, hb, rfl⟩ := byte_of w1
  obtain ⟨c, hc, rfl⟩ := byte_of w2
  refine ⟨80, ?_⟩
  have hx : b ^^^ c < 256 := Gf.xor_lt hb hc
  have hab := Gf.gm_lt a b ha
  have hac := Gf.gm_lt a c ha
  have hbc := Gf.gm_lt b c hb
  have h1 : gf_Mul.f 80 (a : Int) 1 = some ((Gf.gm a 1 : Nat) : Int) := mul_f 80 a 1 ha (by decide) (by decide)
  unfold flittinglaw01_GfLaws.f
  rw [Go.u8_xor_nat b c hb hc]
  rw [answers_f 80 (by decide), mul_f 80 b c hb hc (by decide), mul_f 80 a b ha hb (by decide), mul_f 80 a c ha hc (by decide), mul_f 80 a _ ha hx (by decide), h1]
  simp only [Option.bind_some, if_true]
  rw [mul_f 80 a _ ha hbc (by decide), mul_f 80 _ c hab hc (by decide)]
  simp only [Option.bind_some]
  rw [Go.u8_xor_nat _ _ hab hac, Gf.gm_assoc a b c ha hb hc, Gf.gm_right, Gf.gm_one a ha]
  simp
end Go.Proofs.Ytjmpdiichaokhaa.PureGfLaws
namespace Go.Proofs.Ytjmpdiichaokhaa.Pure
theorem GfLaws : Go.Proofs.Ytjmpdiichaokhaa.PGfLaws.flittinglaw01_GfLaws.Pure := Go.Proofs.Ytjmpdiichaokhaa.PureGfLaws.GfLaws
end Go.Proofs.Ytjmpdiichaokhaa.Pure
