/- Inv of any byte is the document's; the product with any byte but 0 is 1. No condition. -/
import Derived.Test.YtjmpdiichaokhaaPGfInvx1
import Derived.Test.YtjmpdiichaokhaaGf
import Derived.Laws.Bits128
namespace Go.Proofs.Ytjmpdiichaokhaa.PureGfInv
open Go.RowKit Go.Proofs.Ytjmpdiichaokhaa.PGfInv Go.Proofs.YtjmpdiichaokhaaW.PrintWords Go.Proofs.YtjmpdiichaokhaaW.PrintLast Go.Proofs.YtjmpdiichaokhaaW.PrintMore
open Go.Proofs.Ytjmpdiichaokhaa
theorem wrap_small {i : Int} (h0 : 0 ≤ i) (h : i < 9223372036854775808) : wrap64 i = i := by unfold wrap64; omega
theorem mul_round (k a b o i : Nat) (ha : a < 256) (hb : b < 256) (ho : o < 256) (hi : i < 8) :
    gf_Mul.l0 (k + 1) (a : Int) (b : Int) (o : Int) (i : Int) = gf_Mul.l0 k ((Gf.xt a : Nat) : Int) ((b / 2 : Nat) : Int) ((o ^^^ (a * (b % 2)) : Nat) : Int) ((i + 1 : Nat) : Int) := by
  simp only [gf_Mul.l0]
  rw [if_pos (by omega)]
  have e1 : Go.bits .xor .u8 (((a : Int) * 2) % 256) ((29 * ((Int.tdiv (a : Int) 128) % 256)) % 256) = ((Gf.xt a : Nat) : Int) := by
    rw [Int.tdiv_eq_ediv_of_nonneg (by omega)]
    rw [show ((a : Int) * 2) % 256 = ((a * 2 % 256 : Nat) : Int) from by omega, show (29 * (((a : Int) / 128) % 256)) % 256 = ((29 * (a / 128 % 256) % 256 : Nat) : Int) from by omega]
    rw [Go.u8_xor_nat (a * 2 % 256) (29 * (a / 128 % 256) % 256) (by omega) (by omega)]
    rfl
  have e2 : ((a : Int) * (Go.bits .and .u8 (b : Int) 1)) % 256 = ((a * (b % 2) : Nat) : Int) := by
    rw [show (1 : Int) = ((1 : Nat) : Int) from rfl, Go.u8_and_nat b 1 hb (by decide), Go.nat_mask1]
    rcases Nat.mod_two_eq_zero_or_one b with h | h <;> rw [h] <;> omega
  have hlt : a * (b % 2) < 256 := by rcases Nat.mod_two_eq_zero_or_one b with h | h <;> rw [h] <;> omega
  rw [e1, e2, Go.u8_xor_nat _ _ ho hlt, wrap_small (by omega) (by omega)]
  rw [show ((b : Int) / 2) = ((b / 2 : Nat) : Int) from by omega, show ((i : Int) + 1) = ((i + 1 : Nat) : Int) from by omega]
theorem mul_run (n : Nat) : ∀ (k a b o i : Nat), a < 256 → b < 256 → o < 256 → n + i = 8 → n < k → gf_Mul.l0 k (a : Int) (b : Int) (o : Int) (i : Int) = some ((Gf.mulG n a b o : Nat) : Int) := by
  induction n with
  | zero =>
    intro k a b o i ha hb ho hi hk
    obtain ⟨k, rfl⟩ : ∃ m, k = m + 1 := ⟨k - 1, by omega⟩
    simp only [gf_Mul.l0]
    rw [if_neg (by omega)]
    rfl
  | succ n ih =>
    intro k a b o i ha hb ho hi hk
    obtain ⟨k, rfl⟩ : ∃ m, k = m + 1 := ⟨k - 1, by omega⟩
    have hlt : a * (b % 2) < 256 := by rcases Nat.mod_two_eq_zero_or_one b with h | h <;> rw [h] <;> omega
    rw [mul_round k a b o i ha hb ho (by omega), ih k _ _ _ _ (Gf.xt_lt a) (by omega) (Gf.xor_lt ho hlt) (by omega) (by omega)]
    rfl
theorem mul_f (k a b : Nat) (ha : a < 256) (hb : b < 256) (hk : 9 ≤ k) : gf_Mul.f k (a : Int) (b : Int) = some ((Gf.gm a b : Nat) : Int) :=
  mul_run 8 k a b 0 0 ha hb (by decide) (by decide) (by omega)
theorem and1_i64 (x : Nat) (hx : x < 9223372036854775808) : Go.bits .and .i64 (x : Int) 1 = ((x % 2 : Nat) : Int) := by
  have h := Go.bits_mask .i64 63 (by decide) (fun n h0 h1 => by rw [Go.IntKind.wrap_i64]; omega) 1 (by decide) (x : Int) (by omega) (by omega)
  rw [show ((2 : Int) ^ 1 - 1) = 1 from rfl] at h
  rw [h]
  omega
theorem pow_run (j : Nat) : ∀ (k a x o : Nat), a < 256 → o < 256 → x < 2 ^ j → x < 9223372036854775808 → j + 10 ≤ k → gf_Pow.l0 k (a : Int) (x : Int) (o : Int) = some ((Gf.gm o (Gf.gp a x) : Nat) : Int) := by
  induction j with
  | zero =>
    intro k a x o ha ho hx h63 hk
    obtain ⟨k, rfl⟩ : ∃ m, k = m + 1 := ⟨k - 1, by omega⟩
    have hx0 : x = 0 := by rw [Nat.pow_zero] at hx; omega
    subst hx0
    simp only [gf_Pow.l0]
    rw [if_neg (by omega)]
    rw [Gf.gp, Gf.gm_one o ho]
  | succ j ih =>
    intro k a x o ha ho hx h63 hk
    obtain ⟨k, rfl⟩ : ∃ m, k = m + 1 := ⟨k - 1, by omega⟩
    by_cases h0 : x = 0
    · subst h0
      simp only [gf_Pow.l0]
      rw [if_neg (by omega), Gf.gp, Gf.gm_one o ho]
    · simp only [gf_Pow.l0]
      have hd : x / 2 < 2 ^ j := by rw [Nat.pow_succ] at hx; omega
      rw [if_pos (by omega), and1_i64 x h63, mul_f k o a ho ha (by omega), mul_f k a a ha ha (by omega)]
      simp only [Option.bind_some]
      rw [show ((x : Int) / 2) = ((x / 2 : Nat) : Int) from by omega]
      have haa : Gf.gm a a < 256 := Gf.gm_lt a a ha
      by_cases h1 : x % 2 = 1
      · rw [if_pos (by omega), ih k _ _ _ haa (Gf.gm_lt o a ho) hd (by omega) (by omega), Gf.gp_double a ha]
        have e : x = 2 * (x / 2) + 1 := by omega
        conv => rhs; rw [e, Gf.gp, ← Gf.gm_comm a _ ha (Gf.gp_lt a _ ha), Gf.gm_assoc o a _ ho ha (Gf.gp_lt a _ ha)]
      · rw [if_neg (by omega), ih k _ _ _ haa ho hd (by omega) (by omega), Gf.gp_double a ha]
        have e : x = 2 * (x / 2) := by omega
        conv => rhs; rw [e]
theorem pow_f (k a x : Nat) (ha : a < 256) (hx : x < 9223372036854775808) (hk : 80 ≤ k) : gf_Pow.f k (a : Int) (x : Int) = some ((Gf.gp a x : Nat) : Int) := by
  have h := pow_run 63 k a x 1 ha (by decide) (by omega) hx (by omega)
  rw [Gf.one_gm _ (Gf.gp_lt a x ha)] at h
  exact h
theorem inv_f (k a : Nat) (ha : a < 256) (hk : 80 ≤ k) : gf_Inv.f k (a : Int) = some ((Gf.gi a : Nat) : Int) := by
  unfold gf_Inv.f
  rw [show (254 : Int) = ((254 : Nat) : Int) from rfl, pow_f k a 254 ha (by decide) hk]
  rfl
theorem answers_f (k : Nat) (hk : 80 ≤ k) : flittinglaw01_answers.f k = some true := by
  unfold flittinglaw01_answers.f
  have h1 := mul_f k 2 128 (by decide) (by decide) (by omega)
  have h2 := inv_f k 1 (by decide) hk
  have h3 := pow_f k 2 8 (by decide) (by decide) hk
  rw [show (((Gf.gm 2 128 : Nat) : Int)) = 29 from by decide +kernel] at h1
  rw [show (((Gf.gi 1 : Nat) : Int)) = 1 from by decide +kernel] at h2
  rw [show (((Gf.gp 2 8 : Nat) : Int)) = 29 from by decide +kernel] at h3
  rw [show gf_Mul.f k 2 128 = some 29 from h1, show gf_Inv.f k 1 = some 1 from h2, show gf_Pow.f k 2 8 = some 29 from h3]
  rfl
theorem byte_of {a : Int} (h : (Lit.int .u8 a).wf = true) : ∃ n : Nat, n < 256 ∧ a = (n : Int) := by
  simp [Lit.wf, IntKind.min, IntKind.max, IntKind.signed, IntKind.bits] at h
  exact ⟨a.toNat, by omega, by omega⟩
theorem wrap_u64 {i : Int} (h0 : 0 ≤ i) (h : i < 18446744073709551616) : IntKind.u64.wrap i = i := by
  rw [Go.IntKind.wrap_u64]; omega
theorem xor_i64 (a b : Nat) (ha : a < 2 ^ 62) (hb : b < 2 ^ 62) : Go.bits .xor .i64 (a : Int) (b : Int) = ((a ^^^ b : Nat) : Int) := by
  have hx : a ^^^ b < 2 ^ 62 := Nat.xor_lt_two_pow ha hb
  show IntKind.i64.wrap ((BitVec.ofInt 64 (a : Int) ^^^ BitVec.ofInt 64 (b : Int)).toNat : Int) = _
  rw [BitVec.toNat_xor, Go.ofInt_u64 a (by omega), Go.ofInt_u64 b (by omega), Go.IntKind.wrap_i64]
  omega
theorem bit_tmod (v i : Nat) : (Int.tmod ((v / 2 ^ i : Nat) : Int) 2 = 1) ↔ v.testBit i = true := by
  rw [Nat.testBit_eq_decide_div_mod_eq, decide_eq_true_iff, Int.tmod_eq_emod_of_nonneg (Int.natCast_nonneg _)]
  omega
theorem shr_nat (kd : IntKind) (v i : Nat) (hi : i ≤ kd.bits) : shr kd (v : Int) (i : Int) = ((v / 2 ^ i : Nat) : Int) := by
  unfold shr
  rw [Nat.min_eq_left (by omega)]
  simp
theorem shl_nat (v i : Nat) (hi : i ≤ 8) (hv : v < 2 ^ 9) : shl .i64 (v : Int) (i : Int) = ((v <<< i : Nat) : Int) := by
  unfold shl
  have hp : 2 ^ i ≤ 2 ^ 8 := Nat.pow_le_pow_right (by decide) hi
  rw [Nat.min_eq_left (by simp [IntKind.bits]; omega), Nat.shiftLeft_eq]
  rw [show ((v : Int) * 2 ^ (i : Int).toNat) = ((v * 2 ^ i : Nat) : Int) from by simp]
  have : v * 2 ^ i < 2 ^ 9 * 2 ^ 8 := Nat.mul_lt_mul_of_lt_of_le hv hp (by decide)
  rw [Go.IntKind.wrap_i64]
  omega
theorem shiftl_lt (v i : Nat) (hi : i ≤ 8) (hv : v < 2 ^ 9) : v <<< i < 2 ^ 17 := by
  have hp : 2 ^ i ≤ 2 ^ 8 := Nat.pow_le_pow_right (by decide) hi
  rw [Nat.shiftLeft_eq]
  exact Nat.lt_of_lt_of_le (Nat.mul_lt_mul_of_lt_of_le hv hp (by decide)) (by decide)
theorem prod_lt (a b n : Nat) (ha : a < 256) (hn : n ≤ 8) : Gf.prod a b n < 2 ^ 17 := by
  induction n with
  | zero => exact (by decide : 0 < 2 ^ 17)
  | succ n ih =>
    simp only [Gf.prod]
    refine Nat.xor_lt_two_pow (ih (by omega)) ?_
    split
    · exact shiftl_lt a n (by omega) (by omega)
    · decide
theorem red_run (n : Nat) : ∀ (k v : Nat), n ≤ 7 → v < 2 ^ 17 → n < k → flittingref01_Mul.l1 k (v : Int) ((n : Int) + 7) = some (((Gf.red n v : Nat) : Int) % 256) := by
  induction n with
  | zero =>
    intro k v _ hv hk
    obtain ⟨k, rfl⟩ : ∃ m, k = m + 1 := ⟨k - 1, by omega⟩
    simp only [flittingref01_Mul.l1]
    rw [if_neg (by omega)]
    rfl
  | succ n ih =>
    intro k v hn hv hk
    obtain ⟨k, rfl⟩ : ∃ m, k = m + 1 := ⟨k - 1, by omega⟩
    simp only [flittingref01_Mul.l1]
    rw [if_pos (by omega), show (((n + 1 : Nat) : Int) + 7) = ((n + 8 : Nat) : Int) from by omega, wrap_u64 (by omega) (by omega), if_pos (by omega), shr_nat .i64 v (n + 8) (by simp [IntKind.bits]; omega)]
    rw [show wrap64 (((n + 8 : Nat) : Int) - 8) = (n : Int) from by rw [wrap_small (by omega) (by omega)]; omega, wrap_u64 (by omega) (by omega),
      show wrap64 (((n + 8 : Nat) : Int) - 1) = (n : Int) + 7 from by rw [wrap_small (by omega) (by omega)]; omega]
    have hs : (285 <<< n : Nat) < 2 ^ 17 := shiftl_lt 285 n (by omega) (by decide)
    by_cases hb : v.testBit (n + 8) = true
    · rw [if_pos ((bit_tmod v (n + 8)).2 hb), if_pos (by omega), show (285 : Int) = ((285 : Nat) : Int) from rfl, shl_nat 285 n (by omega) (by decide), xor_i64 _ _ (by omega) (by omega), ih k _ (by omega) (Nat.xor_lt_two_pow hv hs) (by omega)]
      rw [Gf.red, if_pos hb]
    · rw [if_neg (fun h => hb ((bit_tmod v (n + 8)).1 h)), ih k _ (by omega) hv (by omega)]
      rw [Gf.red, if_neg hb, Nat.xor_zero]
theorem prod_run (n : Nat) : ∀ (k a b i : Nat), a < 256 → b < 256 → n + i = 8 → n + 9 < k → flittingref01_Mul.l0 k (a : Int) (b : Int) ((Gf.prod a b i : Nat) : Int) (i : Int) = some (((Gf.rm a b : Nat) : Int) % 256) := by
  induction n with
  | zero =>
    intro k a b i ha hb hi hk
    obtain ⟨k, rfl⟩ : ∃ m, k = m + 1 := ⟨k - 1, by omega⟩
    obtain rfl : i = 8 := by omega
    simp only [flittingref01_Mul.l0]
    rw [if_neg (by omega)]
    exact red_run 7 k _ (by decide) (prod_lt a b 8 ha (by decide)) (by omega)
  | succ n ih =>
    intro k a b i ha hb hi hk
    obtain ⟨k, rfl⟩ : ∃ m, k = m + 1 := ⟨k - 1, by omega⟩
    simp only [flittingref01_Mul.l0]
    rw [if_pos (by omega), wrap_u64 (by omega) (by omega), if_pos (by omega), shr_nat .u8 b i (by simp [IntKind.bits]; omega), wrap_small (i := (a : Int)) (by omega) (by omega), wrap_small (i := (i : Int) + 1) (by omega) (by omega)]
    have hs : (a <<< i : Nat) < 2 ^ 17 := shiftl_lt a i (by omega) (by omega)
    have hp := prod_lt a b i ha (by omega)
    have e := ih k a b (i + 1) ha hb (by omega) (by omega)
    rw [show ((i + 1 : Nat) : Int) = (i : Int) + 1 from by omega] at e
    by_cases hb' : b.testBit i = true
    · rw [if_pos ((bit_tmod b i).2 hb'), shl_nat a i (by omega) (by omega), xor_i64 _ _ (by omega) (by omega)]
      rw [Gf.prod, if_pos hb'] at e
      exact e
    · rw [if_neg (fun h => hb' ((bit_tmod b i).1 h))]
      rw [Gf.prod, if_neg hb', Nat.xor_zero] at e
      exact e
theorem ref_f (k a b : Nat) (ha : a < 256) (hb : b < 256) (hk : 80 ≤ k) : flittingref01_Mul.f k (a : Int) (b : Int) = some ((Gf.gm a b : Nat) : Int) := by
  have h := prod_run 8 k a b 0 ha hb (by decide) (by omega)
  rw [Gf.rm_eq a b ha hb] at h
  have := Gf.gm_lt a b ha
  rw [show (((Gf.gm a b : Nat) : Int) % 256) = ((Gf.gm a b : Nat) : Int) from by omega] at h
  exact h
theorem inv_run (d : Nat) : ∀ (k a i : Nat), a < 256 → d + i = 256 → d + 100 ≤ k → (a = 0 ∨ i ≤ Gf.gi a) →
    flittingref01_Inv.l0 k (a : Int) (i : Int) = some ((Gf.gi a : Nat) : Int) := by
  induction d with
  | zero =>
    intro k a i ha hd hk hi
    obtain ⟨k, rfl⟩ : ∃ m, k = m + 1 := ⟨k - 1, by omega⟩
    simp only [flittingref01_Inv.l0]
    rw [if_neg (by omega)]
    rcases hi with rfl | hi
    · rw [Gf.gi_zero]; rfl
    · have := Gf.gi_lt a ha
      omega
  | succ d ih =>
    intro k a i ha hd hk hi
    obtain ⟨k, rfl⟩ : ∃ m, k = m + 1 := ⟨k - 1, by omega⟩
    simp only [flittingref01_Inv.l0]
    rw [if_pos (by omega), show ((i : Int) % 256) = (i : Int) from by omega, ref_f k a i ha (by omega) (by omega)]
    simp only [Option.bind_some]
    by_cases h1 : Gf.gm a i = 1
    · rw [h1, if_pos (by rfl)]
      have h0 : a ≠ 0 := by intro e; rw [e, Gf.gm_zero_left] at h1; exact absurd h1 (by decide)
      rw [Gf.gm_cancel a i (Gf.gi a) ha (by omega) (Gf.gi_lt a ha) h0 (by rw [h1, Gf.gm_gi a ha h0])]
    · rw [if_neg (by omega), wrap_small (by omega) (by omega)]
      refine ih k a (i + 1) ha (by omega) (by omega) ?_
      rcases hi with h | hi
      · exact .inl h
      · by_cases h0 : a = 0
        · exact .inl h0
        · refine .inr ?_
          have : i ≠ Gf.gi a := fun e => h1 (by rw [e, Gf.gm_gi a ha h0])
          omega
theorem GfInv : flittinglaw01_GfInv.Pure := by
  intro a0 w0
  obtain ⟨a, ha, rfl⟩ := byte_of w0
  obtain ⟨K, hK⟩ : ∃ K : Nat, K = 1000 := ⟨_, rfl⟩
  refine ⟨K, ?_⟩
  unfold flittinglaw01_GfInv.f flittingref01_Inv.f
  have hi := inv_run 256 K a 0 ha (by decide) (by omega) (.inr (Nat.zero_le _))
  rw [answers_f K (by omega), inv_f K a ha (by omega), show flittingref01_Inv.l0 K (a : Int) 0 = some ((Gf.gi a : Nat) : Int) from hi]
  simp only [Option.bind_some, if_true]
  rw [mul_f K a _ ha (Gf.gi_lt a ha) (by omega)]
  by_cases h0 : a = 0
  · subst h0
    simp
  · rw [Gf.gm_gi a ha h0]
    simp [h0]
end Go.Proofs.Ytjmpdiichaokhaa.PureGfInv
namespace Go.Proofs.Ytjmpdiichaokhaa.Pure
theorem GfInv : Go.Proofs.Ytjmpdiichaokhaa.PGfInv.flittinglaw01_GfInv.Pure := Go.Proofs.Ytjmpdiichaokhaa.PureGfInv.GfInv
end Go.Proofs.Ytjmpdiichaokhaa.Pure
