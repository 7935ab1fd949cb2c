/- The field of 256 elements over plain numbers: products as Go's text makes them, that they are commutative, associative, distributive, and that each byte but 0 has an inverse. No program stands here. -/
import Derived.Laws.BitsAllLaws
namespace Go.Proofs.Ytpgehfchdhjjeaa.Gf

/-- A byte times x. -/
def xt (a : Nat) : Nat := ((a * 2) % 256) ^^^ ((29 * ((a / 128) % 256)) % 256)
def mulG : Nat → Nat → Nat → Nat → Nat
  | 0, _, _, o => o
  | n + 1, a, b, o => mulG n (xt a) (b / 2) (o ^^^ (a * (b % 2)))
/-- The product. -/
def gm (a b : Nat) : Nat := mulG 8 a b 0

theorem xor_div2 (b c : Nat) : (b ^^^ c) / 2 = (b / 2) ^^^ (c / 2) := by
  have h := Nat.shiftRight_xor_distrib (a := b) (b := c) (i := 1)
  simpa [Nat.shiftRight_eq_div_pow] using h
theorem bit_mul (a b c : Nat) : a * ((b ^^^ c) % 2) = (a * (b % 2)) ^^^ (a * (c % 2)) := by
  have e : (b ^^^ c) % 2 = ((b % 2) ^^^ (c % 2)) := by
    have h := Nat.xor_mod_two_pow (a := b) (b := c) (n := 1)
    simpa using h
  rw [e]
  rcases Nat.mod_two_eq_zero_or_one b with h | h <;> rcases Nat.mod_two_eq_zero_or_one c with h' | h' <;> simp [h, h']
theorem xor4 (a b c d : Nat) : (a ^^^ b) ^^^ (c ^^^ d) = (a ^^^ c) ^^^ (b ^^^ d) := by
  rw [Nat.xor_assoc, Nat.xor_assoc]
  congr 1
  rw [← Nat.xor_assoc, ← Nat.xor_assoc, Nat.xor_comm b c]
theorem mulG_right (n : Nat) : ∀ a b c o p, mulG n a (b ^^^ c) (o ^^^ p) = mulG n a b o ^^^ mulG n a c p := by
  induction n with
  | zero => intro a b c o p; rfl
  | succ n ih =>
    intro a b c o p
    simp only [mulG]
    rw [xor_div2, bit_mul, xor4, ih]
theorem xt_lt (a : Nat) : xt a < 256 := by
  unfold xt
  exact Nat.xor_lt_two_pow (n := 8) (Nat.mod_lt _ (by decide)) (Nat.mod_lt _ (by decide))
theorem xt_xor (a b : Nat) (ha : a < 256) (hb : b < 256) : xt (a ^^^ b) = xt a ^^^ xt b := by
  unfold xt
  have e1 : (a ^^^ b) * 2 % 256 = (a * 2 % 256) ^^^ (b * 2 % 256) := by
    have h := Nat.shiftLeft_xor_distrib (a := a) (b := b) (i := 1)
    simp only [Nat.shiftLeft_eq, Nat.pow_one] at h
    rw [h]
    exact Nat.xor_mod_two_pow (n := 8)
  have e2 : (a ^^^ b) / 128 = (a / 128) ^^^ (b / 128) := by
    have h := Nat.shiftRight_xor_distrib (a := a) (b := b) (i := 7)
    simpa [Nat.shiftRight_eq_div_pow] using h
  have ha' : a / 128 = 0 ∨ a / 128 = 1 := by omega
  have hb' : b / 128 = 0 ∨ b / 128 = 1 := by omega
  rw [e1, e2]
  rw [show ((29 * (((a / 128) ^^^ (b / 128)) % 256)) % 256) = ((29 * ((a / 128) % 256)) % 256) ^^^ ((29 * ((b / 128) % 256)) % 256) from by
    rcases ha' with h | h <;> rcases hb' with h' | h' <;> rw [h, h'] <;> decide]
  exact xor4 _ _ _ _
theorem mulG_left (n : Nat) : ∀ a a' b o p, a < 256 → a' < 256 → mulG n (a ^^^ a') b (o ^^^ p) = mulG n a b o ^^^ mulG n a' b p := by
  induction n with
  | zero => intro a a' b o p _ _; rfl
  | succ n ih =>
    intro a a' b o p ha ha'
    simp only [mulG]
    have e : (a ^^^ a') * (b % 2) = a * (b % 2) ^^^ a' * (b % 2) := by
      rcases Nat.mod_two_eq_zero_or_one b with h | h <;> simp [h]
    rw [xt_xor a a' ha ha', e, xor4, ih _ _ _ _ _ (xt_lt _) (xt_lt _)]
theorem gm_right (a b c : Nat) : gm a (b ^^^ c) = gm a b ^^^ gm a c := by
  have h := mulG_right 8 a b c 0 0
  rw [Nat.xor_zero] at h
  exact h
theorem gm_left (a a' b : Nat) (ha : a < 256) (ha' : a' < 256) : gm (a ^^^ a') b = gm a b ^^^ gm a' b := by
  have h := mulG_left 8 a a' b 0 0 ha ha'
  rw [Nat.xor_zero] at h
  exact h
theorem mulG_lt (n : Nat) : ∀ a b o, a < 256 → o < 256 → mulG n a b o < 256 := by
  induction n with
  | zero => intro a b o _ ho; exact ho
  | succ n ih =>
    intro a b o ha ho
    simp only [mulG]
    refine ih _ _ _ (xt_lt a) (Nat.xor_lt_two_pow (n := 8) ho ?_)
    rcases Nat.mod_two_eq_zero_or_one b with h | h <;> rw [h] <;> omega
theorem gm_lt (a b : Nat) (ha : a < 256) : gm a b < 256 := mulG_lt 8 a b 0 ha (by decide)
theorem xor_lt {a b : Nat} (ha : a < 256) (hb : b < 256) : a ^^^ b < 256 := Nat.xor_lt_two_pow (n := 8) ha hb

/-- What is linear over bytes is told by the eight powers of 2. -/
theorem split_bit : ∀ k < 8, ∀ a < 256, a < 2 ^ (k + 1) → a = (a % 2 ^ k) ^^^ (if a / 2 ^ k = 0 then 0 else 2 ^ k) := by decide +kernel
theorem lin_ext {f g : Nat → Nat} (hf : ∀ a b, a < 256 → b < 256 → f (a ^^^ b) = f a ^^^ f b) (hg : ∀ a b, a < 256 → b < 256 → g (a ^^^ b) = g a ^^^ g b)
    (h : ∀ i < 8, f (2 ^ i) = g (2 ^ i)) : ∀ a < 256, f a = g a := by
  have f0 : f 0 = 0 := by have := hf 0 0 (by decide) (by decide); simpa using this
  have g0 : g 0 = 0 := by have := hg 0 0 (by decide) (by decide); simpa using this
  have P : ∀ k ≤ 8, ∀ a < 256, a < 2 ^ k → f a = g a := by
    intro k
    induction k with
    | zero => intro _ a _ h1; have : a = 0 := by simpa using h1
              rw [this, f0, g0]
    | succ k ih =>
      intro hk a ha h1
      have e := split_bit k (by omega) a ha h1
      have hlt : a % 2 ^ k < 256 := Nat.lt_of_le_of_lt (Nat.mod_le _ _) ha
      have h2 : (if a / 2 ^ k = 0 then 0 else 2 ^ k) < 256 := by
        split
        · decide
        · exact Nat.lt_of_lt_of_le (Nat.pow_lt_pow_right (by decide) (show k < 8 by omega)) (by decide)
      rw [e, hf _ _ hlt h2, hg _ _ hlt h2, ih (by omega) _ hlt (Nat.mod_lt _ (Nat.two_pow_pos k))]
      congr 1
      split
      · rw [f0, g0]
      · exact h k (by omega)
  exact fun a ha => P 8 (by decide) a ha ha
theorem gm_comm_base : ∀ i < 8, ∀ j < 8, gm (2 ^ i) (2 ^ j) = gm (2 ^ j) (2 ^ i) := by decide +kernel
theorem pow_lt8 {i : Nat} (h : i < 8) : 2 ^ i < 256 := Nat.lt_of_lt_of_le (Nat.pow_lt_pow_right (by decide) h) (by decide)
theorem gm_comm (a b : Nat) (ha : a < 256) (hb : b < 256) : gm a b = gm b a := by
  refine lin_ext (f := fun a => gm a b) (g := fun a => gm b a) (fun x y hx hy => gm_left x y b hx hy) (fun x y _ _ => gm_right b x y) (fun i hi => ?_) a ha
  exact lin_ext (f := fun b => gm (2 ^ i) b) (g := fun b => gm b (2 ^ i)) (fun x y _ _ => gm_right _ x y) (fun x y hx hy => gm_left x y _ hx hy) (fun j hj => gm_comm_base i hi j hj) b hb
theorem gm_assoc_base : ∀ i < 8, ∀ j < 8, ∀ l < 8, gm (2 ^ i) (gm (2 ^ j) (2 ^ l)) = gm (gm (2 ^ i) (2 ^ j)) (2 ^ l) := by decide +kernel
theorem gm_assoc (a b c : Nat) (ha : a < 256) (hb : b < 256) (hc : c < 256) : gm a (gm b c) = gm (gm a b) c := by
  refine lin_ext (f := fun a => gm a (gm b c)) (g := fun a => gm (gm a b) c) (fun x y hx hy => gm_left x y _ hx hy)
    (fun x y hx hy => by show gm (gm (x ^^^ y) b) c = _; rw [gm_left x y b hx hy, gm_left _ _ c (gm_lt _ _ hx) (gm_lt _ _ hy)]) (fun i hi => ?_) a ha
  refine lin_ext (f := fun b => gm (2 ^ i) (gm b c)) (g := fun b => gm (gm (2 ^ i) b) c) (fun x y hx hy => by show gm _ (gm (x ^^^ y) c) = _; rw [gm_left x y c hx hy, gm_right])
    (fun x y hx hy => by show gm (gm _ (x ^^^ y)) c = _; rw [gm_right, gm_left _ _ c (gm_lt _ _ (pow_lt8 hi)) (gm_lt _ _ (pow_lt8 hi))]) (fun j hj => ?_) b hb
  exact lin_ext (f := fun c => gm (2 ^ i) (gm (2 ^ j) c)) (g := fun c => gm (gm (2 ^ i) (2 ^ j)) c) (fun x y _ _ => by show gm _ (gm _ (x ^^^ y)) = _; rw [gm_right, gm_right])
    (fun x y _ _ => gm_right _ x y) (fun l hl => gm_assoc_base i hi j hj l hl) c hc
theorem gm_one : ∀ a < 256, gm a 1 = a := by decide +kernel
theorem gm_zero_left (b : Nat) : gm 0 b = 0 := by
  have h := gm_left 0 0 b (by decide) (by decide)
  simpa using h
theorem gm_zero_right (a : Nat) : gm a 0 = 0 := by
  have h := gm_right a 0 0
  simpa using h
theorem one_gm (a : Nat) (ha : a < 256) : gm 1 a = a := by rw [gm_comm 1 a (by decide) ha, gm_one a ha]

/-- A byte n times. -/
def gp (a : Nat) : Nat → Nat
  | 0 => 1
  | n + 1 => gm (gp a n) a
theorem gp_lt (a n : Nat) (_ha : a < 256) : gp a n < 256 := by
  cases n with
  | zero => exact (by decide : 1 < 256)
  | succ n =>
    induction n with
    | zero => exact gm_lt _ _ (by decide : (1 : Nat) < 256)
    | succ n ih => exact gm_lt _ _ ih
theorem gp_add (a m : Nat) (ha : a < 256) (n : Nat) : gp a (m + n) = gm (gp a m) (gp a n) := by
  induction n with
  | zero => rw [Nat.add_zero, gp, gm_one _ (gp_lt a m ha)]
  | succ n ih => rw [← Nat.add_assoc, gp, ih, gp, gm_assoc _ _ _ (gp_lt a m ha) (gp_lt a n ha) ha]
theorem gp_double (a : Nat) (ha : a < 256) (n : Nat) : gp (gm a a) n = gp a (2 * n) := by
  induction n with
  | zero => rfl
  | succ n ih =>
    have e : 2 * (n + 1) = 2 * n + 1 + 1 := by omega
    rw [e, gp, gp, gp, ih, gm_assoc _ _ _ (gp_lt a _ ha) ha ha]
theorem gp_255 : ∀ a < 256, a ≠ 0 → gp a 255 = 1 := by decide +kernel
theorem gp_mul255 (a : Nat) (ha : a < 256) (h0 : a ≠ 0) (q : Nat) : gp a (255 * q) = 1 := by
  induction q with
  | zero => rfl
  | succ q ih => rw [Nat.mul_succ, gp_add a _ ha, ih, gp_255 a ha h0]; rfl
theorem gp_mod (a : Nat) (ha : a < 256) (h0 : a ≠ 0) (n : Nat) : gp a n = gp a (n % 255) := by
  conv => lhs; rw [← Nat.div_add_mod n 255]
  rw [gp_add a _ ha, gp_mul255 a ha h0, one_gm _ (gp_lt a _ ha)]
theorem gp_zero (n : Nat) (h : 0 < n) : gp 0 n = 0 := by
  cases n with
  | zero => omega
  | succ n => rw [gp, gm_zero_right]
/-- The inverse. -/
def gi (a : Nat) : Nat := gp a 254
theorem gi_lt (a : Nat) (ha : a < 256) : gi a < 256 := gp_lt a 254 ha
theorem gm_gi (a : Nat) (ha : a < 256) (h0 : a ≠ 0) : gm a (gi a) = 1 := by
  rw [gm_comm a _ ha (gi_lt a ha)]
  exact gp_255 a ha h0
theorem gi_zero : gi 0 = 0 := gp_zero 254 (by decide)
theorem gm_cancel (a b c : Nat) (ha : a < 256) (hb : b < 256) (hc : c < 256) (h0 : a ≠ 0) (h : gm a b = gm a c) : b = c := by
  have e : gm (gi a) (gm a b) = gm (gi a) (gm a c) := by rw [h]
  rw [gm_assoc _ _ _ (gi_lt a ha) ha hb, gm_assoc _ _ _ (gi_lt a ha) ha hc, gm_comm (gi a) a (gi_lt a ha) ha, gm_gi a ha h0, one_gm b hb, one_gm c hc] at e
  exact e
theorem gm_eq_zero (a b : Nat) (ha : a < 256) (hb : b < 256) (h : gm a b = 0) : a = 0 ∨ b = 0 := by
  by_cases h0 : a = 0
  · exact .inl h0
  · exact .inr (gm_cancel a b 0 ha hb (by decide) h0 (by rw [h, gm_zero_right]))

/-! The document's product: of two polynomials, then reduced. -/
def prod (a b : Nat) : Nat → Nat
  | 0 => 0
  | n + 1 => prod a b n ^^^ (if b.testBit n then a <<< n else 0)
def red : Nat → Nat → Nat
  | 0, v => v
  | n + 1, v => red n (v ^^^ (if v.testBit (n + 8) then 285 <<< n else 0))
def rm (a b : Nat) : Nat := red 7 (prod a b 8)
theorem ite_xor (p q : Bool) (c : Nat) : (if (p ^^ q) = true then c else 0) = (if p = true then c else 0) ^^^ (if q = true then c else 0) := by
  cases p <;> cases q <;> simp
theorem prod_right (a b c n : Nat) : prod a (b ^^^ c) n = prod a b n ^^^ prod a c n := by
  induction n with
  | zero => simp [prod]
  | succ n ih => simp only [prod]; rw [ih, Nat.testBit_xor, ite_xor, xor4]
theorem prod_left (a a' b n : Nat) : prod (a ^^^ a') b n = prod a b n ^^^ prod a' b n := by
  induction n with
  | zero => simp [prod]
  | succ n ih =>
    simp only [prod]
    rw [ih, xor4]
    congr 1
    split
    · exact Nat.shiftLeft_xor_distrib
    · rfl
theorem red_xor (n : Nat) : ∀ v w, red n (v ^^^ w) = red n v ^^^ red n w := by
  induction n with
  | zero => intro v w; rfl
  | succ n ih => intro v w; simp only [red]; rw [Nat.testBit_xor, ite_xor, xor4, ih]
theorem rm_base : ∀ i < 8, ∀ j < 8, rm (2 ^ i) (2 ^ j) = gm (2 ^ i) (2 ^ j) := by decide +kernel
theorem rm_eq (a b : Nat) (ha : a < 256) (hb : b < 256) : rm a b = gm a b := by
  refine lin_ext (f := fun a => rm a b) (g := fun a => gm a b) (fun x y _ _ => by show rm (x ^^^ y) b = _; unfold rm; rw [prod_left, red_xor]) (fun x y hx hy => gm_left x y b hx hy) (fun i hi => ?_) a ha
  exact lin_ext (f := fun b => rm (2 ^ i) b) (g := fun b => gm (2 ^ i) b) (fun x y _ _ => by show rm _ (x ^^^ y) = _; unfold rm; rw [prod_right, red_xor]) (fun x y _ _ => gm_right _ x y) (fun j hj => rm_base i hi j hj) b hb
end Go.Proofs.Ytpgehfchdhjjeaa.Gf
