/- The field of the bytes as a type, sums, tables as functions, determinants: plain Lean. -/
import Derived.Test.YtpgehfchdhjjeaaGf
set_option linter.unusedVariables false
set_option linter.unusedSimpArgs false
namespace Go.Proofs.Ytpgehfchdhjjeaa.Mb
open Go.Proofs.Ytpgehfchdhjjeaa
abbrev B := {n : Nat // n < 256}
instance : Add B := ⟨fun a b => ⟨a.1 ^^^ b.1, Gf.xor_lt a.2 b.2⟩⟩
instance : Mul B := ⟨fun a b => ⟨Gf.gm a.1 b.1, Gf.gm_lt a.1 b.1 a.2⟩⟩
instance : OfNat B 0 := ⟨⟨0, by decide⟩⟩
instance : OfNat B 1 := ⟨⟨1, by decide⟩⟩
def inv (a : B) : B := ⟨Gf.gi a.1, Gf.gi_lt a.1 a.2⟩
theorem add_comm (a b : B) : a + b = b + a := Subtype.ext (Nat.xor_comm _ _)
theorem add_assoc (a b c : B) : a + b + c = a + (b + c) := Subtype.ext (Nat.xor_assoc _ _ _)
theorem add_self (a : B) : a + a = 0 := Subtype.ext (Nat.xor_self _)
theorem zero_add (a : B) : 0 + a = a := Subtype.ext (Nat.zero_xor _)
theorem add_zero (a : B) : a + 0 = a := Subtype.ext (Nat.xor_zero _)
theorem mul_comm (a b : B) : a * b = b * a := Subtype.ext (Gf.gm_comm _ _ a.2 b.2)
theorem mul_assoc (a b c : B) : a * b * c = a * (b * c) := Subtype.ext (Gf.gm_assoc _ _ _ a.2 b.2 c.2).symm
theorem mul_add (a b c : B) : a * (b + c) = a * b + a * c := Subtype.ext (Gf.gm_right _ _ _)
theorem add_mul (a b c : B) : (a + b) * c = a * c + b * c := Subtype.ext (Gf.gm_left _ _ _ a.2 b.2)
theorem one_mul (a : B) : 1 * a = a := by
  apply Subtype.ext
  show Gf.gm 1 a.1 = a.1
  exact Gf.one_gm a.1 a.2
theorem mul_one (a : B) : a * 1 = a := (mul_comm a 1).trans (one_mul a)
theorem zero_mul (a : B) : 0 * a = 0 := Subtype.ext (Gf.gm_zero_left _)
theorem mul_zero (a : B) : a * 0 = 0 := Subtype.ext (Gf.gm_zero_right _)
theorem mul_inv (a : B) (h : a ≠ 0) : a * inv a = 1 := Subtype.ext (Gf.gm_gi _ a.2 (fun e => h (Subtype.ext e)))
theorem one_ne : (1 : B) ≠ 0 := fun e => Nat.one_ne_zero (congrArg Subtype.val e)
theorem mul_eq_zero (a b : B) (h : a * b = 0) : a = 0 ∨ b = 0 := by
  rcases Gf.gm_eq_zero a.1 b.1 a.2 b.2 (congrArg Subtype.val h) with e | e
  · exact .inl (Subtype.ext e)
  · exact .inr (Subtype.ext e)
theorem add_left_comm (a b c : B) : a + (b + c) = b + (a + c) := by rw [← add_assoc, add_comm a b, add_assoc]
theorem add_cancel (a b : B) : a + (a + b) = b := by rw [← add_assoc, add_self, zero_add]
theorem mul_left_comm (a b c : B) : a * (b * c) = b * (a * c) := by rw [← mul_assoc, mul_comm a b, mul_assoc]
theorem eq_of_add (a b : B) (h : a + b = 0) : a = b := by
  have := add_cancel a b
  rw [h, add_zero] at this
  exact this
/-! sums -/
def sm : Nat → (Nat → B) → B
  | 0, _ => 0
  | n + 1, f => sm n f + f n
theorem sm_congr {n : Nat} {f g : Nat → B} (h : ∀ i, i < n → f i = g i) : sm n f = sm n g := by
  induction n with
  | zero => rfl
  | succ n ih => rw [sm, sm, ih (fun i hi => h i (by omega)), h n (by omega)]
theorem sm_add (n : Nat) (f g : Nat → B) : sm n (fun i => f i + g i) = sm n f + sm n g := by
  induction n with
  | zero => exact (add_self 0).symm
  | succ n ih =>
    rw [sm, sm, sm, ih]
    rw [add_assoc, add_assoc, add_left_comm (sm n g)]
theorem sm_mul (n : Nat) (c : B) (f : Nat → B) : sm n (fun i => c * f i) = c * sm n f := by
  induction n with
  | zero => exact (mul_zero c).symm
  | succ n ih => rw [sm, sm, ih, mul_add]
theorem sm_mulr (n : Nat) (c : B) (f : Nat → B) : sm n (fun i => f i * c) = sm n f * c := by
  rw [mul_comm, ← sm_mul]
  exact sm_congr fun i _ => mul_comm _ _
theorem sm_zero (n : Nat) : sm n (fun _ => 0) = 0 := by
  induction n with
  | zero => rfl
  | succ n ih => rw [sm, ih, add_self]
theorem sm_swap (n m : Nat) (f : Nat → Nat → B) : sm n (fun i => sm m (fun j => f i j)) = sm m (fun j => sm n (fun i => f i j)) := by
  induction n with
  | zero => exact (sm_zero m).symm
  | succ n ih =>
    rw [sm, ih, ← sm_add]
    rfl
theorem sm_one (n k : Nat) (hk : k < n) (f : Nat → B) (h : ∀ i, i < n → i ≠ k → f i = 0) : sm n f = f k := by
  induction n with
  | zero => omega
  | succ n ih =>
    rw [sm]
    by_cases e : k = n
    · subst e
      rw [sm_congr (g := fun _ => 0) (fun i hi => h i (by omega) (by omega)), sm_zero, zero_add]
    · rw [ih (by omega) (fun i hi hne => h i (by omega) hne), h n (by omega) (fun e' => e e'.symm), add_zero]
/-! tables -/
def mm (n : Nat) (A C : Nat → Nat → B) (i j : Nat) : B := sm n fun k => A i k * C k j
def un (i j : Nat) : B := if i = j then 1 else 0
theorem mm_assoc (n m : Nat) (A C D : Nat → Nat → B) (i j : Nat) : mm m (mm n A C) D i j = mm n A (mm m C D) i j := by
  show sm m (fun k => sm n (fun l => A i l * C l k) * D k j) = sm n (fun l => A i l * sm m (fun k => C l k * D k j))
  rw [sm_congr (g := fun k => sm n (fun l => A i l * C l k * D k j)) (fun k _ => by rw [sm_mulr]), sm_swap]
  exact sm_congr fun l _ => by
    rw [← sm_mul]
    exact sm_congr fun k _ => mul_assoc _ _ _
theorem un_mm (n : Nat) (A : Nat → Nat → B) (i j : Nat) (hi : i < n) : mm n un A i j = A i j := by
  show sm n (fun k => un i k * A k j) = _
  rw [sm_one n i hi _ (fun k _ hk => by rw [un, if_neg (fun e => hk e.symm), zero_mul]), un, if_pos rfl, one_mul]
theorem mm_un (n : Nat) (A : Nat → Nat → B) (i j : Nat) (hj : j < n) : mm n A un i j = A i j := by
  show sm n (fun k => A i k * un k j) = _
  rw [sm_one n j hj _ (fun k _ hk => by rw [un, if_neg hk, mul_zero]), un, if_pos rfl, mul_one]
theorem mm_congr {n : Nat} {A A' C C' : Nat → Nat → B} {i j : Nat} (h : ∀ k, k < n → A i k = A' i k) (h2 : ∀ k, k < n → C k j = C' k j) : mm n A C i j = mm n A' C' i j :=
  sm_congr fun k hk => by rw [h k hk, h2 k hk]
end Go.Proofs.Ytpgehfchdhjjeaa.Mb
