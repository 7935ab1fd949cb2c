/- Determinants of bytes, and what turning rows does to a table: plain Lean. -/
import Derived.Test.YtpgehfchdhjjeaaMb
set_option linter.unusedVariables false
set_option linter.unusedSimpArgs false
namespace Go.Proofs.Ytpgehfchdhjjeaa.Mb
/-! determinants, by the first row -/
def M (r : Nat → B) : (List Nat → B) → List Nat → B
  | _, [] => 0
  | f, c :: S => r c * f S + M r (fun T => f (c :: T)) S
def D : List (Nat → B) → List Nat → B
  | [], _ => 1
  | r :: R, S => M r (D R) S
theorem M_add (r : Nat → B) (S : List Nat) : ∀ f g : List Nat → B, M r (fun T => f T + g T) S = M r f S + M r g S := by
  induction S with
  | nil => exact fun _ _ => (add_self 0).symm
  | cons c S ih =>
    intro f g
    rw [M, M, M, ih, mul_add, add_assoc, add_assoc, add_left_comm (r c * g S)]
theorem M_mul (r : Nat → B) (a : B) (S : List Nat) : ∀ f : List Nat → B, M r (fun T => a * f T) S = a * M r f S := by
  induction S with
  | nil => exact fun _ => (mul_zero a).symm
  | cons c S ih =>
    intro f
    rw [M, M, ih, mul_add, mul_left_comm]
theorem M_comm (r s : Nat → B) (S : List Nat) : ∀ f : List Nat → B, M r (M s f) S = M s (M r f) S := by
  induction S with
  | nil => exact fun _ => rfl
  | cons c S ih =>
    intro f
    have h1 : (fun T => M s f (c :: T)) = fun T => s c * f T + M s (fun U => f (c :: U)) T := rfl
    have h2 : (fun T => M r f (c :: T)) = fun T => r c * f T + M r (fun U => f (c :: U)) T := rfl
    rw [M, M, h1, h2, M_add, M_add, M_mul, M_mul]
    rw [show M r (fun U => M s (fun U => f (c :: U)) U) S = M s (fun U => M r (fun U => f (c :: U)) U) S from ih _]
    rw [add_left_comm]
theorem M_self (r : Nat → B) (S : List Nat) : ∀ f : List Nat → B, M r (M r f) S = 0 := by
  induction S with
  | nil => exact fun _ => rfl
  | cons c S ih =>
    intro f
    have h1 : (fun T => M r f (c :: T)) = fun T => r c * f T + M r (fun U => f (c :: U)) T := rfl
    rw [M, h1, M_add, M_mul]
    rw [show M r (fun U => M r (fun U => f (c :: U)) U) S = 0 from ih _, add_zero, add_self]
theorem M_row_add (r s : Nat → B) (S : List Nat) : ∀ f : List Nat → B, M (fun c => r c + s c) f S = M r f S + M s f S := by
  induction S with
  | nil => exact fun _ => (add_self 0).symm
  | cons c S ih =>
    intro f
    rw [M, M, M, ih, add_mul, add_assoc, add_assoc, add_left_comm (s c * f S)]
theorem M_row_mul (r : Nat → B) (a : B) (S : List Nat) : ∀ f : List Nat → B, M (fun c => a * r c) f S = a * M r f S := by
  induction S with
  | nil => exact fun _ => (mul_zero a).symm
  | cons c S ih =>
    intro f
    rw [M, M, ih, mul_add, mul_assoc]
theorem M_zero (r : Nat → B) (S : List Nat) : ∀ f : List Nat → B, (∀ j, (h : j < S.length) → r S[j] = 0 ∨ f (S.eraseIdx j) = 0) → M r f S = 0 := by
  induction S with
  | nil => exact fun _ _ => rfl
  | cons c S ih =>
    intro f h
    have h0 : r c * f S = 0 := by
      rcases h 0 (by simp) with e | e
      · rw [show r c = 0 from e, zero_mul]
      · rw [show f S = 0 from e, mul_zero]
    rw [M, h0, zero_add]
    exact ih _ fun j hj => h (j + 1) (Nat.succ_lt_succ hj)
theorem sm_left (n : Nat) (f : Nat → B) : sm (n + 1) f = f 0 + sm n (fun i => f (i + 1)) := by
  induction n with
  | zero => exact add_comm _ _
  | succ n ih => rw [sm, ih, sm, add_assoc]
theorem M_sum (r : Nat → B) (S : List Nat) : ∀ f : List Nat → B, M r f S = sm S.length (fun j => r (S.getD j 0) * f (S.eraseIdx j)) := by
  induction S with
  | nil => exact fun _ => rfl
  | cons c S ih =>
    intro f
    rw [M, ih, List.length_cons, sm_left]
    rfl
theorem D_perm {R R' : List (Nat → B)} (h : R.Perm R') : ∀ S, D R S = D R' S := by
  induction h with
  | nil => exact fun _ => rfl
  | cons x _ ih => exact fun S => congrArg (fun f => M x f S) (funext ih)
  | swap x y l => exact fun S => M_comm _ _ S _
  | trans _ _ ih1 ih2 => exact fun S => (ih1 S).trans (ih2 S)
theorem set_perm {α : Type} (l : List α) (i : Nat) (h : i < l.length) (x : α) : (l.set i x).Perm (x :: l.eraseIdx i) := by
  rw [List.set_eq_take_append_cons_drop, if_pos h, List.eraseIdx_eq_take_drop_succ]
  exact List.perm_middle
theorem get_perm {α : Type} (l : List α) (i : Nat) (h : i < l.length) : l.Perm (l[i] :: l.eraseIdx i) := by
  have := set_perm l i h l[i]
  rwa [List.set_getElem_self] at this
theorem D_scale (R : List (Nat → B)) (i : Nat) (h : i < R.length) (a : B) (S : List Nat) : D (R.set i (fun c => a * R[i] c)) S = a * D R S := by
  rw [D_perm (set_perm R i h _), D_perm (get_perm R i h)]
  exact M_row_mul _ _ _ _
theorem D_add (R : List (Nat → B)) (i j : Nat) (hi : i < R.length) (hj : j < R.length) (hne : i ≠ j) (a : B) (S : List Nat) : D (R.set j (fun c => R[j] c + a * R[i] c)) S = D R S := by
  have hm : R[i] ∈ R.eraseIdx j := List.mem_eraseIdx_iff_getElem.2 ⟨i, hi, hne, rfl⟩
  obtain ⟨s, t, e⟩ := List.append_of_mem hm
  have hp : (R.eraseIdx j).Perm (R[i] :: (s ++ t)) := by
    rw [e]
    exact List.perm_middle
  rw [D_perm ((set_perm R j hj _).trans (hp.cons _)), D_perm ((get_perm R j hj).trans (hp.cons _))]
  show M (fun c => R[j] c + a * R[i] c) (M R[i] (D (s ++ t))) S = M R[j] (M R[i] (D (s ++ t))) S
  rw [M_row_add R[j] (fun c => a * R[i] c), M_row_mul, M_self, mul_zero, add_zero]
theorem D_vanish (Z : Nat → Bool) (R2 : List (Nat → B)) (hz : ∀ r ∈ R2, ∀ c, Z c = true → r c = 0) : ∀ S : List Nat, (S.filter fun c => !Z c).length < R2.length → D R2 S = 0 := by
  induction R2 with
  | nil => exact fun S h => absurd h (Nat.not_lt_zero _)
  | cons r R ih =>
    intro S h
    refine M_zero r S (D R) fun j hj => ?_
    by_cases hzj : Z S[j] = true
    · exact .inl (hz r List.mem_cons_self _ hzj)
    · refine .inr (ih (fun x hx => hz x (List.mem_cons_of_mem _ hx)) _ ?_)
      have hp := (get_perm S j hj).filter (fun c => !Z c)
      rw [List.filter_cons_of_pos (by simpa using hzj)] at hp
      have := hp.length_eq
      rw [List.length_cons] at this
      rw [List.length_cons] at h
      omega
theorem D_vanish2 (Z : Nat → Bool) (R1 R2 : List (Nat → B)) (hz : ∀ r ∈ R2, ∀ c, Z c = true → r c = 0) : ∀ S : List Nat, (S.filter fun c => !Z c).length < R2.length → D (R1 ++ R2) S = 0 := by
  induction R1 with
  | nil => exact D_vanish Z R2 hz
  | cons r R ih =>
    intro S h
    refine M_zero r S (D (R ++ R2)) fun j hj => .inr (ih _ ?_)
    have h1 := ((List.eraseIdx_sublist S j).filter fun c => !Z c).length_le
    omega
theorem D_unit (k : Nat) : ∀ s, D ((List.range' s k).map un) (List.range' s k) = 1 := by
  induction k with
  | zero => exact fun _ => rfl
  | succ k ih =>
    intro s
    rw [List.range'_succ, List.map_cons, D, M]
    rw [M_zero (un s) (List.range' (s + 1) k) _ fun j hj => .inl (by
      rw [un, if_neg]
      have : (List.range' (s + 1) k)[j] = s + 1 + j := by simp
      omega)]
    rw [add_zero, ih (s + 1), un, if_pos rfl, one_mul]
/-! tables as functions of row and column; what turning rows does -/
def rowsOf (n : Nat) (W : Nat → Nat → B) : List (Nat → B) := (List.range n).map W
def upd (W : Nat → Nat → B) (i : Nat) (x : Nat → B) : Nat → Nat → B := fun k => if k = i then x else W k
theorem rowsOf_length (n : Nat) (W : Nat → Nat → B) : (rowsOf n W).length = n := by simp [rowsOf]
theorem rowsOf_get (n : Nat) (W : Nat → Nat → B) (i : Nat) (h : i < (rowsOf n W).length) : (rowsOf n W)[i] = W i := by simp [rowsOf]
theorem rowsOf_upd (n : Nat) (W : Nat → Nat → B) (i : Nat) (x : Nat → B) : rowsOf n (upd W i x) = (rowsOf n W).set i x := by
  apply List.ext_getElem
  · simp [rowsOf]
  · intro k h1 h2
    rw [List.getElem_set, rowsOf_get]
    by_cases e : i = k
    · rw [if_pos e, upd, if_pos e.symm]
    · rw [if_neg e, upd, if_neg (fun e' => e e'.symm), rowsOf_get]
structure Lin (φ : (Nat → B) → Prop) : Prop where
  scale : ∀ a r, φ r → φ (fun j => a * r j)
  add : ∀ r s, φ r → φ s → φ (fun j => r j + s j)
structure Eqv (n : Nat) (W W' : Nat → Nat → B) : Prop where
  det : ∃ c, c ≠ 0 ∧ ∀ S, D (rowsOf n W') S = c * D (rowsOf n W) S
  fwd : ∀ φ, Lin φ → (∀ k, k < n → φ (W k)) → ∀ k, k < n → φ (W' k)
  bwd : ∀ φ, Lin φ → (∀ k, k < n → φ (W' k)) → ∀ k, k < n → φ (W k)
theorem Eqv.refl (n : Nat) (W : Nat → Nat → B) : Eqv n W W := ⟨⟨1, one_ne, fun S => (one_mul _).symm⟩, fun _ _ h => h, fun _ _ h => h⟩
theorem Eqv.trans {n : Nat} {W W' W'' : Nat → Nat → B} (h : Eqv n W W') (h' : Eqv n W' W'') : Eqv n W W'' := by
  obtain ⟨c, hc, h1⟩ := h.det
  obtain ⟨d, hd, h2⟩ := h'.det
  refine ⟨⟨d * c, fun e => ?_, fun S => by rw [h2, h1, mul_assoc]⟩, fun φ hl hw => h'.fwd φ hl (h.fwd φ hl hw), fun φ hl hw => h.bwd φ hl (h'.bwd φ hl hw)⟩
  rcases mul_eq_zero d c e with e | e
  · exact hd e
  · exact hc e
theorem Eqv.scale {n : Nat} (W : Nat → Nat → B) (i : Nat) (hi : i < n) (a : B) (ha : a ≠ 0) : Eqv n W (upd W i fun j => a * W i j) := by
  refine ⟨⟨a, ha, fun S => ?_⟩, fun φ hl hw k hk => ?_, fun φ hl hw k hk => ?_⟩
  · rw [rowsOf_upd]
    have hi' : i < (rowsOf n W).length := by rw [rowsOf_length]; exact hi
    have := D_scale (rowsOf n W) i hi' a S
    rwa [rowsOf_get] at this
  · by_cases e : k = i
    · rw [upd, if_pos e]
      exact hl.scale _ _ (hw i hi)
    · rw [upd, if_neg e]
      exact hw k hk
  · have h1 := hw k hk
    by_cases e : k = i
    · rw [upd, if_pos e] at h1
      have h2 := hl.scale (inv a) _ h1
      rw [show (fun j => inv a * (a * W i j)) = W k from funext fun j => by rw [← mul_assoc, mul_comm (inv a), mul_inv a ha, one_mul, e]] at h2
      exact h2
    · rwa [upd, if_neg e] at h1
theorem Eqv.add {n : Nat} (W : Nat → Nat → B) (i q : Nat) (hi : i < n) (hq : q < n) (hne : i ≠ q) (a : B) : Eqv n W (upd W q fun j => W q j + a * W i j) := by
  refine ⟨⟨1, one_ne, fun S => ?_⟩, fun φ hl hw k hk => ?_, fun φ hl hw k hk => ?_⟩
  · rw [rowsOf_upd, one_mul]
    have hi' : i < (rowsOf n W).length := by rw [rowsOf_length]; exact hi
    have hq' : q < (rowsOf n W).length := by rw [rowsOf_length]; exact hq
    have := D_add (rowsOf n W) i q hi' hq' hne a S
    rwa [rowsOf_get, rowsOf_get] at this
  · by_cases e : k = q
    · rw [upd, if_pos e]
      exact hl.add _ _ (hw q hq) (hl.scale _ _ (hw i hi))
    · rw [upd, if_neg e]
      exact hw k hk
  · have h1 := hw k hk
    by_cases e : k = q
    · rw [upd, if_pos e] at h1
      have h3 := hw i hi
      rw [upd, if_neg hne] at h3
      have h2 := hl.add _ _ h1 (hl.scale a _ h3)
      rw [show (fun j => W q j + a * W i j + a * W i j) = W k from funext fun j => by rw [add_assoc, add_self, add_zero, e]] at h2
      exact h2
    · rwa [upd, if_neg e] at h1
theorem Eqv.swap {n : Nat} (W : Nat → Nat → B) (i q : Nat) (hi : i < n) (hq : q < n) : Eqv n W (upd (upd W i (W q)) q (W i)) := by
  refine ⟨⟨1, one_ne, fun S => ?_⟩, fun φ hl hw k hk => ?_, fun φ hl hw k hk => ?_⟩
  · rw [rowsOf_upd, rowsOf_upd, one_mul]
    have hi' : i < (rowsOf n W).length := by rw [rowsOf_length]; exact hi
    have hq' : q < (rowsOf n W).length := by rw [rowsOf_length]; exact hq
    have h := List.set_set_perm (as := rowsOf n W) hi' hq'
    rw [rowsOf_get, rowsOf_get] at h
    exact D_perm h S
  · unfold upd
    by_cases e : k = q
    · rw [if_pos e]
      exact hw i hi
    · rw [if_neg e]
      by_cases e2 : k = i
      · rw [if_pos e2]
        exact hw q hq
      · rw [if_neg e2]
        exact hw k hk
  · by_cases e : k = q
    · by_cases e2 : i = q
      · have h1 := hw q hq
        rw [upd, if_pos rfl] at h1
        rwa [e, ← e2]
      · have h1 := hw i hi
        rw [upd, if_neg e2, upd, if_pos rfl] at h1
        rwa [e]
    · by_cases e2 : k = i
      · have h1 := hw q hq
        rw [upd, if_pos rfl] at h1
        rwa [e2]
      · have h1 := hw k hk
        rwa [upd, if_neg e, upd, if_neg e2] at h1
/-- No row from row i on has anything in the first i + 1 columns: the determinant is 0. -/
theorem det_zero {n : Nat} (W : Nat → Nat → B) (i : Nat) (hi : i < n) (h : ∀ k, i ≤ k → k < n → ∀ j, j ≤ i → W k j = 0) : D (rowsOf n W) (List.range n) = 0 := by
  rw [← List.take_append_drop i (rowsOf n W)]
  refine D_vanish2 (fun c => decide (c ≤ i)) _ _ (fun r hr c hc => ?_) _ ?_
  · obtain ⟨q, hq, rfl⟩ := List.getElem_of_mem hr
    rw [List.length_drop, rowsOf_length] at hq
    rw [List.getElem_drop, rowsOf_get]
    exact h (i + q) (by omega) (by omega) c (by simpa using hc)
  · rw [List.length_drop, rowsOf_length]
    have h2 : List.range n = List.range (i + 1) ++ List.range' (i + 1) (n - (i + 1)) := by
      rw [List.range_eq_range', List.range_eq_range', show List.range' (i + 1) (n - (i + 1)) = List.range' (0 + 1 * (i + 1)) (n - (i + 1)) from by rw [Nat.zero_add, Nat.one_mul], List.range'_append]
      congr 1
      omega
    rw [h2, List.filter_append]
    rw [show (List.range (i + 1)).filter (fun c => !decide (c ≤ i)) = [] from by
      rw [List.filter_eq_nil_iff]
      intro c hc
      have := List.mem_range.1 hc
      simp
      omega, List.nil_append]
    have := List.length_filter_le (fun c => !decide (c ≤ i)) (List.range' (i + 1) (n - (i + 1)))
    rw [List.length_range'] at this
    omega
theorem det_unit {n : Nat} (W : Nat → Nat → B) (h : ∀ k, k < n → ∀ j, j < n → W k j = un k j) : D (rowsOf n W) (List.range n) = 1 := by
  have hc : ∀ (R R' : List (Nat → B)) (S : List Nat), R.length = R'.length → (∀ k, (h1 : k < R.length) → (h2 : k < R'.length) → ∀ c ∈ S, R[k] c = R'[k] c) → D R S = D R' S := by
    intro R
    induction R with
    | nil =>
      intro R' S hl _
      obtain rfl : R' = [] := List.eq_nil_of_length_eq_zero hl.symm
      rfl
    | cons r R ih =>
      intro R' S hl hh
      cases R' with
      | nil => simp at hl
      | cons r' R' =>
        rw [D, D, M_sum, M_sum]
        refine sm_congr fun j hj => ?_
        rw [ih R' (S.eraseIdx j) (by simpa using hl) fun k h1 h2 c hc => hh (k + 1) (Nat.succ_lt_succ h1) (Nat.succ_lt_succ h2) c ((List.eraseIdx_sublist S j).mem hc)]
        have e : S.getD j 0 = S[j] := by simp [hj]
        have := hh 0 (by simp) (by simp) S[j] (List.getElem_mem _)
        rw [e]
        exact congrArg (· * _) this
  have := D_unit n 0
  rw [← List.range_eq_range'] at this
  rw [← this]
  refine hc _ _ _ (by simp [rowsOf]) fun k h1 h2 c hcS => ?_
  rw [rowsOf_get]
  have hk : k < n := by simpa [rowsOf] using h1
  rw [h k hk c (List.mem_range.1 hcS)]
  simp
end Go.Proofs.Ytpgehfchdhjjeaa.Mb
