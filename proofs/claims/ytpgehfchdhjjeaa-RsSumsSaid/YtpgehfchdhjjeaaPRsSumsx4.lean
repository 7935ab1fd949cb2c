-- Written by myprint.py (this session's own driver of the kit's print, with contracts of its own handed in).
import Derived.Test.YtpgehfchdhjjeaaPRsSumsx0
import Derived.Test.YtpgehfchdhjjeaaPRsSumsx1
import Derived.Test.YtpgehfchdhjjeaaPRsSumsx2
namespace Go.Proofs.Ytpgehfchdhjjeaa.PRsSums
open Go.RowKit Go.Proofs.YtpgehfchdhjjeaaW.PrintWords Go.Proofs.YtpgehfchdhjjeaaW.PrintLast Go.Proofs.YtpgehfchdhjjeaaW.PrintMore
attribute [local go_sem] max2_int min2_int max_two min_two max_three min_three max_four min_four   -- for this text's walks alone
set_option linter.unusedVariables false
set_option linter.unusedSimpArgs false

/-! ### mat_Invert: function 23, by hand -/
open Go.Proofs.Ytpgehfchdhjjeaa
theorem wrap_small {i : Int} (h0 : 0 ≤ i) (h : i < 9223372036854775808) : wrap64 i = i := by unfold wrap64; omega
theorem mul_round (k a b o i : Nat) (ha : a < 256) (hb : b < 256) (ho : o < 256) (hi : i < 8) :
    gf_Mul.l0 (k + 1) (a : Int) (b : Int) (o : Int) (i : Int) = gf_Mul.l0 k ((Gf.xt a : Nat) : Int) ((b / 2 : Nat) : Int) ((o ^^^ (a * (b % 2)) : Nat) : Int) ((i + 1 : Nat) : Int) := by
  simp only [gf_Mul.l0]
  rw [if_pos (by omega)]
  have e1 : Go.bits .xor .u8 (((a : Int) * 2) % 256) ((29 * ((Int.tdiv (a : Int) 128) % 256)) % 256) = ((Gf.xt a : Nat) : Int) := by
    rw [Int.tdiv_eq_ediv_of_nonneg (by omega)]
    rw [show ((a : Int) * 2) % 256 = ((a * 2 % 256 : Nat) : Int) from by omega, show (29 * (((a : Int) / 128) % 256)) % 256 = ((29 * (a / 128 % 256) % 256 : Nat) : Int) from by omega]
    rw [Go.u8_xor_nat (a * 2 % 256) (29 * (a / 128 % 256) % 256) (by omega) (by omega)]
    rfl
  have e2 : ((a : Int) * (Go.bits .and .u8 (b : Int) 1)) % 256 = ((a * (b % 2) : Nat) : Int) := by
    rw [show (1 : Int) = ((1 : Nat) : Int) from rfl, Go.u8_and_nat b 1 hb (by decide), Go.nat_mask1]
    rcases Nat.mod_two_eq_zero_or_one b with h | h <;> rw [h] <;> omega
  have hlt : a * (b % 2) < 256 := by rcases Nat.mod_two_eq_zero_or_one b with h | h <;> rw [h] <;> omega
  rw [e1, e2, Go.u8_xor_nat _ _ ho hlt, wrap_small (by omega) (by omega)]
  rw [show ((b : Int) / 2) = ((b / 2 : Nat) : Int) from by omega, show ((i : Int) + 1) = ((i + 1 : Nat) : Int) from by omega]
theorem mul_run (n : Nat) : ∀ (k a b o i : Nat), a < 256 → b < 256 → o < 256 → n + i = 8 → n < k → gf_Mul.l0 k (a : Int) (b : Int) (o : Int) (i : Int) = some ((Gf.mulG n a b o : Nat) : Int) := by
  induction n with
  | zero =>
    intro k a b o i ha hb ho hi hk
    obtain ⟨k, rfl⟩ : ∃ m, k = m + 1 := ⟨k - 1, by omega⟩
    simp only [gf_Mul.l0]
    rw [if_neg (by omega)]
    rfl
  | succ n ih =>
    intro k a b o i ha hb ho hi hk
    obtain ⟨k, rfl⟩ : ∃ m, k = m + 1 := ⟨k - 1, by omega⟩
    have hlt : a * (b % 2) < 256 := by rcases Nat.mod_two_eq_zero_or_one b with h | h <;> rw [h] <;> omega
    rw [mul_round k a b o i ha hb ho (by omega), ih k _ _ _ _ (Gf.xt_lt a) (by omega) (Gf.xor_lt ho hlt) (by omega) (by omega)]
    rfl
theorem mul_f (k a b : Nat) (ha : a < 256) (hb : b < 256) (hk : 9 ≤ k) : gf_Mul.f k (a : Int) (b : Int) = some ((Gf.gm a b : Nat) : Int) :=
  mul_run 8 k a b 0 0 ha hb (by decide) (by decide) (by omega)

theorem and1_i64 (x : Nat) (hx : x < 9223372036854775808) : Go.bits .and .i64 (x : Int) 1 = ((x % 2 : Nat) : Int) := by
  have h := Go.bits_mask .i64 63 (by decide) (fun n h0 h1 => by rw [Go.IntKind.wrap_i64]; omega) 1 (by decide) (x : Int) (by omega) (by omega)
  rw [show ((2 : Int) ^ 1 - 1) = 1 from rfl] at h
  rw [h]
  omega
theorem pow_run (j : Nat) : ∀ (k a x o : Nat), a < 256 → o < 256 → x < 2 ^ j → x < 9223372036854775808 → j + 10 ≤ k → gf_Pow.l0 k (a : Int) (x : Int) (o : Int) = some ((Gf.gm o (Gf.gp a x) : Nat) : Int) := by
  induction j with
  | zero =>
    intro k a x o ha ho hx h63 hk
    obtain ⟨k, rfl⟩ : ∃ m, k = m + 1 := ⟨k - 1, by omega⟩
    have hx0 : x = 0 := by rw [Nat.pow_zero] at hx; omega
    subst hx0
    simp only [gf_Pow.l0]
    rw [if_neg (by omega)]
    rw [Gf.gp, Gf.gm_one o ho]
  | succ j ih =>
    intro k a x o ha ho hx h63 hk
    obtain ⟨k, rfl⟩ : ∃ m, k = m + 1 := ⟨k - 1, by omega⟩
    by_cases h0 : x = 0
    · subst h0
      simp only [gf_Pow.l0]
      rw [if_neg (by omega), Gf.gp, Gf.gm_one o ho]
    · simp only [gf_Pow.l0]
      have hd : x / 2 < 2 ^ j := by rw [Nat.pow_succ] at hx; omega
      rw [if_pos (by omega), and1_i64 x h63, mul_f k o a ho ha (by omega), mul_f k a a ha ha (by omega)]
      simp only [Option.bind_some]
      rw [show ((x : Int) / 2) = ((x / 2 : Nat) : Int) from by omega]
      have haa : Gf.gm a a < 256 := Gf.gm_lt a a ha
      by_cases h1 : x % 2 = 1
      · rw [if_pos (by omega), ih k _ _ _ haa (Gf.gm_lt o a ho) hd (by omega) (by omega), Gf.gp_double a ha]
        have e : x = 2 * (x / 2) + 1 := by omega
        conv => rhs; rw [e, Gf.gp, ← Gf.gm_comm a _ ha (Gf.gp_lt a _ ha), Gf.gm_assoc o a _ ho ha (Gf.gp_lt a _ ha)]
      · rw [if_neg (by omega), ih k _ _ _ haa ho hd (by omega) (by omega), Gf.gp_double a ha]
        have e : x = 2 * (x / 2) := by omega
        conv => rhs; rw [e]
theorem pow_f (k a x : Nat) (ha : a < 256) (hx : x < 9223372036854775808) (hk : 80 ≤ k) : gf_Pow.f k (a : Int) (x : Int) = some ((Gf.gp a x : Nat) : Int) := by
  have h := pow_run 63 k a x 1 ha (by decide) (by omega) hx (by omega)
  rw [Gf.one_gm _ (Gf.gp_lt a x ha)] at h
  exact h
theorem inv_f (k a : Nat) (ha : a < 256) (hk : 80 ≤ k) : gf_Inv.f k (a : Int) = some ((Gf.gi a : Nat) : Int) := by
  unfold gf_Inv.f
  rw [show (254 : Int) = ((254 : Nat) : Int) from rfl, pow_f k a 254 ha (by decide) hk]
  rfl

theorem bytesClone_calls (A : Option Addr) (c : Nat) (l : List Int) (w : World) (hr : Kd.C (Kd.int .u8) w A l.length l) (hc : l.length ≤ c) (hl : l.length ≤ 1099511627776) :
    Calls Try.prog 33 #[.slice A l.length c] w fun e w' => ∃ v, e = .returned v ∧ Kd.R (Kd.int .u8) 5 w' w.heap.size (fun _ => True) v l ∧ Below w.heap.size w w' := by
  have HR := Aside0.mk hr
  have HL := Aside0.mk hl
  cases A with
  | none =>
    have hl0 : l = [] := by
      cases l with
      | nil => rfl
      | cons x l => obtain ⟨ad, he, _⟩ := hr.2.2 (by simp); cases he
    subst hl0
    clear hr
    have hq : ∀ W : World, (binOp .eql 22 (.slice none 0 c) (.slice none 0 0)).run Try.prog W = .ok (.bool true) W := fun W => Go.Lib.run_eql_slice_nil W 22 5 none 0 c 0 0 Try.underlying22
    go_enter Try.func33, Try.ntmps33
    go_wp2_with fail
    go_ret
    exact ⟨_, rfl, Kd.R_nil _ _ _ _ _, Below.refl _ _⟩
  | some ad =>
    clear hr
    have hq : ∀ W : World, (binOp .eql 22 (.slice (some ad) l.length c) (.slice none 0 0)).run Try.prog W = .ok (.bool false) W := fun W => Go.Lib.run_eql_slice_nil W 22 5 (some ad) l.length c 0 0 Try.underlying22
    go_enter Try.func33, Try.ntmps33
    go_wp2_with ((with_reducible refine gate_builtin (b := .append) (xs := #[.tmp 5, .tmp 6]) rfl ?_); at_builtin; refine Kd.R_append_rows (Kd.int .u8) (w0 := w) (Rr := (Kd.int .u8).K w) w.heap.size rfl (.tmp 5) (.tmp 6) 22 5 (.int .u8 0) 1 rfl Try.underlying22 info5 rfl (by decide) (by decide) (.slice (some ⟨w.heap.size, 0, none⟩) 0 0) [] l (some ad) l.length c (fun _ => True) (fun _ => False) rfl rfl (Kd.R_of_own ⟨rfl, .inr ⟨w.heap.size, 0, #[], rfl, Nat.le_refl _, blk_new _ _, Nat.le_refl _, by decide, rfl, rfl⟩⟩ (fun _ _ => trivial)) (Kd.C_below HR.out ((Below.refl _ _).alloc (Nat.le_refl _) _)) (fun _ _ h => h) (fun _ hk => hk.elim) (fun _ _ => trivial) ((Below.refl _ _).alloc (Nat.le_refl _) _) (by simp) (by have := HL.out; simp only [List.length_nil]; omega) ?_; intro v1 w1 ho hb hg hat; have HO := Aside0.mk ho; have HB := Aside0.mk hb; clear ho hb hg hat)
    go_ret
    exact ⟨_, rfl, HO.out, HB.out⟩
theorem inv1_calls (A : Option Addr) (l c Bi i : Nat) (ad : Addr) (x : Int) (w : World) (hb : w.cell? ⟨Bi, 0, none⟩ = some (.int .i64 i)) (hA : A = some ad) (hi : i < l) (hx : w.cell? (ad.add i) = some (.int .u8 x)) :
    Calls Try.prog 34 #[.slice A l c, .pointer (some ⟨Bi, 0, none⟩)] w fun e w' => e = .returned (.bool (x != 0)) ∧ w' = w := by
  subst hA
  have h0 : (0 : Int) ≤ (i : Int) := by omega
  have h1 : decide ((i : Int) < (l : Int)) = true := decide_eq_true (by omega)
  have h2 : decide (i < l) = true := decide_eq_true hi
  go_enter Try.func34, Try.ntmps34
  go_wp2
  go_ret
  exact ⟨rfl, rfl⟩
set_option maxRecDepth 100000 in
theorem idx2_calls (Bi i n c : Nat) (ad : Addr) (xs : Nat → Int) (w : World) (hb : w.cell? ⟨Bi, 0, none⟩ = some (.int .i64 i)) (hn2 : n ≤ 9223372036854775807)
    (hr : ∀ r, r < n → ∃ Ar lr cr, w.cell? (ad.add r) = some (.slice (some Ar) lr cr) ∧ i < lr ∧ w.cell? (Ar.add i) = some (.int .u8 (xs r))) :
    Calls Try.prog 32 #[.slice (some ad) n c, .func (.func 34) #[] #[.pointer (some ⟨Bi, 0, none⟩)]] w fun e w' => ∃ j : Int, e = .returned (.int .i64 j) ∧ w' = w ∧ ((j = -1 ∧ ∀ r, r < n → xs r = 0) ∨ ∃ r : Nat, j = r ∧ r < n ∧ xs r ≠ 0 ∧ ∀ q, q < r → xs q = 0) := by
  have HB := Aside0.mk hb
  have HR := Aside0.mk hr
  clear hb hr
  go_enter Try.func32, Try.ntmps32
  go_wp2
  go_loopw [8] (fun i wr => ∃ k : Nat, k ≤ n ∧ i = .int .i64 k ∧ wr = w ∧ Aside0 (∀ i, i < k → xs i = 0)) (fun i _ => n - (intOf i).toNat)
  case atStart => exact ⟨0, Nat.zero_le _, rfl, rfl, ⟨fun i hi => absurd hi (Nat.not_lt_zero i)⟩⟩
  case round =>
    obtain ⟨k, hk, rfl, rfl, hall⟩ := hrel
    by_cases hlt : k < n
    · obtain ⟨Ak, lk, ck, hc, hil, hx⟩ := HR.out k hlt
      have HX := Aside0.mk hx
      clear hx
      have hd : decide (k < n) = true := decide_eq_true hlt
      by_cases hkm : xs k = 0
      · have hb : (xs k != 0) = false := by simp [hkm]
        go_wp2_with (go_at_call 34; refine (inv1_calls _ _ _ Bi i Ak (xs k) _ HB.out rfl hil HX.out).mono ?_; rintro e w' ⟨rfl, rfl⟩)
        go_roundw
        case rel => exact ⟨k + 1, by omega, by go_num, by first | exact trivial | rfl, ⟨fun i hi => by by_cases h : i = k; rw [h, hkm]; exact hall.out i (by omega)⟩⟩
        case measure => simp [intOf]; omega
      · have hb : (xs k != 0) = true := by simp [hkm]
        go_wp2_with (go_at_call 34; refine (inv1_calls _ _ _ Bi i Ak (xs k) _ HB.out rfl hil HX.out).mono ?_; rintro e w' ⟨rfl, rfl⟩)
        go_ret
        exact ⟨_, rfl, rfl, .inr ⟨k, rfl, hlt, hkm, hall.out⟩⟩
    · obtain rfl : k = n := by omega
      have hd : decide (k < k) = false := decide_eq_false (Nat.lt_irrefl k)
      go_wp2
      go_ret
      exact ⟨-1, rfl, rfl, .inl ⟨rfl, hall.out⟩⟩
def mulI (a b : Int) : Int := ((Gf.gm a.toNat b.toNat : Nat) : Int)
def byteI (x : Int) : Prop := 0 ≤ x ∧ x < 256
def bytesL (r : List Int) : Prop := ∀ x ∈ r, byteI x
def bytesR (R : List (List Int)) : Prop := ∀ r ∈ R, bytesL r
theorem byte_mul {a b : Int} (ha : byteI a) : byteI (mulI a b) := by
  unfold mulI byteI
  have := Gf.gm_lt a.toNat b.toNat (by have := ha.1; have := ha.2; omega)
  omega
theorem bytesL_get {r : List Int} (h : bytesL r) (i : Nat) (hi : i < r.length) : byteI (r.getD i 0) := by
  have e : r.getD i 0 = r[i] := by simp [hi]
  rw [e]
  exact h _ (List.getElem_mem hi)
theorem bytesL_set {r : List Int} (h : bytesL r) (i : Nat) {x : Int} (hx : byteI x) : bytesL (r.set i x) := fun y hy => by
  rcases List.mem_or_eq_of_mem_set hy with h' | rfl
  · exact h y h'
  · exact hx
theorem bytesR_get {R : List (List Int)} (h : bytesR R) (i : Nat) (hi : i < R.length) : bytesL (R.getD i []) := by
  have e : R.getD i [] = R[i] := by simp [hi]
  rw [e]
  exact h _ (List.getElem_mem hi)
theorem bytesR_set {R : List (List Int)} (h : bytesR R) (i : Nat) {r : List Int} (hr : bytesL r) : bytesR (R.set i r) := fun y hy => by
  rcases List.mem_or_eq_of_mem_set hy with h' | rfl
  · exact h y h'
  · exact hr
theorem getD_set_same {α : Type} (R : List α) (i : Nat) (r z : α) (hi : i < R.length) : (R.set i r).getD i z = r := by
  simp [hi]
theorem getD_set_other {α : Type} (R : List α) (i j : Nat) (r z : α) (hne : i ≠ j) : (R.set i r).getD j z = R.getD j z := by
  simp [List.getD_eq_getElem?_getD, List.getElem?_set_ne hne]
/-- The rows that are worked on: an outer row of slices, each a row of its own. -/
structure Work (w0 W : World) (g cap : Nat) (B C : Nat → Nat) (R : List (List Int)) : Prop where
  below : Below w0.heap.size w0 W
  outer : ∃ cur : Array Value, W.heap[g]? = some (.cells cur 22 (0, 0)) ∧ cur.size = cap ∧ ∀ i, i < R.length → cur[i]? = some (.slice (some ⟨B i, 0, none⟩) (R.getD i []).length (C i))
  inner : ∀ i, i < R.length → Kd.R (Kd.int .u8) 5 W w0.heap.size (fun k => k = B i) (.slice (some ⟨B i, 0, none⟩) (R.getD i []).length (C i)) (R.getD i [])
  ne : ∀ i, i < R.length → B i ≠ g
  inj : ∀ i j, i < R.length → j < R.length → B i = B j → i = j
  gb : w0.heap.size ≤ g
namespace Work
variable {w0 W W1 : World} {g cap : Nat} {B C : Nat → Nat} {R : List (List Int)}
theorem cell (h : Work w0 W g cap B C R) (i : Nat) (hi : i < R.length) : W.cell? ⟨g, i, none⟩ = some (.slice (some ⟨B i, 0, none⟩) (R.getD i []).length (C i)) := by
  obtain ⟨cur, hg, _, hc⟩ := h.outer
  exact (blk_cell hg i).trans (hc i hi)
theorem byte (h : Work w0 W g cap B C R) (i j : Nat) (hi : i < R.length) (hj : j < (R.getD i []).length) : W.cell? ⟨B i, j, none⟩ = some (.int .u8 ((R.getD i []).getD j 0)) ∧ W.frozen? ⟨B i, j, none⟩ = false := by
  have := Kd.R_cell (0 : Int) (h.inner i hi) (j : Int) (by omega) (by omega)
  simpa [rdOf] using this
theorem set (h : Work w0 W g cap B C R) {i : Nat} (hi : i < R.length) {r : List Int} (hb : Below w0.heap.size w0 W1) (hk : Kept W W1 (fun k => k = B i)) (hr : Kd.R (Kd.int .u8) 5 W1 w0.heap.size (fun k => k = B i) (.slice (some ⟨B i, 0, none⟩) r.length (C i)) r) (hl : r.length = (R.getD i []).length) :
    Work w0 W1 g cap B C (R.set i r) := by
  have hlen : (R.set i r).length = R.length := List.length_set
  have hget : ∀ j, j < R.length → ((R.set i r).getD j []).length = (R.getD j []).length := fun j hj => by
    by_cases e : i = j
    · subst e; rw [getD_set_same _ _ _ _ hi, hl]
    · rw [getD_set_other _ _ _ _ _ e]
  obtain ⟨cur, hg, hs, hc⟩ := h.outer
  refine ⟨hb, ⟨cur, blk_kept hg hk (fun e => h.ne i hi e.symm), hs, fun j hj => ?_⟩, fun j hj => ?_, fun j hj => h.ne j (by omega), fun a b ha hb' e => h.inj a b (by omega) (by omega) e, h.gb⟩
  · rw [hlen] at hj
    rw [hget j hj]
    exact hc j hj
  · rw [hlen] at hj
    by_cases e : i = j
    · subst e; rw [getD_set_same _ _ _ _ hi]; exact hr
    · rw [getD_set_other _ _ _ _ _ e]
      exact Kd.R_step (h.inner j hj) (fun k hk' hlt => by
        subst hk'
        exact hk.2 _ hlt (fun e' => e (h.inj j i hj hi e').symm))
theorem same (h : Work w0 W g cap B C R) (hb : Below W.heap.size W W1) : Work w0 W1 g cap B C R := by
  obtain ⟨cur, hg, hs, hc⟩ := h.outer
  exact ⟨h.below.trans (hb.mono h.below.size), ⟨cur, blk_below hg hb, hs, hc⟩, fun j hj => Kd.R_below (h.inner j hj) hb, h.ne, h.inj, h.gb⟩
theorem put (h : Work w0 W g cap B C R) (i j : Nat) (hi : i < R.length) (hj : j < (R.getD i []).length) (x : Int) : Work w0 (W.setCell ⟨B i, j, none⟩ (.int .u8 x)) g cap B C (R.set i ((R.getD i []).set j x)) := by
  have hp := Kd.R_put (h.inner i hi) (j : Int) x
  rw [Int.toNat_natCast] at hp
  have hbi : w0.heap.size ≤ B i := Kd.R_base (h.inner i hi) (B i) rfl
  refine h.set hi (Below.setCell (p := ⟨B i, j, none⟩) h.below hbi _) (Kept.setCell (p := ⟨B i, j, none⟩) (Kept.refl W (fun k => k = B i)) (.inl rfl) _) ?_ (by rw [List.length_set])
  rw [List.length_set]
  exact hp.1
end Work
/-- A row, times by, as far as its first n. -/
def scaleK (by_ : Int) (r : List Int) : Nat → List Int
  | 0 => r
  | n + 1 => (scaleK by_ r n).set n (mulI by_ ((scaleK by_ r n).getD n 0))
theorem scaleK_length (by_ : Int) (r : List Int) (n : Nat) : (scaleK by_ r n).length = r.length := by
  induction n with
  | zero => rfl
  | succ n ih => rw [scaleK, List.length_set, ih]
theorem scaleK_bytes (by_ : Int) (r : List Int) (hb : byteI by_) (hr : bytesL r) (n : Nat) : bytesL (scaleK by_ r n) := by
  induction n with
  | zero => exact hr
  | succ n ih => exact bytesL_set ih _ (byte_mul hb)
def xorI (a b : Int) : Int := Go.bits .xor .u8 a b
def addK (r o : List Int) (x : Int) : Nat → List Int
  | 0 => r
  | n + 1 => (addK r o x n).set n (xorI ((addK r o x n).getD n 0) (mulI x (o.getD n 0)))
theorem addK_length (r o : List Int) (x : Int) (n : Nat) : (addK r o x n).length = r.length := by
  induction n with
  | zero => rfl
  | succ n ih => rw [addK, List.length_set, ih]
theorem byte_xor {a b : Int} (ha : byteI a) (hb : byteI b) : byteI (xorI a b) := by
  obtain ⟨n, rfl⟩ : ∃ n : Nat, a = (n : Int) := ⟨a.toNat, by have := ha.1; omega⟩
  obtain ⟨m, rfl⟩ : ∃ m : Nat, b = (m : Int) := ⟨b.toNat, by have := hb.1; omega⟩
  have h1 := ha.2
  have h2 := hb.2
  unfold xorI byteI
  rw [Go.u8_xor_nat n m (by omega) (by omega)]
  have := Gf.xor_lt (a := n) (b := m) (by omega) (by omega)
  omega
theorem mulI_f (k : Nat) (hk : 9 ≤ k) {a b : Int} (ha : byteI a) (hb : byteI b) : gf_Mul.f k a b = some (mulI a b) := by
  obtain ⟨n, rfl⟩ : ∃ n : Nat, a = (n : Int) := ⟨a.toNat, by have := ha.1; omega⟩
  obtain ⟨m, rfl⟩ : ∃ m : Nat, b = (m : Int) := ⟨b.toNat, by have := hb.1; omega⟩
  have h1 := ha.2
  have h2 := hb.2
  rw [mul_f k n m (by omega) (by omega) hk]
  rfl
theorem add_run (x : Int) (o : List Int) (hx : byteI x) (ho : bytesL o) (hol : o.length ≤ 1099511627776) (d : Nat) : ∀ (k n : Nat) (r : List Int), d + n = o.length → d + 10 ≤ k → o.length ≤ r.length → mat_add.l0 k (addK r o x n) x o (o.length : Int) (n : Int) = some (addK r o x o.length) := by
  induction d with
  | zero =>
    intro k n r hd hk hl
    obtain ⟨k, rfl⟩ : ∃ q, k = q + 1 := ⟨k - 1, by omega⟩
    simp only [mat_add.l0]
    rw [if_neg (by omega), show n = o.length by omega]
  | succ d ih =>
    intro k n r hd hk hl
    obtain ⟨k, rfl⟩ : ∃ q, k = q + 1 := ⟨k - 1, by omega⟩
    have hlen := addK_length r o x n
    have e1 : rd o (n : Int) = o.getD n 0 := by simp [rd]
    have e2 : rd (addK r o x n) (n : Int) = (addK r o x n).getD n 0 := by simp [rd]
    simp only [mat_add.l0]
    rw [if_pos (by omega), if_pos (by omega), if_pos (by omega), if_pos (by omega), e1, mulI_f k (by omega) hx (bytesL_get ho n (by omega)), Option.bind_some, e2, Int.toNat_natCast, show wrap64 ((n : Int) + 1) = ((n + 1 : Nat) : Int) from by unfold wrap64; omega]
    exact ih k (n + 1) r (by omega) (by omega) hl
theorem add_f (r o : List Int) (x : Int) (hx : byteI x) (ho : bytesL o) (hol : o.length ≤ 1099511627776) (hl : o.length ≤ r.length) : mat_add.f (o.length + 10) r o x = some (addK r o x o.length) :=
  add_run x o hx ho hol o.length _ 0 r (by omega) (Nat.le_refl _) hl
/-- The rows but row i, as far as the first n: row i taken off so many times. -/
def clearK (i m : Nat) (R : List (List Int)) : Nat → List (List Int)
  | 0 => R
  | n + 1 => if n = i then clearK i m R n else (clearK i m R n).set n (addK ((clearK i m R n).getD n []) ((clearK i m R n).getD i []) (((clearK i m R n).getD n []).getD i 0) m)
theorem clearK_length (i m : Nat) (R : List (List Int)) (n : Nat) : (clearK i m R n).length = R.length := by
  induction n with
  | zero => rfl
  | succ n ih =>
    rw [clearK]
    split
    · exact ih
    · rw [List.length_set, ih]
def clearF (by_ : Int) (i m : Nat) (R : List (List Int)) : List (List Int) := clearK i m (R.set i (scaleK by_ (R.getD i []) m)) R.length
theorem set_self {α : Type} (R : List (List α)) (i : Nat) : R.set i (R.getD i []) = R := by
  by_cases h : i < R.length
  · have e : R.getD i [] = R[i] := by simp [h]
    rw [e, List.set_getElem_self]
  · rw [List.set_eq_of_length_le (by omega)]
theorem clearK_row (i m : Nat) (R : List (List Int)) (N : Nat) (hN : R.length = N) (hi : i < N) (hl : ∀ j, j < N → (R.getD j []).length = m) (n : Nat) : ∀ j, j < N → ((clearK i m R n).getD j []).length = m := by
  induction n with
  | zero => exact hl
  | succ n ih =>
    intro j hj
    rw [clearK]
    split
    · exact ih j hj
    · by_cases e : n = j
      · subst e
        rw [getD_set_same _ _ _ _ (by rw [clearK_length]; omega), addK_length]
        exact ih n hj
      · rw [getD_set_other _ _ _ _ _ e]
        exact ih j hj
theorem addK_bytes (r o : List Int) (x : Int) (hr : bytesL r) (ho : bytesL o) (hx : byteI x) (n : Nat) (hn : n ≤ o.length) (hn2 : n ≤ r.length) : bytesL (addK r o x n) := by
  induction n with
  | zero => exact hr
  | succ n ih =>
    have h1 := ih (by omega) (by omega)
    exact bytesL_set h1 _ (byte_xor (bytesL_get h1 n (by rw [addK_length]; omega)) (byte_mul hx))
theorem clearK_bytes (i m : Nat) (R : List (List Int)) (N : Nat) (hN : R.length = N) (hi : i < N) (him : i < m) (hb : bytesR R) (hl : ∀ j, j < N → (R.getD j []).length = m) (n : Nat) (hn : n ≤ N) : bytesR (clearK i m R n) := by
  have key : ∀ n, n ≤ N → bytesR (clearK i m R n) := by
    intro n
    induction n with
    | zero => intro _; exact hb
    | succ n ih =>
      intro hn
      have h1 := ih (by omega)
      have hcl := clearK_length i m R n
      rw [clearK]
      split
      · exact h1
      · have hr1 := clearK_row i m R N hN hi hl n n (by omega)
        have hr2 := clearK_row i m R N hN hi hl n i hi
        exact bytesR_set h1 _ (addK_bytes _ _ _ (bytesR_get h1 n (by omega)) (bytesR_get h1 i (by omega)) (bytesL_get (bytesR_get h1 n (by omega)) i (by omega)) m (by omega) (by omega))
  exact key n hn
theorem add_step {w0 W : World} {g cap : Nat} {B C : Nat → Nat} {R : List (List Int)} {n i m : Nat} (h : Work w0 W g cap B C R) (hn : n < R.length) (hi : i < R.length) (hni : n ≠ i) (hrn : (R.getD n []).length = m) (hri : (R.getD i []).length = m) (hb : bytesR R) (him : i < m) (hm : m ≤ 1048576) (W2 : World) (hW : Below W.heap.size W W2) :
    Calls Try.prog 27 #[.slice (some ⟨B n, 0, none⟩) m (C n), .slice (some ⟨B i, 0, none⟩) m (C i), .int .u8 ((R.getD n []).getD i 0)] W2 fun e w' => e = .returned (.tuple #[]) ∧ Work w0 w' g cap B C (R.set n (addK (R.getD n []) (R.getD i []) ((R.getD n []).getD i 0) m)) := by
  have h2 := h.same hW
  have hx : byteI ((R.getD n []).getD i 0) := bytesL_get (bytesR_get hb n hn) i (by omega)
  have hf := add_f (R.getD n []) (R.getD i []) ((R.getD n []).getD i 0) hx (bytesR_get hb i hi) (by omega) (by omega)
  have ho := h2.inner n hn
  have hin := h2.inner i hi
  have hci := (Kd.R_reads' hin).2.1
  have hc := mat_add.calls _ (fun k => k = B n) (.slice (some ⟨B n, 0, none⟩) (R.getD n []).length (C n)) (R.getD n []) (some ⟨B i, 0, none⟩) (C i) (R.getD i []) _ _ w0 W2 h2.below ho
    (fun W_ hk => (Kd.R_reads' (Kd.R_step hin (fun k hk' hlt => by subst hk'; exact hk.2 _ hlt (fun e => hni (h.inj i n hi hn e).symm)))).2.2) hci hf
  rw [hrn, hri] at hc
  refine hc.mono ?_
  rintro e w' ⟨rfl, hr, hb', hk⟩
  refine ⟨rfl, h2.set hn hb' hk (Kd.R_of_own ?_ (fun k hk' => ?_)) (by rw [addK_length])⟩
  · have := Kd.own_of_R hr
    rw [addK_length, hrn]
    rw [addK_length, hrn] at this
    exact this
  · simpa [Value.ownBlock] using hk'.symm
theorem mulI_calls (a b : Int) (ha : byteI a) (hb : byteI b) (w : World) : Calls Try.prog 39 #[.int .u8 a, .int .u8 b] w fun e w' => e = .returned (.int .u8 (mulI a b)) ∧ ∃ q, w' = w.drewN q :=
  (gf_Mul.calls 9 a b _ w (mulI_f 9 (Nat.le_refl _) ha hb)).mono fun e w' ⟨h, ⟨d⟩⟩ => ⟨h, d⟩
set_option maxRecDepth 100000 in
set_option maxHeartbeats 2000000 in
theorem clear1_calls (w0 w : World) (g cap c : Nat) (B C : Nat → Nat) (R : List (List Int)) (i m K : Nat) (by_ : Int) (hw : Work w0 w g cap B C R) (hi : i < R.length) (hbR : bytesR R) (hlen : ∀ j, j < R.length → (R.getD j []).length = m) (him : i < m) (hm : m ≤ 1048576) (hn : R.length ≤ 1048576)
    (hby : byteI by_) (hinv : gf_Inv.f K ((R.getD i []).getD i 0) = some by_) :
    Calls Try.prog 35 #[.slice (some ⟨g, 0, none⟩) R.length c, .int .i64 i] w fun e w' => e = .returned (.tuple #[]) ∧ Work w0 w' g cap B C (clearF by_ i m R) := by
  have hr0 := hlen i hi
  have hcell := hw.cell i hi
  have hbyte := (hw.byte i i hi (by omega)).1
  rw [hr0] at hcell
  have HW := Aside0.mk hw
  have HBR := Aside0.mk hbR
  have HLen := Aside0.mk hlen
  have HInv := Aside0.mk hinv
  have HBy := Aside0.mk hby
  have hne := hw.ne i hi
  generalize hrow : R.getD i [] = row at *
  have HRow := Aside0.mk hrow
  clear hw hbR hlen hinv hby hrow
  generalize row.getD i 0 = piv at hbyte HInv
  have d0 : decide (i < R.length) = true := decide_eq_true hi
  have d1 : decide (i < m) = true := decide_eq_true him
  have z0 : (⟨g, 0, none⟩ : Addr).add i = ⟨g, i, none⟩ := by cases i <;> simp [Addr.add]
  go_enter Try.func35, Try.ntmps35
  go_wp2_with (go_at_call 25; refine (gf_Inv.calls K _ _ _ HInv.out).mono ?_; rintro e w' ⟨rfl, ⟨nd, rfl⟩⟩)
  have hw1 : Work w0 (w.drewN nd) g cap B C R := HW.out.same (pw_below_drewN (Below.refl _ _) nd)
  go_loopw [22] (fun v wr => ∃ n : Nat, n ≤ m ∧ v = .int .i64 n ∧ Aside0 (Work w0 wr g cap B C (R.set i (scaleK by_ row n)))) (fun v _ => m - (intOf v).toNat)
  case atStart => exact ⟨0, Nat.zero_le _, rfl, ⟨by rw [scaleK, ← HRow.out, set_self]; exact hw1⟩⟩
  case round =>
    obtain ⟨n, hnm, rfl, hwk⟩ := hrel
    by_cases hlt : n < m
    · have hd : decide (n < m) = true := decide_eq_true hlt
      have hsl := scaleK_length by_ row n
      have hlen0 : i < (R.set i (scaleK by_ row n)).length := by rw [List.length_set]; exact hi
      have hget := getD_set_same R i (scaleK by_ row n) [] hi
      have hc2 := hwk.out.cell i hlen0
      have hb2 := hwk.out.byte i n hlen0 (by rw [hget]; omega)
      have hp2 := hwk.out.put i n hlen0 (by rw [hget]; omega) (mulI by_ ((scaleK by_ row n).getD n 0))
      rw [hget] at hc2 hb2 hp2
      rw [hsl, hr0] at hc2
      obtain ⟨hb3, hf3⟩ := hb2
      have HX : Aside0 (byteI ((scaleK by_ row n).getD n 0)) := ⟨bytesL_get (scaleK_bytes by_ row HBy.out (by rw [← HRow.out]; exact bytesR_get HBR.out i hi) n) n (by omega)⟩
      have HP2 : Aside0 (∀ q, Work w0 ((wr.drewN q).setCell ⟨B i, n, none⟩ (.int .u8 (mulI by_ ((scaleK by_ row n).getD n 0)))) g cap B C (R.set i (scaleK by_ row (n + 1)))) := ⟨fun q => by
        have h3 := (hwk.out.same (pw_below_drewN (Below.refl _ _) q)).put i n hlen0 (by rw [hget]; omega) (mulI by_ ((scaleK by_ row n).getD n 0))
        rw [hget, List.set_set] at h3
        exact h3⟩
      clear hp2 hwk hget hlen0 hsl
      generalize (scaleK by_ row n).getD n 0 = x at *
      go_wp2_with fail
      go_region_held3 (fun w' => w'.cell? ⟨g, i, none⟩ = some (.slice (some ⟨B i, 0, none⟩) m (C i))) (first | go_keep | exact (World.cell?_setCell_other _ _ _ _ (fun e => hne (congrArg Addr.block e).symm)).trans hc2) (first | (go_at_call 39; refine (mulI_calls _ _ HBy.out HX.out _).mono ?_; rintro e w' ⟨rfl, q, rfl⟩))
      go_wp2
      go_roundw
      case rel => exact ⟨n + 1, by omega, by go_num, ⟨HP2.out _⟩⟩
      case measure => simp [intOf]; omega
    · obtain rfl : n = m := by omega
      have hd : decide (n < n) = false := decide_eq_false (Nat.lt_irrefl n)
      have hR1 : (R.set i (scaleK by_ row n)).length = R.length := List.length_set
      have HF : Aside0 (clearK i n (R.set i (scaleK by_ row n)) R.length = clearF by_ i n R) := ⟨by rw [clearF, HRow.out]⟩
      have HB1 : Aside0 (bytesR (R.set i (scaleK by_ row n))) := ⟨bytesR_set HBR.out i (scaleK_bytes by_ row HBy.out (by rw [← HRow.out]; exact bytesR_get HBR.out i hi) n)⟩
      have HL1 : Aside0 (∀ j, j < R.length → ((R.set i (scaleK by_ row n)).getD j []).length = n) := ⟨fun j hj => by
        by_cases e : i = j
        · subst e; rw [getD_set_same _ _ _ _ hi, scaleK_length, hr0]
        · rw [getD_set_other _ _ _ _ _ e]; exact HLen.out j hj⟩
      clear hw1 HW HBR HLen hcell hbyte HInv HBy
      generalize R.set i (scaleK by_ row n) = R1 at *
      go_wp2_with fail
      go_loopw [39] (fun v wi => ∃ q : Nat, q ≤ R.length ∧ v = .int .i64 q ∧ Aside0 (Work w0 wi g cap B C (clearK i n R1 q))) (fun v _ => R.length - (intOf v).toNat)
      case atStart => exact ⟨0, Nat.zero_le _, rfl, hwk⟩
      case round =>
        obtain ⟨q, hq, rfl, hwq⟩ := hrel
        have hcl := clearK_length i n R1 q
        by_cases hql : q < R.length
        · have hd2 : decide (q < R.length) = true := decide_eq_true hql
          have hcq := hwq.out.cell q (by omega)
          rw [clearK_row i n R1 R.length hR1 hi HL1.out q q hql] at hcq
          by_cases hqi : q = i
          · subst hqi
            have hne2 : ((q : Int) != (q : Int)) = false := by simp
            go_wp2
            go_roundw
            case rel => exact ⟨q + 1, by omega, by go_num, ⟨by rw [clearK, if_pos rfl]; exact hwq.out⟩⟩
            case measure => simp [intOf]; omega
          · have hne2 : ((q : Int) != (i : Int)) = true := by rw [bne_iff_ne]; omega
            have hci := hwq.out.cell i (by omega)
            rw [clearK_row i n R1 R.length hR1 hi HL1.out q i hi] at hci
            have hbq := (hwq.out.byte q i (by omega) (by rw [clearK_row i n R1 R.length hR1 hi HL1.out q q hql]; exact him)).1
            have HAdd := Aside0.mk (add_step hwq.out (by omega : q < (clearK i n R1 q).length) (by omega : i < (clearK i n R1 q).length) hqi (clearK_row i n R1 R.length hR1 hi HL1.out q q hql) (clearK_row i n R1 R.length hR1 hi HL1.out q i hi) (clearK_bytes i n R1 R.length hR1 hi him HB1.out HL1.out q (Nat.le_of_lt hql)) him hm)
            clear hwq hwk
            generalize hxx : ((clearK i n R1 q).getD q []).getD i 0 = x at *
            have HXX := Aside0.mk hxx
            clear hxx
            go_wp2_with fail
            go_region_with (go_at_call 27; refine (HAdd.out _ (by first | exact (Below.refl _ _).drew | exact pw_below_drewN (Below.refl _ _) _)).mono ?_; rintro e w4 ⟨rfl, hw4⟩; have HW4 := Aside0.mk hw4; clear hw4)
            all_goals
              go_wp2
              go_roundw
              case rel => exact ⟨q + 1, by omega, by go_num, ⟨by rw [clearK, if_neg hqi, HXX.out]; exact HW4.out⟩⟩
              case measure => simp [intOf]; omega
        · obtain rfl : q = R.length := by omega
          have hd2 : decide (R.length < R.length) = false := decide_eq_false (Nat.lt_irrefl _)
          go_wp2
          go_end0
          exact ⟨rfl, by rw [← HF.out]; exact hwq.out⟩
def invI (a : Int) : Int := ((Gf.gi a.toNat : Nat) : Int)
theorem invI_byte {a : Int} (ha : byteI a) : byteI (invI a) := by
  unfold invI byteI
  have := Gf.gi_lt a.toNat (by have := ha.1; have := ha.2; omega)
  omega
theorem invI_f {a : Int} (ha : byteI a) : gf_Inv.f 80 a = some (invI a) := by
  obtain ⟨n, rfl⟩ : ∃ n : Nat, a = (n : Int) := ⟨a.toNat, by have := ha.1; omega⟩
  have h1 := ha.2
  rw [inv_f 80 n (by omega) (Nat.le_refl _)]
  rfl
def swapR (R : List (List Int)) (i j : Nat) : List (List Int) := (R.set i (R.getD j [])).set j (R.getD i [])
def pivot (R : List (List Int)) (i : Nat) : Option Nat := (List.range (R.length - i)).find? fun r => (R.getD (i + r) []).getD i 0 != 0
def gjStep (n i : Nat) (R : List (List Int)) : Option (List (List Int)) := (pivot R i).map fun r => clearF (invI (((swapR R i (i + r)).getD i []).getD i 0)) i (n + n) (swapR R i (i + r))
def gjK (n : Nat) (R : List (List Int)) : Nat → Option (List (List Int))
  | 0 => some R
  | k + 1 => (gjK n R k).bind (gjStep n k)
def wideF (n : Nat) (a : List (List Int)) (i : Nat) : List Int := (a.getD i [] ++ List.replicate n 0).set (n + i) 1
def invF (a : List (List Int)) : List (List Int) × Int :=
  if fitB a = false ∨ (a.getD 0 []).length ≠ a.length ∨ a.length > 7 then ([], 1)
  else match gjK a.length ((List.range a.length).map (wideF a.length a)) a.length with
    | none => ([], 7)
    | some R => (R.map fun r => r.drop a.length, 0)
def slK : Kd (Option Addr × Nat × Nat) := Kd.scalar (fun p => Value.slice p.1 p.2.1 p.2.2) (fun _ => rfl)
theorem infoS : (Try.prog.info? 22).map (fun i => (i.zero, i.size, i.bytes)) = some (some (.slice none 0 0), 1, 24) := by kernel_rfl
theorem fitB_rows {l : List (List Int)} (h : fitB l = true) : ∀ i, i < l.length → (l.getD i []).length = (l.getD 0 []).length := by
  cases l with
  | nil => intro i hi; simp at hi
  | cons r s =>
    simp only [fitB, List.all_eq_true, beq_iff_eq] at h
    intro i hi
    cases i with
    | zero => rfl
    | succ i =>
      have hi' : i < s.length := by simpa using hi
      have := h s[i] (List.getElem_mem hi')
      simpa [List.getD_eq_getElem?_getD, hi'] using this
/-- The first q rows have been made. -/
structure Building (w0 W : World) (v : Value) (B C : Nat → Nat) (q n : Nat) (a : List (List Int)) : Prop where
  below : Below w0.heap.size w0 W
  own : Kd.R slK 22 W w0.heap.size (fun _ => True) v ((List.range q).map fun i => (some ⟨B i, 0, none⟩, n + n, C i))
  inner : ∀ i, i < q → Kd.R (Kd.int .u8) 5 W w0.heap.size (fun k => k = B i) (.slice (some ⟨B i, 0, none⟩) (n + n) (C i)) (wideF n a i)
  ne : ∀ i, i < q → some (B i) ≠ v.ownBlock
  inj : ∀ i j, i < q → j < q → B i = B j → i = j
theorem wideF_length (n : Nat) (a : List (List Int)) (i : Nat) (h : (a.getD i []).length = n) : (wideF n a i).length = n + n := by
  unfold wideF
  rw [List.length_set, List.length_append, List.length_replicate, h]
theorem R_only {w : World} {base b c n : Nat} {ok : Nat → Prop} {xs : List Int} (h : Kd.R (Kd.int .u8) 5 w base ok (.slice (some ⟨b, 0, none⟩) n c) xs) : Kd.R (Kd.int .u8) 5 w base (fun k => k = b) (.slice (some ⟨b, 0, none⟩) n c) xs := by
  refine Kd.R_of_own (Kd.own_of_R h) (fun k hk => ?_)
  simpa [Value.ownBlock] using hk.symm
theorem wide_cell {w : World} {base b c n q : Nat} {ok : Nat → Prop} {xs : List Int} (h : Kd.R (Kd.int .u8) 5 w base ok (.slice (some ⟨b, 0, none⟩) (n + n) c) xs) (hl : xs.length = n + n) (hq : q < n) : (∃ x, w.cell? ⟨b, n + q, none⟩ = some (.int .u8 x)) ∧ w.frozen? ⟨b, n + q, none⟩ = false := by
  rw [← hl] at h
  have := Kd.R_cell (0 : Int) h ((n + q : Nat) : Int) (by omega) (by omega)
  rw [Int.toNat_natCast] at this
  exact ⟨⟨_, this.1⟩, this.2⟩
theorem wide_put {w : World} {base b c n q : Nat} {ok : Nat → Prop} {xs : List Int} (h : Kd.R (Kd.int .u8) 5 w base ok (.slice (some ⟨b, 0, none⟩) (n + n) c) xs) (hl : xs.length = n + n) (hq : q < n) : Kd.R (Kd.int .u8) 5 (w.setCell ⟨b, n + q, none⟩ (.int .u8 1)) base ok (.slice (some ⟨b, 0, none⟩) (n + n) c) (xs.set (n + q) 1) := by
  rw [← hl] at h ⊢
  have := (Kd.R_put h ((n + q : Nat) : Int) 1).1
  rwa [Int.toNat_natCast] at this
theorem build_step {w0 W W4 W5 : World} {v v5 : Value} {B C : Nat → Nat} {q n b2 c2 : Nat} {a : List (List Int)} {ok : Nat → Prop} (hb : Building w0 W v B C q n a) (hbase : W.heap.size ≤ b2) (hB : Below W.heap.size W W4)
    (h4 : Kd.R (Kd.int .u8) 5 W4 W.heap.size ok (.slice (some ⟨b2, 0, none⟩) (n + n) c2) (wideF n a q)) (h4' : Kd.R (Kd.int .u8) 5 W4 W.heap.size (fun k => k = b2) (.slice (some ⟨b2, 0, none⟩) (n + n) c2) (wideF n a q))
    (h5 : Kd.R slK 22 W5 w0.heap.size (fun _ => True) v5 (((List.range q).map fun i => (some ⟨B i, 0, none⟩, n + n, C i)) ++ [(some ⟨b2, 0, none⟩, n + n, c2)])) (hb5 : Below w0.heap.size w0 W5) (hg : W4.grownBy W5 v.ownBlock) (hat : v5.ownBlock = v.ownBlock ∨ ∃ b, v5.ownBlock = some b ∧ W4.heap.size ≤ b) :
    Building w0 W5 v5 (fun k => if k = q then b2 else B k) (fun k => if k = q then c2 else C k) (q + 1) n a := by
  have hlt : ∀ i, i < q → B i < W.heap.size := fun i hi => Kd.R_lt (hb.inner i hi) (B i) rfl
  have hlt2 : b2 < W4.heap.size := Kd.R_lt h4 b2 rfl
  have hvlt : ∀ k, v.ownBlock = some k → k < W.heap.size := fun k hk => Kd.R_lt hb.own k hk
  have hne2 : some b2 ≠ v.ownBlock := fun e => by have := hvlt b2 e.symm; omega
  have hsz := hB.size
  refine ⟨hb5, ?_, fun i hi => ?_, fun i hi => ?_, fun i j hi hj e => ?_⟩
  · have e : ((List.range (q + 1)).map fun i => ((some ⟨if i = q then b2 else B i, 0, none⟩ : Option Addr), n + n, if i = q then c2 else C i)) = ((List.range q).map fun i => (some ⟨B i, 0, none⟩, n + n, C i)) ++ [(some ⟨b2, 0, none⟩, n + n, c2)] := by
      rw [List.range_succ, List.map_append]
      congr 1
      · apply List.map_congr_left
        intro i hi
        have := List.mem_range.1 hi
        rw [if_neg (by omega), if_neg (by omega)]
      · simp
    rw [e]
    exact h5
  · by_cases e : i = q
    · subst e
      simp only [if_pos]
      exact Kd.R_lower (Kd.R_grown h4' hg (fun k hk => by subst hk; exact hne2)) hb.below.size
    · simp only [if_neg e]
      exact Kd.R_grown (Kd.R_below (hb.inner i (by omega)) hB) hg (fun k hk => by subst hk; exact hb.ne i (by omega))
  · have hbi : (if i = q then b2 else B i) < W4.heap.size := by
      split
      · exact hlt2
      · have := hlt i (by omega); omega
    rcases hat with hat | ⟨b, hbb, hle⟩
    · rw [hat]
      by_cases e : i = q
      · simp only [e, if_pos]; exact hne2
      · simp only [if_neg e]; exact hb.ne i (by omega)
    · rw [hbb]
      intro e
      injection e with e
      omega
  · by_cases e1 : i = q <;> by_cases e2 : j = q
    · omega
    · simp only [e1, if_pos, if_neg e2] at e
      have := hlt j (by omega); omega
    · simp only [e2, if_pos, if_neg e1] at e
      have := hlt i (by omega); omega
    · simp only [if_neg e1, if_neg e2] at e
      exact hb.inj i j (by omega) (by omega) e
theorem wides_get (n : Nat) (a : List (List Int)) (i : Nat) (hi : i < n) : (((List.range n).map (wideF n a)).getD i []) = wideF n a i := by
  simp [List.getD_eq_getElem?_getD, hi]
theorem pivot_none {R : List (List Int)} {i : Nat} (h : pivot R i = none) : ∀ r, r < R.length - i → (R.getD (i + r) []).getD i 0 = 0 := fun r hr => by
  have := List.find?_eq_none.1 h r (List.mem_range.2 hr)
  simpa using this
theorem pivot_some {R : List (List Int)} {i r : Nat} (h : pivot R i = some r) : r < R.length - i ∧ (R.getD (i + r) []).getD i 0 ≠ 0 ∧ ∀ q, q < r → (R.getD (i + q) []).getD i 0 = 0 := by
  unfold pivot at h
  obtain ⟨h1, pa, pb, h2, h3⟩ := List.find?_eq_some_iff_append.1 h
  have hmem : r ∈ List.range (R.length - i) := by rw [h2]; simp
  refine ⟨List.mem_range.1 hmem, by simpa using h1, fun q hq => ?_⟩
  have hlen : pa.length = r := by
    have h4 := congrArg (fun l => l[pa.length]?) h2
    simp only [List.getElem?_append_right (Nat.le_refl _), Nat.sub_self, List.getElem?_cons_zero] at h4
    obtain ⟨_, h5⟩ := List.getElem?_eq_some_iff.1 h4
    simpa using h5
  have hqa : q ∈ pa := by
    have h4 := congrArg (fun l => l[q]?) h2
    have hql : q < pa.length := by omega
    simp only [List.getElem?_append_left hql, List.getElem?_eq_getElem hql] at h4
    obtain ⟨_, h5⟩ := List.getElem?_eq_some_iff.1 h4
    have h6 : q = pa[q] := by simpa using h5
    rw [h6]
    exact List.getElem_mem hql
  have := h3 q hqa
  simpa using this
theorem gjK_none {n : Nat} {R0 : List (List Int)} {k : Nat} (h : gjK n R0 k = none) : ∀ d, gjK n R0 (k + d) = none
  | 0 => h
  | d + 1 => by
    show (gjK n R0 (k + d)).bind _ = none
    rw [gjK_none h d]
    rfl
theorem Work.lt {w0 W : World} {g cap : Nat} {B C : Nat → Nat} {R : List (List Int)} (h : Work w0 W g cap B C R) : g < W.heap.size := by
  obtain ⟨cur, hg, _, _⟩ := h.outer
  exact blk_lt hg
theorem Work.frozen {w0 W : World} {g cap : Nat} {B C : Nat → Nat} {R : List (List Int)} (h : Work w0 W g cap B C R) (i : Nat) : W.frozen? ⟨g, i, none⟩ = false := by
  obtain ⟨cur, hg, _, _⟩ := h.outer
  exact blk_frozen hg i
def tau (i j k : Nat) : Nat := if k = j then i else if k = i then j else k
theorem tau_lt {i j k n : Nat} (hi : i < n) (hj : j < n) (hk : k < n) : tau i j k < n := by
  unfold tau
  split
  · exact hi
  · split <;> assumption
theorem tau_inj {i j a b : Nat} (h : tau i j a = tau i j b) : a = b := by
  unfold tau at h
  split at h <;> split at h <;> (try split at h) <;> (try split at h) <;> omega
theorem swap_length (R : List (List Int)) (i j : Nat) : (swapR R i j).length = R.length := by
  unfold swapR
  rw [List.length_set, List.length_set]
theorem swap_get (R : List (List Int)) (i j k : Nat) (hi : i < R.length) (hj : j < R.length) : (swapR R i j).getD k [] = R.getD (tau i j k) [] := by
  unfold swapR tau
  by_cases h1 : k = j
  · subst h1
    rw [if_pos rfl, getD_set_same _ _ _ _ (by rw [List.length_set]; exact hj)]
  · rw [if_neg h1, getD_set_other _ _ _ _ _ (fun e => h1 e.symm)]
    by_cases h2 : k = i
    · subst h2
      rw [if_pos rfl, getD_set_same _ _ _ _ hi]
    · rw [if_neg h2, getD_set_other _ _ _ _ _ (fun e => h2 e.symm)]
theorem Work.swap {w0 W : World} {g cap m : Nat} {B C : Nat → Nat} {R : List (List Int)} (h : Work w0 W g cap B C R) {i j : Nat} (hi : i < R.length) (hj : j < R.length) (hl : ∀ k, k < R.length → (R.getD k []).length = m) (hcap : R.length ≤ cap) :
    Work w0 ((W.setCell ⟨g, i, none⟩ (.slice (some ⟨B j, 0, none⟩) m (C j))).setCell ⟨g, j, none⟩ (.slice (some ⟨B i, 0, none⟩) m (C i))) g cap (fun k => B (tau i j k)) (fun k => C (tau i j k)) (swapR R i j) := by
  obtain ⟨cur, hg, hs, hc⟩ := h.outer
  have hb1 : Below w0.heap.size w0 ((W.setCell ⟨g, i, none⟩ (.slice (some ⟨B j, 0, none⟩) m (C j))).setCell ⟨g, j, none⟩ (.slice (some ⟨B i, 0, none⟩) m (C i))) :=
    Below.setCell (p := ⟨g, j, none⟩) (Below.setCell (p := ⟨g, i, none⟩) h.below h.gb _) h.gb _
  have hk : Kept W ((W.setCell ⟨g, i, none⟩ (.slice (some ⟨B j, 0, none⟩) m (C j))).setCell ⟨g, j, none⟩ (.slice (some ⟨B i, 0, none⟩) m (C i))) (fun k => k = g) :=
    Kept.setCell (p := ⟨g, j, none⟩) (Kept.setCell (p := ⟨g, i, none⟩) (Kept.refl W (fun k => k = g)) (.inl rfl) _) (.inl rfl) _
  have hg2 := blk_put (blk_put hg i (.slice (some ⟨B j, 0, none⟩) m (C j)) rfl) j (.slice (some ⟨B i, 0, none⟩) m (C i)) rfl
  refine ⟨hb1, ⟨_, hg2, by simp [hs], fun k hk' => ?_⟩, fun k hk' => ?_, fun k hk' => ?_, fun a b ha hb e => ?_, h.gb⟩
  · rw [swap_length] at hk'
    rw [swap_get R i j k hi hj, hl _ (tau_lt hi hj hk')]
    unfold tau
    by_cases h1 : k = j
    · subst h1
      rw [if_pos rfl, Array.getElem?_setIfInBounds_self_of_lt (by simp; omega)]
    · rw [if_neg h1, Array.getElem?_setIfInBounds_ne (fun e => h1 e.symm)]
      by_cases h2 : k = i
      · subst h2
        rw [if_pos rfl, Array.getElem?_setIfInBounds_self_of_lt (by omega)]
      · rw [if_neg h2, Array.getElem?_setIfInBounds_ne (fun e => h2 e.symm)]
        rw [hc k hk', hl k hk']
  · rw [swap_length] at hk'
    rw [swap_get R i j k hi hj]
    have ht := tau_lt hi hj hk'
    exact Kd.R_step (h.inner _ ht) (fun q hq hlt => by subst hq; exact hk.2 _ hlt (h.ne _ ht))
  · rw [swap_length] at hk'
    exact h.ne _ (tau_lt hi hj hk')
  · rw [swap_length] at ha hb
    exact tau_inj (h.inj _ _ (tau_lt hi hj ha) (tau_lt hi hj hb) e)
theorem clearF_ok {by_ : Int} {i m N : Nat} {R : List (List Int)} (hN : R.length = N) (hi : i < N) (him : i < m) (hb : bytesR R) (hl : ∀ j, j < N → (R.getD j []).length = m) (hby : byteI by_) :
    (clearF by_ i m R).length = N ∧ (∀ j, j < N → ((clearF by_ i m R).getD j []).length = m) ∧ bytesR (clearF by_ i m R) := by
  have h1 : (R.set i (scaleK by_ (R.getD i []) m)).length = N := by rw [List.length_set, hN]
  have h2 : ∀ j, j < N → ((R.set i (scaleK by_ (R.getD i []) m)).getD j []).length = m := fun j hj => by
    by_cases e : i = j
    · subst e; rw [getD_set_same _ _ _ _ (by omega), scaleK_length, hl i hi]
    · rw [getD_set_other _ _ _ _ _ e]; exact hl j hj
  have h3 : bytesR (R.set i (scaleK by_ (R.getD i []) m)) := bytesR_set hb i (scaleK_bytes by_ _ hby (bytesR_get hb i (by omega)) m)
  unfold clearF
  exact ⟨by rw [clearK_length, h1], clearK_row i m _ N h1 hi h2 _, clearK_bytes i m _ N h1 hi him h3 h2 _ (by omega)⟩
theorem idx_work {w0 W : World} {g cap : Nat} {B C : Nat → Nat} {R : List (List Int)} {i n : Nat} (hw : Work w0 W g cap B C R) (hl : R.length = n) (hrow : ∀ j, j < n → (R.getD j []).length = n + n) (hi : i < n) (hn : n ≤ 7) (W1 : World) (hB : Below W.heap.size W W1) (Bi c : Nat) (hb : W1.cell? ⟨Bi, 0, none⟩ = some (.int .i64 i)) :
    Calls Try.prog 32 #[.slice (some ⟨g, i, none⟩) (n - i) c, .func (.func 34) #[] #[.pointer (some ⟨Bi, 0, none⟩)]] W1 fun e w' => e = .returned (.int .i64 (match pivot R i with | none => -1 | some r => (r : Int))) ∧ w' = W1 := by
  have hw1 := hw.same hB
  refine (idx2_calls Bi i (n - i) c ⟨g, i, none⟩ (fun r => (R.getD (i + r) []).getD i 0) W1 hb (by omega) (fun r hr => ?_)).mono ?_
  · have ea : (⟨g, i, none⟩ : Addr).add r = ⟨g, i + r, none⟩ := by cases r <;> simp [Addr.add]
    have h1 := hw1.cell (i + r) (by omega)
    have h2 := (hw1.byte (i + r) i (by omega) (by rw [hrow (i + r) (by omega)]; omega)).1
    rw [hrow (i + r) (by omega)] at h1
    refine ⟨⟨B (i + r), 0, none⟩, n + n, C (i + r), by rw [ea]; exact h1, by omega, ?_⟩
    have eb : (⟨B (i + r), 0, none⟩ : Addr).add i = ⟨B (i + r), i, none⟩ := by cases i <;> simp [Addr.add]
    rw [eb]
    exact h2
  · rintro e w' ⟨j, rfl, rfl, ⟨rfl, hall⟩ | ⟨r, rfl, hr, hne, hfirst⟩⟩
    · refine ⟨?_, rfl⟩
      cases hp : pivot R i with
      | none => rfl
      | some r =>
        obtain ⟨h1, h2, _⟩ := pivot_some hp
        exact absurd (hall r (by omega)) h2
    · refine ⟨?_, rfl⟩
      cases hp : pivot R i with
      | none => exact absurd (pivot_none hp r (by omega)) hne
      | some r' =>
        obtain ⟨h1, h2, h3⟩ := pivot_some hp
        have : r = r' := by
          rcases Nat.lt_trichotomy r r' with h | h | h
          · exact absurd (h3 r h) hne
          · exact h
          · exact absurd (hfirst r' h) h2
        subst this
        rfl
theorem wides_bytes (n : Nat) (a : List (List Int)) (h : ∀ l ∈ a, ∀ x ∈ l, 0 ≤ x ∧ x < 256) : bytesR ((List.range n).map (wideF n a)) := by
  intro r hr
  obtain ⟨i, _, rfl⟩ := List.mem_map.1 hr
  unfold wideF
  refine bytesL_set (fun x hx => ?_) _ ⟨by decide, by decide⟩
  rcases List.mem_append.1 hx with h' | h'
  · by_cases hi : i < a.length
    · have e : a.getD i [] = a[i] := by simp [hi]
      rw [e] at h'
      exact h _ (List.getElem_mem hi) x h'
    · have e : a.getD i [] = [] := by simp [List.getD_eq_getElem?_getD, List.getElem?_eq_none (by omega : a.length ≤ i)]
      rw [e] at h'
      cases h'
  · rw [List.eq_of_mem_replicate h']
    exact ⟨by decide, by decide⟩
theorem build_work {w0 W : World} {v : Value} {B C : Nat → Nat} {n : Nat} {a : List (List Int)} (hb : Building w0 W v B C n n a) (hn : 0 < n) (hrl : ∀ i, i < n → (a.getD i []).length = n) :
    ∃ g cap, v = .slice (some ⟨g, 0, none⟩) n cap ∧ n ≤ cap ∧ Work w0 W g cap B C ((List.range n).map (wideF n a)) := by
  have ho := Kd.own_of_R hb.own
  rw [List.length_map, List.length_range] at ho
  rcases ho.2 with ⟨_, h0⟩ | ⟨g, cap, cur, rfl, hg, hh, hnc, hcm, hcs, ht⟩
  · omega
  · refine ⟨g, cap, rfl, hnc, hb.below, ⟨cur, hh, by omega, fun i hi => ?_⟩, fun i hi => ?_, fun i hi => ?_, fun i j hi hj e => ?_, hg⟩
    · have hi' : i < n := by simpa using hi
      rw [wides_get n a i hi', wideF_length n a i (hrl i hi')]
      have h3 := congrArg (fun l => l[i]?) ht
      simp only [Nat.mul_one, List.getElem?_take, if_pos hi', encs, List.getElem?_map, List.getElem?_range hi', Option.map_some, Array.getElem?_toList] at h3
      exact h3
    · have hi' : i < n := by simpa using hi
      rw [wides_get n a i hi', wideF_length n a i (hrl i hi')]
      exact hb.inner i hi'
    · have hi' : i < n := by simpa using hi
      intro e
      exact hb.ne i hi' (by simp [Value.ownBlock, e])
    · exact hb.inj i j (by simpa using hi) (by simpa using hj) e
theorem swap_bytes {R : List (List Int)} (hb : bytesR R) {i j : Nat} (hi : i < R.length) (hj : j < R.length) : bytesR (swapR R i j) := bytesR_set (bytesR_set hb _ (bytesR_get hb j hj)) _ (bytesR_get hb i hi)
theorem clear_swapped {w0 W : World} {g cap i j n : Nat} {B C : Nat → Nat} {R : List (List Int)} (h : Work w0 W g cap B C (swapR R i j)) (hl : R.length = n) (hr : ∀ k, k < n → (R.getD k []).length = n + n) (hb : bytesR R) (hi : i < n) (hj : j < n) (hn : n ≤ 7) (W2 : World) (hB : Below W.heap.size W W2) :
    Calls Try.prog 35 #[.slice (some ⟨g, 0, none⟩) n cap, .int .i64 i] W2 fun e w' => e = .returned (.tuple #[]) ∧ Work w0 w' g cap B C (clearF (invI (((swapR R i j).getD i []).getD i 0)) i (n + n) (swapR R i j)) := by
  have hl2 : (swapR R i j).length = n := by rw [swap_length, hl]
  have hr2 : ∀ k, k < (swapR R i j).length → ((swapR R i j).getD k []).length = n + n := fun k hk => by
    rw [swap_get R i j k (by omega) (by omega)]
    exact hr _ (tau_lt hi hj (by omega))
  have hb2 : bytesR (swapR R i j) := bytesR_set (bytesR_set hb _ (bytesR_get hb j (by omega))) _ (bytesR_get hb i (by omega))
  have hp : byteI (((swapR R i j).getD i []).getD i 0) := bytesL_get (bytesR_get hb2 i (by omega)) i (by rw [hr2 i (by omega)]; omega)
  have := clear1_calls w0 W2 g cap cap B C (swapR R i j) i (n + n) 80 (invI (((swapR R i j).getD i []).getD i 0)) (h.same hB) (by omega) hb2 hr2 (by omega) (by omega) (by omega) (invI_byte hp) (invI_f hp)
  rwa [hl2] at this
/-- The first k rows have been cut to their right halves. -/
structure Cut (w0 W : World) (g cap n : Nat) (R : List (List Int)) (B C : Nat → Nat) (k : Nat) : Prop where
  below : Below w0.heap.size w0 W
  gb : w0.heap.size ≤ g
  outer : ∃ cur : Array Value, W.heap[g]? = some (.cells cur 22 (0, 0)) ∧ cur.size = cap ∧ (∀ j, k ≤ j → j < n → cur[j]? = some (.slice (some ⟨B j, 0, none⟩) (n + n) (C j))) ∧
    ∀ j, j < k → ∃ A c, cur[j]? = some (.slice A n c) ∧ n ≤ c ∧ Kd.F (Kd.int .u8) W (fun q => w0.heap.size ≤ q ∧ q ≠ g) A n ((R.getD j []).drop n)
  inner : ∀ j, k ≤ j → j < n → Kd.F (Kd.int .u8) W (fun q => w0.heap.size ≤ q ∧ q ≠ g) (some ⟨B j, 0, none⟩) (n + n) (R.getD j []) ∧ n + n ≤ C j
theorem cut_start {w0 W : World} {g cap n : Nat} {R : List (List Int)} {B C : Nat → Nat} (h : Work w0 W g cap B C R) (hl : R.length = n) (hr : ∀ j, j < n → (R.getD j []).length = n + n) : Cut w0 W g cap n R B C 0 := by
  obtain ⟨cur, hg, hs, hc⟩ := h.outer
  refine ⟨h.below, h.gb, ⟨cur, hg, hs, fun j _ hj => ?_, fun j hj => absurd hj (Nat.not_lt_zero j)⟩, fun j _ hj => ?_⟩
  · have := hc j (by omega)
    rwa [hr j hj] at this
  · have hin := h.inner j (by omega)
    rw [hr j hj] at hin
    refine ⟨Kd.F_mono (Kd.R_F hin) (fun q hq => ?_), (Kd.R_reads' hin).2.1⟩
    subst hq
    exact ⟨Kd.R_base hin (B j) rfl, h.ne j (by omega)⟩
theorem Cut.step {w0 W W2 : World} {g cap n k c : Nat} {R : List (List Int)} {B C : Nat → Nat} {A : Option Addr} (h : Cut w0 W g cap n R B C k) (hk : k < n) (hcap : n ≤ cap) (hB : Below W.heap.size W W2) (hF : Kd.F (Kd.int .u8) W2 (fun q => W.heap.size ≤ q) A n ((R.getD k []).drop n)) (hc : n ≤ c) :
    Cut w0 (W2.setCell ⟨g, k, none⟩ (.slice A n c)) g cap n R B C (k + 1) := by
  obtain ⟨cur, hg, hs, h1, h2⟩ := h.outer
  have hlt : g < W.heap.size := blk_lt hg
  have hk2 : Kept W (W2.setCell ⟨g, k, none⟩ (.slice A n c)) (fun q => q = g) := Kept.setCell (p := ⟨g, k, none⟩) (Kept.of_below hB (fun q => q = g)) (.inl rfl) _
  have hmv : ∀ {A' : Option Addr} {m : Nat} {xs : List Int}, Kd.F (Kd.int .u8) W (fun q => w0.heap.size ≤ q ∧ q ≠ g) A' m xs → Kd.F (Kd.int .u8) (W2.setCell ⟨g, k, none⟩ (.slice A n c)) (fun q => w0.heap.size ≤ q ∧ q ≠ g) A' m xs :=
    fun hF' => Kd.F_step hF' (fun q hq hl => hk2.2 q hl hq.2)
  refine ⟨Below.setCell (p := ⟨g, k, none⟩) (h.below.trans (hB.mono h.below.size)) h.gb _, h.gb, ⟨_, blk_put (blk_below hg hB) k (.slice A n c) rfl, by simp [hs], fun j hj hjn => ?_, fun j hj => ?_⟩, fun j hj hjn => ?_⟩
  · rw [Array.getElem?_setIfInBounds_ne (by omega)]
    exact h1 j (by omega) hjn
  · by_cases e : j = k
    · subst e
      refine ⟨A, c, Array.getElem?_setIfInBounds_self_of_lt (by omega), hc, ?_⟩
      refine Kd.F_mono (Kd.F_far hF (fun q hq => ?_) _) (fun q hq => ⟨?_, ?_⟩)
      · show q ≠ g
        have : W.heap.size ≤ q := hq
        omega
      · have : W.heap.size ≤ q := hq
        have := h.below.size
        omega
      · have : W.heap.size ≤ q := hq
        omega
    · obtain ⟨A', c', e1, e2, e3⟩ := h2 j (by omega)
      exact ⟨A', c', by rw [Array.getElem?_setIfInBounds_ne (fun e' => e e'.symm)]; exact e1, e2, hmv e3⟩
  · obtain ⟨e1, e2⟩ := h.inner j (by omega) hjn
    exact ⟨hmv e1, e2⟩
theorem Cut.cell {w0 W : World} {g cap n k : Nat} {R : List (List Int)} {B C : Nat → Nat} (h : Cut w0 W g cap n R B C k) (hk : k < n) : W.cell? ⟨g, k, none⟩ = some (.slice (some ⟨B k, 0, none⟩) (n + n) (C k)) ∧ W.frozen? ⟨g, k, none⟩ = false := by
  obtain ⟨cur, hg, hs, h1, h2⟩ := h.outer
  exact ⟨(blk_cell hg k).trans (h1 k (Nat.le_refl _) hk), blk_frozen hg k⟩
theorem Cut.right {w0 W : World} {g cap n k : Nat} {R : List (List Int)} {B C : Nat → Nat} (h : Cut w0 W g cap n R B C k) (hk : k < n) (hn : n ≤ 7) (hr : (R.getD k []).length = n + n) : Kd.C (Kd.int .u8) W (some ⟨B k, n, none⟩) ((R.getD k []).drop n).length ((R.getD k []).drop n) := by
  have hC := Kd.F_now (h.inner k (Nat.le_refl _) hk).1
  rw [← hr] at hC
  obtain ⟨ad, he, hc⟩ := (Kd.reads_of_C (enc := Value.int .u8) (d := (0 : Int)) (h1 := fun _ => rfl) hC).2.2 (by omega)
  obtain rfl : (⟨B k, 0, none⟩ : Addr) = ad := Option.some.inj he
  refine Kd.C_of_reads (d := (0 : Int)) ⟨rfl, by rw [List.length_drop]; omega, fun _ => ⟨_, rfl, fun j hj => ?_⟩⟩
  rw [List.length_drop] at hj
  have h1 := hc (n + j) (by omega)
  have ea : (⟨B k, 0, none⟩ : Addr).add (n + j) = ⟨B k, n + j, none⟩ := by
    unfold Addr.add
    rw [if_neg (by omega)]
    simp
  have eb : (⟨B k, n, none⟩ : Addr).add j = ⟨B k, n + j, none⟩ := by cases j <;> simp [Addr.add]
  rw [ea] at h1
  rw [eb, h1]
  simp [List.getD_eq_getElem?_getD]
theorem Cut.done {w0 W : World} {g cap n : Nat} {R : List (List Int)} {B C : Nat → Nat} (h : Cut w0 W g cap n R B C n) (hl : R.length = n) (hn : n ≤ 7) (hcap : n ≤ cap) (hr : ∀ j, j < n → (R.getD j []).length = n + n) :
    Kd.V (Kd.slice 5 (Kd.int .u8)) 22 W w0.heap.size (fun k_ => w0.heap.size ≤ k_) (.slice (some ⟨g, 0, none⟩) n cap) (R.map fun r => r.drop n) := by
  obtain ⟨cur, hg, hs, _, h2⟩ := h.outer
  have hgl : g < W.heap.size := blk_lt hg
  refine ⟨some ⟨g, 0, none⟩, cap, by rw [List.length_map, hl], by rw [List.length_map, hl]; exact hcap, fun W' hW => ?_⟩
  refine ⟨rfl, by rw [List.length_map]; omega, fun _ => ⟨_, rfl, fun j x hj => ?_⟩⟩
  obtain ⟨hj', hx⟩ := List.getElem?_eq_some_iff.1 hj
  have hjn : j < n := by rw [List.length_map] at hj'; omega
  have hx' : (R.getD j []).drop n = x := by
    have : R.getD j [] = R[j] := by simp [show j < R.length by omega]
    rw [this]
    simpa using hx
  obtain ⟨A, c, e1, e2, e3⟩ := h2 j hjn
  have hxl : x.length = n := by rw [← hx', List.length_drop, hr j hjn]; omega
  refine ⟨[.slice A n c], rfl, ⟨A, c, by rw [hxl], by omega, ?_⟩, fun i u hu => ?_⟩
  · have h5 : Kd.F (Kd.int .u8) W' (fun q => w0.heap.size ≤ q ∧ q ≠ g) A n ((R.getD j []).drop n) := Kd.F_step e3 (fun q hq hl' => hW q hq.1 hl')
    rw [hx'] at h5
    rw [hxl]
    exact Kd.F_now h5
  · have hi : i = 0 := by
      have := (List.getElem?_eq_some_iff.1 hu).1
      simpa using this
    subst hi
    obtain rfl : Value.slice A n c = u := by simpa using hu
    have ea : (⟨g, 0, none⟩ : Addr).add (j * (Kd.slice 5 (Kd.int .u8)).sz + 0) = ⟨g, j, none⟩ := by
      have : j * (Kd.slice 5 (Kd.int .u8)).sz + 0 = j := by simp [Kd.slice]
      rw [this]
      cases j <;> simp [Addr.add]
    rw [ea]
    have hg2 : W'.heap[g]? = some (.cells cur 22 (0, 0)) := (hW g h.gb hgl).trans hg
    exact (blk_cell hg2 j).trans e1
def mat_Invert.f (l0 : List (List Int)) : Option (List (List Int) × Int) := if l0.length ≤ 1048576 ∧ (∀ l ∈ l0, ∀ x ∈ l, 0 ≤ x ∧ x < 256) then some (invF l0) else none
set_option maxRecDepth 100000 in
set_option maxHeartbeats 2000000 in
theorem mat_Invert.calls (A0 : Option Addr) (c0 : Nat) (l0 : List (List Int)) (r1 : List (List Int)) (r2 : Int) (w : World) (hr0 : Kd.C (Kd.slice 5 (Kd.int .u8)) w A0 l0.length l0) (hc0 : l0.length ≤ c0) (h : mat_Invert.f l0 = some (r1, r2)) :
    Calls Try.prog 23 #[.slice A0 l0.length c0] w fun e w' => ∃ v0_ : Value, e = .returned (.tuple #[v0_, .int .i64 r2]) ∧ Kd.V (Kd.slice 5 (Kd.int .u8)) 22 w' w.heap.size (fun k_ => w.heap.size ≤ k_) v0_ r1 ∧ Below w.heap.size w w' := by
  unfold mat_Invert.f at h
  split at h
  case isFalse => cases h
  rename_i hh
  obtain ⟨hbig, hby⟩ := hh
  have hF := Option.some.inj h
  clear h
  have HFit := Aside0.mk (mat_fit.calls A0 c0 l0 (fitB l0) w hr0 hc0 rfl)
  unfold invF at hF
  by_cases hfit : fitB l0 = false
  · rw [if_pos (Or.inl hfit)] at hF
    obtain ⟨rfl, rfl⟩ := Prod.mk.inj hF
    clear hF hr0 hby
    rw [hfit] at HFit
    go_enter Try.func23, Try.ntmps23
    go_wp2_with (go_at_call 26; refine HFit.out.mono ?_; rintro e w1 ⟨rfl, hB⟩; have HB := Aside0.mk hB; clear hB)
    go_ret2
    exact ⟨_, rfl, Kd.V_nil _ _ _ _ _, HB.out⟩
  · have hft : fitB l0 = true := by simpa using hfit
    have hn0 : 0 < l0.length := by
      cases l0 with
      | nil => simp [fitB] at hft
      | cons x l => simp
    rw [hft] at HFit
    have hreads := hr0.2.2 hn0
    obtain ⟨ad, rfl, hcs⟩ := hreads
    have hrow : ∀ i, i < l0.length → ∃ Ai ci, w.cell? (ad.add i) = some (.slice Ai (l0.getD i []).length ci) ∧ (l0.getD i []).length ≤ ci ∧ Kd.C (Kd.int .u8) w Ai (l0.getD i []).length (l0.getD i []) := fun i hi => by
      obtain ⟨c, _, ⟨A', c', rfl, hle, hC⟩, hcell⟩ := hcs i _ (List.getElem?_eq_getElem hi)
      have h2 := hcell 0 _ rfl
      have e : l0.getD i [] = l0[i] := by simp [hi]
      rw [e]
      exact ⟨A', c', by simpa [Kd.slice] using h2, hle, hC⟩
    obtain ⟨Am, cm, hm, _, _⟩ := hrow 0 hn0
    have hz : ad.add 0 = ad := by simp [Addr.add]
    rw [hz] at hm
    have hm0 : ∀ W, Below w.heap.size w W → W.cell? ad = some (.slice Am (l0.getD 0 []).length cm) := fun W hB => pw_cell_below hB hm
    generalize hm00 : (l0.getD 0 []).length = m0 at *
    have HM00 := Aside0.mk hm00
    clear hm00
    have HM0 := Aside0.mk hm0
    have HRow := Aside0.mk hrow
    have HBy := Aside0.mk hby
    have d0 : decide (0 < l0.length) = true := decide_eq_true hn0
    clear hr0 hcs hrow hm hm0 hby
    by_cases hsq : m0 ≠ l0.length
    · rw [if_pos (Or.inr (Or.inl hsq))] at hF
      obtain ⟨rfl, rfl⟩ := Prod.mk.inj hF
      clear hF
      have hsq2 : ((m0 : Int) != (l0.length : Int)) = true := by rw [bne_iff_ne]; omega
      go_enter Try.func23, Try.ntmps23
      go_wp2_with (go_at_call 26; refine HFit.out.mono ?_; rintro e w1 ⟨rfl, hB⟩; have HB := Aside0.mk hB; have hm1 := HM0.out w1 hB; clear hB)
      go_ret2
      exact ⟨_, rfl, Kd.V_nil _ _ _ _ _, HB.out⟩
    · have hsq1 : m0 = l0.length := by omega
      subst hsq1
      by_cases h7 : l0.length > 7
      · rw [if_pos (Or.inr (Or.inr h7))] at hF
        obtain ⟨rfl, rfl⟩ := Prod.mk.inj hF
        clear hF
        have h72 : decide (7 < l0.length) = true := decide_eq_true h7
        go_enter Try.func23, Try.ntmps23
        go_wp2_with (go_at_call 26; refine HFit.out.mono ?_; rintro e w1 ⟨rfl, hB⟩; have HB := Aside0.mk hB; have hm1 := HM0.out w1 hB; clear hB)
        go_ret2
        exact ⟨_, rfl, Kd.V_nil _ _ _ _ _, HB.out⟩
      · rw [if_neg (fun h => by rcases h with h | h | h; exact hfit h; exact hsq h; exact h7 h)] at hF
        have h72 : decide (7 < l0.length) = false := decide_eq_false h7
        go_enter Try.func23, Try.ntmps23
        go_wp2_with (go_at_call 26; refine HFit.out.mono ?_; rintro e w1 ⟨rfl, hB⟩; have HB := Aside0.mk hB; have hm1 := HM0.out w1 hB; clear hB)
        have HRL : Aside0 (∀ i, i < l0.length → (l0.getD i []).length = l0.length) := ⟨fun i hi => (fitB_rows hft i hi).trans HM00.out⟩
        generalize hnn : l0.length = n at *
        have HNN := Aside0.mk hnn
        clear hnn hm1 HM0 hz
        go_loopw [5, 31] (fun v i wr => ∃ (q : Nat) (B C : Nat → Nat), q ≤ n ∧ i = .int .i64 q ∧ Aside0 (Building w wr v B C q n l0)) (fun _ i _ => n - (intOf i).toNat)
        case atStart => exact ⟨0, fun _ => 0, fun _ => 0, Nat.zero_le _, rfl, ⟨HB.out, Kd.R_nil _ _ _ _ _, fun i hi => absurd hi (Nat.not_lt_zero i), fun i hi => absurd hi (Nat.not_lt_zero i), fun i j hi => absurd hi (Nat.not_lt_zero i)⟩⟩
        case round =>
          obtain ⟨q, B, C, hq, rfl, hb⟩ := hrel
          by_cases hlt : q < n
          · have hd : decide (q < n) = true := decide_eq_true hlt
            obtain ⟨Aq, cq, hcq, hle, hC⟩ := HRow.out q hlt
            have hcq2 := pw_cell_below hb.out.below hcq
            have hrl := HRL.out q hlt
            have HClone := Aside0.mk (bytesClone_calls Aq cq (l0.getD q []) wr (Kd.C_below hC hb.out.below) hle (by omega))
            have HLW : Aside0 ((l0.getD q [] ++ List.replicate n (0 : Int)).length = n + n) := ⟨by rw [List.length_append, hrl, List.length_replicate]⟩
            rw [hrl] at hcq2 HClone
            clear hcq hC hle
            go_wp2_with (first | (go_at_call 33; refine HClone.out.mono ?_; rintro e w2 ⟨v1, rfl, hr1, hb1⟩; have HR1 := Aside0.mk hr1; have HB1 := Aside0.mk hb1; clear hr1 hb1) | ((with_reducible refine gate_builtin (b := .append) (xs := #[.tmp 37, .tmp 38]) rfl ?_); at_builtin; refine Kd.R_append_zeros (Kd.int .u8) (w0 := wr) wr.heap.size rfl (.tmp 37) (.tmp 38) 22 3 5 (.int .u8 0) 1 rfl Try.underlying22 Try.underlying3 info5 rfl (by decide) (by decide) v1 (l0.getD q []) 0 (kx := .i64) n (fun _ => True) rfl rfl rfl (fun _ _ => trivial) HR1.out (by omega) HB1.out HB1.out.size (by rw [hrl, Int.toNat_natCast]; omega) ?_; intro v2 w3 ho hb2 hg hat; have HB3 := Aside0.mk hb2; rw [Int.toNat_natCast] at ho; obtain ⟨b2, c2, e2, hb2', hlt2, _⟩ := Kd.R_form ho (by rw [List.length_append, hrl]; omega); rw [HLW.out] at e2; subst e2; obtain ⟨⟨x4, hc4⟩, hf4⟩ := wide_cell ho HLW.out hlt; have H4 := Aside0.mk (wide_put ho HLW.out hlt); have hnq : ((n : Int) + (q : Int)).toNat = n + q := (by omega); clear ho hb2 hg hat; have h4 := H4.out; have hbw := hb.out.below; have hB3 : Below wr.heap.size wr (w3.setCell ⟨b2, n + q, none⟩ (.int .u8 1)) := Below.setCell (p := ⟨b2, n + q, none⟩) HB3.out hb2' _; have hown := Kd.R_below hb.out.own hB3; have HOwn := Aside0.mk hown; have HB4 : Aside0 (Below w.heap.size w (w3.setCell ⟨b2, n + q, none⟩ (.int .u8 1))) := ⟨hbw.trans (hB3.mono hbw.size)⟩; have HB3' := Aside0.mk hB3; have hsz3 : (w3.setCell ⟨b2, n + q, none⟩ (.int .u8 1)).heap.size = w3.heap.size := (by simp); clear hown hB3 h4 hbw) | ((with_reducible refine gate_builtin (b := .append) (xs := #[.tmp 45, .tmp 47]) rfl ?_); at_builtin; refine Kd.R_append slK (w0 := w) w.heap.size rfl (.tmp 45) (.tmp 47) 24 22 (.slice none 0 0) 24 rfl Try.underlying24 infoS rfl (by decide) (by decide) u5 ((List.range q).map fun i => (some ⟨B i, 0, none⟩, n + n, C i)) (some ⟨b2, 0, none⟩, n + n, c2) [.slice (some ⟨b2, 0, none⟩) (n + n) c2] (fun _ => True) (fun _ => False) rfl (by rw [hsz3]; rfl) rfl (fun _ hk => hk.elim) (fun _ _ => trivial) HOwn.out HB4.out HB4.out.size (by simp; omega) ?_; intro v5 w5 ho5 hb5 hg5 hat5; have HO5 := Aside0.mk ho5; have HB5 := Aside0.mk hb5; have HG5 := Aside0.mk hg5; have HA5 := Aside0.mk hat5; clear ho5 hb5 hg5 hat5))
            go_roundw
            case rel =>
              refine ⟨q + 1, fun k => if k = q then b2 else B k, fun k => if k = q then c2 else C k, by omega, by go_num, ⟨?_⟩⟩
              exact build_step hb.out hb2' HB3'.out H4.out (R_only H4.out) HO5.out HB5.out HG5.out HA5.out
            case measure => simp [intOf]; omega
          · obtain rfl : q = n := by omega
            have hd : decide (q < q) = false := decide_eq_false (Nat.lt_irrefl q)
            obtain ⟨g, cap, rfl, hcap, hwork⟩ := build_work hb.out hn0 HRL.out
            have HR0 : Aside0 (∀ j, j < q → (((List.range q).map (wideF q l0)).getD j []).length = q + q) := ⟨fun j hj => by rw [wides_get q l0 j hj]; exact wideF_length q l0 j (HRL.out j hj)⟩
            have HL0 : Aside0 (((List.range q).map (wideF q l0)).length = q) := ⟨by simp⟩
            have HBB : Aside0 (bytesR ((List.range q).map (wideF q l0))) := ⟨wides_bytes q l0 HBy.out⟩
            have HWk := Aside0.mk hwork
            clear hb hwork HB hfit hft HRow HBy HRL HM00
            generalize (List.range q).map (wideF q l0) = R0 at *
            go_wp2_with fail
            go_loopw [51] (fun v wi => ∃ (i : Nat) (R : List (List Int)) (B C : Nat → Nat), i ≤ q ∧ v = .int .i64 i ∧ Aside0 (gjK q R0 i = some R) ∧ Aside0 (Work w wi g cap B C R) ∧ Aside0 (R.length = q) ∧ Aside0 (∀ j, j < q → (R.getD j []).length = q + q) ∧ Aside0 (bytesR R)) (fun v _ => q - (intOf v).toNat)
            case atStart => exact ⟨0, R0, B, C, Nat.zero_le _, rfl, ⟨rfl⟩, HWk, HL0, HR0, HBB⟩
            case round =>
              clear HWk HR0 HBB HL0
              obtain ⟨i, R, B, C, hi, rfl, hgj, hwk, hRl, hRr, hRb⟩ := hrel
              by_cases hlt2 : i < q
              · have hd2 : decide (i < q) = true := decide_eq_true hlt2
                have hci : ¬ (cap = i) := by omega
                have hBW : Below wr.heap.size wr (wr.alloc (.cells #[.int .i64 i] 3)) := (Below.refl _ _).alloc (Nat.le_refl _) _
                have hbx : (wr.alloc (.cells #[.int .i64 i] 3)).cell? ⟨wr.heap.size, 0, none⟩ = some (.int .i64 i) := blk_cell (blk_new wr (.cells #[.int .i64 i] 3)) 0
                have HIdx := Aside0.mk (idx_work hwk.out hRl.out hRr.out hlt2 (by omega) _ hBW wr.heap.size (cap - i) hbx)
                cases hpv : pivot R i with
                | none =>
                  have hnone : gjK q R0 q = none := by
                    have h1 : gjK q R0 (i + 1) = none := by
                      show (gjK q R0 i).bind (gjStep q i) = none
                      rw [hgj.out, Option.bind_some, gjStep, hpv]
                      rfl
                    have h2 := gjK_none h1 (q - (i + 1))
                    rwa [show i + 1 + (q - (i + 1)) = q by omega] at h2
                  rw [hnone] at hF
                  obtain ⟨rfl, rfl⟩ := Prod.mk.inj hF
                  rw [hpv] at HIdx
                  have HBf : Aside0 (Below w.heap.size w (wr.alloc (.cells #[.int .i64 i] 3))) := ⟨hwk.out.below.alloc hwk.out.below.size _⟩
                  clear hF hnone hwk hgj hRl hRr hRb
                  go_wp2_with (go_at_call 32; refine HIdx.out.mono ?_; rintro e w' ⟨rfl, rfl⟩)
                  go_ret2
                  exact ⟨_, rfl, Kd.V_nil _ _ _ _ _, HBf.out⟩
                | some r =>
                  rw [hpv] at HIdx
                  have HPV := Aside0.mk hpv
                  obtain ⟨hr1, _, _⟩ := pivot_some hpv
                  clear hpv
                  have hrl := hRl.out
                  have hw1 := hwk.out.same hBW
                  have hci1 := hw1.cell i (by omega)
                  have hcj1 := hw1.cell (i + r) (by omega)
                  rw [hRr.out i hlt2] at hci1
                  rw [hRr.out (i + r) (by omega)] at hcj1
                  have hfi1 := hw1.frozen i
                  have hfj1 := hw1.frozen (i + r)
                  have hirq : i + r < q := by omega
                  have hir : decide (i + r < q) = true := decide_eq_true hirq
                  have hbf : (wr.alloc (.cells #[.int .i64 i] 3)).cell? ⟨wr.heap.size, 0, none⟩ = some (.int .i64 i) := hbx
                  have hneg : decide ((r : Int) < 0) = false := decide_eq_false (by omega)
                  clear hw1 hbx
                  have hs1 : ((wr.alloc (.cells #[.int .i64 i] 3)).setCell ⟨g, i, none⟩ (.slice (some ⟨B (i + r), 0, none⟩) (q + q) (C (i + r)))).cell? ⟨g, i + r, none⟩ = some (.slice (some ⟨B (i + r), 0, none⟩) (q + q) (C (i + r))) := by
                    by_cases hr0 : r = 0
                    · subst hr0
                      exact World.cell?_setCell_same' _ _ _ (by show (World.cell? _ ⟨g, i, none⟩).isSome = true; rw [hci1]; rfl)
                    · exact (World.cell?_setCell_other _ _ _ _ (fun e => by have := congrArg Addr.off e; simp at this; omega)).trans hcj1
                  have hs2 : ((wr.alloc (.cells #[.int .i64 i] 3)).setCell ⟨g, i + r, none⟩ (.slice (some ⟨B i, 0, none⟩) (q + q) (C i))).cell? ⟨g, i, none⟩ = some (.slice (some ⟨B i, 0, none⟩) (q + q) (C i)) := by
                    by_cases hr0 : r = 0
                    · subst hr0
                      exact World.cell?_setCell_same' _ _ _ (by show (World.cell? _ ⟨g, i, none⟩).isSome = true; rw [hci1]; rfl)
                    · exact (World.cell?_setCell_other _ _ _ _ (fun e => by have := congrArg Addr.off e; simp at this; omega)).trans hci1
                  have hgw : g ≠ wr.heap.size := by have := hwk.out.lt; omega
                  have hs3 : ((wr.alloc (.cells #[.int .i64 i] 3)).setCell ⟨g, i, none⟩ (.slice (some ⟨B (i + r), 0, none⟩) (q + q) (C (i + r)))).cell? ⟨wr.heap.size, 0, none⟩ = some (.int .i64 i) := (World.cell?_setCell_other _ _ _ _ (fun e => hgw (congrArg Addr.block e))).trans hbf
                  have hs4 : ((wr.alloc (.cells #[.int .i64 i] 3)).setCell ⟨g, i + r, none⟩ (.slice (some ⟨B i, 0, none⟩) (q + q) (C i))).cell? ⟨wr.heap.size, 0, none⟩ = some (.int .i64 i) := (World.cell?_setCell_other _ _ _ _ (fun e => hgw (congrArg Addr.block e))).trans hbf
                  have hs5 : (((wr.alloc (.cells #[.int .i64 i] 3)).setCell ⟨g, i, none⟩ (.slice (some ⟨B (i + r), 0, none⟩) (q + q) (C (i + r)))).setCell ⟨g, i + r, none⟩ (.slice (some ⟨B i, 0, none⟩) (q + q) (C i))).cell? ⟨wr.heap.size, 0, none⟩ = some (.int .i64 i) := (World.cell?_setCell_other _ _ _ _ (fun e => hgw (congrArg Addr.block e))).trans hs3
                  have hsw := (hwk.out.same hBW).swap (i := i) (j := i + r) (by omega) (by omega) (fun k hk => hRr.out k (by omega)) (by omega) (m := q + q)
                  have HCl := Aside0.mk (fun W2 hB2 => clear_swapped hsw hRl.out hRr.out hRb.out hlt2 hirq (by omega) W2 hB2)
                  have hok := clearF_ok (by_ := invI (((swapR R i (i + r)).getD i []).getD i 0)) (i := i) (m := q + q) (N := q) (R := swapR R i (i + r)) (by rw [swap_length, hrl]) hlt2 (by omega) (swap_bytes hRb.out (by omega) (by omega)) (fun k hk => by rw [swap_get R i (i + r) k (by omega) (by omega)]; exact hRr.out _ (tau_lt hlt2 hirq hk)) (invI_byte (bytesL_get (bytesR_get (swap_bytes hRb.out (by omega) (by omega)) i (by rw [swap_length]; omega)) i (by rw [swap_get R i (i + r) i (by omega) (by omega), hRr.out _ (tau_lt hlt2 hirq hlt2)]; omega)))
                  have HOk := Aside0.mk hok
                  have HGJ : Aside0 (gjK q R0 (i + 1) = some (clearF (invI (((swapR R i (i + r)).getD i []).getD i 0)) i (q + q) (swapR R i (i + r)))) := ⟨by
                    show (gjK q R0 i).bind (gjStep q i) = _
                    rw [hgj.out, Option.bind_some, gjStep, HPV.out]
                    rfl⟩
                  clear hsw hok hwk hgj hRl hRr hRb hrl
                  go_wp2_with (go_at_call 32; refine HIdx.out.mono ?_; rintro e w' ⟨rfl, rfl⟩)
                  go_region
                  all_goals
                    go_wp2_with (go_at_call 35; refine (HCl.out _ (by exact (Below.refl _ _).drew)).mono ?_; rintro e w4 ⟨rfl, hw4⟩; have HW4 := Aside0.mk hw4; clear hw4)
                    go_roundw
                    case rel => exact ⟨i + 1, _, _, _, by omega, by go_num, HGJ, HW4, ⟨HOk.out.1⟩, ⟨HOk.out.2.1⟩, ⟨HOk.out.2.2⟩⟩
                    case measure => simp [intOf]; omega
              · obtain rfl : i = q := by omega
                have hd2 : decide (i < i) = false := decide_eq_false (Nat.lt_irrefl i)
                rw [hgj.out] at hF
                obtain ⟨rfl, rfl⟩ := Prod.mk.inj hF
                have HCut := Aside0.mk (cut_start hwk.out hRl.out hRr.out)
                clear hF hgj hwk hRb
                go_wp2_with fail
                go_loopw [85] (fun v wi => ∃ k : Nat, k ≤ i ∧ v = .int .i64 k ∧ Aside0 (Cut w wi g cap i R B C k)) (fun v _ => i - (intOf v).toNat)
                case atStart => exact ⟨0, Nat.zero_le _, rfl, HCut⟩
                case round =>
                  obtain ⟨k, hk, rfl, hcut⟩ := hrel
                  by_cases hlt3 : k < i
                  · have hd3 : decide (k < i) = true := decide_eq_true hlt3
                    obtain ⟨hck, hfk⟩ := hcut.out.cell hlt3
                    have hCk := (hcut.out.inner k (Nat.le_refl _) hlt3).2
                    have hne3 : ¬ (C k = i) := by omega
                    have HRt := Aside0.mk (hcut.out.right hlt3 (by omega) (hRr.out k hlt3))
                    have hdl : ((R.getD k []).drop i).length = i := by rw [List.length_drop, hRr.out k hlt3]; omega
                    have HCln := Aside0.mk (bytesClone_calls (some ⟨B k, i, none⟩) (C k - i) ((R.getD k []).drop i) wr HRt.out (by omega) (by omega))
                    rw [hdl] at HCln
                    have HDl := Aside0.mk hdl
                    have HFr : Aside0 (∀ W2 : World, Below wr.heap.size wr W2 → W2.frozen? ⟨g, k, none⟩ = false) := ⟨fun W2 hB => by obtain ⟨cur, hg, _⟩ := hcut.out.outer; exact blk_frozen (blk_below hg hB) k⟩
                    clear hdl
                    go_wp2_with (go_at_call 33; refine HCln.out.mono ?_; rintro e w2 ⟨v1, rfl, hr1, hb1⟩; obtain ⟨b2, c2, e2, _⟩ := Kd.R_form hr1 (by rw [HDl.out]; exact hn0); rw [HDl.out] at e2; subst e2; have hc2 := (Kd.R_reads' hr1).2.1; have HF2 := Aside0.mk (Kd.F_mono (ok' := fun q => wr.heap.size ≤ q) (Kd.R_F (R_only hr1)) (fun q hq => by have h9 := Kd.R_base hr1 b2 rfl; have h8 : q = b2 := hq; omega)); have HB2 := Aside0.mk hb1; have hck2 := pw_cell_below hb1 hck; have hfk2 := HFr.out _ hb1; clear hr1 hb1)
                    go_roundw
                    case rel => exact ⟨k + 1, by omega, by go_num, ⟨hcut.out.step hlt3 hcap HB2.out HF2.out hc2⟩⟩
                    case measure => simp [intOf]; omega
                  · obtain rfl : k = i := by omega
                    have hd3 : decide (k < k) = false := decide_eq_false (Nat.lt_irrefl k)
                    go_wp2_with fail
                    go_ret2
                    exact ⟨_, rfl, hcut.out.done hRl.out (by omega) hcap hRr.out, hcut.out.below⟩

end Go.Proofs.Ytpgehfchdhjjeaa.PRsSums
