/- RsSums: shards of sums are sums of shards. No condition. -/
import Derived.Test.YtpgehfchdhjjeaaPRsSumsx0
import Derived.Test.YtpgehfchdhjjeaaPRsSumsx1
import Derived.Test.YtpgehfchdhjjeaaPRsSumsx2
import Derived.Test.YtpgehfchdhjjeaaPRsSumsx3
import Derived.Test.YtpgehfchdhjjeaaPRsSumsx4
import Derived.Test.YtpgehfchdhjjeaaPRsSumsx5
import Derived.Test.YtpgehfchdhjjeaaPRsSumsx6
import Derived.Test.YtpgehfchdhjjeaaMbDet
namespace Go.Proofs.Ytpgehfchdhjjeaa.PureRsSums
open Go.RowKit Go.Proofs.Ytpgehfchdhjjeaa.PRsSums Go.Proofs.YtpgehfchdhjjeaaW.PrintWords Go.Proofs.YtpgehfchdhjjeaaW.PrintLast Go.Proofs.YtpgehfchdhjjeaaW.PrintMore 
set_option linter.unusedVariables false
set_option linter.unusedSimpArgs false
open Mb (B sm mm un)
def tB (x : Int) : B := ⟨x.toNat % 256, Nat.mod_lt _ (by decide)⟩
def ofB (b : B) : Int := ((b.1 : Nat) : Int)
theorem byte_ofB (b : B) : byteI (ofB b) := by
  have := b.2
  unfold byteI ofB
  omega
theorem tB_ofB (b : B) : tB (ofB b) = b := by
  apply Subtype.ext
  have := b.2
  show ((b.1 : Nat) : Int).toNat % 256 = b.1
  omega
theorem ofB_tB {x : Int} (h : byteI x) : ofB (tB x) = x := by
  have h1 := h.1
  have h2 := h.2
  show ((x.toNat % 256 : Nat) : Int) = x
  omega
theorem ofB_inj {a b : B} (h : ofB a = ofB b) : a = b := by rw [← tB_ofB a, h, tB_ofB]
theorem xorI_ofB (a b : B) : xorI (ofB a) (ofB b) = ofB (a + b) := Go.u8_xor_nat a.1 b.1 (by have := a.2; omega) (by have := b.2; omega)
theorem mulI_ofB (a b : B) : mulI (ofB a) (ofB b) = ofB (a * b) := rfl
theorem ofB_zero : ofB 0 = 0 := rfl
theorem ofB_one : ofB 1 = 1 := rfl
theorem ofB_ite (p : Prop) [Decidable p] (a b : B) : ofB (if p then a else b) = if p then ofB a else ofB b := by split <;> rfl
def eB (a : List (List Int)) (i j : Nat) : B := tB ((a.getD i []).getD j 0)
def ofR (c : Nat) (f : Nat → B) : List Int := (List.range c).map fun j => ofB (f j)
def ofM (r c : Nat) (M : Nat → Nat → B) : List (List Int) := (List.range r).map fun i => ofR c (M i)
theorem ofR_length (c : Nat) (f : Nat → B) : (ofR c f).length = c := by simp [ofR]
theorem ofM_length (r c : Nat) (M : Nat → Nat → B) : (ofM r c M).length = r := by simp [ofM]
theorem ofR_get (c : Nat) (f : Nat → B) (j : Nat) (hj : j < c) : (ofR c f).getD j 0 = ofB (f j) := by simp [ofR, hj]
theorem ofM_get (r c : Nat) (M : Nat → Nat → B) (i : Nat) (hi : i < r) : (ofM r c M).getD i [] = ofR c (M i) := by simp [ofM, hi]
theorem eB_ofM (r c : Nat) (M : Nat → Nat → B) (i j : Nat) (hi : i < r) (hj : j < c) : eB (ofM r c M) i j = M i j := by
  rw [eB, ofM_get r c M i hi, ofR_get c _ j hj, tB_ofB]
theorem ofR_congr {c : Nat} {f g : Nat → B} (h : ∀ j, j < c → f j = g j) : ofR c f = ofR c g := by
  unfold ofR
  exact List.map_congr_left fun j hj => by rw [h j (List.mem_range.1 hj)]
theorem ofM_congr {r c : Nat} {M N : Nat → Nat → B} (h : ∀ i j, i < r → j < c → M i j = N i j) : ofM r c M = ofM r c N := by
  unfold ofM
  exact List.map_congr_left fun i hi => ofR_congr fun j hj => h i j (List.mem_range.1 hi) hj
theorem ofR_bytes (c : Nat) (f : Nat → B) : bytesL (ofR c f) := fun x hx => by
  obtain ⟨j, _, rfl⟩ := List.mem_map.1 hx
  exact byte_ofB _
theorem ofM_bytes (r c : Nat) (M : Nat → Nat → B) : bytesR (ofM r c M) := fun x hx => by
  obtain ⟨j, _, rfl⟩ := List.mem_map.1 hx
  exact ofR_bytes _ _
theorem ofM_succ (r c : Nat) (M : Nat → Nat → B) : ofM (r + 1) c M = ofM r c M ++ [ofR c (M r)] := by
  unfold ofM
  rw [List.range_succ, List.map_append]
  rfl
theorem ofR_zero (c : Nat) : List.replicate c (0 : Int) = ofR c (fun _ => 0) := by
  unfold ofR
  rw [List.map_const', List.length_range]
  rfl
theorem ofR_set (c : Nat) (f : Nat → B) (n : Nat) (v : B) : (ofR c f).set n (ofB v) = ofR c (fun j => if j = n then v else f j) := by
  apply List.ext_getElem
  · simp [ofR]
  · intro j h1 h2
    simp only [ofR, List.length_map, List.length_range, List.length_set] at h1
    rw [List.getElem_set]
    simp only [ofR, List.getElem_map, List.getElem_range]
    by_cases e : n = j
    · rw [if_pos e, if_pos e.symm]
    · rw [if_neg e, if_neg (fun e' => e e'.symm)]
/-- A table of bytes with even rows is what its entries say. -/
theorem ofM_self {a : List (List Int)} {c : Nat} (hb : bytesR a) (hr : ∀ i, i < a.length → (a.getD i []).length = c) : a = ofM a.length c (eB a) := by
  apply List.ext_getElem
  · simp [ofM]
  · intro i h1 h2
    have e1 : a.getD i [] = a[i] := by simp [h1]
    have h3 := hr i h1
    have h4 := bytesR_get hb i h1
    rw [e1] at h3 h4
    simp only [ofM, List.getElem_map, List.getElem_range]
    apply List.ext_getElem
    · rw [ofR_length, h3]
    · intro j h5 h6
      simp only [ofR, List.getElem_map, List.getElem_range]
      have h7 := bytesL_get h4 j h5
      have e2 : a[i].getD j 0 = a[i][j] := by simp [h5]
      rw [e2] at h7
      show _ = ofB (tB ((a.getD i []).getD j 0))
      rw [e1, e2, ofB_tB h7]
theorem rd_L1_nat (a : List (List Int)) (i : Nat) : rd_L1 a (i : Int) = a.getD i [] := by simp [rd_L1]
theorem rd_nat (a : List Int) (i : Nat) : rd a (i : Int) = a.getD i 0 := by simp [rd]
theorem addK_ofR (c : Nat) (f : Nat → B) (o : List Int) (x : Int) (hx : byteI x) (ho : bytesL o) (n : Nat) (hn : n ≤ c) (hno : n ≤ o.length) : addK (ofR c f) o x n = ofR c (fun j => if j < n then f j + tB x * tB (o.getD j 0) else f j) := by
  induction n with
  | zero => exact ofR_congr fun j _ => by rw [if_neg (Nat.not_lt_zero j)]
  | succ n ih =>
    have h1 := bytesL_get ho n (by omega)
    have e : mulI x (o.getD n 0) = ofB (tB x * tB (o.getD n 0)) := by rw [← mulI_ofB, ofB_tB hx, ofB_tB h1]
    rw [addK, ih (by omega) (by omega), ofR_get _ _ _ (by omega), e, xorI_ofB, ofR_set, if_neg (Nat.lt_irrefl n)]
    refine ofR_congr fun j _ => ?_
    by_cases h : j = n
    · rw [if_pos h, if_pos (by omega), h]
    · rw [if_neg h]
      by_cases h2 : j < n
      · rw [if_pos h2, if_pos (by omega)]
      · rw [if_neg h2, if_neg (by omega)]
theorem addm_f (k c : Nat) (f : Nat → B) (o : List Int) (x : Int) (hx : byteI x) (ho : bytesL o) (hl : o.length = c) (hc : c ≤ 1048576) (hk : c + 10 ≤ k) : mat_add.f k (ofR c f) o x = some (ofR c (fun j => f j + tB x * tB (o.getD j 0))) := by
  have h := add_run x o hx ho (by omega) o.length k 0 (ofR c f) rfl (by omega) (by rw [ofR_length, hl]; exact Nat.le_refl _)
  unfold mat_add.f
  rw [show addK (ofR c f) o x 0 = ofR c f from rfl, addK_ofR c f o x hx ho o.length (by omega) (Nat.le_refl _)] at h
  refine Eq.trans h ?_
  congr 1
  exact ofR_congr fun j hj => by rw [if_pos (by omega)]
/-! mat.Times -/
section
variable (b : List (List Int)) (c n : Nat) (hb : bytesR b) (hbl : b.length = n) (hbr : ∀ i, i < n → (b.getD i []).length = c) (hc : c ≤ 1048576) (hn : n ≤ 1048576)
include hb hbl hbr hc hn
theorem times_row (x6 x29 : List (List Int)) (x30 : Int) (i : Nat) (row : List Int) (hrow : bytesL row) (hrl : row.length = n) (hx6 : x6.length ≤ 1048576) (d : Nat) : ∀ (k q : Nat), d + q = n → d + c + 12 ≤ k →
    mat_Times.l1 k b x6 (ofR c fun j => sm q fun l => tB (row.getD l 0) * eB b l j) x29 x30 (i : Int) row (n : Int) (q : Int) = mat_Times.l0 (k - d - 1) b (x6 ++ [ofR c fun j => sm n fun l => tB (row.getD l 0) * eB b l j]) x29 x30 (wrap64 ((i : Int) + 1)) := by
  induction d with
  | zero =>
    intro k q hd hk
    obtain ⟨k, rfl⟩ : ∃ m, k = m + 1 := ⟨k - 1, by omega⟩
    obtain rfl : q = n := by omega
    simp only [mat_Times.l1]
    rw [if_neg (by omega), if_pos (by omega)]
    rfl
  | succ d ih =>
    intro k q hd hk
    obtain ⟨k, rfl⟩ : ∃ m, k = m + 1 := ⟨k - 1, by omega⟩
    have h1 := bytesL_get hrow q (by omega)
    have h2 := bytesR_get hb q (by omega)
    simp only [mat_Times.l1]
    rw [if_pos (by omega), if_pos (by omega), if_pos (by omega), if_pos (by omega), rd_L1_nat, rd_nat, addm_f k c _ (b.getD q []) (row.getD q 0) h1 h2 (hbr q (by omega)) hc (by omega), Option.bind_some, show wrap64 ((q : Int) + 1) = ((q + 1 : Nat) : Int) from by unfold wrap64; omega, show k + 1 - (d + 1) - 1 = k - d - 1 by omega]
    exact ih k (q + 1) (by omega) (by omega)
theorem times_run (a : List (List Int)) (ha : bytesR a) (har : ∀ i, i < a.length → (a.getD i []).length = n) (hal : a.length ≤ 1048576) (hn0 : 0 < n) (d : Nat) : ∀ (k q : Nat), d + q = a.length → d * (n + 2) + c + n + 20 ≤ k →
    mat_Times.l0 k b (ofM q c (mm n (eB a) (eB b))) a (a.length : Int) (q : Int) = some (ofM a.length c (mm n (eB a) (eB b)), 0) := by
  induction d with
  | zero =>
    intro k q hd hk
    obtain ⟨k, rfl⟩ : ∃ m, k = m + 1 := ⟨k - 1, by omega⟩
    obtain rfl : q = a.length := by omega
    simp only [mat_Times.l0]
    rw [if_neg (by omega)]
  | succ d ih =>
    intro k q hd hk
    rw [Nat.succ_mul] at hk
    have ih2 := fun k' q' => ih k' q'
    generalize d * (n + 2) = t at hk ih2
    obtain ⟨k, rfl⟩ : ∃ m, k = m + 1 := ⟨k - 1, by omega⟩
    have hrl := hbr 0 hn0
    have e0 : rd_L1 b 0 = b.getD 0 [] := rd_L1_nat b 0
    simp only [mat_Times.l0]
    rw [if_pos (by omega), if_pos (by omega), if_pos (by omega), if_pos (by omega), e0, hrl, if_pos (by omega), if_pos (by omega), Int.toNat_natCast, rd_L1_nat, har q (by omega), ofR_zero]
    have hx := times_row b c n hb hbl hbr hc hn (ofM q c (mm n (eB a) (eB b))) a (a.length : Int) q (a.getD q []) (bytesR_get ha q (by omega)) (har q (by omega)) (by rw [ofM_length]; omega) n k 0 (by omega) (by omega)
    rw [show wrap64 ((q : Int) + 1) = ((q + 1 : Nat) : Int) from by unfold wrap64; omega] at hx
    have e : ofM q c (mm n (eB a) (eB b)) ++ [ofR c fun j => sm n fun l => tB ((a.getD q []).getD l 0) * eB b l j] = ofM (q + 1) c (mm n (eB a) (eB b)) := (ofM_succ q c _).symm
    rw [e] at hx
    refine Eq.trans hx ?_
    exact ih2 (k - n - 1) (q + 1) (by omega) (by omega)
end
theorem fitB_all {a : List (List Int)} {c : Nat} (h0 : 0 < a.length) (h : ∀ i, i < a.length → (a.getD i []).length = c) : fitB a = true :=
  fitB_true h0 fun i hi => by rw [h i hi, h 0 h0]
theorem times_f (k c n : Nat) (a b : List (List Int)) (ha : bytesR a) (hb : bytesR b) (h0 : 0 < a.length) (hbl : b.length = n) (hn0 : 0 < n) (har : ∀ i, i < a.length → (a.getD i []).length = n) (hbr : ∀ i, i < n → (b.getD i []).length = c) (hal : a.length ≤ 1048576) (hc : c ≤ 1048576) (hn : n ≤ 1048576) (hk : a.length * (n + 2) + c + n + 30 ≤ k) :
    mat_Times.f k a b = some (ofM a.length c (mm n (eB a) (eB b)), 0) := by
  obtain ⟨k, rfl⟩ : ∃ m, k = m + 1 := ⟨k - 1, by omega⟩
  have e0 : rd_L1 a 0 = a.getD 0 [] := rd_L1_nat a 0
  have hj : mat_Times.j0 (k + 1) a b false = some (ofM a.length c (mm n (eB a) (eB b)), 0) := by
    simp only [mat_Times.j0]
    rw [if_neg (by decide)]
    exact times_run b c n hb hbl hbr hc hn a ha har hal hn0 a.length k 0 (by omega) (by omega)
  unfold mat_Times.f mat_fit.f
  rw [fitB_all h0 har, fitB_all (by omega) (fun i hi => hbr i (by omega)), Option.bind_some, if_pos rfl, Option.bind_some, if_pos rfl, if_pos (by omega), e0, har 0 h0, hbl, show (((n : Nat) : Int) != (n : Int)) = false from by simp, hj]
/-- Tables that are no tables, or do not fit together. -/
theorem times_no (k : Nat) (a b : List (List Int)) (h : ¬ (fitB a = true ∧ fitB b = true ∧ (a.getD 0 []).length = b.length)) (hk : 1 ≤ k) : mat_Times.f k a b = some ([], 1) := by
  obtain ⟨k, rfl⟩ : ∃ m, k = m + 1 := ⟨k - 1, by omega⟩
  have e0 : rd_L1 a 0 = a.getD 0 [] := rd_L1_nat a 0
  have hj : mat_Times.j0 (k + 1) a b true = some ([], 1) := by
    simp only [mat_Times.j0]
    rw [if_pos trivial]
  unfold mat_Times.f mat_fit.f
  simp only [Option.bind_some]
  by_cases h1 : fitB a = true
  · rw [if_pos h1]
    by_cases h2 : fitB b = true
    · have h3 : (a.getD 0 []).length ≠ b.length := fun e => h ⟨h1, h2, e⟩
      have h0 : 0 < a.length := by
        cases a with
        | nil => simp [fitB] at h1
        | cons x l => simp
      rw [if_pos h2, if_pos (by omega), e0, show (((a.getD 0 []).length : Int) != (b.length : Int)) = true from by rw [bne_iff_ne]; omega, hj]
    · rw [if_neg h2, hj]
  · rw [if_neg h1, hj]
/-! mat.Code -/
def codeM (k n j : Nat) : B := if k ≤ n then Mb.inv (tB ((n ^^^ j : Nat) : Int)) else un n j
theorem xor64 (a b : Nat) (ha : a < 2 ^ 62) (hb : b < 2 ^ 62) : Go.bits .xor .i64 (a : Int) (b : Int) = ((a ^^^ b : Nat) : Int) := by
  have hx : a ^^^ b < 2 ^ 62 := Nat.xor_lt_two_pow ha hb
  show IntKind.i64.wrap ((BitVec.ofInt 64 (a : Int) ^^^ BitVec.ofInt 64 (b : Int)).toNat : Int) = _
  rw [BitVec.toNat_xor, Go.ofInt_u64 a (by omega), Go.ofInt_u64 b (by omega), Go.IntKind.wrap_i64]
  omega
theorem code_inv (k k0 n q : Nat) (h : k0 ≤ n) (hn : n < 8) (hq : q < 8) (hk : 80 ≤ k) : gf_Inv.f k ((Go.bits .xor .i64 (n : Int) (q : Int)) % 256) = some (ofB (codeM k0 n q)) := by
  have hx : n ^^^ q < 8 := Nat.xor_lt_two_pow (n := 3) hn hq
  rw [xor64 n q (by omega) (by omega), show (((n ^^^ q : Nat) : Int) % 256) = ((n ^^^ q : Nat) : Int) from by omega, inv_f k _ (by omega) hk, codeM, if_pos h]
  have e : (tB ((n ^^^ q : Nat) : Int)).1 = n ^^^ q := by
    show (((n ^^^ q : Nat) : Int)).toNat % 256 = _
    omega
  show some _ = some (((Gf.gi (tB ((n ^^^ q : Nat) : Int)).1 : Nat)) : Int)
  rw [e]
theorem code_hi (k0 n : Nat) (h : k0 ≤ n) (hn : n < 8) (hk0 : k0 ≤ 4) (x5 : List (List Int)) (hx5 : x5.length ≤ 100) (x25 x26 : Int) (d : Nat) : ∀ (k q : Nat), d + q = k0 → d + 90 ≤ k →
    mat_Code.l1 k (k0 : Int) x5 (n : Int) (ofR k0 fun j => if j < q then codeM k0 n j else 0) x25 x26 (k0 : Int) (q : Int) = mat_Code.l0 (k - d - 1) (k0 : Int) (x5 ++ [ofR k0 (codeM k0 n)]) x25 (wrap64 (x26 + 1)) := by
  induction d with
  | zero =>
    intro k q hd hk
    obtain ⟨k, rfl⟩ : ∃ m, k = m + 1 := ⟨k - 1, by omega⟩
    obtain rfl : q = k0 := by omega
    simp only [mat_Code.l1]
    rw [if_neg (by omega), if_neg (by omega), if_pos (by omega), show (ofR q fun j => if j < q then codeM q n j else 0) = ofR q (codeM q n) from ofR_congr fun j hj => by rw [if_pos hj]]
    rfl
  | succ d ih =>
    intro k q hd hk
    obtain ⟨k, rfl⟩ : ∃ m, k = m + 1 := ⟨k - 1, by omega⟩
    simp only [mat_Code.l1]
    rw [if_pos (by omega), if_pos (by omega), code_inv k k0 n q h hn (by omega) (by omega), Option.bind_some, if_pos (by omega), if_pos (by rw [ofR_length]; omega), Int.toNat_natCast, ofR_set, show wrap64 ((q : Int) + 1) = ((q + 1 : Nat) : Int) from by unfold wrap64; omega, show k + 1 - (d + 1) - 1 = k - d - 1 by omega]
    have e : (ofR k0 fun j => if j = q then codeM k0 n q else if j < q then codeM k0 n j else 0) = ofR k0 fun j => if j < q + 1 then codeM k0 n j else 0 := ofR_congr fun j _ => by
      by_cases h1 : j = q
      · rw [if_pos h1, if_pos (by omega), h1]
      · rw [if_neg h1]
        by_cases h2 : j < q
        · rw [if_pos h2, if_pos (by omega)]
        · rw [if_neg h2, if_neg (by omega)]
    rw [e]
    exact ih k (q + 1) (by omega) (by omega)
theorem code_lo (k0 n : Nat) (h : n < k0) (hk0 : k0 ≤ 4) (x5 : List (List Int)) (hx5 : x5.length ≤ 100) (x25 x26 : Int) (d : Nat) : ∀ (k q : Nat), d + q = k0 → d + 90 ≤ k →
    mat_Code.l1 k (k0 : Int) x5 (n : Int) (ofR k0 fun _ => 0) x25 x26 (k0 : Int) (q : Int) = mat_Code.l0 (k - d - 1) (k0 : Int) (x5 ++ [ofR k0 (codeM k0 n)]) x25 (wrap64 (x26 + 1)) := by
  induction d with
  | zero =>
    intro k q hd hk
    obtain ⟨k, rfl⟩ : ∃ m, k = m + 1 := ⟨k - 1, by omega⟩
    have e : (ofR k0 fun _ => (0 : B)).set ((n : Int)).toNat 1 = ofR k0 (codeM k0 n) := by
      rw [Int.toNat_natCast, ← ofB_one, ofR_set]
      refine ofR_congr fun j _ => ?_
      rw [codeM, if_neg (show ¬ k0 ≤ n by omega), un]
      by_cases h1 : j = n
      · rw [if_pos h1, if_pos h1.symm]
      · rw [if_neg h1, if_neg (fun e' => h1 e'.symm)]
    simp only [mat_Code.l1]
    rw [if_neg (by omega), if_pos (by omega), if_pos (by omega), if_pos (by rw [ofR_length]; omega), if_pos (by omega), e]
    rfl
  | succ d ih =>
    intro k q hd hk
    obtain ⟨k, rfl⟩ : ∃ m, k = m + 1 := ⟨k - 1, by omega⟩
    simp only [mat_Code.l1]
    rw [if_pos (by omega), if_neg (by omega), show wrap64 ((q : Int) + 1) = ((q + 1 : Nat) : Int) from by unfold wrap64; omega, show k + 1 - (d + 1) - 1 = k - d - 1 by omega]
    exact ih k (q + 1) (by omega) (by omega)
theorem code_run (k0 r : Nat) (hk0 : k0 ≤ 4) (hr : r < 8) (d : Nat) : ∀ (k q : Nat), d + q = r → d * 6 + 110 ≤ k → mat_Code.l0 k (k0 : Int) (ofM q k0 (codeM k0)) (r : Int) (q : Int) = some (ofM r k0 (codeM k0)) := by
  induction d with
  | zero =>
    intro k q hd hk
    obtain ⟨k, rfl⟩ : ∃ m, k = m + 1 := ⟨k - 1, by omega⟩
    simp only [mat_Code.l0]
    rw [if_neg (by omega), show q = r by omega]
  | succ d ih =>
    intro k q hd hk
    obtain ⟨k, rfl⟩ : ∃ m, k = m + 1 := ⟨k - 1, by omega⟩
    simp only [mat_Code.l0]
    rw [if_pos (by omega), if_pos (by omega), if_pos (by omega), Option.bind_some, Int.toNat_natCast, List.length_replicate, ofR_zero]
    have hs : ofM q k0 (codeM k0) ++ [ofR k0 (codeM k0 q)] = ofM (q + 1) k0 (codeM k0) := (ofM_succ q k0 _).symm
    have hw : wrap64 ((q : Int) + 1) = ((q + 1 : Nat) : Int) := by unfold wrap64; omega
    by_cases h : k0 ≤ q
    · have hx := code_hi k0 q h (by omega) hk0 (ofM q k0 (codeM k0)) (by rw [ofM_length]; omega) (r : Int) (q : Int) k0 k 0 (by omega) (by omega)
      have e : (ofR k0 fun j => if j < 0 then codeM k0 q j else 0) = ofR k0 fun _ => 0 := ofR_congr fun j _ => by rw [if_neg (Nat.not_lt_zero j)]
      rw [e, hs, hw] at hx
      exact hx.trans (ih (k - k0 - 1) (q + 1) (by omega) (by omega))
    · have hx := code_lo k0 q (by omega) hk0 (ofM q k0 (codeM k0)) (by rw [ofM_length]; omega) (r : Int) (q : Int) k0 k 0 (by omega) (by omega)
      rw [hs, hw] at hx
      exact hx.trans (ih (k - k0 - 1) (q + 1) (by omega) (by omega))
theorem code_f (k k0 m : Nat) (h1 : 1 ≤ k0) (h4 : k0 ≤ 4) (hm : m ≤ 3) (hk : 200 ≤ k) : mat_Code.f k (k0 : Int) (m : Int) = some (ofM (k0 + m) k0 (codeM k0)) := by
  obtain ⟨k, rfl⟩ : ∃ q, k = q + 1 := ⟨k - 1, by omega⟩
  have h := code_run k0 (k0 + m) h4 (by omega) (k0 + m) k 0 (by omega) (by omega)
  unfold mat_Code.f
  rw [if_neg (by omega), if_neg (by omega), if_neg (by omega), decide_eq_false (show ¬ (m : Int) > 3 by omega)]
  simp only [mat_Code.j0]
  rw [if_neg (by decide), show wrap64 ((k0 : Int) + (m : Int)) = ((k0 + m : Nat) : Int) from by unfold wrap64; omega]
  exact h
theorem code_no (k : Nat) (a m : Int) (h : a < 1 ∨ a > 4 ∨ m < 0 ∨ m > 3) (hk : 1 ≤ k) : mat_Code.f k a m = some [] := by
  obtain ⟨k, rfl⟩ : ∃ q, k = q + 1 := ⟨k - 1, by omega⟩
  have hj : mat_Code.j0 (k + 1) a m true = some [] := by
    simp only [mat_Code.j0]
    rw [if_pos trivial]
  unfold mat_Code.f
  by_cases h1 : a < 1
  · rw [if_pos h1, hj]
  · rw [if_neg h1]
    by_cases h2 : a > 4
    · rw [if_pos h2, hj]
    · rw [if_neg h2]
      by_cases h3 : m < 0
      · rw [if_pos h3, hj]
      · rw [if_neg h3, decide_eq_true (show m > 3 by omega), hj]
/-! mat.Invert and what all statements ask ahead -/
theorem invert_f (a : List (List Int)) (ha : bytesR a) (hl : a.length ≤ 1048576) : mat_Invert.f a = some (invF a) := by
  unfold mat_Invert.f
  rw [if_pos ⟨hl, fun l h x hx => ha l h x hx⟩]
theorem ofM_rows (r c : Nat) (M : Nat → Nat → B) : ∀ l ∈ ofM r c M, l.length ≤ c := fun l hl => by
  obtain ⟨i, _, rfl⟩ := List.mem_map.1 hl
  rw [ofR_length]
  exact Nat.le_refl _
/-! Gauss and Jordan on the code's tables, seen as functions of bytes -/
open Mb (Eqv upd Lin D rowsOf)
theorem eB_get (R : List (List Int)) (k : Nat) : eB R k = fun j => tB ((R.getD k []).getD j 0) := rfl
theorem tB_zero : tB 0 = 0 := rfl
theorem getD_ge {α : Type} (l : List α) (d : α) (j : Nat) (h : l.length ≤ j) : l.getD j d = d := by simp [h]
theorem eB_set (R : List (List Int)) (i : Nat) (hi : i < R.length) (x : List Int) : eB (R.set i x) = upd (eB R) i (fun j => tB (x.getD j 0)) := by
  funext k j
  show tB _ = upd (eB R) i _ k j
  unfold upd
  by_cases e : k = i
  · subst e
    rw [if_pos rfl, getD_set_same _ _ _ _ hi]
  · rw [if_neg e, getD_set_other _ _ _ _ _ (fun e' => e e'.symm)]
    rfl
theorem scaleK_get (by_ : Int) (hby : byteI by_) (r : List Int) (hr : bytesL r) (n : Nat) (hn : n ≤ r.length) (j : Nat) : tB ((scaleK by_ r n).getD j 0) = if j < n then tB by_ * tB (r.getD j 0) else tB (r.getD j 0) := by
  induction n generalizing j with
  | zero => rw [if_neg (Nat.not_lt_zero j)]; rfl
  | succ n ih =>
    have hl := scaleK_length by_ r n
    rw [scaleK]
    by_cases e : j = n
    · subst e
      rw [if_pos (by omega), getD_set_same _ _ _ _ (by omega)]
      have h1 := ih (by omega) j
      rw [if_neg (Nat.lt_irrefl j)] at h1
      have h2 := bytesL_get (scaleK_bytes by_ r hby hr j) j (by omega)
      have e3 : mulI by_ ((scaleK by_ r j).getD j 0) = ofB (tB by_ * tB ((scaleK by_ r j).getD j 0)) := by rw [← mulI_ofB, ofB_tB hby, ofB_tB h2]
      rw [e3, tB_ofB, h1]
    · rw [getD_set_other _ _ _ _ _ (fun e' => e e'.symm), ih (by omega)]
      by_cases h : j < n
      · rw [if_pos h, if_pos (by omega)]
      · rw [if_neg h, if_neg (by omega)]
theorem scaleK_row (by_ : Int) (hby : byteI by_) (r : List Int) (hr : bytesL r) : (fun j => tB ((scaleK by_ r r.length).getD j 0)) = fun j => tB by_ * tB (r.getD j 0) := by
  funext j
  rw [scaleK_get by_ hby r hr r.length (Nat.le_refl _)]
  by_cases h : j < r.length
  · rw [if_pos h]
  · rw [if_neg h, getD_ge r 0 j (by omega), tB_zero, Mb.mul_zero]
theorem addK_get (r o : List Int) (x : Int) (hx : byteI x) (hr : bytesL r) (ho : bytesL o) (n : Nat) (hn : n ≤ r.length) (hno : n ≤ o.length) (j : Nat) : tB ((addK r o x n).getD j 0) = if j < n then tB (r.getD j 0) + tB x * tB (o.getD j 0) else tB (r.getD j 0) := by
  induction n generalizing j with
  | zero => rw [if_neg (Nat.not_lt_zero j)]; rfl
  | succ n ih =>
    have hl := addK_length r o x n
    rw [addK]
    by_cases e : j = n
    · subst e
      rw [if_pos (by omega), getD_set_same _ _ _ _ (by omega)]
      have h1 := ih (by omega) (by omega) j
      rw [if_neg (Nat.lt_irrefl j)] at h1
      have h2 := bytesL_get (addK_bytes r o x hr ho hx j (by omega) (by omega)) j (by omega)
      have h3 := bytesL_get ho j (by omega)
      have e3 : xorI ((addK r o x j).getD j 0) (mulI x (o.getD j 0)) = ofB (tB ((addK r o x j).getD j 0) + tB x * tB (o.getD j 0)) := by
        rw [← xorI_ofB, ← mulI_ofB, ofB_tB hx, ofB_tB h2, ofB_tB h3]
      rw [e3, tB_ofB, h1]
    · rw [getD_set_other _ _ _ _ _ (fun e' => e e'.symm), ih (by omega) (by omega)]
      by_cases h : j < n
      · rw [if_pos h, if_pos (by omega)]
      · rw [if_neg h, if_neg (by omega)]
theorem addK_row (r o : List Int) (x : Int) (hx : byteI x) (hr : bytesL r) (ho : bytesL o) (m : Nat) (h1 : r.length = m) (h2 : o.length = m) : (fun j => tB ((addK r o x m).getD j 0)) = fun j => tB (r.getD j 0) + tB x * tB (o.getD j 0) := by
  funext j
  rw [addK_get r o x hx hr ho m (by omega) (by omega)]
  by_cases h : j < m
  · rw [if_pos h]
  · rw [if_neg h, getD_ge o 0 j (by omega), tB_zero, Mb.mul_zero, Mb.add_zero]
/-- What clearing leaves in each row. -/
def clr (W : Nat → Nat → B) (i q : Nat) : Nat → Nat → B := fun k => if k < q ∧ k ≠ i then fun j => W k j + W k i * W i j else W k
theorem clr_upd (W : Nat → Nat → B) (i q : Nat) (hq : q ≠ i) : clr W i (q + 1) = upd (clr W i q) q (fun j => clr W i q q j + clr W i q q i * clr W i q i j) := by
  funext k
  have hi : clr W i q i = W i := by unfold clr; rw [if_neg (fun h => h.2 rfl)]
  have hqq : clr W i q q = W q := by unfold clr; rw [if_neg (fun h => Nat.lt_irrefl _ h.1)]
  rw [hi, hqq]
  unfold upd
  by_cases e : k = q
  · subst e
    rw [if_pos rfl]
    unfold clr
    rw [if_pos ⟨by omega, hq⟩]
  · rw [if_neg e]
    unfold clr
    by_cases h : k < q ∧ k ≠ i
    · rw [if_pos h, if_pos ⟨by omega, h.2⟩]
    · rw [if_neg h, if_neg (fun h' => h ⟨by omega, h'.2⟩)]
theorem clr_same (W : Nat → Nat → B) (i : Nat) : clr W i (i + 1) = clr W i i := by
  funext k
  unfold clr
  by_cases h : k < i ∧ k ≠ i
  · rw [if_pos h, if_pos ⟨by omega, h.2⟩]
  · rw [if_neg h, if_neg (fun h' => h ⟨by omega, h'.2⟩)]
theorem clearK_eB (i m N : Nat) (R : List (List Int)) (hN : R.length = N) (hi : i < N) (him : i < m) (hb : bytesR R) (hl : ∀ j, j < N → (R.getD j []).length = m) (q : Nat) (hq : q ≤ N) :
    eB (clearK i m R q) = clr (eB R) i q ∧ Eqv N (eB R) (eB (clearK i m R q)) := by
  induction q with
  | zero =>
    refine ⟨?_, Eqv.refl _ _⟩
    funext k
    unfold clr
    rw [if_neg (fun h => Nat.not_lt_zero _ h.1)]
    rfl
  | succ q ih =>
    obtain ⟨h1, h2⟩ := ih (by omega)
    rw [clearK]
    by_cases e : q = i
    · rw [if_pos e]
      subst e
      exact ⟨h1.trans (clr_same _ _).symm, h2⟩
    · rw [if_neg e]
      have hlen := clearK_length i m R q
      have hrl := clearK_row i m R N hN hi hl q
      have hby := clearK_bytes i m R N hN hi him hb hl q (by omega)
      have b1 := bytesR_get hby q (by omega)
      have b2 := bytesR_get hby i (by omega)
      have hx := bytesL_get b1 i (by rw [hrl q (by omega)]; exact him)
      have e1 : eB ((clearK i m R q).set q (addK ((clearK i m R q).getD q []) ((clearK i m R q).getD i []) (((clearK i m R q).getD q []).getD i 0) m)) = upd (eB (clearK i m R q)) q (fun j => eB (clearK i m R q) q j + eB (clearK i m R q) q i * eB (clearK i m R q) i j) := by
        rw [eB_set _ _ (by omega), addK_row _ _ _ hx b1 b2 m (hrl q (by omega)) (hrl i hi)]
        rfl
      rw [e1]
      refine ⟨?_, h2.trans (Eqv.add _ i q hi (by omega) (fun e' => e e'.symm) _)⟩
      rw [h1, clr_upd _ _ _ e]
theorem clearF_eB (by_ : Int) (hby : byteI by_) (h0 : tB by_ ≠ 0) (i m N : Nat) (R : List (List Int)) (hN : R.length = N) (hi : i < N) (him : i < m) (hb : bytesR R) (hl : ∀ j, j < N → (R.getD j []).length = m) :
    eB (clearF by_ i m R) = clr (upd (eB R) i fun j => tB by_ * eB R i j) i N ∧ Eqv N (eB R) (eB (clearF by_ i m R)) := by
  have b1 := bytesR_get hb i (by omega)
  have e1 : eB (R.set i (scaleK by_ (R.getD i []) m)) = upd (eB R) i fun j => tB by_ * eB R i j := by
    have := scaleK_row by_ hby (R.getD i []) b1
    rw [hl i hi] at this
    rw [eB_set _ _ (by omega), this]
    rfl
  have hl2 : ∀ j, j < N → ((R.set i (scaleK by_ (R.getD i []) m)).getD j []).length = m := fun j hj => by
    by_cases e : i = j
    · subst e
      rw [getD_set_same _ _ _ _ (by omega), scaleK_length, hl i hi]
    · rw [getD_set_other _ _ _ _ _ e, hl j hj]
  have h := clearK_eB i m N (R.set i (scaleK by_ (R.getD i []) m)) (by rw [List.length_set, hN]) hi him (bytesR_set hb _ (scaleK_bytes _ _ hby b1 _)) hl2 N (Nat.le_refl _)
  unfold clearF
  rw [hN]
  rw [e1] at h
  exact ⟨h.1, (Eqv.scale (eB R) i hi (tB by_) h0).trans h.2⟩
theorem swap_eB (R : List (List Int)) (i q N : Nat) (hN : R.length = N) (hi : i < N) (hq : q < N) : eB (swapR R i q) = upd (upd (eB R) i (eB R q)) q (eB R i) := by
  unfold swapR
  rw [eB_set _ _ (by rw [List.length_set]; omega), eB_set _ _ (by omega)]
  rfl
/-- The first i columns are a unit table's. -/
def UC (n i : Nat) (W : Nat → Nat → B) : Prop := ∀ j, j < i → ∀ k, k < n → W k j = un k j
theorem uc_step {n i q : Nat} {W : Nat → Nat → B} (h : UC n i W) (hi : i < n) (hq : q < n) (hiq : i ≤ q) {b : B} (hp : b * W q i = 1) :
    UC n (i + 1) (clr (upd (upd (upd W i (W q)) q (W i)) i fun j => b * upd (upd W i (W q)) q (W i) i j) i n) := by
  have hsw : upd (upd W i (W q)) q (W i) i = W q := by
    unfold upd
    by_cases e : i = q
    · rw [if_pos e, e]
    · rw [if_neg e, if_pos rfl]
  have hrow : ∀ k, k < n → ∀ j, j < i → upd (upd W i (W q)) q (W i) k j = un k j := fun k hk j hj => by
    unfold upd
    by_cases e : k = q
    · rw [if_pos e, h j hj i hi, un, un, if_neg (by omega), if_neg (by omega)]
    · rw [if_neg e]
      by_cases e2 : k = i
      · rw [if_pos e2, h j hj q hq, un, un, if_neg (by omega), if_neg (by omega)]
      · rw [if_neg e2, h j hj k hk]
  generalize upd (upd W i (W q)) q (W i) = V at *
  have hV : ∀ k, (upd V i fun j => b * V i j) k = if k = i then fun j => b * V i j else V k := fun k => rfl
  intro j hj k hk
  unfold clr
  by_cases e : k = i
  · subst e
    rw [if_neg (fun h => h.2 rfl), hV, if_pos rfl]
    show b * V k j = _
    by_cases ej : j = k
    · subst ej
      rw [hsw, hp, un, if_pos rfl]
    · rw [hrow k hk j (by omega), un, if_neg (fun e' => ej e'.symm), Mb.mul_zero]
  · rw [if_pos ⟨hk, e⟩, hV, hV, if_neg e, if_pos rfl]
    show V k j + V k i * (b * V i j) = _
    by_cases ej : j = i
    · subst ej
      rw [hsw, hp, Mb.mul_one, Mb.add_self, un, if_neg e]
    · rw [hrow i hi j (by omega), show un i j = 0 from by rw [un, if_neg (fun e' => ej e'.symm)], Mb.mul_zero, Mb.mul_zero, Mb.add_zero, hrow k hk j (by omega)]
structure GJ (n : Nat) (R0 : List (List Int)) (i : Nat) (R : List (List Int)) : Prop where
  len : R.length = n
  row : ∀ j, j < n → (R.getD j []).length = n + n
  byte : bytesR R
  eqv : Eqv n (eB R0) (eB R)
  uc : UC n i (eB R)
theorem eB_ne {R : List (List Int)} {k j : Nat} (hb : bytesR R) (hk : k < R.length) (hj : j < (R.getD k []).length) (h : (R.getD k []).getD j 0 ≠ 0) : eB R k j ≠ 0 := fun e => by
  have h1 := bytesL_get (bytesR_get hb k hk) j hj
  have h2 : ofB (eB R k j) = ofB 0 := congrArg ofB e
  rw [eB, ofB_tB h1] at h2
  exact h h2
theorem invI_tB {a : Int} (ha : byteI a) : tB (invI a) = Mb.inv (tB a) := by
  apply Subtype.ext
  have h1 := ha.1
  have h2 := ha.2
  have h3 := Gf.gi_lt a.toNat (by omega)
  show (((Gf.gi a.toNat : Nat) : Int)).toNat % 256 = Gf.gi (a.toNat % 256)
  rw [Nat.mod_eq_of_lt (show a.toNat < 256 by omega)]
  omega
theorem inv_ne {a : B} (h : a ≠ 0) : Mb.inv a ≠ 0 := fun e => by
  have := Mb.mul_inv a h
  rw [e, Mb.mul_zero] at this
  exact Mb.one_ne this.symm
theorem gj_step {n i : Nat} {R0 R R' : List (List Int)} (h : GJ n R0 i R) (hi : i < n) (hs : gjStep n i R = some R') : GJ n R0 (i + 1) R' := by
  unfold gjStep at hs
  cases hp : pivot R i with
  | none => rw [hp] at hs; cases hs
  | some r =>
    rw [hp] at hs
    obtain rfl := Option.some.inj hs
    obtain ⟨hr1, hr2, _⟩ := pivot_some hp
    have hlen := h.len
    have hq : i + r < n := by omega
    have hswl : (swapR R i (i + r)).length = n := (swap_length _ _ _).trans h.len
    have hswb : bytesR (swapR R i (i + r)) := swap_bytes h.byte (by omega) (by omega)
    have hswr : ∀ k, k < n → ((swapR R i (i + r)).getD k []).length = n + n := fun k hk => by
      rw [swap_get R i (i + r) k (by omega) (by omega)]
      exact h.row _ (tau_lt hi hq hk)
    have hrow : (swapR R i (i + r)).getD i [] = R.getD (i + r) [] := by
      rw [swap_get R i (i + r) i (by omega) (by omega)]
      congr 1
      unfold tau
      rw [if_pos rfl]
      split <;> omega
    have hpb : byteI ((R.getD (i + r) []).getD i 0) := bytesL_get (bytesR_get h.byte (i + r) (by omega)) i (by rw [h.row (i + r) hq]; omega)
    have hpn : eB R (i + r) i ≠ 0 := eB_ne h.byte (by omega) (by rw [h.row (i + r) hq]; omega) hr2
    show GJ n R0 (i + 1) (clearF (invI (((swapR R i (i + r)).getD i []).getD i 0)) i (n + n) (swapR R i (i + r)))
    rw [hrow]
    have hby := invI_byte hpb
    have htb : tB (invI ((R.getD (i + r) []).getD i 0)) = Mb.inv (eB R (i + r) i) := invI_tB hpb
    obtain ⟨c1, c2⟩ := clearF_eB (invI ((R.getD (i + r) []).getD i 0)) hby (by rw [htb]; exact inv_ne hpn) i (n + n) n (swapR R i (i + r)) hswl hi (by omega) hswb hswr
    have hok := clearF_ok (by_ := invI ((R.getD (i + r) []).getD i 0)) hswl hi (show i < n + n by omega) hswb hswr hby
    have hE : Eqv n (eB R) (eB (swapR R i (i + r))) := by
      rw [swap_eB R i (i + r) n h.len hi hq]
      exact Eqv.swap _ _ _ hi hq
    refine ⟨hok.1, hok.2.1, hok.2.2, (h.eqv.trans hE).trans c2, ?_⟩
    rw [c1, swap_eB R i (i + r) n h.len hi hq, htb]
    exact uc_step h.uc hi hq (by omega) (by rw [Mb.mul_comm]; exact Mb.mul_inv _ hpn)
theorem gj_run {n : Nat} {R0 : List (List Int)} (h0 : GJ n R0 0 R0) (i : Nat) (hi : i ≤ n) : ∀ R, gjK n R0 i = some R → GJ n R0 i R := by
  induction i with
  | zero =>
    intro R h
    obtain rfl := Option.some.inj (show some R0 = some R from h)
    exact h0
  | succ i ih =>
    intro R h
    rw [gjK] at h
    cases hk : gjK n R0 i with
    | none => rw [hk] at h; cases h
    | some R1 =>
      rw [hk, Option.bind_some] at h
      exact gj_step (ih (by omega) R1 hk) (by omega) h
/-- It goes through only where the determinant is not 0. -/
theorem gj_fails {n : Nat} {R0 : List (List Int)} (h0 : GJ n R0 0 R0) (i : Nat) (hi : i ≤ n) (h : gjK n R0 i = none) : D (rowsOf n (eB R0)) (List.range n) = 0 := by
  induction i with
  | zero => cases h
  | succ i ih =>
    rw [gjK] at h
    cases hk : gjK n R0 i with
    | none => exact ih (by omega) hk
    | some R1 =>
      rw [hk, Option.bind_some, gjStep] at h
      have hg := gj_run h0 i (by omega) R1 hk
      cases hp : pivot R1 i with
      | some r => rw [hp] at h; cases h
      | none =>
        have hz := pivot_none hp
        have hd : D (rowsOf n (eB R1)) (List.range n) = 0 := Mb.det_zero (eB R1) i (by omega) fun k hik hkn j hj => by
          by_cases e : j = i
          · subst e
            have := hz (k - j) (by rw [hg.len]; omega)
            rw [show j + (k - j) = k by omega] at this
            show tB _ = 0
            rw [this]
            rfl
          · rw [hg.uc j (by omega) k hkn, un, if_neg (by omega)]
        obtain ⟨c, hc, h2⟩ := hg.eqv.det
        rw [h2] at hd
        rcases Mb.mul_eq_zero _ _ hd with e | e
        · exact absurd e hc
        · exact e
/-- The wide table ahead of the first step. -/
def wide0 (n : Nat) (a : List (List Int)) : List (List Int) := (List.range n).map (wideF n a)
theorem wide_entry (n : Nat) (a : List (List Int)) (har : ∀ i, i < n → (a.getD i []).length = n) (k : Nat) (hk : k < n) (j : Nat) : eB (wide0 n a) k j = if j < n then eB a k j else un (n + k) j := by
  show tB ((((List.range n).map (wideF n a)).getD k []).getD j 0) = _
  rw [wides_get n a k hk, wideF]
  have hl := har k hk
  by_cases h : j < n
  · rw [if_pos h, getD_set_other _ _ _ _ _ (by omega)]
    show tB ((a.getD k [] ++ List.replicate n 0).getD j 0) = tB ((a.getD k []).getD j 0)
    generalize a.getD k [] = row at hl ⊢
    congr 1
    simp only [List.getD_eq_getElem?_getD]
    rw [List.getElem?_append_left (by omega)]
  · rw [if_neg h]
    by_cases e : n + k = j
    · rw [e, getD_set_same _ _ _ _ (by rw [List.length_append, hl, List.length_replicate]; omega), un, if_pos rfl]
      rfl
    · rw [getD_set_other _ _ _ _ _ e, un, if_neg e]
      have : (a.getD k [] ++ List.replicate n (0 : Int)).getD j 0 = 0 := by
        generalize a.getD k [] = row at hl ⊢
        simp only [List.getD_eq_getElem?_getD]
        rw [List.getElem?_append_right (by omega), List.getElem?_replicate]
        split <;> rfl
      rw [this]
      rfl
theorem gj_start (n : Nat) (a : List (List Int)) (ha : bytesR a) (har : ∀ i, i < n → (a.getD i []).length = n) : GJ n (wide0 n a) 0 (wide0 n a) :=
  ⟨by simp [wide0], fun j hj => by unfold wide0; rw [wides_get n a j hj]; exact wideF_length n a j (har j hj), wides_bytes n a (fun l hl x hx => ha l hl x hx), Eqv.refl _ _, fun j hj => absurd hj (Nat.not_lt_zero j)⟩
theorem det_wide (n : Nat) (a : List (List Int)) (har : ∀ i, i < n → (a.getD i []).length = n) : D (rowsOf n (eB (wide0 n a))) (List.range n) = D (rowsOf n (eB a)) (List.range n) := by
  have hc : ∀ (Q Q' : List (Nat → B)) (S : List Nat), Q.length = Q'.length → (∀ k, (h1 : k < Q.length) → (h2 : k < Q'.length) → ∀ c ∈ S, Q[k] c = Q'[k] c) → D Q S = D Q' S := by
    intro Q
    induction Q with
    | nil =>
      intro Q' S hl _
      obtain rfl : Q' = [] := List.eq_nil_of_length_eq_zero hl.symm
      rfl
    | cons r Q ih =>
      intro Q' S hl hh
      cases Q' with
      | nil => simp at hl
      | cons r' Q' =>
        rw [D, D, Mb.M_sum, Mb.M_sum]
        refine Mb.sm_congr fun j hj => ?_
        rw [ih Q' (S.eraseIdx j) (by simpa using hl) fun k h1 h2 c hc => hh (k + 1) (Nat.succ_lt_succ h1) (Nat.succ_lt_succ h2) c ((List.eraseIdx_sublist S j).mem hc)]
        have e : S.getD j 0 = S[j] := by simp [hj]
        have := hh 0 (by simp) (by simp) S[j] (List.getElem_mem _)
        rw [e]
        exact congrArg (· * _) this
  refine hc _ _ _ (by simp [rowsOf]) fun k h1 h2 c hcS => ?_
  rw [Mb.rowsOf_length] at h1
  rw [Mb.rowsOf_get, Mb.rowsOf_get, wide_entry n a har k h1 c, if_pos (List.mem_range.1 hcS)]
theorem lin_rel (n : Nat) (A : Nat → Nat → B) : Lin (fun r => ∀ j, j < n → r j = sm n fun l => r (n + l) * A l j) :=
  ⟨fun a r h j hj => by
      show a * r j = sm n fun l => a * r (n + l) * A l j
      rw [h j hj, ← Mb.sm_mul]
      exact Mb.sm_congr fun l _ => (Mb.mul_assoc _ _ _).symm,
    fun r s h1 h2 j hj => by
      show r j + s j = sm n fun l => (r (n + l) + s (n + l)) * A l j
      rw [h1 j hj, h2 j hj, ← Mb.sm_add]
      exact Mb.sm_congr fun l _ => (Mb.add_mul _ _ _).symm⟩
theorem lin_span (n : Nat) (W : Nat → Nat → B) : Lin (fun r => ∃ q : Nat → B, ∀ j, r j = sm n fun k => q k * W k j) :=
  ⟨fun a r ⟨q, h⟩ => ⟨fun k => a * q k, fun j => by
      show a * r j = _
      rw [h j, ← Mb.sm_mul]
      exact Mb.sm_congr fun l _ => (Mb.mul_assoc _ _ _).symm⟩,
    fun r s ⟨q, h1⟩ ⟨p, h2⟩ => ⟨fun k => q k + p k, fun j => by
      show r j + s j = _
      rw [h1 j, h2 j, ← Mb.sm_add]
      exact Mb.sm_congr fun l _ => (Mb.add_mul _ _ _).symm⟩⟩
/-- What comes out undoes the table, from both sides, and its determinant is not 0. -/
theorem gj_done {n : Nat} {a R : List (List Int)} (har : ∀ i, i < n → (a.getD i []).length = n) (hg : GJ n (wide0 n a) n R) :
    (∀ k j, k < n → j < n → mm n (fun k l => eB R k (n + l)) (eB a) k j = un k j) ∧ (∀ k j, k < n → j < n → mm n (eB a) (fun k l => eB R k (n + l)) k j = un k j) ∧ D (rowsOf n (eB a)) (List.range n) ≠ 0 := by
  refine ⟨fun k j hk hj => ?_, fun k j hk hj => ?_, fun e => ?_⟩
  · have := hg.eqv.fwd _ (lin_rel n (eB a)) (fun k hk j hj => by
      rw [wide_entry n a har k hk j, if_pos hj, Mb.sm_one n k hk _ (fun l hl hne => by
        rw [wide_entry n a har k hk (n + l), if_neg (by omega), un, if_neg (by omega), Mb.zero_mul])]
      rw [wide_entry n a har k hk (n + k), if_neg (by omega), un, if_pos rfl, Mb.one_mul]) k hk j hj
    rw [hg.uc j hj k hk] at this
    exact this.symm
  · obtain ⟨q, hqq⟩ := hg.eqv.bwd _ (lin_span n (eB R)) (fun k hk => ⟨un k, fun j => (Mb.un_mm n (eB R) k j hk).symm⟩) k hk
    have h1 : ∀ l, l < n → q l = eB a k l := fun l hl => by
      have h2 := hqq l
      rw [wide_entry n a har k hk l, if_pos hl, Mb.sm_one n l hl _ (fun i hi hne => by rw [hg.uc l hl i hi, un, if_neg hne, Mb.mul_zero]), hg.uc l hl l hl, un, if_pos rfl, Mb.mul_one] at h2
      exact h2.symm
    have h3 := hqq (n + j)
    rw [wide_entry n a har k hk (n + j), if_neg (by omega)] at h3
    have h4 : un (n + k) (n + j) = un k j := by
      unfold un
      by_cases e : k = j
      · rw [if_pos e, if_pos (by omega)]
      · rw [if_neg e, if_neg (by omega)]
    rw [h4] at h3
    rw [h3]
    exact Mb.sm_congr fun l hl => by rw [h1 l hl]
  · obtain ⟨c, hc, h2⟩ := hg.eqv.det
    have h3 := h2 (List.range n)
    rw [Mb.det_unit (eB R) (fun k hk j hj => hg.uc j hj k hk), det_wide n a har, e, Mb.mul_zero] at h3
    exact Mb.one_ne h3
theorem gj_none {n : Nat} {a : List (List Int)} (ha : bytesR a) (har : ∀ i, i < n → (a.getD i []).length = n) (h : gjK n (wide0 n a) n = none) : D (rowsOf n (eB a)) (List.range n) = 0 := by
  rw [← det_wide n a har]
  exact gj_fails (gj_start n a ha har) n (Nat.le_refl _) h
theorem drop_table {n : Nat} {R0 R : List (List Int)} (hg : GJ n R0 n R) : R.map (fun r => r.drop n) = ofM n n (fun k l => eB R k (n + l)) := by
  have hb : bytesR (R.map fun r => r.drop n) := fun l hl => by
    obtain ⟨r, hr, rfl⟩ := List.mem_map.1 hl
    exact fun x hx => hg.byte r hr x (List.mem_of_mem_drop hx)
  have hget : ∀ i, i < n → (R.map fun r => r.drop n).getD i [] = (R.getD i []).drop n := fun i hi => by
    have := hg.len
    simp [show i < R.length by omega]
  have h := ofM_self (a := R.map fun r => r.drop n) (c := n) hb (fun i hi => by
    rw [List.length_map, hg.len] at hi
    rw [hget i hi, List.length_drop, hg.row i hi]
    omega)
  rw [List.length_map, hg.len] at h
  refine h.trans (ofM_congr fun i j hi hj => ?_)
  show tB _ = tB _
  rw [hget i hi]
  congr 1
  simp [List.getD_eq_getElem?_getD, List.getElem?_drop]
/-! any k rows of a code are independent: by looking at all choices -/
theorem D_congr : ∀ (Q Q' : List (Nat → B)) (S : List Nat), Q.length = Q'.length → (∀ k, (h1 : k < Q.length) → (h2 : k < Q'.length) → ∀ c ∈ S, Q[k] c = Q'[k] c) → D Q S = D Q' S := by
  intro Q
  induction Q with
  | nil =>
    intro Q' S hl _
    obtain rfl : Q' = [] := List.eq_nil_of_length_eq_zero hl.symm
    rfl
  | cons r Q ih =>
    intro Q' S hl hh
    cases Q' with
    | nil => simp at hl
    | cons r' Q' =>
      rw [D, D, Mb.M_sum, Mb.M_sum]
      refine Mb.sm_congr fun j hj => ?_
      rw [ih Q' (S.eraseIdx j) (by simpa using hl) fun k h1 h2 c hc => hh (k + 1) (Nat.succ_lt_succ h1) (Nat.succ_lt_succ h2) c ((List.eraseIdx_sublist S j).mem hc)]
      have e : S.getD j 0 = S[j] := by simp [hj]
      have := hh 0 (by simp) (by simp) S[j] (List.getElem_mem _)
      rw [e]
      exact congrArg (· * _) this
def subs : List Nat → List (List Nat)
  | [] => [[]]
  | x :: l => (subs l).map (x :: ·) ++ subs l
theorem subs_all {I l : List Nat} (h : I.Sublist l) : I ∈ subs l := by
  induction h with
  | slnil => exact List.mem_singleton.2 rfl
  | cons x _ ih => exact List.mem_append.2 (.inr ih)
  | cons_cons x _ ih => exact List.mem_append.2 (.inl (List.mem_map.2 ⟨_, ih, rfl⟩))
def invT (x : Nat) : Nat := [0, 1, 142, 244, 71, 167, 122, 186].getD x 0 % 256
theorem invT_lt (x : Nat) : invT x < 256 := Nat.mod_lt _ (by decide)
theorem invT_ok : ∀ x < 8, Gf.gi x = invT x := by decide +kernel
def codeT (n i j : Nat) : B := if n ≤ i then ⟨invT (i ^^^ j), invT_lt _⟩ else un i j
theorem codeT_ok (n i j : Nat) (hi : i < 8) (hj : j < 8) : codeM n i j = codeT n i j := by
  have hx : i ^^^ j < 8 := Nat.xor_lt_two_pow (n := 3) hi hj
  unfold codeM codeT
  by_cases h : n ≤ i
  · rw [if_pos h, if_pos h]
    apply Subtype.ext
    have e : (tB ((i ^^^ j : Nat) : Int)).1 = i ^^^ j := by
      show (((i ^^^ j : Nat) : Int)).toNat % 256 = _
      omega
    show Gf.gi (tB ((i ^^^ j : Nat) : Int)).1 = invT (i ^^^ j)
    rw [e, invT_ok _ hx]
  · rw [if_neg h, if_neg h]
def chk (n m : Nat) : Bool := (subs (List.range (n + m))).all fun I => I.length != n || (D (I.map (codeT n)) (List.range n)).1 != 0
theorem chk_all : ∀ n < 5, ∀ m < 4, chk n m = true := by decide +kernel
theorem choice_det (n m : Nat) (hn : n ≤ 4) (hm : m ≤ 3) (I : List Nat) (hI : I.Sublist (List.range (n + m))) (hl : I.length = n) : D (I.map (codeM n)) (List.range n) ≠ 0 := by
  have h := chk_all n (by omega) m (by omega)
  have h2 := List.all_eq_true.1 h I (subs_all hI)
  rw [hl] at h2
  have e : D (I.map (codeM n)) (List.range n) = D (I.map (codeT n)) (List.range n) := D_congr _ _ _ (by simp) fun k h1 h2 c hc => by
    have h3 : I[k]'(by simpa using h1) < n + m := List.mem_range.1 (hI.mem (List.getElem_mem _))
    have h4 := List.mem_range.1 hc
    simp only [List.getElem_map]
    exact codeT_ok _ _ _ (by omega) (by omega)
  rw [e]
  intro e2
  rw [e2] at h2
  simp at h2
  exact absurd h2 (by decide)
def rowsI (n : Nat) (I : List Nat) : List (List Int) := I.map fun i => ofR n (codeM n i)
theorem rowsI_bytes (n : Nat) (I : List Nat) : bytesR (rowsI n I) := fun l hl => by
  obtain ⟨i, _, rfl⟩ := List.mem_map.1 hl
  exact ofR_bytes _ _
theorem rowsI_get (n : Nat) (I : List Nat) (k : Nat) (hk : k < I.length) : (rowsI n I).getD k [] = ofR n (codeM n I[k]) := by simp [rowsI, hk]
theorem rowsI_det (n : Nat) (I : List Nat) (hl : I.length = n) : D (rowsOf n (eB (rowsI n I))) (List.range n) = D (I.map (codeM n)) (List.range n) :=
  D_congr _ _ _ (by simp [rowsOf, hl]) fun k h1 h2 c hc => by
    rw [Mb.rowsOf_length] at h1
    rw [Mb.rowsOf_get]
    simp only [List.getElem_map]
    show tB (((rowsI n I).getD k []).getD c 0) = _
    rw [rowsI_get n I k (by omega), ofR_get _ _ _ (List.mem_range.1 hc), tB_ofB]
theorem choice_inv (n m : Nat) (hn0 : 0 < n) (hn : n ≤ 4) (hm : m ≤ 3) (I : List Nat) (hI : I.Sublist (List.range (n + m))) (hl : I.length = n) : ∃ R, gjK n (wide0 n (rowsI n I)) n = some R ∧ invF (rowsI n I) = (R.map fun r => r.drop n, 0) := by
  have hlen : (rowsI n I).length = n := by simp [rowsI, hl]
  have har : ∀ i, i < n → ((rowsI n I).getD i []).length = n := fun i hi => by rw [rowsI_get n I i (by omega), ofR_length]
  have hfit : fitB (rowsI n I) = true := fitB_all (by omega) (fun i hi => har i (by omega))
  cases hg : gjK n (wide0 n (rowsI n I)) n with
  | none =>
    have := gj_none (rowsI_bytes n I) har hg
    rw [rowsI_det n I hl] at this
    exact absurd this (choice_det n m hn hm I hI hl)
  | some R =>
    refine ⟨R, rfl, ?_⟩
    have : invF (rowsI n I) = match gjK n (wide0 n (rowsI n I)) n with
      | none => ([], 7)
      | some R => (R.map fun r => r.drop n, 0) := by
      unfold invF
      rw [if_neg (fun h => by
        rcases h with h | h | h
        · rw [hfit] at h; cases h
        · exact h ((har 0 hn0).trans hlen.symm)
        · omega), hlen]
      rfl
    rw [this, hg]
/-! shards -/
def pre8 (d : List Int) (q : Nat) : List (List Int) := (List.range q).map fun i => (d.drop (8 * i)).take 8
theorem chunks_pre {d : List Int} {n : Nat} (h : d.length = 8 * n) : chunks d = pre8 d n := by simp [chunks, pre8, h]
theorem pre8_length (d : List Int) (q : Nat) : (pre8 d q).length = q := by simp [pre8]
theorem pre8_get (d : List Int) {q i : Nat} (hi : i < q) : (pre8 d q).getD i [] = (d.drop (8 * i)).take 8 := by simp [pre8, hi]
theorem pre8_succ (d : List Int) (q : Nat) : pre8 d (q + 1) = pre8 d q ++ [(d.drop (8 * q)).take 8] := by simp [pre8, List.range_succ]
theorem pre8_bytes {d : List Int} (hb : bytesL d) (q : Nat) : bytesR (pre8 d q) := fun l hl => by
  obtain ⟨i, _, rfl⟩ := List.mem_map.1 hl
  exact fun x hx => hb x (List.mem_of_mem_drop (List.mem_of_mem_take hx))
theorem pre8_row {d : List Int} {n : Nat} (h : d.length = 8 * n) {i : Nat} (hi : i < n) : ((pre8 d n).getD i []).length = 8 := by
  rw [pre8_get d hi, List.length_take, List.length_drop]
  omega
def dM (d : List Int) (i j : Nat) : B := tB (d.getD (8 * i + j) 0)
theorem eB_pre8 (d : List Int) {n i j : Nat} (hi : i < n) (hj : j < 8) : eB (pre8 d n) i j = dM d i j := by
  unfold eB dM
  rw [pre8_get d hi, List.getD_eq_getElem?_getD, List.getD_eq_getElem?_getD, List.getElem?_take, if_pos hj, List.getElem?_drop]
def shE (n : Nat) (d : List Int) : Nat → Nat → B := mm n (codeM n) (dM d)
theorem mul7 {a b : Nat} (ha : a ≤ 7) (hb : b ≤ 6) : a * b ≤ 42 := Nat.mul_le_mul ha hb
theorem shE_of (n m : Nat) (d : List Int) : ofM (ofM (n + m) n (codeM n)).length 8 (mm n (eB (ofM (n + m) n (codeM n))) (eB (pre8 d n))) = ofM (n + m) 8 (shE n d) := by
  rw [ofM_length]
  exact ofM_congr fun i j hi hj => Mb.mm_congr (fun q hq => eB_ofM _ _ _ i q hi hq) (fun q hq => eB_pre8 d hq hj)
theorem enc_f (n m : Nat) (h1 : 1 ≤ n) (h4 : n ≤ 4) (hm : m ≤ 3) (d : List Int) (hb : bytesL d) (hl : d.length = 8 * n) : rs_Encode.f (n : Int) (m : Int) d = some (ofM (n + m) 8 (shE n d), 0) := by
  have hne : ofM (n + m) n (codeM n) ≠ [] := fun e => by
    have := ofM_length (n + m) n (codeM n)
    rw [e] at this
    simp at this
    omega
  have h42 := mul7 (show n + m ≤ 7 by omega) (show n + 2 ≤ 6 by omega)
  unfold rs_Encode.f
  rw [if_neg (by omega), code_f 1000 n m h1 h4 hm (by decide), Option.bind_some, if_neg hne, if_neg (by omega), chunks_pre hl,
    times_f 1000 8 n _ _ (ofM_bytes _ _ _) (pre8_bytes hb n) (by rw [ofM_length]; omega) (pre8_length d n) (by omega) (fun i hi => by rw [ofM_length] at hi; rw [ofM_get _ _ _ i hi, ofR_length]) (fun i hi => pre8_row hl hi) (by rw [ofM_length]; omega) (by decide) (by omega) (by rw [ofM_length]; omega), shE_of]
theorem enc_no (a m : Int) (d : List Int) (h : a < 1 ∨ a > 4 ∨ m < 0 ∨ m > 3 ∨ (d.length : Int) ≠ 8 * a) : rs_Encode.f a m d = some ([], 1) := by
  unfold rs_Encode.f
  by_cases hb : a < 1 ∨ a > 4 ∨ m < 0 ∨ m > 3
  · rw [if_pos hb]
  · rw [if_neg hb]
    obtain ⟨n, rfl⟩ : ∃ n : Nat, a = (n : Int) := ⟨a.toNat, by omega⟩
    obtain ⟨q, rfl⟩ : ∃ n : Nat, m = (n : Int) := ⟨m.toNat, by omega⟩
    have hne : ofM (n + q) n (codeM n) ≠ [] := fun e => by
      have := ofM_length (n + q) n (codeM n)
      rw [e] at this
      simp at this
      omega
    rw [code_f 1000 n q (by omega) (by omega) (by omega) (by decide), Option.bind_some, if_neg hne, if_pos (by omega)]
theorem answers_t : flittinglaw03_answers.f = some true := rfl
/-! what of shards is there -/
def cnt (l : List (List Int)) : Nat → Nat
  | 0 => 0
  | q + 1 => if 0 < (l.getD q []).length then cnt l q + 1 else cnt l q
theorem cnt_le (l : List (List Int)) (q : Nat) : cnt l q ≤ q := by
  induction q with
  | zero => exact Nat.le_refl _
  | succ q ih => unfold cnt; split <;> omega
theorem hav_cnt (l : List (List Int)) (k q : Nat) : (hav l k q).length = min k (cnt l q) := by
  induction q with
  | zero => simp [hav, cnt]
  | succ q ih =>
    unfold hav cnt
    by_cases h : 0 < (l.getD q []).length
    · by_cases h2 : (hav l k q).length < k
      · rw [if_pos ⟨h, h2⟩, if_pos h, List.length_append, List.length_singleton]
        omega
      · rw [if_neg (fun e => h2 e.2), if_pos h]
        omega
    · rw [if_neg (fun e => h e.1), if_neg h, ih]
theorem hav_sub (l : List (List Int)) (k q : Nat) : (hav l k q).Sublist (List.range q) := by
  induction q with
  | zero => exact List.Sublist.refl _
  | succ q ih =>
    unfold hav
    rw [List.range_succ]
    split
    · exact ih.append (List.Sublist.refl _)
    · exact ih.trans (List.sublist_append_left _ _)
theorem hav_pos (l : List (List Int)) (k q : Nat) : ∀ i ∈ hav l k q, 0 < (l.getD i []).length := by
  induction q with
  | zero => intro i hi; cases hi
  | succ q ih =>
    intro i hi
    unfold hav at hi
    split at hi
    · rename_i h
      rcases List.mem_append.1 hi with h1 | h1
      · exact ih i h1
      · have : i = q := by simpa using h1
        subst this
        exact h.1
    · exact ih i hi
theorem hav_mono (l : List (List Int)) (k q : Nat) : ∀ e, ∀ i ∈ hav l k q, i ∈ hav l k (q + e) := by
  intro e
  induction e with
  | zero => exact fun i hi => hi
  | succ e ih =>
    intro i hi
    have := ih i hi
    show i ∈ (if _ then _ else _)
    split
    · exact List.mem_append.2 (.inl this)
    · exact this
theorem row_self {x : List Int} (hb : bytesL x) {c : Nat} (h : x.length = c) : x = ofR c (fun j => tB (x.getD j 0)) := by
  apply List.ext_getElem
  · rw [ofR_length, h]
  · intro j h1 h2
    have hj : j < c := by omega
    have e := ofR_get c (fun j => tB (x.getD j 0)) j hj
    rw [List.getD_eq_getElem?_getD, List.getElem?_eq_getElem h2, Option.getD_some] at e
    rw [e, ofB_tB]
    · simp [h1]
    · have e2 : x.getD j 0 = x[j] := by simp [h1]
      rw [e2]
      exact hb _ (List.getElem_mem h1)
theorem flat_row : ∀ (L : List (List Int)) (i : Nat), (∀ l ∈ L, l.length = 8) → i < L.length → (L.flatten.drop (8 * i)).take 8 = L.getD i [] := by
  intro L
  induction L with
  | nil => intro i _ hi; simp at hi
  | cons x L ih =>
    intro i hl hi
    have hx : x.length = 8 := hl x List.mem_cons_self
    cases i with
    | zero => rw [Nat.mul_zero, List.drop_zero, List.flatten_cons, List.take_append_of_le_length (by omega), List.take_of_length_le (by omega)]; rfl
    | succ i =>
      rw [List.flatten_cons, List.drop_append, List.drop_of_length_le (by omega), List.nil_append, show 8 * (i + 1) - x.length = 8 * i by omega, ih i (fun l h => hl l (List.mem_cons_of_mem _ h)) (by simpa using hi)]
      rfl
theorem flat_len (L : List (List Int)) (hl : ∀ l ∈ L, l.length = 8) : L.flatten.length = 8 * L.length := by
  induction L with
  | nil => rfl
  | cons x L ih =>
    rw [List.flatten_cons, List.length_append, ih (fun l h => hl l (List.mem_cons_of_mem _ h)), hl x List.mem_cons_self, List.length_cons]
    omega
theorem ofM_row8 (n : Nat) (Q : Nat → Nat → B) : ∀ l ∈ ofM n 8 Q, l.length = 8 := fun l hl => by
  obtain ⟨i, _, rfl⟩ := List.mem_map.1 hl
  exact ofR_length _ _
theorem dM_flat (n : Nat) (Q : Nat → Nat → B) {i j : Nat} (hi : i < n) (hj : j < 8) : dM (ofM n 8 Q).flatten i j = Q i j := by
  have h := eB_pre8 (ofM n 8 Q).flatten hi hj
  have e : pre8 (ofM n 8 Q).flatten n = ofM n 8 Q := by
    unfold pre8 ofM
    apply List.map_congr_left
    intro q hq
    have hq := List.mem_range.1 hq
    have := flat_row (ofM n 8 Q) q (ofM_row8 n Q) (by rw [ofM_length]; exact hq)
    rw [ofM_get _ _ _ q hq] at this
    exact this
  rw [e, eB_ofM _ _ _ i j hi hj] at h
  exact h.symm
theorem eB_rowsI {n : Nat} {I : List Nat} (hIl : I.length = n) {k j : Nat} (hk : k < n) (hj : j < n) : eB (rowsI n I) k j = codeM n (I.getD k 0) j := by
  unfold eB
  rw [rowsI_get n I k (by omega), ofR_get _ _ _ hj, tB_ofB]
  simp [show k < I.length by omega]
theorem code_ne {n m : Nat} (h1 : 1 ≤ n) : ofM (n + m) n (codeM n) ≠ [] := fun e => by
  have := ofM_length (n + m) n (codeM n)
  rw [e] at this
  simp at this
  omega
theorem sh_row {n : Nat} {sh : List (List Int)} (hb : bytesR sh) (ho : oddB sh = false) {i : Nat} (hi : i ∈ hav sh n sh.length) : (sh.getD i []).length = 8 ∧ bytesL (sh.getD i []) := by
  have hlt := hav_lt sh n sh.length i hi
  have hp := hav_pos sh n sh.length i hi
  have e : sh.getD i [] = sh[i] := by simp [hlt]
  rw [e] at hp ⊢
  refine ⟨?_, hb _ (List.getElem_mem hlt)⟩
  have key : ∀ q, ¬ odd1 q = true → 0 < q → q = 8 := fun q h hp => by
    unfold odd1 at h
    simp at h
    omega
  exact key _ (List.any_eq_false.1 ho sh[i] (List.getElem_mem hlt)) hp
theorem dec_few (n m : Nat) (h1 : 1 ≤ n) (h4 : n ≤ 4) (hm : m ≤ 3) (sh : List (List Int)) (_ : bytesR sh) (hl : sh.length = n + m) (ho : oddB sh = false) (h : cnt sh sh.length < n) : rs_Decode.f (n : Int) (m : Int) sh = some ([], 8) := by
  unfold rs_Decode.f decF
  rw [if_neg (by omega), code_f 1000 n m h1 h4 hm (by decide), Option.bind_some, if_neg (code_ne h1), if_neg (by rw [ho]; simp; omega), if_neg (by rw [ofM_length]; omega), Int.toNat_natCast, if_pos (by rw [hav_cnt]; omega)]
section
variable (n m : Nat) (h1 : 1 ≤ n) (h4 : n ≤ 4) (hm : m ≤ 3) (I : List Nat) (hI : I.Sublist (List.range (n + m))) (hIl : I.length = n)
include h1 h4 hm hI hIl
theorem back_of : ∃ P : Nat → Nat → B, invF (rowsI n I) = (ofM n n P, 0) ∧ (∀ k j, k < n → j < n → mm n P (eB (rowsI n I)) k j = un k j) ∧ (∀ k j, k < n → j < n → mm n (eB (rowsI n I)) P k j = un k j) := by
  obtain ⟨R, hg, hi⟩ := choice_inv n m (by omega) h4 hm I hI hIl
  have har : ∀ i, i < n → ((rowsI n I).getD i []).length = n := fun i hi => by rw [rowsI_get n I i (by omega), ofR_length]
  have hG := gj_run (gj_start n (rowsI n I) (rowsI_bytes n I) har) n (Nat.le_refl _) R hg
  obtain ⟨p1, p2, _⟩ := gj_done har hG
  exact ⟨fun k l => eB R k (n + l), by rw [hi, drop_table hG], p1, p2⟩
/-- Data is told by n of its shards. -/
theorem code_inj (d d' : List Int) (hb : bytesL d) (hb' : bytesL d') (hl : d.length = 8 * n) (hl' : d'.length = 8 * n) (h : ∀ i ∈ I, ∀ j, j < 8 → shE n d i j = shE n d' i j) : d = d' := by
  obtain ⟨P, _, p1, _⟩ := back_of n m h1 h4 hm I hI hIl
  have key : ∀ (e : List Int) (k j : Nat), k < n → j < 8 → dM e k j = mm n P (fun k j => shE n e (I.getD k 0) j) k j := fun e k j hk hj => by
    have s1 : mm n P (fun k j => shE n e (I.getD k 0) j) k j = mm n P (mm n (eB (rowsI n I)) (dM e)) k j := Mb.mm_congr (fun _ _ => rfl) (fun q hq => by
      show mm n (codeM n) (dM e) (I.getD q 0) j = _
      exact Mb.sm_congr fun l hl => by rw [eB_rowsI hIl hq hl])
    rw [s1, ← Mb.mm_assoc, show mm n (mm n P (eB (rowsI n I))) (dM e) k j = mm n un (dM e) k j from Mb.sm_congr fun l hl => by rw [p1 k l hk hl], Mb.un_mm n (dM e) k j hk]
  have hd : ∀ k j, k < n → j < 8 → dM d k j = dM d' k j := fun k j hk hj => by
    rw [key d k j hk hj, key d' k j hk hj]
    refine Mb.mm_congr (fun _ _ => rfl) (fun q hq => ?_)
    have e : I.getD q 0 = I[q]'(by omega) := by simp [show q < I.length by omega]
    show shE n d (I.getD q 0) j = shE n d' (I.getD q 0) j
    rw [e]
    exact h _ (List.getElem_mem _) j hj
  apply List.ext_getElem (by omega)
  intro t t1 t2
  have := hd (t / 8) (t % 8) (by omega) (Nat.mod_lt _ (by decide))
  unfold dM at this
  rw [Nat.div_add_mod] at this
  have e1 : d.getD t 0 = d[t] := by simp [t1]
  have e2 : d'.getD t 0 = d'[t] := by simp [t2]
  rw [e1, e2] at this
  rw [← ofB_tB (hb _ (List.getElem_mem t1)), ← ofB_tB (hb' _ (List.getElem_mem t2)), this]
end
section
variable (n m : Nat) (h1 : 1 ≤ n) (h4 : n ≤ 4) (hm : m ≤ 3) (sh : List (List Int)) (hb : bytesR sh) (hl : sh.length = n + m) (ho : oddB sh = false)
include h1 h4 hm hb hl ho
/-- What is decoded, and of what it is the data. -/
theorem dec_f (h : n ≤ cnt sh sh.length) : ∃ d, rs_Decode.f (n : Int) (m : Int) sh = some (d, 0) ∧ d.length = 8 * n ∧ bytesL d ∧ ∀ i ∈ hav sh n sh.length, sh.getD i [] = ofR 8 (shE n d i) := by
  have hIl : (hav sh n sh.length).length = n := by rw [hav_cnt]; omega
  have hI : (hav sh n sh.length).Sublist (List.range (n + m)) := by rw [← hl]; exact hav_sub sh n sh.length
  have hrow := fun i (hi : i ∈ hav sh n sh.length) => sh_row hb ho hi
  have hlt := hav_lt sh n sh.length
  unfold rs_Decode.f decF
  rw [if_neg (by omega), code_f 1000 n m h1 h4 hm (by decide), Option.bind_some, if_neg (code_ne h1), if_neg (by rw [ho]; simp; omega), if_neg (by rw [ofM_length]; omega), Int.toNat_natCast, if_neg (by omega)]
  generalize hav sh n sh.length = I at *
  obtain ⟨P, hP, p1, p2⟩ := back_of n m h1 h4 hm I hI hIl
  have hrows : I.map ((ofM (n + m) n (codeM n)).getD · []) = rowsI n I := by
    unfold rowsI
    apply List.map_congr_left
    intro i hi
    rw [ofM_get _ _ _ i (by have := hlt i hi; omega)]
  have hgl : (I.map (sh.getD · [])).length = n := by rw [List.length_map, hIl]
  have hgg : ∀ k, (hk : k < I.length) → (I.map (sh.getD · [])).getD k [] = sh.getD I[k] [] := fun k hk => by simp [hk]
  have hgb : bytesR (I.map (sh.getD · [])) := fun l h => by
    obtain ⟨i, hi, rfl⟩ := List.mem_map.1 h
    exact (hrow i hi).2
  have h24 : n * (n + 2) ≤ 24 := Nat.mul_le_mul (show n ≤ 4 from h4) (show n + 2 ≤ 6 by omega)
  have ht : mat_Times.f 1000 (ofM n n P) (I.map (sh.getD · [])) = some (ofM n 8 (mm n (eB (ofM n n P)) (eB (I.map (sh.getD · [])))), 0) := by
    have h := times_f 1000 8 n (ofM n n P) (I.map (sh.getD · [])) (ofM_bytes _ _ _) hgb (by rw [ofM_length]; omega) hgl (by omega) (fun i hi => by rw [ofM_length] at hi; rw [ofM_get _ _ _ i hi, ofR_length]) (fun i hi => by rw [hgg i (by omega)]; exact (hrow _ (List.getElem_mem _)).1) (by rw [ofM_length]; omega) (by decide) (by omega) (by rw [ofM_length]; omega)
    rwa [ofM_length] at h
  rw [hrows, invert_f _ (rowsI_bytes n I) (by unfold rowsI; rw [List.length_map]; omega), Option.bind_some, hP]
  dsimp only
  rw [ht, Option.bind_some]
  dsimp only
  have hfl := flat_len (ofM n 8 (mm n (eB (ofM n n P)) (eB (I.map (sh.getD · []))))) (ofM_row8 _ _)
  rw [ofM_length] at hfl
  have hby := ofM_bytes n 8 (mm n (eB (ofM n n P)) (eB (I.map (sh.getD · []))))
  rw [if_pos ⟨by rw [ofM_length]; omega, by rw [hfl]; omega, fun l h x hx => hby l h x hx⟩]
  refine ⟨_, rfl, hfl, fun x hx => ?_, fun i hi => ?_⟩
  · obtain ⟨l, hl, hx⟩ := List.mem_flatten.1 hx
    exact hby l hl x hx
  · obtain ⟨k, hk, rfl⟩ := List.getElem_of_mem hi
    refine (row_self (hrow _ hi).2 (hrow _ hi).1).trans (ofR_congr fun j hj => ?_)
    have e1 : tB ((sh.getD I[k] []).getD j 0) = eB (I.map (sh.getD · [])) k j := by
      show _ = tB (((I.map (sh.getD · [])).getD k []).getD j 0)
      rw [hgg k hk]
    have hkn : k < n := by omega
    have eI : I.getD k 0 = I[k] := by simp [hk]
    have e2 : shE n (ofM n 8 (mm n (eB (ofM n n P)) (eB (I.map (sh.getD · []))))).flatten I[k] j = mm n (eB (rowsI n I)) (mm n P (eB (I.map (sh.getD · [])))) k j := by
      show mm n (codeM n) _ I[k] j = _
      refine Mb.sm_congr fun l hl => ?_
      rw [eB_rowsI hIl hkn hl, eI, dM_flat n _ hl hj]
      congr 1
      exact Mb.sm_congr fun q hq => by rw [eB_ofM _ _ _ l q hl hq]
    rw [e1, e2, ← Mb.mm_assoc, show mm n (mm n (eB (rowsI n I)) P) (eB (I.map (sh.getD · []))) k j = mm n un (eB (I.map (sh.getD · []))) k j from Mb.sm_congr fun l hl => by rw [p2 k l hkn hl], Mb.un_mm n _ k j hkn]
end
theorem dec_no (a m : Int) (sh : List (List Int)) (h : a < 1 ∨ a > 4 ∨ m < 0 ∨ m > 3 ∨ (sh.length : Int) ≠ a + m ∨ oddB sh = true) : rs_Decode.f a m sh = some ([], 1) := by
  unfold rs_Decode.f
  by_cases hb : a < 1 ∨ a > 4 ∨ m < 0 ∨ m > 3
  · rw [if_pos hb]
  · rw [if_neg hb]
    obtain ⟨n, rfl⟩ : ∃ n : Nat, a = (n : Int) := ⟨a.toNat, by omega⟩
    obtain ⟨q, rfl⟩ : ∃ n : Nat, m = (n : Int) := ⟨m.toNat, by omega⟩
    have hne : ofM (n + q) n (codeM n) ≠ [] := fun e => by
      have := ofM_length (n + q) n (codeM n)
      rw [e] at this
      simp at this
      omega
    have hc : (sh.length : Int) ≠ (n : Int) + (q : Int) ∨ oddB sh = true := by
      rcases h with h | h | h | h | h | h
      · omega
      · omega
      · omega
      · omega
      · exact .inl h
      · exact .inr h
    rw [code_f 1000 n q (by omega) (by omega) (by omega) (by decide), Option.bind_some, if_neg hne, if_pos hc]
theorem bytesR_of {a : List (List Int)} (h : ∀ l ∈ a, ∀ x ∈ l, 0 ≤ x ∧ x < 256) : bytesR a := fun l hl x hx => h l hl x hx
theorem u8_nat {a : Int} (h : (Lit.int .u8 a).wf = true) : ∃ n : Nat, n < 256 ∧ a = (n : Int) := by
  simp [Lit.wf, IntKind.min, IntKind.max, IntKind.bits, IntKind.signed] at h
  exact ⟨a.toNat, by omega, by omega⟩
theorem wf_bytes {l : List Int} (h : ∀ x ∈ l, (Lit.int .u8 x).wf = true) : bytesL l := fun x hx => by
  obtain ⟨n, hn, rfl⟩ := u8_nat (h x hx)
  unfold byteI
  omega
def fullL (l : List Int) (n : Nat) : List Int := (([] ++ l) ++ List.replicate 32 0).take (8 * n)
theorem fullL_length (l : List Int) (n : Nat) (hn : n ≤ 4) : (fullL l n).length = 8 * n := by simp [fullL]; omega
theorem fullL_bytes {l : List Int} (hb : bytesL l) (n : Nat) : bytesL (fullL l n) := fun x hx => by
  have h := List.mem_of_mem_take hx
  rw [List.nil_append] at h
  rcases List.mem_append.1 h with h | h
  · exact hb x h
  · rw [(List.mem_replicate.1 h).2]
    unfold byteI
    omega
theorem nk (p : Nat) : wrap64 ((wrap64 (Int.tmod (p : Int) 4)) + 1) = ((p % 4 + 1 : Nat) : Int) := by
  rw [show Int.tmod (p : Int) 4 = ((p % 4 : Nat) : Int) from rfl]
  unfold wrap64
  omega
theorem mk_ (q : Nat) : wrap64 (Int.tmod (q : Int) 4) = ((q % 4 : Nat) : Int) := by
  rw [show Int.tmod (q : Int) 4 = ((q % 4 : Nat) : Int) from rfl]
  unfold wrap64
  omega
theorem w8 (n : Nat) (hn : n ≤ 4) : wrap64 (8 * (n : Int)) = ((8 * n : Nat) : Int) := by unfold wrap64; omega
theorem long8 (l : List Int) (n : Nat) (hn : n ≤ 4) : ((8 * n : Nat) : Int) ≤ ((([] : List Int) ++ l ++ List.replicate 32 0).length : Int) := by simp; omega
theorem sums_z (n m : Nat) (hn4 : n ≤ 4) (X Y : Nat → B) (d : Nat) : ∀ (k q : Nat), d + q = 8 * n → d ≤ k →
    flittinglaw03_RsSums.l0 k (n : Int) (m : Int) (ofR (8 * n) X) (ofR (8 * n) Y) (ofR (8 * n) fun j => if j < q then X j + Y j else 0) (q : Int) = flittinglaw03_RsSums.l0 (k - d) (n : Int) (m : Int) (ofR (8 * n) X) (ofR (8 * n) Y) (ofR (8 * n) fun j => X j + Y j) ((8 * n : Nat) : Int) := by
  induction d with
  | zero =>
    intro k q hd hk
    obtain rfl : q = 8 * n := by omega
    rw [show (ofR (8 * n) fun j => if j < 8 * n then X j + Y j else 0) = ofR (8 * n) fun j => X j + Y j from ofR_congr fun j hj => by rw [if_pos hj]]
    rfl
  | succ d ih =>
    intro k q hd hk
    obtain ⟨k, rfl⟩ : ∃ m, k = m + 1 := ⟨k - 1, by omega⟩
    have h := ih k (q + 1) (by omega) (by omega)
    rw [show k + 1 - (d + 1) = k - d by omega, ← h]
    have e := xorI_ofB (X q) (Y q)
    unfold xorI at e
    simp only [flittinglaw03_RsSums.l0]
    rw [w8 n hn4, if_pos (by omega), if_pos (by omega), if_pos (by rw [ofR_length]; omega), if_pos (by rw [ofR_length]; omega), if_pos (by rw [ofR_length]; omega), rd_nat, rd_nat, ofR_get _ _ _ (by omega), ofR_get _ _ _ (by omega), e, Int.toNat_natCast, ofR_set, show wrap64 ((q : Int) + 1) = ((q + 1 : Nat) : Int) from by unfold wrap64; omega]
    congr 1
    exact ofR_congr fun j _ => by
      by_cases h1 : j = q
      · rw [if_pos h1, if_pos (by omega), h1]
      · rw [if_neg h1]
        by_cases h2 : j < q
        · rw [if_pos h2, if_pos (by omega)]
        · rw [if_neg h2, if_neg (by omega)]
section
variable (n m : Nat) (h7 : n + m ≤ 7) (P Q R : Nat → Nat → B) (hR : ∀ i j, i < n + m → j < 8 → P i j + Q i j = R i j)
include h7 hR
theorem sums_row (i : Nat) (hi : i < n + m) (d : Nat) : ∀ (k j : Nat), d + j = 8 → d + 1 ≤ k →
    flittinglaw03_RsSums.l2 k (n : Int) (m : Int) (ofM (n + m) 8 P) (ofM (n + m) 8 Q) (ofM (n + m) 8 R) (i : Int) (j : Int) = flittinglaw03_RsSums.l1 (k - d - 1) (n : Int) (m : Int) (ofM (n + m) 8 P) (ofM (n + m) 8 Q) (ofM (n + m) 8 R) ((i + 1 : Nat) : Int) := by
  induction d with
  | zero =>
    intro k j hd hk
    obtain ⟨k, rfl⟩ : ∃ m, k = m + 1 := ⟨k - 1, by omega⟩
    simp only [flittinglaw03_RsSums.l2]
    rw [if_neg (by omega), show wrap64 ((i : Int) + 1) = ((i + 1 : Nat) : Int) from by unfold wrap64; omega]
    rfl
  | succ d ih =>
    intro k j hd hk
    obtain ⟨k, rfl⟩ : ∃ m, k = m + 1 := ⟨k - 1, by omega⟩
    have h := ih k (j + 1) (by omega) (by omega)
    rw [show k + 1 - (d + 1) - 1 = k - d - 1 by omega, ← h]
    have e := xorI_ofB (P i j) (Q i j)
    unfold xorI at e
    simp only [flittinglaw03_RsSums.l2]
    rw [if_pos (by omega), if_pos (by omega), if_pos (by rw [ofM_length]; omega), if_pos (by omega), rd_L1_nat, rd_L1_nat, rd_L1_nat, ofM_get _ _ _ i hi, ofM_get _ _ _ i hi, ofM_get _ _ _ i hi, if_pos (by rw [ofR_length]; omega), if_pos (by rw [ofM_length]; omega), if_pos (by rw [ofR_length]; omega), if_pos (by rw [ofM_length]; omega), if_pos (by rw [ofR_length]; omega), rd_nat, rd_nat, rd_nat, ofR_get _ _ _ (by omega), ofR_get _ _ _ (by omega), ofR_get _ _ _ (by omega), e, hR i j hi (by omega), if_pos rfl, show wrap64 ((j : Int) + 1) = ((j + 1 : Nat) : Int) from by unfold wrap64; omega]
theorem sums_all (d : Nat) : ∀ (k i : Nat), d + i = n + m → d * 10 + 5 ≤ k →
    flittinglaw03_RsSums.l1 k (n : Int) (m : Int) (ofM (n + m) 8 P) (ofM (n + m) 8 Q) (ofM (n + m) 8 R) (i : Int) = some true := by
  have hw : wrap64 ((n : Int) + (m : Int)) = ((n + m : Nat) : Int) := by unfold wrap64; omega
  induction d with
  | zero =>
    intro k i hd hk
    obtain ⟨k, rfl⟩ : ∃ m, k = m + 1 := ⟨k - 1, by omega⟩
    simp only [flittinglaw03_RsSums.l1]
    rw [hw, if_neg (by omega), answers_t, Option.bind_some]
  | succ d ih =>
    intro k i hd hk
    obtain ⟨k, rfl⟩ : ∃ m, k = m + 1 := ⟨k - 1, by omega⟩
    simp only [flittinglaw03_RsSums.l1]
    rw [hw, if_pos (by omega)]
    exact (sums_row n m h7 P Q R hR i (by omega) 8 k 0 (by omega) (by omega)).trans (ih (k - 8 - 1) (i + 1) (by omega) (by omega))
end
theorem shE_add (n : Nat) (x y z : List Int) (h : ∀ l j, l < n → j < 8 → dM z l j = dM x l j + dM y l j) (i j : Nat) (hj : j < 8) : shE n x i j + shE n y i j = shE n z i j := by
  unfold shE mm
  rw [← Mb.sm_add]
  exact Mb.sm_congr fun l hl => by rw [h l j hl hj, Mb.mul_add]
theorem dM_sum (n : Nat) (x y : List Int) (X Y : Nat → B) (hX : (fun j => tB (x.getD j 0)) = X) (hY : (fun j => tB (y.getD j 0)) = Y) (l j : Nat) (hl : l < n) (hj : j < 8) : dM (ofR (8 * n) fun j => X j + Y j) l j = dM x l j + dM y l j := by
  unfold dM
  rw [ofR_get _ _ _ (show 8 * l + j < 8 * n by omega), tB_ofB, ← hX, ← hY]
theorem kk {n m K : Nat} (h7 : n + m ≤ 7) (hn4 : n ≤ 4) (hK : 999 - 8 * n = K + 1 + 1) : (n + m) * 10 + 5 ≤ K := by omega
theorem k999 {n : Nat} (hn4 : n ≤ 4) : ∃ K, 999 - 8 * n = K + 1 + 1 := ⟨997 - 8 * n, by omega⟩
theorem wnm {n m : Nat} (h7 : n + m ≤ 7) : wrap64 ((n : Int) + (m : Int)) = ((n + m : Nat) : Int) := by unfold wrap64; omega
theorem nlt (n : Nat) : ¬ ((8 * n : Nat) : Int) < ((8 * n : Nat) : Int) := by omega
theorem RsSums : flittinglaw03_RsSums.Pure := by
  intro a0 a1 l2 l3 w0 w1 _ _ hx2 _ _ hx3
  obtain ⟨p, hp, rfl⟩ := u8_nat w0
  obtain ⟨q, hq, rfl⟩ := u8_nat w1
  have hb2 := wf_bytes hx2
  have hb3 := wf_bytes hx3
  refine ⟨1000, ?_⟩
  have hyes : ∀ x9 x10, flittinglaw03_RsSums.j0 1000 l2 l3 x9 x10 true = some true := fun x9 x10 => by
    simp only [flittinglaw03_RsSums.j0]
    rw [if_pos trivial, answers_t, Option.bind_some]
  unfold flittinglaw03_RsSums.f
  by_cases h2 : (l2.length : Int) > 100
  · rw [if_pos h2, hyes]
  rw [if_neg h2, nk, mk_]
  by_cases h3 : (l3.length : Int) > 100
  · rw [decide_eq_true h3, hyes]
  rw [decide_eq_false h3]
  have hn1 : 1 ≤ p % 4 + 1 := by omega
  have hn4 : p % 4 + 1 ≤ 4 := by omega
  have hm3 : q % 4 ≤ 3 := by omega
  generalize p % 4 + 1 = n at *
  generalize q % 4 = m at *
  have h7 : n + m ≤ 7 := by omega
  have hl2 := fullL_length l2 n hn4
  have hl3 := fullL_length l3 n hn4
  have hf2 := fullL_bytes hb2 n
  have hf3 := fullL_bytes hb3 n
  have he2 : (([] ++ l2) ++ List.replicate 32 0).take (8 * n) = fullL l2 n := rfl
  have he3 : (([] ++ l3) ++ List.replicate 32 0).take (8 * n) = fullL l3 n := rfl
  simp only [flittinglaw03_RsSums.j0]
  rw [if_neg (by decide), Option.bind_some, if_pos (by simp; omega), Option.bind_some, if_pos (by simp; omega), Option.bind_some, w8 n hn4, if_pos (by omega), if_pos (long8 l2 n hn4), Option.bind_some, if_pos (by simp; omega), Option.bind_some, if_pos (by simp; omega), Option.bind_some, if_pos (long8 l3 n hn4), Int.toNat_natCast, if_pos (by omega), he2, he3]
  generalize fullL l2 n = x at *
  generalize fullL l3 n = y at *
  have ex := row_self hf2 hl2
  have ey := row_self hf3 hl3
  generalize hX : (fun j => tB (x.getD j 0)) = X at ex
  generalize hY : (fun j => tB (y.getD j 0)) = Y at ey
  have hz := sums_z n m hn4 X Y (8 * n) 999 0 (by omega) (by omega)
  rw [← ex, ← ey, show (ofR (8 * n) fun j => if j < 0 then X j + Y j else 0) = List.replicate (8 * n) 0 from by
    rw [ofR_zero]
    exact ofR_congr fun j _ => by rw [if_neg (Nat.not_lt_zero j)]] at hz
  rw [show (0 : Int) = ((0 : Nat) : Int) from rfl] at hz ⊢
  rw [hz]
  clear hz
  obtain ⟨K, hK⟩ := k999 hn4
  have hw := wnm h7
  have hsum := shE_add n x y (ofR (8 * n) fun j => X j + Y j) (dM_sum n x y X Y hX hY)
  have hfin := sums_all n m h7 (shE n x) (shE n y) (shE n (ofR (8 * n) fun j => X j + Y j)) (fun i j _ hj => hsum i j hj) (n + m) K 0 (Nat.add_zero _) (kk h7 hn4 hK)
  rw [hK]
  clear ex ey
  simp only [flittinglaw03_RsSums.l0]
  rw [w8 n hn4, if_neg (nlt n), enc_f n m hn1 hn4 hm3 x hf2 hl2, Option.bind_some, enc_f n m hn1 hn4 hm3 y hf3 hl3, Option.bind_some, enc_f n m hn1 hn4 hm3 _ (ofR_bytes _ _) (ofR_length _ _), Option.bind_some, if_pos rfl, if_pos rfl, if_pos rfl, hw, if_pos (by rw [ofM_length]), if_pos (by rw [ofM_length]), ofM_length, show (((n + m : Nat) : Int) != ((n + m : Nat) : Int)) = false from by simp]
  simp only [flittinglaw03_RsSums.j2]
  rw [if_neg (by decide)]
  exact hfin
end Go.Proofs.Ytpgehfchdhjjeaa.PureRsSums
namespace Go.Proofs.Ytpgehfchdhjjeaa.Pure
theorem RsSums : Go.Proofs.Ytpgehfchdhjjeaa.PRsSums.flittinglaw03_RsSums.Pure := Go.Proofs.Ytpgehfchdhjjeaa.PureRsSums.RsSums
end Go.Proofs.Ytpgehfchdhjjeaa.Pure
