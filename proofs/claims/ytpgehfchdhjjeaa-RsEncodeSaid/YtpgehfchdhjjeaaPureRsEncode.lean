/- RsEncode: the shards of any data are the document's, or there are none. No condition. -/
import Derived.Test.YtpgehfchdhjjeaaPRsEncodex0
import Derived.Test.YtpgehfchdhjjeaaPRsEncodex1
import Derived.Test.YtpgehfchdhjjeaaPRsEncodex2
import Derived.Test.YtpgehfchdhjjeaaPRsEncodex3
import Derived.Test.YtpgehfchdhjjeaaPRsEncodex4
import Derived.Test.YtpgehfchdhjjeaaPRsEncodex5
import Derived.Test.YtpgehfchdhjjeaaPRsEncodex6
import Derived.Test.YtpgehfchdhjjeaaPRsEncodex7
import Derived.Test.YtpgehfchdhjjeaaPRsEncodex8
import Derived.Test.YtpgehfchdhjjeaaMb
namespace Go.Proofs.Ytpgehfchdhjjeaa.PureRsEncode
open Go.RowKit Go.Proofs.Ytpgehfchdhjjeaa.PRsEncode Go.Proofs.YtpgehfchdhjjeaaW.PrintWords Go.Proofs.YtpgehfchdhjjeaaW.PrintLast Go.Proofs.YtpgehfchdhjjeaaW.PrintMore 
set_option linter.unusedVariables false
set_option linter.unusedSimpArgs false
open Mb (B sm mm un)
def tB (x : Int) : B := ⟨x.toNat % 256, Nat.mod_lt _ (by decide)⟩
def ofB (b : B) : Int := ((b.1 : Nat) : Int)
theorem byte_ofB (b : B) : byteI (ofB b) := by
  have := b.2
  unfold byteI ofB
  omega
theorem tB_ofB (b : B) : tB (ofB b) = b := by
  apply Subtype.ext
  have := b.2
  show ((b.1 : Nat) : Int).toNat % 256 = b.1
  omega
theorem ofB_tB {x : Int} (h : byteI x) : ofB (tB x) = x := by
  have h1 := h.1
  have h2 := h.2
  show ((x.toNat % 256 : Nat) : Int) = x
  omega
theorem ofB_inj {a b : B} (h : ofB a = ofB b) : a = b := by rw [← tB_ofB a, h, tB_ofB]
theorem xorI_ofB (a b : B) : xorI (ofB a) (ofB b) = ofB (a + b) := Go.u8_xor_nat a.1 b.1 (by have := a.2; omega) (by have := b.2; omega)
theorem mulI_ofB (a b : B) : mulI (ofB a) (ofB b) = ofB (a * b) := rfl
theorem ofB_zero : ofB 0 = 0 := rfl
theorem ofB_one : ofB 1 = 1 := rfl
theorem ofB_ite (p : Prop) [Decidable p] (a b : B) : ofB (if p then a else b) = if p then ofB a else ofB b := by split <;> rfl
def eB (a : List (List Int)) (i j : Nat) : B := tB ((a.getD i []).getD j 0)
def ofR (c : Nat) (f : Nat → B) : List Int := (List.range c).map fun j => ofB (f j)
def ofM (r c : Nat) (M : Nat → Nat → B) : List (List Int) := (List.range r).map fun i => ofR c (M i)
theorem ofR_length (c : Nat) (f : Nat → B) : (ofR c f).length = c := by simp [ofR]
theorem ofM_length (r c : Nat) (M : Nat → Nat → B) : (ofM r c M).length = r := by simp [ofM]
theorem ofR_get (c : Nat) (f : Nat → B) (j : Nat) (hj : j < c) : (ofR c f).getD j 0 = ofB (f j) := by simp [ofR, hj]
theorem ofM_get (r c : Nat) (M : Nat → Nat → B) (i : Nat) (hi : i < r) : (ofM r c M).getD i [] = ofR c (M i) := by simp [ofM, hi]
theorem eB_ofM (r c : Nat) (M : Nat → Nat → B) (i j : Nat) (hi : i < r) (hj : j < c) : eB (ofM r c M) i j = M i j := by
  rw [eB, ofM_get r c M i hi, ofR_get c _ j hj, tB_ofB]
theorem ofR_congr {c : Nat} {f g : Nat → B} (h : ∀ j, j < c → f j = g j) : ofR c f = ofR c g := by
  unfold ofR
  exact List.map_congr_left fun j hj => by rw [h j (List.mem_range.1 hj)]
theorem ofM_congr {r c : Nat} {M N : Nat → Nat → B} (h : ∀ i j, i < r → j < c → M i j = N i j) : ofM r c M = ofM r c N := by
  unfold ofM
  exact List.map_congr_left fun i hi => ofR_congr fun j hj => h i j (List.mem_range.1 hi) hj
theorem ofR_bytes (c : Nat) (f : Nat → B) : bytesL (ofR c f) := fun x hx => by
  obtain ⟨j, _, rfl⟩ := List.mem_map.1 hx
  exact byte_ofB _
theorem ofM_bytes (r c : Nat) (M : Nat → Nat → B) : bytesR (ofM r c M) := fun x hx => by
  obtain ⟨j, _, rfl⟩ := List.mem_map.1 hx
  exact ofR_bytes _ _
theorem ofM_succ (r c : Nat) (M : Nat → Nat → B) : ofM (r + 1) c M = ofM r c M ++ [ofR c (M r)] := by
  unfold ofM
  rw [List.range_succ, List.map_append]
  rfl
theorem ofR_zero (c : Nat) : List.replicate c (0 : Int) = ofR c (fun _ => 0) := by
  unfold ofR
  rw [List.map_const', List.length_range]
  rfl
theorem ofR_set (c : Nat) (f : Nat → B) (n : Nat) (v : B) : (ofR c f).set n (ofB v) = ofR c (fun j => if j = n then v else f j) := by
  apply List.ext_getElem
  · simp [ofR]
  · intro j h1 h2
    simp only [ofR, List.length_map, List.length_range, List.length_set] at h1
    rw [List.getElem_set]
    simp only [ofR, List.getElem_map, List.getElem_range]
    by_cases e : n = j
    · rw [if_pos e, if_pos e.symm]
    · rw [if_neg e, if_neg (fun e' => e e'.symm)]
/-- A table of bytes with even rows is what its entries say. -/
theorem ofM_self {a : List (List Int)} {c : Nat} (hb : bytesR a) (hr : ∀ i, i < a.length → (a.getD i []).length = c) : a = ofM a.length c (eB a) := by
  apply List.ext_getElem
  · simp [ofM]
  · intro i h1 h2
    have e1 : a.getD i [] = a[i] := by simp [h1]
    have h3 := hr i h1
    have h4 := bytesR_get hb i h1
    rw [e1] at h3 h4
    simp only [ofM, List.getElem_map, List.getElem_range]
    apply List.ext_getElem
    · rw [ofR_length, h3]
    · intro j h5 h6
      simp only [ofR, List.getElem_map, List.getElem_range]
      have h7 := bytesL_get h4 j h5
      have e2 : a[i].getD j 0 = a[i][j] := by simp [h5]
      rw [e2] at h7
      show _ = ofB (tB ((a.getD i []).getD j 0))
      rw [e1, e2, ofB_tB h7]
theorem rd_L1_nat (a : List (List Int)) (i : Nat) : rd_L1 a (i : Int) = a.getD i [] := by simp [rd_L1]
theorem rd_nat (a : List Int) (i : Nat) : rd a (i : Int) = a.getD i 0 := by simp [rd]
theorem addK_ofR (c : Nat) (f : Nat → B) (o : List Int) (x : Int) (hx : byteI x) (ho : bytesL o) (n : Nat) (hn : n ≤ c) (hno : n ≤ o.length) : addK (ofR c f) o x n = ofR c (fun j => if j < n then f j + tB x * tB (o.getD j 0) else f j) := by
  induction n with
  | zero => exact ofR_congr fun j _ => by rw [if_neg (Nat.not_lt_zero j)]
  | succ n ih =>
    have h1 := bytesL_get ho n (by omega)
    have e : mulI x (o.getD n 0) = ofB (tB x * tB (o.getD n 0)) := by rw [← mulI_ofB, ofB_tB hx, ofB_tB h1]
    rw [addK, ih (by omega) (by omega), ofR_get _ _ _ (by omega), e, xorI_ofB, ofR_set, if_neg (Nat.lt_irrefl n)]
    refine ofR_congr fun j _ => ?_
    by_cases h : j = n
    · rw [if_pos h, if_pos (by omega), h]
    · rw [if_neg h]
      by_cases h2 : j < n
      · rw [if_pos h2, if_pos (by omega)]
      · rw [if_neg h2, if_neg (by omega)]
theorem addm_f (k c : Nat) (f : Nat → B) (o : List Int) (x : Int) (hx : byteI x) (ho : bytesL o) (hl : o.length = c) (hc : c ≤ 1048576) (hk : c + 10 ≤ k) : mat_add.f k (ofR c f) o x = some (ofR c (fun j => f j + tB x * tB (o.getD j 0))) := by
  have h := add_run x o hx ho (by omega) o.length k 0 (ofR c f) rfl (by omega) (by rw [ofR_length, hl]; exact Nat.le_refl _)
  unfold mat_add.f
  rw [show addK (ofR c f) o x 0 = ofR c f from rfl, addK_ofR c f o x hx ho o.length (by omega) (Nat.le_refl _)] at h
  refine Eq.trans h ?_
  congr 1
  exact ofR_congr fun j hj => by rw [if_pos (by omega)]
/-! mat.Times -/
section
variable (b : List (List Int)) (c n : Nat) (hb : bytesR b) (hbl : b.length = n) (hbr : ∀ i, i < n → (b.getD i []).length = c) (hc : c ≤ 1048576) (hn : n ≤ 1048576)
include hb hbl hbr hc hn
theorem times_row (x6 x29 : List (List Int)) (x30 : Int) (i : Nat) (row : List Int) (hrow : bytesL row) (hrl : row.length = n) (hx6 : x6.length ≤ 1048576) (d : Nat) : ∀ (k q : Nat), d + q = n → d + c + 12 ≤ k →
    mat_Times.l1 k b x6 (ofR c fun j => sm q fun l => tB (row.getD l 0) * eB b l j) x29 x30 (i : Int) row (n : Int) (q : Int) = mat_Times.l0 (k - d - 1) b (x6 ++ [ofR c fun j => sm n fun l => tB (row.getD l 0) * eB b l j]) x29 x30 (wrap64 ((i : Int) + 1)) := by
  induction d with
  | zero =>
    intro k q hd hk
    obtain ⟨k, rfl⟩ : ∃ m, k = m + 1 := ⟨k - 1, by omega⟩
    obtain rfl : q = n := by omega
    simp only [mat_Times.l1]
    rw [if_neg (by omega), if_pos (by omega)]
    rfl
  | succ d ih =>
    intro k q hd hk
    obtain ⟨k, rfl⟩ : ∃ m, k = m + 1 := ⟨k - 1, by omega⟩
    have h1 := bytesL_get hrow q (by omega)
    have h2 := bytesR_get hb q (by omega)
    simp only [mat_Times.l1]
    rw [if_pos (by omega), if_pos (by omega), if_pos (by omega), if_pos (by omega), rd_L1_nat, rd_nat, addm_f k c _ (b.getD q []) (row.getD q 0) h1 h2 (hbr q (by omega)) hc (by omega), Option.bind_some, show wrap64 ((q : Int) + 1) = ((q + 1 : Nat) : Int) from by unfold wrap64; omega, show k + 1 - (d + 1) - 1 = k - d - 1 by omega]
    exact ih k (q + 1) (by omega) (by omega)
theorem times_run (a : List (List Int)) (ha : bytesR a) (har : ∀ i, i < a.length → (a.getD i []).length = n) (hal : a.length ≤ 1048576) (hn0 : 0 < n) (d : Nat) : ∀ (k q : Nat), d + q = a.length → d * (n + 2) + c + n + 20 ≤ k →
    mat_Times.l0 k b (ofM q c (mm n (eB a) (eB b))) a (a.length : Int) (q : Int) = some (ofM a.length c (mm n (eB a) (eB b)), 0) := by
  induction d with
  | zero =>
    intro k q hd hk
    obtain ⟨k, rfl⟩ : ∃ m, k = m + 1 := ⟨k - 1, by omega⟩
    obtain rfl : q = a.length := by omega
    simp only [mat_Times.l0]
    rw [if_neg (by omega)]
  | succ d ih =>
    intro k q hd hk
    rw [Nat.succ_mul] at hk
    have ih2 := fun k' q' => ih k' q'
    generalize d * (n + 2) = t at hk ih2
    obtain ⟨k, rfl⟩ : ∃ m, k = m + 1 := ⟨k - 1, by omega⟩
    have hrl := hbr 0 hn0
    have e0 : rd_L1 b 0 = b.getD 0 [] := rd_L1_nat b 0
    simp only [mat_Times.l0]
    rw [if_pos (by omega), if_pos (by omega), if_pos (by omega), if_pos (by omega), e0, hrl, if_pos (by omega), if_pos (by omega), Int.toNat_natCast, rd_L1_nat, har q (by omega), ofR_zero]
    have hx := times_row b c n hb hbl hbr hc hn (ofM q c (mm n (eB a) (eB b))) a (a.length : Int) q (a.getD q []) (bytesR_get ha q (by omega)) (har q (by omega)) (by rw [ofM_length]; omega) n k 0 (by omega) (by omega)
    rw [show wrap64 ((q : Int) + 1) = ((q + 1 : Nat) : Int) from by unfold wrap64; omega] at hx
    have e : ofM q c (mm n (eB a) (eB b)) ++ [ofR c fun j => sm n fun l => tB ((a.getD q []).getD l 0) * eB b l j] = ofM (q + 1) c (mm n (eB a) (eB b)) := (ofM_succ q c _).symm
    rw [e] at hx
    refine Eq.trans hx ?_
    exact ih2 (k - n - 1) (q + 1) (by omega) (by omega)
end
theorem fitB_all {a : List (List Int)} {c : Nat} (h0 : 0 < a.length) (h : ∀ i, i < a.length → (a.getD i []).length = c) : fitB a = true :=
  fitB_true h0 fun i hi => by rw [h i hi, h 0 h0]
theorem times_f (k c n : Nat) (a b : List (List Int)) (ha : bytesR a) (hb : bytesR b) (h0 : 0 < a.length) (hbl : b.length = n) (hn0 : 0 < n) (har : ∀ i, i < a.length → (a.getD i []).length = n) (hbr : ∀ i, i < n → (b.getD i []).length = c) (hal : a.length ≤ 1048576) (hc : c ≤ 1048576) (hn : n ≤ 1048576) (hk : a.length * (n + 2) + c + n + 30 ≤ k) :
    mat_Times.f k a b = some (ofM a.length c (mm n (eB a) (eB b)), 0) := by
  obtain ⟨k, rfl⟩ : ∃ m, k = m + 1 := ⟨k - 1, by omega⟩
  have e0 : rd_L1 a 0 = a.getD 0 [] := rd_L1_nat a 0
  have hj : mat_Times.j0 (k + 1) a b false = some (ofM a.length c (mm n (eB a) (eB b)), 0) := by
    simp only [mat_Times.j0]
    rw [if_neg (by decide)]
    exact times_run b c n hb hbl hbr hc hn a ha har hal hn0 a.length k 0 (by omega) (by omega)
  unfold mat_Times.f mat_fit.f
  rw [fitB_all h0 har, fitB_all (by omega) (fun i hi => hbr i (by omega)), Option.bind_some, if_pos rfl, Option.bind_some, if_pos rfl, if_pos (by omega), e0, har 0 h0, hbl, show (((n : Nat) : Int) != (n : Int)) = false from by simp, hj]
/-- Tables that are no tables, or do not fit together. -/
theorem times_no (k : Nat) (a b : List (List Int)) (h : ¬ (fitB a = true ∧ fitB b = true ∧ (a.getD 0 []).length = b.length)) (hk : 1 ≤ k) : mat_Times.f k a b = some ([], 1) := by
  obtain ⟨k, rfl⟩ : ∃ m, k = m + 1 := ⟨k - 1, by omega⟩
  have e0 : rd_L1 a 0 = a.getD 0 [] := rd_L1_nat a 0
  have hj : mat_Times.j0 (k + 1) a b true = some ([], 1) := by
    simp only [mat_Times.j0]
    rw [if_pos trivial]
  unfold mat_Times.f mat_fit.f
  simp only [Option.bind_some]
  by_cases h1 : fitB a = true
  · rw [if_pos h1]
    by_cases h2 : fitB b = true
    · have h3 : (a.getD 0 []).length ≠ b.length := fun e => h ⟨h1, h2, e⟩
      have h0 : 0 < a.length := by
        cases a with
        | nil => simp [fitB] at h1
        | cons x l => simp
      rw [if_pos h2, if_pos (by omega), e0, show (((a.getD 0 []).length : Int) != (b.length : Int)) = true from by rw [bne_iff_ne]; omega, hj]
    · rw [if_neg h2, hj]
  · rw [if_neg h1, hj]
/-! mat.Code -/
def codeM (k n j : Nat) : B := if k ≤ n then Mb.inv (tB ((n ^^^ j : Nat) : Int)) else un n j
theorem xor64 (a b : Nat) (ha : a < 2 ^ 62) (hb : b < 2 ^ 62) : Go.bits .xor .i64 (a : Int) (b : Int) = ((a ^^^ b : Nat) : Int) := by
  have hx : a ^^^ b < 2 ^ 62 := Nat.xor_lt_two_pow ha hb
  show IntKind.i64.wrap ((BitVec.ofInt 64 (a : Int) ^^^ BitVec.ofInt 64 (b : Int)).toNat : Int) = _
  rw [BitVec.toNat_xor, Go.ofInt_u64 a (by omega), Go.ofInt_u64 b (by omega), Go.IntKind.wrap_i64]
  omega
theorem code_inv (k k0 n q : Nat) (h : k0 ≤ n) (hn : n < 8) (hq : q < 8) (hk : 80 ≤ k) : gf_Inv.f k ((Go.bits .xor .i64 (n : Int) (q : Int)) % 256) = some (ofB (codeM k0 n q)) := by
  have hx : n ^^^ q < 8 := Nat.xor_lt_two_pow (n := 3) hn hq
  rw [xor64 n q (by omega) (by omega), show (((n ^^^ q : Nat) : Int) % 256) = ((n ^^^ q : Nat) : Int) from by omega, inv_f k _ (by omega) hk, codeM, if_pos h]
  have e : (tB ((n ^^^ q : Nat) : Int)).1 = n ^^^ q := by
    show (((n ^^^ q : Nat) : Int)).toNat % 256 = _
    omega
  show some _ = some (((Gf.gi (tB ((n ^^^ q : Nat) : Int)).1 : Nat)) : Int)
  rw [e]
theorem code_hi (k0 n : Nat) (h : k0 ≤ n) (hn : n < 8) (hk0 : k0 ≤ 4) (x5 : List (List Int)) (hx5 : x5.length ≤ 100) (x25 x26 : Int) (d : Nat) : ∀ (k q : Nat), d + q = k0 → d + 90 ≤ k →
    mat_Code.l1 k (k0 : Int) x5 (n : Int) (ofR k0 fun j => if j < q then codeM k0 n j else 0) x25 x26 (k0 : Int) (q : Int) = mat_Code.l0 (k - d - 1) (k0 : Int) (x5 ++ [ofR k0 (codeM k0 n)]) x25 (wrap64 (x26 + 1)) := by
  induction d with
  | zero =>
    intro k q hd hk
    obtain ⟨k, rfl⟩ : ∃ m, k = m + 1 := ⟨k - 1, by omega⟩
    obtain rfl : q = k0 := by omega
    simp only [mat_Code.l1]
    rw [if_neg (by omega), if_neg (by omega), if_pos (by omega), show (ofR q fun j => if j < q then codeM q n j else 0) = ofR q (codeM q n) from ofR_congr fun j hj => by rw [if_pos hj]]
    rfl
  | succ d ih =>
    intro k q hd hk
    obtain ⟨k, rfl⟩ : ∃ m, k = m + 1 := ⟨k - 1, by omega⟩
    simp only [mat_Code.l1]
    rw [if_pos (by omega), if_pos (by omega), code_inv k k0 n q h hn (by omega) (by omega), Option.bind_some, if_pos (by omega), if_pos (by rw [ofR_length]; omega), Int.toNat_natCast, ofR_set, show wrap64 ((q : Int) + 1) = ((q + 1 : Nat) : Int) from by unfold wrap64; omega, show k + 1 - (d + 1) - 1 = k - d - 1 by omega]
    have e : (ofR k0 fun j => if j = q then codeM k0 n q else if j < q then codeM k0 n j else 0) = ofR k0 fun j => if j < q + 1 then codeM k0 n j else 0 := ofR_congr fun j _ => by
      by_cases h1 : j = q
      · rw [if_pos h1, if_pos (by omega), h1]
      · rw [if_neg h1]
        by_cases h2 : j < q
        · rw [if_pos h2, if_pos (by omega)]
        · rw [if_neg h2, if_neg (by omega)]
    rw [e]
    exact ih k (q + 1) (by omega) (by omega)
theorem code_lo (k0 n : Nat) (h : n < k0) (hk0 : k0 ≤ 4) (x5 : List (List Int)) (hx5 : x5.length ≤ 100) (x25 x26 : Int) (d : Nat) : ∀ (k q : Nat), d + q = k0 → d + 90 ≤ k →
    mat_Code.l1 k (k0 : Int) x5 (n : Int) (ofR k0 fun _ => 0) x25 x26 (k0 : Int) (q : Int) = mat_Code.l0 (k - d - 1) (k0 : Int) (x5 ++ [ofR k0 (codeM k0 n)]) x25 (wrap64 (x26 + 1)) := by
  induction d with
  | zero =>
    intro k q hd hk
    obtain ⟨k, rfl⟩ : ∃ m, k = m + 1 := ⟨k - 1, by omega⟩
    have e : (ofR k0 fun _ => (0 : B)).set ((n : Int)).toNat 1 = ofR k0 (codeM k0 n) := by
      rw [Int.toNat_natCast, ← ofB_one, ofR_set]
      refine ofR_congr fun j _ => ?_
      rw [codeM, if_neg (show ¬ k0 ≤ n by omega), un]
      by_cases h1 : j = n
      · rw [if_pos h1, if_pos h1.symm]
      · rw [if_neg h1, if_neg (fun e' => h1 e'.symm)]
    simp only [mat_Code.l1]
    rw [if_neg (by omega), if_pos (by omega), if_pos (by omega), if_pos (by rw [ofR_length]; omega), if_pos (by omega), e]
    rfl
  | succ d ih =>
    intro k q hd hk
    obtain ⟨k, rfl⟩ : ∃ m, k = m + 1 := ⟨k - 1, by omega⟩
    simp only [mat_Code.l1]
    rw [if_pos (by omega), if_neg (by omega), show wrap64 ((q : Int) + 1) = ((q + 1 : Nat) : Int) from by unfold wrap64; omega, show k + 1 - (d + 1) - 1 = k - d - 1 by omega]
    exact ih k (q + 1) (by omega) (by omega)
theorem code_run (k0 r : Nat) (hk0 : k0 ≤ 4) (hr : r < 8) (d : Nat) : ∀ (k q : Nat), d + q = r → d * 6 + 110 ≤ k → mat_Code.l0 k (k0 : Int) (ofM q k0 (codeM k0)) (r : Int) (q : Int) = some (ofM r k0 (codeM k0)) := by
  induction d with
  | zero =>
    intro k q hd hk
    obtain ⟨k, rfl⟩ : ∃ m, k = m + 1 := ⟨k - 1, by omega⟩
    simp only [mat_Code.l0]
    rw [if_neg (by omega), show q = r by omega]
  | succ d ih =>
    intro k q hd hk
    obtain ⟨k, rfl⟩ : ∃ m, k = m + 1 := ⟨k - 1, by omega⟩
    simp only [mat_Code.l0]
    rw [if_pos (by omega), if_pos (by omega), if_pos (by omega), Option.bind_some, Int.toNat_natCast, List.length_replicate, ofR_zero]
    have hs : ofM q k0 (codeM k0) ++ [ofR k0 (codeM k0 q)] = ofM (q + 1) k0 (codeM k0) := (ofM_succ q k0 _).symm
    have hw : wrap64 ((q : Int) + 1) = ((q + 1 : Nat) : Int) := by unfold wrap64; omega
    by_cases h : k0 ≤ q
    · have hx := code_hi k0 q h (by omega) hk0 (ofM q k0 (codeM k0)) (by rw [ofM_length]; omega) (r : Int) (q : Int) k0 k 0 (by omega) (by omega)
      have e : (ofR k0 fun j => if j < 0 then codeM k0 q j else 0) = ofR k0 fun _ => 0 := ofR_congr fun j _ => by rw [if_neg (Nat.not_lt_zero j)]
      rw [e, hs, hw] at hx
      exact hx.trans (ih (k - k0 - 1) (q + 1) (by omega) (by omega))
    · have hx := code_lo k0 q (by omega) hk0 (ofM q k0 (codeM k0)) (by rw [ofM_length]; omega) (r : Int) (q : Int) k0 k 0 (by omega) (by omega)
      rw [hs, hw] at hx
      exact hx.trans (ih (k - k0 - 1) (q + 1) (by omega) (by omega))
theorem code_f (k k0 m : Nat) (h1 : 1 ≤ k0) (h4 : k0 ≤ 4) (hm : m ≤ 3) (hk : 200 ≤ k) : mat_Code.f k (k0 : Int) (m : Int) = some (ofM (k0 + m) k0 (codeM k0)) := by
  obtain ⟨k, rfl⟩ : ∃ q, k = q + 1 := ⟨k - 1, by omega⟩
  have h := code_run k0 (k0 + m) h4 (by omega) (k0 + m) k 0 (by omega) (by omega)
  unfold mat_Code.f
  rw [if_neg (by omega), if_neg (by omega), if_neg (by omega), decide_eq_false (show ¬ (m : Int) > 3 by omega)]
  simp only [mat_Code.j0]
  rw [if_neg (by decide), show wrap64 ((k0 : Int) + (m : Int)) = ((k0 + m : Nat) : Int) from by unfold wrap64; omega]
  exact h
theorem code_no (k : Nat) (a m : Int) (h : a < 1 ∨ a > 4 ∨ m < 0 ∨ m > 3) (hk : 1 ≤ k) : mat_Code.f k a m = some [] := by
  obtain ⟨k, rfl⟩ : ∃ q, k = q + 1 := ⟨k - 1, by omega⟩
  have hj : mat_Code.j0 (k + 1) a m true = some [] := by
    simp only [mat_Code.j0]
    rw [if_pos trivial]
  unfold mat_Code.f
  by_cases h1 : a < 1
  · rw [if_pos h1, hj]
  · rw [if_neg h1]
    by_cases h2 : a > 4
    · rw [if_pos h2, hj]
    · rw [if_neg h2]
      by_cases h3 : m < 0
      · rw [if_pos h3, hj]
      · rw [if_neg h3, decide_eq_true (show m > 3 by omega), hj]
/-! mat.Invert and what all statements ask ahead -/
theorem invert_f (a : List (List Int)) (ha : bytesR a) (hl : a.length ≤ 1048576) : mat_Invert.f a = some (invF a) := by
  unfold mat_Invert.f
  rw [if_pos ⟨hl, fun l h x hx => ha l h x hx⟩]
theorem ofM_rows (r c : Nat) (M : Nat → Nat → B) : ∀ l ∈ ofM r c M, l.length ≤ c := fun l hl => by
  obtain ⟨i, _, rfl⟩ := List.mem_map.1 hl
  rw [ofR_length]
  exact Nat.le_refl _
/-! the same rows -/
theorem same_run (d : Nat) : ∀ (k i : Nat) (a : List Int), d + i = a.length → d < k → a.length < 10000000 → flittingref01_Same.l0 k a a (i : Int) = some true := by
  induction d with
  | zero =>
    intro k i a hd hk _
    obtain ⟨k, rfl⟩ : ∃ m, k = m + 1 := ⟨k - 1, by omega⟩
    simp only [flittingref01_Same.l0]
    rw [if_neg (by omega)]
  | succ d ih =>
    intro k i a hd hk hm
    obtain ⟨k, rfl⟩ : ∃ m, k = m + 1 := ⟨k - 1, by omega⟩
    simp only [flittingref01_Same.l0]
    rw [if_pos (by omega), if_pos (by omega), if_pos (by omega), if_pos trivial, show wrap64 ((i : Int) + 1) = ((i + 1 : Nat) : Int) from by unfold wrap64; omega]
    exact ih k (i + 1) a (by omega) (by omega) hm
theorem same_f (k : Nat) (a : List Int) (hk : a.length < k) (hm : a.length < 10000000) : flittingref01_Same.f k a a = some true := by
  unfold flittingref01_Same.f
  rw [if_pos rfl]
  exact same_run a.length k 0 a (by omega) hk hm
theorem rows_run (N : Nat) (d : Nat) : ∀ (k i : Nat) (a : List (List Int)), d + i = a.length → d + N + 2 < k → a.length < 10000000 → N < 1000000 → (∀ l ∈ a, l.length ≤ N) → flittingref01_Rows.l0 k a a (i : Int) = some true := by
  induction d with
  | zero =>
    intro k i a hd hk _ _ _
    obtain ⟨k, rfl⟩ : ∃ m, k = m + 1 := ⟨k - 1, by omega⟩
    simp only [flittingref01_Rows.l0]
    rw [if_neg (by omega)]
  | succ d ih =>
    intro k i a hd hk hm hN hl
    obtain ⟨k, rfl⟩ : ∃ m, k = m + 1 := ⟨k - 1, by omega⟩
    have h1 : (rd_L1 a (i : Int)).length ≤ N := by
      rw [rd_L1_nat]
      have e : a.getD i [] = a[i]'(by omega) := by simp [show i < a.length by omega]
      rw [e]
      exact hl _ (List.getElem_mem _)
    simp only [flittingref01_Rows.l0]
    rw [if_pos (by omega), if_pos (by omega), if_pos (by omega), same_f k _ (by omega) (by omega), Option.bind_some, if_pos rfl, show wrap64 ((i : Int) + 1) = ((i + 1 : Nat) : Int) from by unfold wrap64; omega]
    exact ih k (i + 1) a (by omega) (by omega) hm hN hl
theorem rows_f (k N : Nat) (a : List (List Int)) (hk : a.length + N + 2 < k) (hm : a.length < 10000000) (hN : N < 1000000) (hl : ∀ l ∈ a, l.length ≤ N) : flittingref01_Rows.f k a a = some true := by
  unfold flittingref01_Rows.f
  rw [if_pos rfl]
  exact rows_run N a.length k 0 a (by omega) hk hm hN hl
theorem wrap_sm {i : Int} (h0 : 0 ≤ i) (h : i < 9223372036854775808) : wrap64 i = i := by unfold wrap64; omega
theorem wrap_u64 {i : Int} (h0 : 0 ≤ i) (h : i < 18446744073709551616) : IntKind.u64.wrap i = i := by
  rw [Go.IntKind.wrap_u64]; omega
theorem xor_i64 (a b : Nat) (ha : a < 2 ^ 62) (hb : b < 2 ^ 62) : Go.bits .xor .i64 (a : Int) (b : Int) = ((a ^^^ b : Nat) : Int) := by
  have hx : a ^^^ b < 2 ^ 62 := Nat.xor_lt_two_pow ha hb
  show IntKind.i64.wrap ((BitVec.ofInt 64 (a : Int) ^^^ BitVec.ofInt 64 (b : Int)).toNat : Int) = _
  rw [BitVec.toNat_xor, Go.ofInt_u64 a (by omega), Go.ofInt_u64 b (by omega), Go.IntKind.wrap_i64]
  omega
theorem bit_tmod (v i : Nat) : (Int.tmod ((v / 2 ^ i : Nat) : Int) 2 = 1) ↔ v.testBit i = true := by
  rw [Nat.testBit_eq_decide_div_mod_eq, decide_eq_true_iff, Int.tmod_eq_emod_of_nonneg (Int.natCast_nonneg _)]
  omega
theorem shr_nat (kd : IntKind) (v i : Nat) (hi : i ≤ kd.bits) : shr kd (v : Int) (i : Int) = ((v / 2 ^ i : Nat) : Int) := by
  unfold shr
  rw [Nat.min_eq_left (by omega)]
  simp
theorem shl_nat (v i : Nat) (hi : i ≤ 8) (hv : v < 2 ^ 9) : shl .i64 (v : Int) (i : Int) = ((v <<< i : Nat) : Int) := by
  unfold shl
  have hp : 2 ^ i ≤ 2 ^ 8 := Nat.pow_le_pow_right (by decide) hi
  rw [Nat.min_eq_left (by simp [IntKind.bits]; omega), Nat.shiftLeft_eq]
  rw [show ((v : Int) * 2 ^ (i : Int).toNat) = ((v * 2 ^ i : Nat) : Int) from by simp]
  have : v * 2 ^ i < 2 ^ 9 * 2 ^ 8 := Nat.mul_lt_mul_of_lt_of_le hv hp (by decide)
  rw [Go.IntKind.wrap_i64]
  omega
theorem shiftl_lt (v i : Nat) (hi : i ≤ 8) (hv : v < 2 ^ 9) : v <<< i < 2 ^ 17 := by
  have hp : 2 ^ i ≤ 2 ^ 8 := Nat.pow_le_pow_right (by decide) hi
  rw [Nat.shiftLeft_eq]
  exact Nat.lt_of_lt_of_le (Nat.mul_lt_mul_of_lt_of_le hv hp (by decide)) (by decide)
theorem prod_lt (a b n : Nat) (ha : a < 256) (hn : n ≤ 8) : Gf.prod a b n < 2 ^ 17 := by
  induction n with
  | zero => exact (by decide : 0 < 2 ^ 17)
  | succ n ih =>
    simp only [Gf.prod]
    refine Nat.xor_lt_two_pow (ih (by omega)) ?_
    split
    · exact shiftl_lt a n (by omega) (by omega)
    · decide
theorem red_run (n : Nat) : ∀ (k v : Nat), n ≤ 7 → v < 2 ^ 17 → n < k → flittingref01_Mul.l1 k (v : Int) ((n : Int) + 7) = some (((Gf.red n v : Nat) : Int) % 256) := by
  induction n with
  | zero =>
    intro k v _ hv hk
    obtain ⟨k, rfl⟩ : ∃ m, k = m + 1 := ⟨k - 1, by omega⟩
    simp only [flittingref01_Mul.l1]
    rw [if_neg (by omega)]
    rfl
  | succ n ih =>
    intro k v hn hv hk
    obtain ⟨k, rfl⟩ : ∃ m, k = m + 1 := ⟨k - 1, by omega⟩
    simp only [flittingref01_Mul.l1]
    rw [if_pos (by omega), show (((n + 1 : Nat) : Int) + 7) = ((n + 8 : Nat) : Int) from by omega, wrap_u64 (by omega) (by omega), if_pos (by omega), shr_nat .i64 v (n + 8) (by simp [IntKind.bits]; omega)]
    rw [show wrap64 (((n + 8 : Nat) : Int) - 8) = (n : Int) from by rw [wrap_sm (by omega) (by omega)]; omega, wrap_u64 (by omega) (by omega),
      show wrap64 (((n + 8 : Nat) : Int) - 1) = (n : Int) + 7 from by rw [wrap_sm (by omega) (by omega)]; omega]
    have hs : (285 <<< n : Nat) < 2 ^ 17 := shiftl_lt 285 n (by omega) (by decide)
    by_cases hb : v.testBit (n + 8) = true
    · rw [if_pos ((bit_tmod v (n + 8)).2 hb), if_pos (by omega), show (285 : Int) = ((285 : Nat) : Int) from rfl, shl_nat 285 n (by omega) (by decide), xor_i64 _ _ (by omega) (by omega), ih k _ (by omega) (Nat.xor_lt_two_pow hv hs) (by omega)]
      rw [Gf.red, if_pos hb]
    · rw [if_neg (fun h => hb ((bit_tmod v (n + 8)).1 h)), ih k _ (by omega) hv (by omega)]
      rw [Gf.red, if_neg hb, Nat.xor_zero]
theorem prod_run (n : Nat) : ∀ (k a b i : Nat), a < 256 → b < 256 → n + i = 8 → n + 9 < k → flittingref01_Mul.l0 k (a : Int) (b : Int) ((Gf.prod a b i : Nat) : Int) (i : Int) = some (((Gf.rm a b : Nat) : Int) % 256) := by
  induction n with
  | zero =>
    intro k a b i ha hb hi hk
    obtain ⟨k, rfl⟩ : ∃ m, k = m + 1 := ⟨k - 1, by omega⟩
    obtain rfl : i = 8 := by omega
    simp only [flittingref01_Mul.l0]
    rw [if_neg (by omega)]
    exact red_run 7 k _ (by decide) (prod_lt a b 8 ha (by decide)) (by omega)
  | succ n ih =>
    intro k a b i ha hb hi hk
    obtain ⟨k, rfl⟩ : ∃ m, k = m + 1 := ⟨k - 1, by omega⟩
    simp only [flittingref01_Mul.l0]
    rw [if_pos (by omega), wrap_u64 (by omega) (by omega), if_pos (by omega), shr_nat .u8 b i (by simp [IntKind.bits]; omega), wrap_sm (i := (a : Int)) (by omega) (by omega), wrap_sm (i := (i : Int) + 1) (by omega) (by omega)]
    have hs : (a <<< i : Nat) < 2 ^ 17 := shiftl_lt a i (by omega) (by omega)
    have hp := prod_lt a b i ha (by omega)
    have e := ih k a b (i + 1) ha hb (by omega) (by omega)
    rw [show ((i + 1 : Nat) : Int) = (i : Int) + 1 from by omega] at e
    by_cases hb' : b.testBit i = true
    · rw [if_pos ((bit_tmod b i).2 hb'), shl_nat a i (by omega) (by omega), xor_i64 _ _ (by omega) (by omega)]
      rw [Gf.prod, if_pos hb'] at e
      exact e
    · rw [if_neg (fun h => hb' ((bit_tmod b i).1 h))]
      rw [Gf.prod, if_neg hb', Nat.xor_zero] at e
      exact e
theorem ref_f (k a b : Nat) (ha : a < 256) (hb : b < 256) (hk : 80 ≤ k) : flittingref01_Mul.f k (a : Int) (b : Int) = some ((Gf.gm a b : Nat) : Int) := by
  have h := prod_run 8 k a b 0 ha hb (by decide) (by omega)
  rw [Gf.rm_eq a b ha hb] at h
  have := Gf.gm_lt a b ha
  rw [show (((Gf.gm a b : Nat) : Int) % 256) = ((Gf.gm a b : Nat) : Int) from by omega] at h
  exact h
theorem inv_run (d : Nat) : ∀ (k a i : Nat), a < 256 → d + i = 256 → d + 100 ≤ k → (a = 0 ∨ i ≤ Gf.gi a) →
    flittingref01_Inv.l0 k (a : Int) (i : Int) = some ((Gf.gi a : Nat) : Int) := by
  induction d with
  | zero =>
    intro k a i ha hd hk hi
    obtain ⟨k, rfl⟩ : ∃ m, k = m + 1 := ⟨k - 1, by omega⟩
    simp only [flittingref01_Inv.l0]
    rw [if_neg (by omega)]
    rcases hi with rfl | hi
    · rw [Gf.gi_zero]; rfl
    · have := Gf.gi_lt a ha
      omega
  | succ d ih =>
    intro k a i ha hd hk hi
    obtain ⟨k, rfl⟩ : ∃ m, k = m + 1 := ⟨k - 1, by omega⟩
    simp only [flittingref01_Inv.l0]
    rw [if_pos (by omega), show ((i : Int) % 256) = (i : Int) from by omega, ref_f k a i ha (by omega) (by omega)]
    simp only [Option.bind_some]
    by_cases h1 : Gf.gm a i = 1
    · rw [h1, if_pos (by rfl)]
      have h0 : a ≠ 0 := by intro e; rw [e, Gf.gm_zero_left] at h1; exact absurd h1 (by decide)
      rw [Gf.gm_cancel a i (Gf.gi a) ha (by omega) (Gf.gi_lt a ha) h0 (by rw [h1, Gf.gm_gi a ha h0])]
    · rw [if_neg (by omega), wrap_sm (by omega) (by omega)]
      refine ih k a (i + 1) ha (by omega) (by omega) ?_
      rcases hi with h | hi
      · exact .inl h
      · by_cases h0 : a = 0
        · exact .inl h0
        · refine .inr ?_
          have : i ≠ Gf.gi a := fun e => h1 (by rw [e, Gf.gm_gi a ha h0])
          omega
/-! the reference's table that turns nothing -/
theorem unit_run (n : Nat) (hn : n ≤ 1000) (d : Nat) : ∀ (k q : Nat), d + q = n → d < k → flittingref01_Unit.l0 k (n : Int) (ofM q n un) (q : Int) = some (ofM n n un) := by
  induction d with
  | zero =>
    intro k q hd hk
    obtain ⟨k, rfl⟩ : ∃ m, k = m + 1 := ⟨k - 1, by omega⟩
    simp only [flittingref01_Unit.l0]
    rw [if_neg (by omega), show q = n by omega]
  | succ d ih =>
    intro k q hd hk
    obtain ⟨k, rfl⟩ : ∃ m, k = m + 1 := ⟨k - 1, by omega⟩
    have e : (ofR n fun _ => (0 : B)).set q 1 = ofR n (un q) := by
      rw [← ofB_one, ofR_set]
      refine ofR_congr fun j _ => ?_
      show (if j = q then (1 : B) else 0) = if q = j then 1 else 0
      by_cases h1 : j = q
      · rw [if_pos h1, if_pos h1.symm]
      · rw [if_neg h1, if_neg (fun e' => h1 e'.symm)]
    simp only [flittingref01_Unit.l0]
    rw [if_pos (by omega), if_pos (by omega), if_pos (by omega), Option.bind_some, if_pos (by omega), if_pos (by rw [List.length_replicate]; omega), if_pos (by rw [ofM_length]; omega), Int.toNat_natCast, Int.toNat_natCast, ofR_zero, e, show wrap64 ((q : Int) + 1) = ((q + 1 : Nat) : Int) from by unfold wrap64; omega]
    have hs : ofM q n un ++ [ofR n (un q)] = ofM (q + 1) n un := (ofM_succ q n _).symm
    rw [hs]
    exact ih k (q + 1) (by omega) (by omega)
theorem unit_f (k n : Nat) (hn : n ≤ 1000) (hk : n < k) : flittingref01_Unit.f k (n : Int) = some (ofM n n un) := unit_run n hn n k 0 (by omega) hk
/-! the reference's product -/
theorem rmul_f (k : Nat) (hk : 80 ≤ k) {x y : Int} (hx : byteI x) (hy : byteI y) : flittingref01_Mul.f k x y = some (ofB (tB x * tB y)) := by
  obtain ⟨n, rfl⟩ : ∃ n : Nat, x = (n : Int) := ⟨x.toNat, by have := hx.1; omega⟩
  obtain ⟨m, rfl⟩ : ∃ m : Nat, y = (m : Int) := ⟨y.toNat, by have := hy.1; omega⟩
  have h1 := hx.2
  have h2 := hy.2
  have e : ofB (tB (n : Int) * tB (m : Int)) = mulI (n : Int) (m : Int) := by
    rw [← mulI_ofB, ofB_tB hx, ofB_tB hy]
  rw [ref_f k n m (by omega) (by omega) hk, e]
  rfl
section
variable (a b : List (List Int)) (c n : Nat) (ha : bytesR a) (hb : bytesR b) (hbl : b.length = n) (har : ∀ i, i < a.length → (a.getD i []).length = n) (hbr : ∀ i, i < n → (b.getD i []).length = c) (hal : a.length ≤ 1000) (hc : c ≤ 1000) (hn : n ≤ 1000)
include ha hb hbl har hbr hal hc hn
theorem rt_2 (x5 : List (List Int)) (i j : Nat) (hi : i < a.length) (hj : j < c) (f : Nat → B) (d : Nat) : ∀ (k q : Nat), d + q = n → d + 90 ≤ k →
    flittingref01_Times.l2 k a b x5 (i : Int) (ofR c fun j' => if j' = j then sm q (fun l => eB a i l * eB b l j) else f j') (j : Int) (q : Int) = flittingref01_Times.l1 (k - d - 1) a b x5 (i : Int) (ofR c fun j' => if j' = j then mm n (eB a) (eB b) i j else f j') ((j + 1 : Nat) : Int) := by
  have _ := hal
  induction d with
  | zero =>
    intro k q hd hk
    obtain ⟨k, rfl⟩ : ∃ m, k = m + 1 := ⟨k - 1, by omega⟩
    obtain rfl : q = n := by omega
    simp only [flittingref01_Times.l2]
    rw [if_neg (by omega), show wrap64 ((j : Int) + 1) = ((j + 1 : Nat) : Int) from by unfold wrap64; omega]
    rfl
  | succ d ih =>
    intro k q hd hk
    obtain ⟨k, rfl⟩ : ∃ m, k = m + 1 := ⟨k - 1, by omega⟩
    have h1 := bytesL_get (bytesR_get ha i hi) q (by rw [har i hi]; omega)
    have h2 := bytesL_get (bytesR_get hb q (by omega)) j (by rw [hbr q (by omega)]; exact hj)
    have h3 := har i hi
    have h4 := hbr q (by omega)
    simp only [flittingref01_Times.l2]
    rw [if_pos (by omega), if_pos (by omega), if_pos (by rw [ofR_length]; omega), if_pos (by omega), if_pos (by omega), if_pos (by omega), rd_L1_nat, rd_L1_nat, if_pos (by omega), if_pos (by omega), rd_nat, rd_nat, rmul_f k (by omega) h1 h2, Option.bind_some, rd_nat, ofR_get _ _ _ hj, if_pos rfl]
    have e := xorI_ofB (sm q (fun l => eB a i l * eB b l j)) (tB ((a.getD i []).getD q 0) * tB ((b.getD q []).getD j 0))
    unfold xorI at e
    rw [e, Int.toNat_natCast, ofR_set, show wrap64 ((q : Int) + 1) = ((q + 1 : Nat) : Int) from by unfold wrap64; omega, show k + 1 - (d + 1) - 1 = k - d - 1 by omega]
    have e2 : (ofR c fun j' => if j' = j then sm q (fun l => eB a i l * eB b l j) + tB ((a.getD i []).getD q 0) * tB ((b.getD q []).getD j 0) else if j' = j then sm q (fun l => eB a i l * eB b l j) else f j') = ofR c fun j' => if j' = j then sm (q + 1) (fun l => eB a i l * eB b l j) else f j' := ofR_congr fun j' _ => by
      by_cases h : j' = j
      · rw [if_pos h, if_pos h]; rfl
      · rw [if_neg h, if_neg h, if_neg h]
    rw [e2]
    exact ih k (q + 1) (by omega) (by omega)
theorem rt_1 (x5 : List (List Int)) (hx5 : x5.length ≤ 1000000) (i : Nat) (hi : i < a.length) (d : Nat) : ∀ (k q : Nat), d + q = c → d * (n + 2) + n + 100 ≤ k →
    flittingref01_Times.l1 k a b x5 (i : Int) (ofR c fun j' => if j' < q then mm n (eB a) (eB b) i j' else 0) (q : Int) = flittingref01_Times.l0 (k - d * (n + 2) - 1) a b (x5 ++ [ofR c (mm n (eB a) (eB b) i)]) (wrap64 ((i : Int) + 1)) := by
  induction d with
  | zero =>
    intro k q hd hk
    obtain ⟨k, rfl⟩ : ∃ m, k = m + 1 := ⟨k - 1, by omega⟩
    obtain rfl : q = c := by omega
    simp only [flittingref01_Times.l1]
    rw [if_neg (by rw [ofR_length]; omega), if_pos (by omega), show (ofR q fun j' => if j' < q then mm n (eB a) (eB b) i j' else 0) = ofR q (mm n (eB a) (eB b) i) from ofR_congr fun j hj => by rw [if_pos hj], Nat.zero_mul]
    rfl
  | succ d ih =>
    intro k q hd hk
    rw [Nat.succ_mul] at hk ⊢
    have ih2 := fun k' q' => ih k' q'
    generalize d * (n + 2) = t at hk ih2 ⊢
    obtain ⟨k, rfl⟩ : ∃ m, k = m + 1 := ⟨k - 1, by omega⟩
    have hx := rt_2 a b c n ha hb hbl har hbr hal hc hn x5 i q hi (by omega) (fun j' => if j' < q then mm n (eB a) (eB b) i j' else 0) n k 0 (by omega) (by omega)
    have e1 : (ofR c fun j' => if j' = q then sm 0 (fun l => eB a i l * eB b l q) else if j' < q then mm n (eB a) (eB b) i j' else 0) = ofR c fun j' => if j' < q then mm n (eB a) (eB b) i j' else 0 := ofR_congr fun j' _ => by
      by_cases h : j' = q
      · rw [if_pos h, if_neg (by omega)]; rfl
      · rw [if_neg h]
    have e2 : (ofR c fun j' => if j' = q then mm n (eB a) (eB b) i q else if j' < q then mm n (eB a) (eB b) i j' else 0) = ofR c fun j' => if j' < q + 1 then mm n (eB a) (eB b) i j' else 0 := ofR_congr fun j' _ => by
      by_cases h : j' = q
      · rw [if_pos h, if_pos (by omega), h]
      · rw [if_neg h]
        by_cases h2 : j' < q
        · rw [if_pos h2, if_pos (by omega)]
        · rw [if_neg h2, if_neg (by omega)]
    rw [e1, e2] at hx
    simp only [flittingref01_Times.l1]
    rw [if_pos (by rw [ofR_length]; omega)]
    refine Eq.trans hx ?_
    rw [ih2 (k - n - 1) (q + 1) (by omega) (by omega), show k - n - 1 - t - 1 = k + 1 - (t + (n + 2)) - 1 by omega]
theorem rt_0 (hn0 : 0 < n) (d : Nat) : ∀ (k q : Nat), d + q = a.length → d * (c * (n + 2) + 2) + c * (n + 2) + n + 110 ≤ k →
    flittingref01_Times.l0 k a b (ofM q c (mm n (eB a) (eB b))) (q : Int) = some (ofM a.length c (mm n (eB a) (eB b))) := by
  induction d with
  | zero =>
    intro k q hd hk
    obtain ⟨k, rfl⟩ : ∃ m, k = m + 1 := ⟨k - 1, by omega⟩
    obtain rfl : q = a.length := by omega
    simp only [flittingref01_Times.l0]
    rw [if_neg (by omega)]
  | succ d ih =>
    intro k q hd hk
    rw [Nat.succ_mul] at hk
    have ih2 := fun k' q' => ih k' q'
    have hx := fun k' => rt_1 a b c n ha hb hbl har hbr hal hc hn (ofM q c (mm n (eB a) (eB b))) (by rw [ofM_length]; omega) q (by omega) c k' 0 (by omega)
    generalize d * (c * (n + 2) + 2) = t at hk ih2
    generalize c * (n + 2) = s at hk ih2 hx
    obtain ⟨k, rfl⟩ : ∃ m, k = m + 1 := ⟨k - 1, by omega⟩
    have hrl := hbr 0 hn0
    have e0 : rd_L1 b 0 = b.getD 0 [] := rd_L1_nat b 0
    have h1 := hx k (by omega)
    have e1 : (ofR c fun j' => if j' < 0 then mm n (eB a) (eB b) q j' else 0) = ofR c fun _ => 0 := ofR_congr fun j _ => by rw [if_neg (Nat.not_lt_zero j)]
    have hs : ofM q c (mm n (eB a) (eB b)) ++ [ofR c (mm n (eB a) (eB b) q)] = ofM (q + 1) c (mm n (eB a) (eB b)) := (ofM_succ q c _).symm
    rw [e1, hs, show wrap64 ((q : Int) + 1) = ((q + 1 : Nat) : Int) from by unfold wrap64; omega] at h1
    simp only [flittingref01_Times.l0]
    rw [if_pos (by omega), if_pos (by omega), e0, hrl, if_pos (by omega), if_pos (by omega), Int.toNat_natCast, ofR_zero]
    exact h1.trans (ih2 _ (q + 1) (by omega) (by omega))
theorem rtimes_f (k : Nat) (hn0 : 0 < n) (hk : a.length * (c * (n + 2) + 2) + c * (n + 2) + n + 110 ≤ k) : flittingref01_Times.f k a b = some (ofM a.length c (mm n (eB a) (eB b))) :=
  rt_0 a b c n ha hb hbl har hbr hal hc hn hn0 a.length k 0 (by omega) hk
end
theorem rinv_f (k k0 n q : Nat) (h : k0 ≤ n) (hn : n < 8) (hq : q < 8) (hk : 400 ≤ k) : flittingref01_Inv.f k ((Go.bits .xor .i64 (n : Int) (q : Int)) % 256) = some (ofB (codeM k0 n q)) := by
  have hx : n ^^^ q < 8 := Nat.xor_lt_two_pow (n := 3) hn hq
  rw [xor64 n q (by omega) (by omega), show (((n ^^^ q : Nat) : Int) % 256) = ((n ^^^ q : Nat) : Int) from by omega, codeM, if_pos h]
  have e : (tB ((n ^^^ q : Nat) : Int)).1 = n ^^^ q := by
    show (((n ^^^ q : Nat) : Int)).toNat % 256 = _
    omega
  unfold flittingref01_Inv.f
  refine (inv_run 256 k (n ^^^ q) 0 (by omega) (by decide) (by omega) (.inr (Nat.zero_le _))).trans ?_
  show some _ = some (((Gf.gi (tB ((n ^^^ q : Nat) : Int)).1 : Nat)) : Int)
  rw [e]
theorem rcode_row (k0 m i : Nat) (hi : k0 + i < 8) (hk0 : k0 ≤ 4) (x5 : List (List Int)) (hx5 : x5.length ≤ 100) (d : Nat) : ∀ (k q : Nat), d + q = k0 → d + 410 ≤ k →
    flittingref01_Code.l1 k (k0 : Int) (m : Int) x5 (i : Int) (ofR k0 fun j => if j < q then codeM k0 (k0 + i) j else 0) (q : Int) = flittingref01_Code.l0 (k - d - 1) (k0 : Int) (m : Int) (x5 ++ [ofR k0 (codeM k0 (k0 + i))]) (wrap64 ((i : Int) + 1)) := by
  induction d with
  | zero =>
    intro k q hd hk
    obtain ⟨k, rfl⟩ : ∃ m, k = m + 1 := ⟨k - 1, by omega⟩
    obtain rfl : q = k0 := by omega
    simp only [flittingref01_Code.l1]
    rw [if_neg (by omega), if_pos (by omega), show (ofR q fun j => if j < q then codeM q (q + i) j else 0) = ofR q (codeM q (q + i)) from ofR_congr fun j hj => by rw [if_pos hj]]
    rfl
  | succ d ih =>
    intro k q hd hk
    obtain ⟨k, rfl⟩ : ∃ m, k = m + 1 := ⟨k - 1, by omega⟩
    simp only [flittingref01_Code.l1]
    rw [if_pos (by omega), show wrap64 ((k0 : Int) + (i : Int)) = ((k0 + i : Nat) : Int) from by unfold wrap64; omega, rinv_f k k0 (k0 + i) q (by omega) hi (by omega) (by omega), Option.bind_some, if_pos (by omega), if_pos (by rw [ofR_length]; omega), Int.toNat_natCast, ofR_set, show wrap64 ((q : Int) + 1) = ((q + 1 : Nat) : Int) from by unfold wrap64; omega, show k + 1 - (d + 1) - 1 = k - d - 1 by omega]
    have e : (ofR k0 fun j => if j = q then codeM k0 (k0 + i) q else if j < q then codeM k0 (k0 + i) j else 0) = ofR k0 fun j => if j < q + 1 then codeM k0 (k0 + i) j else 0 := ofR_congr fun j _ => by
      by_cases h1 : j = q
      · rw [if_pos h1, if_pos (by omega), h1]
      · rw [if_neg h1]
        by_cases h2 : j < q
        · rw [if_pos h2, if_pos (by omega)]
        · rw [if_neg h2, if_neg (by omega)]
    rw [e]
    exact ih k (q + 1) (by omega) (by omega)
theorem rcode_run (k0 m : Nat) (hk0 : k0 ≤ 4) (hm : m ≤ 3) (d : Nat) : ∀ (k q : Nat), d + q = m → d * 6 + 430 ≤ k → flittingref01_Code.l0 k (k0 : Int) (m : Int) (ofM (k0 + q) k0 (codeM k0)) (q : Int) = some (ofM (k0 + m) k0 (codeM k0)) := by
  induction d with
  | zero =>
    intro k q hd hk
    obtain ⟨k, rfl⟩ : ∃ m, k = m + 1 := ⟨k - 1, by omega⟩
    simp only [flittingref01_Code.l0]
    rw [if_neg (by omega), show q = m by omega]
  | succ d ih =>
    intro k q hd hk
    obtain ⟨k, rfl⟩ : ∃ m, k = m + 1 := ⟨k - 1, by omega⟩
    simp only [flittingref01_Code.l0]
    rw [if_pos (by omega), if_pos (by omega), if_pos (by omega), Int.toNat_natCast, ofR_zero]
    have hx := rcode_row k0 m q (by omega) hk0 (ofM (k0 + q) k0 (codeM k0)) (by rw [ofM_length]; omega) k0 k 0 (by omega) (by omega)
    have e : (ofR k0 fun j => if j < 0 then codeM k0 (k0 + q) j else 0) = ofR k0 fun _ => 0 := ofR_congr fun j _ => by rw [if_neg (Nat.not_lt_zero j)]
    have hs : ofM (k0 + q) k0 (codeM k0) ++ [ofR k0 (codeM k0 (k0 + q))] = ofM (k0 + (q + 1)) k0 (codeM k0) := (ofM_succ (k0 + q) k0 _).symm
    rw [e, hs, show wrap64 ((q : Int) + 1) = ((q + 1 : Nat) : Int) from by unfold wrap64; omega] at hx
    exact hx.trans (ih (k - k0 - 1) (q + 1) (by omega) (by omega))
theorem rcode_f (k k0 m : Nat) (h1 : 1 ≤ k0) (h4 : k0 ≤ 4) (hm : m ≤ 3) (hk : 500 ≤ k) : flittingref01_Code.f k (k0 : Int) (m : Int) = some (ofM (k0 + m) k0 (codeM k0)) := by
  obtain ⟨k, rfl⟩ : ∃ q, k = q + 1 := ⟨k - 1, by omega⟩
  have h := rcode_run k0 m h4 hm m k 0 (by omega) (by omega)
  have e : ofM (k0 + 0) k0 (codeM k0) = ofM k0 k0 un := ofM_congr fun i j hi _ => by rw [codeM, if_neg (by omega)]
  rw [e] at h
  unfold flittingref01_Code.f
  rw [if_neg (by omega), if_neg (by omega), if_neg (by omega), decide_eq_false (show ¬ (m : Int) > 3 by omega)]
  simp only [flittingref01_Code.j0]
  rw [if_neg (by decide), unit_f k k0 (by omega) (by omega), Option.bind_some]
  exact h
theorem rcode_no (k : Nat) (a m : Int) (h : a < 1 ∨ a > 4 ∨ m < 0 ∨ m > 3) (hk : 1 ≤ k) : flittingref01_Code.f k a m = some [] := by
  obtain ⟨k, rfl⟩ : ∃ q, k = q + 1 := ⟨k - 1, by omega⟩
  have hj : flittingref01_Code.j0 (k + 1) a m true = some [] := by
    simp only [flittingref01_Code.j0]
    rw [if_pos trivial]
  unfold flittingref01_Code.f
  by_cases h1 : a < 1
  · rw [if_pos h1, hj]
  · rw [if_neg h1]
    by_cases h2 : a > 4
    · rw [if_pos h2, hj]
    · rw [if_neg h2]
      by_cases h3 : m < 0
      · rw [if_pos h3, hj]
      · rw [if_neg h3, decide_eq_true (show m > 3 by omega), hj]
/-! shards -/
def pre8 (d : List Int) (q : Nat) : List (List Int) := (List.range q).map fun i => (d.drop (8 * i)).take 8
theorem chunks_pre {d : List Int} {n : Nat} (h : d.length = 8 * n) : chunks d = pre8 d n := by simp [chunks, pre8, h]
theorem pre8_length (d : List Int) (q : Nat) : (pre8 d q).length = q := by simp [pre8]
theorem pre8_get (d : List Int) {q i : Nat} (hi : i < q) : (pre8 d q).getD i [] = (d.drop (8 * i)).take 8 := by simp [pre8, hi]
theorem pre8_succ (d : List Int) (q : Nat) : pre8 d (q + 1) = pre8 d q ++ [(d.drop (8 * q)).take 8] := by simp [pre8, List.range_succ]
theorem pre8_bytes {d : List Int} (hb : bytesL d) (q : Nat) : bytesR (pre8 d q) := fun l hl => by
  obtain ⟨i, _, rfl⟩ := List.mem_map.1 hl
  exact fun x hx => hb x (List.mem_of_mem_drop (List.mem_of_mem_take hx))
theorem pre8_row {d : List Int} {n : Nat} (h : d.length = 8 * n) {i : Nat} (hi : i < n) : ((pre8 d n).getD i []).length = 8 := by
  rw [pre8_get d hi, List.length_take, List.length_drop]
  omega
def dM (d : List Int) (i j : Nat) : B := tB (d.getD (8 * i + j) 0)
theorem eB_pre8 (d : List Int) {n i j : Nat} (hi : i < n) (hj : j < 8) : eB (pre8 d n) i j = dM d i j := by
  unfold eB dM
  rw [pre8_get d hi, List.getD_eq_getElem?_getD, List.getD_eq_getElem?_getD, List.getElem?_take, if_pos hj, List.getElem?_drop]
def shE (n : Nat) (d : List Int) : Nat → Nat → B := mm n (codeM n) (dM d)
theorem mul7 {a b : Nat} (ha : a ≤ 7) (hb : b ≤ 6) : a * b ≤ 42 := Nat.mul_le_mul ha hb
theorem shE_of (n m : Nat) (d : List Int) : ofM (ofM (n + m) n (codeM n)).length 8 (mm n (eB (ofM (n + m) n (codeM n))) (eB (pre8 d n))) = ofM (n + m) 8 (shE n d) := by
  rw [ofM_length]
  exact ofM_congr fun i j hi hj => Mb.mm_congr (fun q hq => eB_ofM _ _ _ i q hi hq) (fun q hq => eB_pre8 d hq hj)
theorem enc_f (n m : Nat) (h1 : 1 ≤ n) (h4 : n ≤ 4) (hm : m ≤ 3) (d : List Int) (hb : bytesL d) (hl : d.length = 8 * n) : rs_Encode.f (n : Int) (m : Int) d = some (ofM (n + m) 8 (shE n d), 0) := by
  have hne : ofM (n + m) n (codeM n) ≠ [] := fun e => by
    have := ofM_length (n + m) n (codeM n)
    rw [e] at this
    simp at this
    omega
  have h42 := mul7 (show n + m ≤ 7 by omega) (show n + 2 ≤ 6 by omega)
  unfold rs_Encode.f
  rw [if_neg (by omega), code_f 1000 n m h1 h4 hm (by decide), Option.bind_some, if_neg hne, if_neg (by omega), chunks_pre hl,
    times_f 1000 8 n _ _ (ofM_bytes _ _ _) (pre8_bytes hb n) (by rw [ofM_length]; omega) (pre8_length d n) (by omega) (fun i hi => by rw [ofM_length] at hi; rw [ofM_get _ _ _ i hi, ofR_length]) (fun i hi => pre8_row hl hi) (by rw [ofM_length]; omega) (by decide) (by omega) (by rw [ofM_length]; omega), shE_of]
theorem enc_no (a m : Int) (d : List Int) (h : a < 1 ∨ a > 4 ∨ m < 0 ∨ m > 3 ∨ (d.length : Int) ≠ 8 * a) : rs_Encode.f a m d = some ([], 1) := by
  unfold rs_Encode.f
  by_cases hb : a < 1 ∨ a > 4 ∨ m < 0 ∨ m > 3
  · rw [if_pos hb]
  · rw [if_neg hb]
    obtain ⟨n, rfl⟩ : ∃ n : Nat, a = (n : Int) := ⟨a.toNat, by omega⟩
    obtain ⟨q, rfl⟩ : ∃ n : Nat, m = (n : Int) := ⟨m.toNat, by omega⟩
    have hne : ofM (n + q) n (codeM n) ≠ [] := fun e => by
      have := ofM_length (n + q) n (codeM n)
      rw [e] at this
      simp at this
      omega
    rw [code_f 1000 n q (by omega) (by omega) (by omega) (by decide), Option.bind_some, if_neg hne, if_pos (by omega)]
section
variable (n m : Nat) (h1 : 1 ≤ n) (h4 : n ≤ 4) (hm : m ≤ 3) (d : List Int) (hb : bytesL d) (hl : d.length = 8 * n)
include h1 h4 hm hb hl
theorem renc_run (e : Nat) : ∀ (k q : Nat), e + q = n → e + 900 ≤ k → flittingref01_Encode.l0 k (n : Int) (m : Int) d (pre8 d q) (q : Int) = some (ofM (n + m) 8 (shE n d)) := by
  induction e with
  | zero =>
    intro k q hq hk
    obtain ⟨k, rfl⟩ : ∃ m, k = m + 1 := ⟨k - 1, by omega⟩
    obtain rfl : q = n := by omega
    have h42 := mul7 (show q + m ≤ 7 by omega) (show q + 2 ≤ 6 by omega)
    have h43 : (q + m) * (8 * (q + 2) + 2) ≤ 7 * 50 := Nat.mul_le_mul (by omega) (by omega)
    simp only [flittingref01_Encode.l0]
    rw [if_neg (by omega), rcode_f k q m h1 h4 hm (by omega), Option.bind_some, rtimes_f (ofM (q + m) q (codeM q)) (pre8 d q) 8 q (ofM_bytes _ _ _) (pre8_bytes hb q) (pre8_length d q) (fun i hi => by rw [ofM_length] at hi; rw [ofM_get _ _ _ i hi, ofR_length]) (fun i hi => pre8_row hl hi) (by rw [ofM_length]; omega) (by decide) (by omega) k (by omega) (by rw [ofM_length]; omega), Option.bind_some, shE_of]
  | succ e ih =>
    intro k q hq hk
    obtain ⟨k, rfl⟩ : ∃ m, k = m + 1 := ⟨k - 1, by omega⟩
    have w1 : wrap64 (8 * (q : Int)) = ((8 * q : Nat) : Int) := by unfold wrap64; omega
    have w2 : wrap64 (((8 * q : Nat) : Int) + 8) = ((8 * q + 8 : Nat) : Int) := by unfold wrap64; omega
    simp only [flittingref01_Encode.l0]
    rw [if_pos (by omega), w1, w2, if_pos (by omega), if_pos (by omega), if_pos (by omega), if_pos (by rw [pre8_length]; omega), Int.toNat_natCast, Int.toNat_natCast, List.drop_take, show 8 * q + 8 - 8 * q = 8 by omega, ← pre8_succ, show wrap64 ((q : Int) + 1) = ((q + 1 : Nat) : Int) from by unfold wrap64; omega]
    exact ih k (q + 1) (by omega) (by omega)
theorem renc_f (k : Nat) (hk : 910 ≤ k) : flittingref01_Encode.f k (n : Int) (m : Int) d = some (ofM (n + m) 8 (shE n d)) := renc_run n m h1 h4 hm d hb hl n k 0 (by omega) (by omega)
end
theorem answers_t : flittinglaw03_answers.f = some true := rfl
theorem RsEncode : flittinglaw03_RsEncode.Pure := by
  intro a0 a1 l2 hw0 hw1 _ _ hx
  have hb : bytesL l2 := fun x h => by
    have := hx x h
    simp [Lit.wf, IntKind.min, IntKind.max, IntKind.bits, IntKind.signed] at this
    unfold byteI
    omega
  refine ⟨1000, ?_⟩
  unfold flittinglaw03_RsEncode.f
  by_cases h200 : (l2.length : Int) > 200
  · rw [if_pos h200, answers_t, Option.bind_some]
  rw [if_neg h200]
  have hno : ∀ s : List (List Int), flittinglaw03_RsEncode.j0 1000 a0 a1 l2 [] 1 true = some true := fun _ => by
    simp only [flittinglaw03_RsEncode.j0]
    rw [if_pos trivial, answers_t, Option.bind_some, if_pos rfl, if_pos trivial]
    rfl
  by_cases h : a0 < 1 ∨ a0 > 4 ∨ a1 < 0 ∨ a1 > 3 ∨ (l2.length : Int) ≠ 8 * a0
  · rw [enc_no a0 a1 l2 h, Option.bind_some]
    by_cases g1 : a0 < 1
    · rw [if_pos g1, hno []]
    rw [if_neg g1]
    by_cases g2 : a0 > 4
    · rw [if_pos g2, hno []]
    rw [if_neg g2]
    by_cases g3 : a1 < 0
    · rw [if_pos g3, hno []]
    rw [if_neg g3]
    by_cases g4 : a1 > 3
    · rw [if_pos g4, hno []]
    rw [if_neg g4, show wrap64 (8 * a0) = 8 * a0 from by unfold wrap64; omega, bne_iff_ne.2 (show (l2.length : Int) ≠ 8 * a0 by omega), hno []]
  · obtain ⟨n, rfl⟩ : ∃ n : Nat, a0 = (n : Int) := ⟨a0.toNat, by omega⟩
    obtain ⟨m, rfl⟩ : ∃ n : Nat, a1 = (n : Int) := ⟨a1.toNat, by omega⟩
    have hl : l2.length = 8 * n := by omega
    have he : ((l2.length : Int) != wrap64 (8 * (n : Int))) = false := by
      rw [show wrap64 (8 * (n : Int)) = (l2.length : Int) from by unfold wrap64; omega]
      simp
    rw [enc_f n m (by omega) (by omega) (by omega) l2 hb hl, Option.bind_some, if_neg (by omega), if_neg (by omega), if_neg (by omega), if_neg (by omega), he]
    simp only [flittinglaw03_RsEncode.j0]
    rw [if_neg (by decide), answers_t, Option.bind_some, if_pos rfl, if_pos trivial, renc_f n m (by omega) (by omega) (by omega) l2 hb hl 999 (by decide), Option.bind_some, rows_f 999 8 _ (by rw [ofM_length]; omega) (by rw [ofM_length]; omega) (by decide) (ofM_rows _ _ _), Option.bind_some]
end Go.Proofs.Ytpgehfchdhjjeaa.PureRsEncode
namespace Go.Proofs.Ytpgehfchdhjjeaa.Pure
theorem RsEncode : Go.Proofs.Ytpgehfchdhjjeaa.PRsEncode.flittinglaw03_RsEncode.Pure := Go.Proofs.Ytpgehfchdhjjeaa.PureRsEncode.RsEncode
end Go.Proofs.Ytpgehfchdhjjeaa.Pure
