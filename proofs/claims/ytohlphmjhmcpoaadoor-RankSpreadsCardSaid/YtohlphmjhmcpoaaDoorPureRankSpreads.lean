/- RankSpreads: each of some drives is the nearest one of some stripe. -/
import Derived.Test.YtohlphmjhmcpoaaDoorPRankSpreadsx0
import Derived.Test.YtohlphmjhmcpoaaDoorPRankSpreadsx1
import Derived.Test.YtohlphmjhmcpoaaDoorPRankSpreadsx2
import Derived.Test.YtohlphmjhmcpoaaDoorPRankSpreadsx3
import Derived.Test.YtohlphmjhmcpoaaDoorPRankSpreadsx4
namespace Go.Proofs.YtohlphmjhmcpoaaDoor.PureRankSpreads
open Go.RowKit Go.Proofs.YtohlphmjhmcpoaaDoor.PRankSpreads Go.Proofs.YtohlphmjhmcpoaaDoorW.PrintWords Go.Proofs.YtohlphmjhmcpoaaDoorW.PrintLast Go.Proofs.YtohlphmjhmcpoaaDoorW.PrintMore 
set_option linter.unusedVariables false
set_option linter.unusedSimpArgs false
theorem u8_nat {a : Int} (h : (Lit.int .u8 a).wf = true) : ∃ n : Nat, n < 256 ∧ a = (n : Int) := by
  simp [Lit.wf, IntKind.min, IntKind.max, IntKind.bits, IntKind.signed] at h
  exact ⟨a.toNat, by omega, by omega⟩
theorem sumF_f (l : List Int) (h : l.length < 1099511627776) (hb : ∀ x ∈ l, 0 ≤ x ∧ x < 256) : hash_Sum.f l = some (sumF l) := by
  unfold hash_Sum.f
  rw [if_pos ⟨h, hb⟩]
theorem sumF_length (l : List Int) : (sumF l).length = 32 := by
  unfold sumF
  generalize blocks init ((sumPad l).length / 64) (sumPad l) = s
  simp [outB, St.l, enc_length]
def wgt (s d : Int) : Int := be ((sumF (enc (IntKind.u64.wrap s) 8 ++ enc (IntKind.u64.wrap d) 8)).take 8)
theorem two_bytes (s d : Int) : ∀ x ∈ enc (IntKind.u64.wrap s) 8 ++ enc (IntKind.u64.wrap d) 8, 0 ≤ x ∧ x < 256 := fun x hx => by
  rcases List.mem_append.1 hx with h | h <;> exact enc_bytes _ _ x h
theorem two_len (s d : Int) : (enc (IntKind.u64.wrap s) 8 ++ enc (IntKind.u64.wrap d) 8).length < 1099511627776 := by rw [List.length_append, enc_length, enc_length]; decide
theorem sum_bytes (b : List Int) : ∀ x ∈ (sumF b).take 8, 0 ≤ x ∧ x < 256 := fun x hx => by
  have h := List.mem_of_mem_take hx
  unfold sumF outB at h
  obtain ⟨y, _, h⟩ := List.mem_flatMap.1 h
  exact enc_bytes _ _ x h
theorem sum_len8 (b : List Int) : ((sumF b).take 8).length = 8 := by rw [List.length_take, sumF_length]; decide
theorem weight_f (k : Nat) (hk : 9 ≤ k) (s d : Int) : hash_Weight.f k s d = some (wgt s d) := by
  have h8 := sum_len8 (enc (IntKind.u64.wrap s) 8 ++ enc (IntKind.u64.wrap d) 8)
  unfold hash_Weight.f
  rw [show (8 : Int) = ((8 : Nat) : Int) from rfl, put_f k [] _ 8 (by decide) hk (by decide), Option.bind_some, List.nil_append, put_f k _ _ 8 (by decide) hk (by rw [enc_length]; decide), Option.bind_some, sumF_f _ (two_len s d) (two_bytes s d), Option.bind_some, sumF_length, if_pos (by decide), get_f k _ hk (by omega) (sum_bytes _), Option.bind_some]
  rfl
theorem wOf_eq (s d : Int) : wOf s d = wgt s d := by
  unfold wOf
  rw [weight_f 100 (by decide) s d]
  rfl
theorem order_f (s : Int) (l : List Int) (hl : l.length ≤ 1048576) : rank_Order.f s l = some (orderF s l) := by
  unfold rank_Order.f
  rw [if_pos ⟨hl, fun d _ => by rw [weight_f 100 (by decide)]; rfl⟩]
theorem orderF_length (s : Int) (l : List Int) : (orderF s l).length = l.length := by
  unfold orderF
  rw [List.length_map, sortN_length, nears, List.length_map]
theorem targets_no (s : Int) (l : List Int) (n : Int) (hl : l.length ≤ 1048576) (h : n < 0 ∨ ((inK l l.length).length : Int) < n) : rank_Targets.f s l n = some ([], false) := by
  unfold rank_Targets.f
  rw [if_pos hl, if_pos h]
theorem targets_f (s : Int) (l : List Int) (n : Int) (hl : l.length ≤ 1048576) (h : ¬ (n < 0 ∨ ((inK l l.length).length : Int) < n)) : rank_Targets.f s l n = some ((orderF s (inK l l.length)).take n.toNat, true) := by
  have h2 := inK_length l l.length
  unfold rank_Targets.f
  rw [if_pos hl, if_neg h, order_f s _ (by omega), Option.bind_some, if_pos (orderF_length _ _)]
theorem order_one (s x : Int) : orderF s [x] = [x] := by simp [orderF, sortN, nears]
theorem answers_t : flittinglaw12_answers.f = some true := by
  have e : inK [0, 1] ([0, 1] : List Int).length = [1] := by decide
  unfold flittinglaw12_answers.f
  rw [targets_f 5 [0, 1] 1 (by decide) (by rw [e]; decide), Option.bind_some, e, order_one, if_pos rfl]
  have h4 := orderF_length 1 [4, 4]
  rw [if_pos (by decide), if_pos (by decide), if_pos (by decide), order_f 1 [4, 4] (by decide), Option.bind_some, h4]
  rfl
/-! sorted -/
def leN (x y : Int × Int) : Bool := !(Go.Proofs.ltOf nearC) y x
theorem leN_iff (x y : Int × Int) : leN x y = true ↔ y.2 < x.2 ∨ (y.2 = x.2 ∧ x.1 ≤ y.1) := by
  unfold leN
  rw [ltN]
  simp
  omega
theorem sortN_perm (l : List (Int × Int)) : (sortN l).Perm l := List.mergeSort_perm _ _
theorem sortN_sorted (l : List (Int × Int)) : (sortN l).Pairwise fun x y => leN x y = true := by
  have h := List.pairwise_mergeSort (le := leN) (fun a b c h1 h2 => by rw [leN_iff] at *; omega) (fun a b => by
    rw [Bool.or_eq_true, leN_iff, leN_iff]
    omega) l
  exact h
theorem nears_mem {s : Int} {l : List Int} {x : Int × Int} (h : x ∈ nears s l) : x.2 = wgt s x.1 := by
  obtain ⟨d, _, rfl⟩ := List.mem_map.1 h
  exact wOf_eq s d
theorem orderF_nears (s : Int) (l : List Int) : nears s (orderF s l) = sortN (nears s l) := by
  unfold orderF
  unfold nears
  rw [List.map_map]
  conv => rhs; rw [← List.map_id (sortN (List.map (fun d => (d, wOf s d)) l))]
  apply List.map_congr_left
  intro x hx
  have := nears_mem (s := s) (l := l) ((sortN_perm (nears s l)).mem_iff.1 hx)
  show (x.1, wOf s x.1) = x
  rw [wOf_eq, ← this]
theorem orderF_sorted (s : Int) (l : List Int) : (orderF s l).Pairwise fun a b => wgt s b < wgt s a ∨ (wgt s b = wgt s a ∧ a ≤ b) := by
  have h := sortN_sorted (nears s l)
  rw [← orderF_nears] at h
  unfold nears at h
  rw [List.pairwise_map] at h
  refine h.imp fun {a b} hab => ?_
  rw [leN_iff] at hab
  simpa only [wOf_eq] using hab
theorem orderF_perm (s : Int) (l : List Int) : (orderF s l).Perm l := by
  have h := (sortN_perm (nears s l)).map (·.1)
  unfold nears at h
  rw [List.map_map] at h
  have e : List.map ((fun x : Int × Int => x.1) ∘ fun d => (d, wOf s d)) l = l := by
    conv => rhs; rw [← List.map_id l]
    rfl
  rw [e] at h
  exact h
def upto (n : Nat) : List Int := (List.range n).map fun i : Nat => (i : Int)
theorem upto_length (n : Nat) : (upto n).length = n := by simp [upto]
theorem upto_succ (q : Nat) : upto q ++ [(q : Int)] = upto (q + 1) := by simp [upto, List.range_succ]
theorem upto_mem {n : Nat} {x : Int} : x ∈ upto n ↔ ∃ i : Nat, i < n ∧ x = (i : Int) := by
  unfold upto
  rw [List.mem_map]
  constructor
  · rintro ⟨i, hi, rfl⟩; exact ⟨i, List.mem_range.1 hi, rfl⟩
  · rintro ⟨i, hi, rfl⟩; exact ⟨i, List.mem_range.2 hi, rfl⟩
theorem order_unique (s : Int) (l l' : List Int) (hp : l'.Perm l) (hs : l'.Pairwise fun a b => wgt s b < wgt s a ∨ (wgt s b = wgt s a ∧ a ≤ b)) : l' = orderF s l :=
  List.Perm.eq_of_pairwise (fun a b _ _ h1 h2 => by omega) hs (orderF_sorted s l) (hp.trans (orderF_perm s l).symm)
def chkW (s d : Nat) : Bool := (List.range 7).all fun e => e == d || decide (wgt (s : Int) (e : Int) < wgt (s : Int) (d : Int))
theorem wit0 : chkW 6 0 = true := by decide +kernel
theorem wit1 : chkW 8 1 = true := by decide +kernel
theorem wit2 : chkW 10 2 = true := by decide +kernel
theorem wit3 : chkW 3 3 = true := by decide +kernel
theorem wit4 : chkW 2 4 = true := by decide +kernel
theorem wit5 : chkW 0 5 = true := by decide +kernel
theorem wit6 : chkW 4 6 = true := by decide +kernel
theorem wit (d : Nat) (hd : d < 7) : ∃ s, s < 400 ∧ chkW s d = true := by
  match d, hd with
  | 0, _ => exact ⟨6, by decide, wit0⟩
  | 1, _ => exact ⟨8, by decide, wit1⟩
  | 2, _ => exact ⟨10, by decide, wit2⟩
  | 3, _ => exact ⟨3, by decide, wit3⟩
  | 4, _ => exact ⟨2, by decide, wit4⟩
  | 5, _ => exact ⟨0, by decide, wit5⟩
  | 6, _ => exact ⟨4, by decide, wit6⟩
theorem chkW_of {s d : Nat} (h : chkW s d = true) (e : Nat) (he : e < 7) (hne : e ≠ d) : wgt (s : Int) (e : Int) < wgt (s : Int) (d : Int) := by
  have := List.all_eq_true.1 h e (List.mem_range.2 he)
  rw [Bool.or_eq_true, beq_iff_eq, decide_eq_true_iff] at this
  exact this.resolve_left hne
def bst (s n : Nat) : Nat := ((orderF (s : Int) (upto n)).getD 0 0).toNat
theorem bst_spec (s n : Nat) (hn : 0 < n) : (orderF (s : Int) (upto n)).getD 0 0 = (bst s n : Int) ∧ bst s n < n := by
  have hl := orderF_length (s : Int) (upto n)
  rw [upto_length] at hl
  have hm : (orderF (s : Int) (upto n)).getD 0 0 ∈ orderF (s : Int) (upto n) := by
    have e : (orderF (s : Int) (upto n)).getD 0 0 = (orderF (s : Int) (upto n))[0]'(by omega) := by simp [show 0 < (orderF (s : Int) (upto n)).length by omega]
    rw [e]
    exact List.getElem_mem _
  obtain ⟨i, hi, e⟩ := upto_mem.1 ((orderF_perm _ _).mem_iff.1 hm)
  unfold bst
  rw [e]
  omega
theorem bst_of {s n d : Nat} (hd : d < n) (h : ∀ e, e < n → e ≠ d → wgt (s : Int) (e : Int) < wgt (s : Int) (d : Int)) : bst s n = d := by
  obtain ⟨h1, h2⟩ := bst_spec s n (by omega)
  have hs := orderF_sorted (s : Int) (upto n)
  have hm : (d : Int) ∈ orderF (s : Int) (upto n) := (orderF_perm _ _).mem_iff.2 (upto_mem.2 ⟨d, hd, rfl⟩)
  cases ho : orderF (s : Int) (upto n) with
  | nil => rw [ho] at hm; cases hm
  | cons x t =>
    rw [ho] at h1 hs hm
    have hx : x = (bst s n : Int) := h1
    rcases List.mem_cons.1 hm with e | hm
    · omega
    · have h3 := List.rel_of_pairwise_cons hs hm
      by_cases e : bst s n = d
      · exact e
      · have h4 := h (bst s n) h2 e
        rw [hx] at h3
        omega
theorem inK_ones (n q : Nat) (hq : q ≤ n) : inK (List.replicate n 1) q = upto q := by
  induction q with
  | zero => rfl
  | succ q ih =>
    unfold inK
    rw [if_pos (by simp [show q < n by omega]), ih (by omega), upto_succ]
theorem see_end (n : Nat) (seen : List Int) (hl : seen.length = n) (hn : n ≤ 10) (h : ∀ d, d < n → seen.getD d 0 ≠ 0) (e : Nat) : ∀ (k i : Nat), e + i = n → e < k → flittinglaw12_RankSpreads.l2 k (n : Int) seen (i : Int) = some true := by
  induction e with
  | zero =>
    intro k i he hk
    obtain ⟨k, rfl⟩ : ∃ m, k = m + 1 := ⟨k - 1, by omega⟩
    simp only [flittinglaw12_RankSpreads.l2]
    rw [if_neg (by omega), answers_t, Option.bind_some]
  | succ e ih =>
    intro k i he hk
    obtain ⟨k, rfl⟩ : ∃ m, k = m + 1 := ⟨k - 1, by omega⟩
    have e1 : rd seen (i : Int) = seen.getD i 0 := by simp [rd]
    simp only [flittinglaw12_RankSpreads.l2]
    rw [if_pos (by omega), if_pos (by omega), if_pos (by omega), e1, if_neg (h i (by omega)), show wrap64 ((i : Int) + 1) = ((i + 1 : Nat) : Int) from by unfold wrap64; omega]
    exact ih k (i + 1) (by omega) (by omega)
structure Seen (n q : Nat) (seen : List Int) : Prop where
  len : seen.length = n
  bound : ∀ d, d < n → 0 ≤ seen.getD d 0 ∧ seen.getD d 0 ≤ (q : Int)
  some_ : ∀ d, d < n → ∀ s, s < q → bst s n = d → 1 ≤ seen.getD d 0
theorem Seen.step {n q : Nat} {seen : List Int} (h : Seen n q seen) (hn : 0 < n) : Seen n (q + 1) (seen.set (bst q n) (seen.getD (bst q n) 0 + 1)) := by
  have hb := (bst_spec q n hn).2
  have hl := h.len
  have hg : ∀ d, d < n → (seen.set (bst q n) (seen.getD (bst q n) 0 + 1)).getD d 0 = if d = bst q n then seen.getD (bst q n) 0 + 1 else seen.getD d 0 := fun d hd => by
    rw [List.getD_eq_getElem?_getD, List.getElem?_set]
    by_cases e : d = bst q n
    · subst e
      rw [if_pos rfl, if_pos rfl, if_pos (by omega)]
      rfl
    · rw [if_neg (fun h => e h.symm), if_neg e, List.getD_eq_getElem?_getD]
  refine ⟨by rw [List.length_set, hl], fun d hd => ?_, fun d hd s hs he => ?_⟩
  · have := h.bound d hd
    have h2 := h.bound _ hb
    rw [hg d hd]
    split <;> omega
  · have h2 := h.bound _ hb
    rw [hg d hd]
    by_cases e : d = bst q n
    · rw [if_pos e]; omega
    · rw [if_neg e]
      have : s ≠ q := fun h => e (by rw [← he, h])
      exact h.some_ d hd s (by omega) he
theorem see_run (n : Nat) (h2 : 2 ≤ n) (h7 : n ≤ 7) (e : Nat) : ∀ (k q : Nat) (seen : List Int), e + q = 400 → e + 20 ≤ k → Seen n q seen → flittinglaw12_RankSpreads.l1 k (n : Int) (List.replicate n 1) seen (q : Int) = some true := by
  induction e with
  | zero =>
    intro k q seen he hk hs
    obtain ⟨k, rfl⟩ : ∃ m, k = m + 1 := ⟨k - 1, by omega⟩
    simp only [flittinglaw12_RankSpreads.l1]
    rw [if_neg (by omega)]
    refine see_end n seen hs.len (by omega) (fun d hd => ?_) n k 0 (by omega) (by omega)
    obtain ⟨s, hs4, hc⟩ := wit d (by omega)
    have := hs.some_ d hd s (by omega) (bst_of hd fun e he hne => chkW_of hc e (by omega) hne)
    omega
  | succ e ih =>
    intro k q seen he hk hs
    obtain ⟨k, rfl⟩ : ∃ m, k = m + 1 := ⟨k - 1, by omega⟩
    have hin : inK (List.replicate n 1) (List.replicate n (1 : Int)).length = upto n := by rw [List.length_replicate]; exact inK_ones n n (Nat.le_refl _)
    obtain ⟨hb1, hb2⟩ := bst_spec q n (by omega)
    have hol := orderF_length (q : Int) (upto n)
    rw [upto_length] at hol
    have hl1 : ((orderF (q : Int) (upto n)).take 1).length = 1 := by rw [List.length_take]; omega
    have hr : rd ((orderF (q : Int) (upto n)).take 1) 0 = (bst q n : Int) := by
      rw [← hb1]
      show ((orderF (q : Int) (upto n)).take 1).getD 0 0 = _
      cases orderF (q : Int) (upto n) <;> rfl
    have hsl := hs.len
    have hbd := hs.bound _ hb2
    have hst := hs.step (by omega)
    have hr2 : rd seen (bst q n : Int) = seen.getD (bst q n) 0 := by simp [rd]
    have hw : wrap64 (seen.getD (bst q n) 0 + 1) = seen.getD (bst q n) 0 + 1 := by unfold wrap64; omega
    simp only [flittinglaw12_RankSpreads.l1]
    rw [if_pos (by omega), targets_f (q : Int) _ 1 (by simp; omega) (by rw [hin, upto_length]; omega), Option.bind_some, hin, if_pos rfl]
    show (if (((orderF (q : Int) (upto n)).take 1).length : Int) = 1 then (if 0 < (((orderF (q : Int) (upto n)).take 1).length : Int) then (if 0 ≤ (rd ((orderF (q : Int) (upto n)).take 1) 0) then (if (rd ((orderF (q : Int) (upto n)).take 1) 0) < (seen.length : Int) then (flittinglaw12_RankSpreads.l1 k (n : Int) (List.replicate n 1) (seen.set ((rd ((orderF (q : Int) (upto n)).take 1) 0) : Int).toNat (wrap64 ((rd seen (rd ((orderF (q : Int) (upto n)).take 1) 0)) + 1))) (wrap64 ((q : Int) + 1))) else none) else none) else none) else some false) = some true
    rw [hl1, hr, if_pos (show ((1 : Nat) : Int) = 1 from rfl), if_pos (show (0 : Int) < ((1 : Nat) : Int) from by decide), if_pos (by omega), if_pos (by omega), Int.toNat_natCast, hr2, hw, show wrap64 ((q : Int) + 1) = ((q + 1 : Nat) : Int) from by unfold wrap64; omega]
    exact ih k (q + 1) _ (by omega) (by omega) hst
theorem ones_run (n : Nat) (h2 : 2 ≤ n) (h7 : n ≤ 7) (e : Nat) : ∀ (k q : Nat), e + q = n → e + 500 ≤ k → flittinglaw12_RankSpreads.l0 k (n : Int) (List.replicate q 1 ++ List.replicate e 0) (q : Int) = some true := by
  induction e with
  | zero =>
    intro k q he hk
    obtain ⟨k, rfl⟩ : ∃ m, k = m + 1 := ⟨k - 1, by omega⟩
    obtain rfl : q = n := by omega
    simp only [flittinglaw12_RankSpreads.l0]
    rw [if_neg (by omega), if_pos (by omega), if_pos (by omega), Int.toNat_natCast, List.replicate_zero, List.append_nil]
    exact see_run q h2 h7 400 k 0 _ (by omega) (by omega) ⟨by simp, fun d hd => by simp [hd], fun d hd s hs => absurd hs (Nat.not_lt_zero s)⟩
  | succ e ih =>
    intro k q he hk
    obtain ⟨k, rfl⟩ : ∃ m, k = m + 1 := ⟨k - 1, by omega⟩
    have hs : (List.replicate q (1 : Int) ++ List.replicate (e + 1) 0).set q 1 = List.replicate (q + 1) 1 ++ List.replicate e 0 := by
      rw [List.set_append_right _ _ (by simp), List.length_replicate, Nat.sub_self, List.replicate_succ, List.set_cons_zero, List.replicate_succ', List.append_assoc]
      rfl
    simp only [flittinglaw12_RankSpreads.l0]
    rw [if_pos (by omega), if_pos (by omega), if_pos (by simp; omega), Int.toNat_natCast, hs, show wrap64 ((q : Int) + 1) = ((q + 1 : Nat) : Int) from by unfold wrap64; omega]
    exact ih k (q + 1) (by omega) (by omega)
theorem RankSpreads : flittinglaw12_RankSpreads.Pure := by
  intro a0 w0
  obtain ⟨p, hp, rfl⟩ := u8_nat w0
  refine ⟨600, ?_⟩
  have e : wrap64 ((wrap64 (Int.tmod (p : Int) 6)) + 2) = ((p % 6 + 2 : Nat) : Int) := by
    rw [show Int.tmod (p : Int) 6 = ((p % 6 : Nat) : Int) from rfl]
    unfold wrap64
    omega
  unfold flittinglaw12_RankSpreads.f
  rw [e, if_pos (by omega), if_pos (by omega), Int.toNat_natCast]
  exact ones_run (p % 6 + 2) (by omega) (by omega) (p % 6 + 2) 600 0 (by omega) (by omega)
end Go.Proofs.YtohlphmjhmcpoaaDoor.PureRankSpreads
namespace Go.Proofs.YtohlphmjhmcpoaaDoor.Pure
theorem RankSpreads : Go.Proofs.YtohlphmjhmcpoaaDoor.PRankSpreads.flittinglaw12_RankSpreads.Pure := Go.Proofs.YtohlphmjhmcpoaaDoor.PureRankSpreads.RankSpreads
end Go.Proofs.YtohlphmjhmcpoaaDoor.Pure
