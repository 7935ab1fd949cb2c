/- RankTargets: the nearest ones of those that are In, or that there are too few. -/
import Derived.Test.YtohlphmjhmcpoaaDoorPRankTargetsx0
import Derived.Test.YtohlphmjhmcpoaaDoorPRankTargetsx1
import Derived.Test.YtohlphmjhmcpoaaDoorPRankTargetsx2
import Derived.Test.YtohlphmjhmcpoaaDoorPRankTargetsx3
import Derived.Test.YtohlphmjhmcpoaaDoorPRankTargetsx4
import Derived.Test.YtohlphmjhmcpoaaDoorPRankTargetsx5
import Derived.Test.YtohlphmjhmcpoaaDoorPRankTargetsx6
namespace Go.Proofs.YtohlphmjhmcpoaaDoor.PureRankTargets
open Go.RowKit Go.Proofs.YtohlphmjhmcpoaaDoor.PRankTargets Go.Proofs.YtohlphmjhmcpoaaDoorW.PrintWords Go.Proofs.YtohlphmjhmcpoaaDoorW.PrintLast Go.Proofs.YtohlphmjhmcpoaaDoorW.PrintMore 
set_option linter.unusedVariables false
set_option linter.unusedSimpArgs false
theorem u8_nat {a : Int} (h : (Lit.int .u8 a).wf = true) : ∃ n : Nat, n < 256 ∧ a = (n : Int) := by
  simp [Lit.wf, IntKind.min, IntKind.max, IntKind.bits, IntKind.signed] at h
  exact ⟨a.toNat, by omega, by omega⟩
theorem sumF_f (l : List Int) (h : l.length < 1099511627776) (hb : ∀ x ∈ l, 0 ≤ x ∧ x < 256) : hash_Sum.f l = some (sumF l) := by
  unfold hash_Sum.f
  rw [if_pos ⟨h, hb⟩]
theorem sumF_length (l : List Int) : (sumF l).length = 32 := by
  unfold sumF
  generalize blocks init ((sumPad l).length / 64) (sumPad l) = s
  simp [outB, St.l, enc_length]
theorem shaF_f (l : List Int) (h : l.length < 1099511627776) (hb : ∀ x ∈ l, 0 ≤ x ∧ x < 256) : flittingref01_Sha.f l = some (sumF l) := by
  unfold flittingref01_Sha.f
  rw [if_pos ⟨h, hb⟩]
def wgt (s d : Int) : Int := be ((sumF (enc (IntKind.u64.wrap s) 8 ++ enc (IntKind.u64.wrap d) 8)).take 8)
theorem two_bytes (s d : Int) : ∀ x ∈ enc (IntKind.u64.wrap s) 8 ++ enc (IntKind.u64.wrap d) 8, 0 ≤ x ∧ x < 256 := fun x hx => by
  rcases List.mem_append.1 hx with h | h <;> exact enc_bytes _ _ x h
theorem two_len (s d : Int) : (enc (IntKind.u64.wrap s) 8 ++ enc (IntKind.u64.wrap d) 8).length < 1099511627776 := by rw [List.length_append, enc_length, enc_length]; decide
theorem sum_bytes (b : List Int) : ∀ x ∈ (sumF b).take 8, 0 ≤ x ∧ x < 256 := fun x hx => by
  have h := List.mem_of_mem_take hx
  unfold sumF outB at h
  obtain ⟨y, _, h⟩ := List.mem_flatMap.1 h
  exact enc_bytes _ _ x h
theorem sum_len8 (b : List Int) : ((sumF b).take 8).length = 8 := by rw [List.length_take, sumF_length]; decide
theorem weight_f (k : Nat) (hk : 9 ≤ k) (s d : Int) : hash_Weight.f k s d = some (wgt s d) := by
  have h8 := sum_len8 (enc (IntKind.u64.wrap s) 8 ++ enc (IntKind.u64.wrap d) 8)
  unfold hash_Weight.f
  rw [show (8 : Int) = ((8 : Nat) : Int) from rfl, put_f k [] _ 8 (by decide) hk (by decide), Option.bind_some, List.nil_append, put_f k _ _ 8 (by decide) hk (by rw [enc_length]; decide), Option.bind_some, sumF_f _ (two_len s d) (two_bytes s d), Option.bind_some, sumF_length, if_pos (by decide), get_f k _ hk (by omega) (sum_bytes _), Option.bind_some]
  rfl
theorem wOf_eq (s d : Int) : wOf s d = wgt s d := by
  unfold wOf
  rw [weight_f 100 (by decide) s d]
  rfl
theorem order_f (s : Int) (l : List Int) (hl : l.length ≤ 1048576) : rank_Order.f s l = some (orderF s l) := by
  unfold rank_Order.f
  rw [if_pos ⟨hl, fun d _ => by rw [weight_f 100 (by decide)]; rfl⟩]
theorem orderF_length (s : Int) (l : List Int) : (orderF s l).length = l.length := by
  unfold orderF
  rw [List.length_map, sortN_length, nears, List.length_map]
theorem targets_no (s : Int) (l : List Int) (n : Int) (hl : l.length ≤ 1048576) (h : n < 0 ∨ ((inK l l.length).length : Int) < n) : rank_Targets.f s l n = some ([], false) := by
  unfold rank_Targets.f
  rw [if_pos hl, if_pos h]
theorem targets_f (s : Int) (l : List Int) (n : Int) (hl : l.length ≤ 1048576) (h : ¬ (n < 0 ∨ ((inK l l.length).length : Int) < n)) : rank_Targets.f s l n = some ((orderF s (inK l l.length)).take n.toNat, true) := by
  have h2 := inK_length l l.length
  unfold rank_Targets.f
  rw [if_pos hl, if_neg h, order_f s _ (by omega), Option.bind_some, if_pos (orderF_length _ _)]
theorem order_one (s x : Int) : orderF s [x] = [x] := by simp [orderF, sortN, nears]
theorem answers_t : flittinglaw12_answers.f = some true := by
  have e : inK [0, 1] ([0, 1] : List Int).length = [1] := by decide
  unfold flittinglaw12_answers.f
  rw [targets_f 5 [0, 1] 1 (by decide) (by rw [e]; decide), Option.bind_some, e, order_one, if_pos rfl]
  have h4 := orderF_length 1 [4, 4]
  rw [if_pos (by decide), if_pos (by decide), if_pos (by decide), order_f 1 [4, 4] (by decide), Option.bind_some, h4]
  rfl
/-! sorted -/
def leN (x y : Int × Int) : Bool := !(Go.Proofs.ltOf nearC) y x
theorem leN_iff (x y : Int × Int) : leN x y = true ↔ y.2 < x.2 ∨ (y.2 = x.2 ∧ x.1 ≤ y.1) := by
  unfold leN
  rw [ltN]
  simp
  omega
theorem sortN_perm (l : List (Int × Int)) : (sortN l).Perm l := List.mergeSort_perm _ _
theorem sortN_sorted (l : List (Int × Int)) : (sortN l).Pairwise fun x y => leN x y = true := by
  have h := List.pairwise_mergeSort (le := leN) (fun a b c h1 h2 => by rw [leN_iff] at *; omega) (fun a b => by
    rw [Bool.or_eq_true, leN_iff, leN_iff]
    omega) l
  exact h
theorem nears_mem {s : Int} {l : List Int} {x : Int × Int} (h : x ∈ nears s l) : x.2 = wgt s x.1 := by
  obtain ⟨d, _, rfl⟩ := List.mem_map.1 h
  exact wOf_eq s d
theorem orderF_nears (s : Int) (l : List Int) : nears s (orderF s l) = sortN (nears s l) := by
  unfold orderF
  unfold nears
  rw [List.map_map]
  conv => rhs; rw [← List.map_id (sortN (List.map (fun d => (d, wOf s d)) l))]
  apply List.map_congr_left
  intro x hx
  have := nears_mem (s := s) (l := l) ((sortN_perm (nears s l)).mem_iff.1 hx)
  show (x.1, wOf s x.1) = x
  rw [wOf_eq, ← this]
theorem orderF_sorted (s : Int) (l : List Int) : (orderF s l).Pairwise fun a b => wgt s b < wgt s a ∨ (wgt s b = wgt s a ∧ a ≤ b) := by
  have h := sortN_sorted (nears s l)
  rw [← orderF_nears] at h
  unfold nears at h
  rw [List.pairwise_map] at h
  refine h.imp fun {a b} hab => ?_
  rw [leN_iff] at hab
  simpa only [wOf_eq] using hab
theorem orderF_perm (s : Int) (l : List Int) : (orderF s l).Perm l := by
  have h := (sortN_perm (nears s l)).map (·.1)
  unfold nears at h
  rw [List.map_map] at h
  have e : List.map ((fun x : Int × Int => x.1) ∘ fun d => (d, wOf s d)) l = l := by
    conv => rhs; rw [← List.map_id l]
    rfl
  rw [e] at h
  exact h
theorem rweight_f (k : Nat) (hk : 9 ≤ k) (s d : Int) : flittingref01_Weight.f k s d = some (wgt s d) := by
  have w0 : ∀ a : Int, 0 ≤ IntKind.u64.wrap a ∧ IntKind.u64.wrap a < 18446744073709551616 := fun a => by rw [Go.IntKind.wrap_u64]; omega
  have h8 := sum_len8 (enc (IntKind.u64.wrap s) 8 ++ enc (IntKind.u64.wrap d) 8)
  unfold flittingref01_Weight.f
  rw [show (8 : Int) = ((8 : Nat) : Int) from rfl, num_f k _ 8 (by decide) hk (w0 _).1 (w0 _).2, num_f k _ 8 (by decide) hk (w0 _).1 (w0 _).2, Option.bind_some, Option.bind_some, if_pos (by rw [enc_length, enc_length]; decide), shaF_f _ (two_len s d) (two_bytes s d), Option.bind_some, sumF_length, if_pos (by decide), read_f k _ hk (by omega) (sum_bytes _), Option.bind_some]
  rfl
def upto (n : Nat) : List Int := (List.range n).map fun i : Nat => (i : Int)
theorem upto_length (n : Nat) : (upto n).length = n := by simp [upto]
theorem upto_succ (q : Nat) : upto q ++ [(q : Int)] = upto (q + 1) := by simp [upto, List.range_succ]
theorem upto_mem {n : Nat} {x : Int} : x ∈ upto n ↔ ∃ i : Nat, i < n ∧ x = (i : Int) := by
  unfold upto
  rw [List.mem_map]
  constructor
  · rintro ⟨i, hi, rfl⟩; exact ⟨i, List.mem_range.1 hi, rfl⟩
  · rintro ⟨i, hi, rfl⟩; exact ⟨i, List.mem_range.2 hi, rfl⟩
theorem order_unique (s : Int) (l l' : List Int) (hp : l'.Perm l) (hs : l'.Pairwise fun a b => wgt s b < wgt s a ∨ (wgt s b = wgt s a ∧ a ≤ b)) : l' = orderF s l :=
  List.Perm.eq_of_pairwise (fun a b _ _ h1 h2 => by omega) hs (orderF_sorted s l) (hp.trans (orderF_perm s l).symm)
def RR (W : Int → Int) (a b : Int) : Prop := W b < W a ∨ (W b = W a ∧ a ≤ b)
theorem pairs_of {W : Int → Int} {x : List Int} (h : ∀ p q, p < q → q < x.length → RR W (x.getD p 0) (x.getD q 0)) : x.Pairwise fun a b => W b < W a ∨ (W b = W a ∧ a ≤ b) := by
  rw [List.pairwise_iff_getElem]
  intro i j hi hj hij
  have := h i j hij hj
  simpa [RR, hi, hj] using this
theorem swap_get (x : List Int) (j : Nat) (hj : j + 1 < x.length) (p : Nat) : ((x.set j (x.getD (j + 1) 0)).set (j + 1) (x.getD j 0)).getD p 0 = if p = j then x.getD (j + 1) 0 else if p = j + 1 then x.getD j 0 else x.getD p 0 := by
  have hl : (x.set j (x.getD (j + 1) 0)).length = x.length := List.length_set ..
  rw [List.getD_eq_getElem?_getD, List.getElem?_set, hl]
  by_cases e : j + 1 = p
  · subst e
    rw [if_pos rfl, if_pos hj, if_neg (by omega), if_pos rfl]
    rfl
  · rw [if_neg e, List.getElem?_set]
    by_cases e2 : j = p
    · subst e2
      rw [if_pos rfl, if_pos (by omega), if_pos rfl]
      rfl
    · rw [if_neg e2, if_neg (fun h => e2 h.symm), if_neg (fun h => e h.symm), List.getD_eq_getElem?_getD]
theorem swap_perm (x : List Int) (j : Nat) (hj : j + 1 < x.length) : ((x.set j (x.getD (j + 1) 0)).set (j + 1) (x.getD j 0)).Perm x := by
  have e1 : x.getD (j + 1) 0 = x[j + 1] := by simp [hj]
  have e2 : x.getD j 0 = x[j]'(by omega) := by simp [show j < x.length by omega]
  rw [e1, e2]
  exact List.set_set_perm (by omega) hj
theorem rd_at (x : List Int) (j : Nat) : rd x (j : Int) = x.getD j 0 := by simp [rd]
theorem ord_run (s : Int) (l r : List Int) (W : Int → Int) (hW : ∀ k d, 9 ≤ k → flittingref01_Weight.f k s d = some (W d)) (hr : ∀ x : List Int, x.Perm l → (x.Pairwise fun a b => W b < W a ∨ (W b = W a ∧ a ≤ b)) → x = r) (hl : l.length ≤ 1048576) (d : Nat) : ∀ (k i : Nat) (x : List Int), d + i = l.length → d * (l.length + 3) + 20 ≤ k → x.Perm l → (∀ p q, p < q → q < i → RR W (x.getD p 0) (x.getD q 0)) →
    flittingref09_Order.l0 k s x (i : Int) = some r := by
  induction d with
  | zero =>
    intro k i x hd hk hp hs
    obtain ⟨k, rfl⟩ : ∃ m, k = m + 1 := ⟨k - 1, by omega⟩
    have hxl := hp.length_eq
    simp only [flittingref09_Order.l0]
    rw [if_neg (by omega), hr x hp (pairs_of fun p q h1 h2 => hs p q h1 (by omega))]
  | succ d ih =>
    intro k i x hd hk hp hs
    rw [Nat.succ_mul] at hk
    generalize hQ : d * (l.length + 3) = Q at hk ih
    clear hQ
    have inner : ∀ (j k : Nat) (x : List Int), j ≤ i → Q + 22 + j ≤ k → x.Perm l → (∀ p q, p < q → q ≤ i → q ≠ j → RR W (x.getD p 0) (x.getD q 0)) → flittingref09_Order.l1 k s x (i : Int) (j : Int) = some r := by
      intro j
      induction j with
      | zero =>
        intro k x hj hk hp hinv
        obtain ⟨k, rfl⟩ : ∃ m, k = m + 1 := ⟨k - 1, by omega⟩
        simp only [flittingref09_Order.l1]
        rw [if_neg (by omega), show wrap64 ((i : Int) + 1) = ((i + 1 : Nat) : Int) from by unfold wrap64; omega]
        exact ih k (i + 1) x (by omega) (by omega) hp (fun p q h1 h2 => hinv p q h1 (by omega) (by omega))
      | succ j ihj =>
        intro k x hj hk hp hinv
        obtain ⟨k, rfl⟩ : ∃ m, k = m + 1 := ⟨k - 1, by omega⟩
        have hxl := hp.length_eq
        have ej : wrap64 (((j + 1 : Nat) : Int) - 1) = (j : Int) := by unfold wrap64; omega
        have ei : wrap64 ((i : Int) + 1) = ((i + 1 : Nat) : Int) := by unfold wrap64; omega
        simp only [flittingref09_Order.l1]
        rw [if_pos (by omega), ej, if_pos (by omega), if_pos (by omega), hW k _ (by omega), Option.bind_some, if_pos (by omega), if_pos (by omega), hW k _ (by omega), Option.bind_some, rd_at, rd_at, ei, Int.toNat_natCast, Int.toNat_natCast]
        have hgo : RR W (x.getD j 0) (x.getD (j + 1) 0) → flittingref09_Order.l0 k s x ((i + 1 : Nat) : Int) = some r := fun hR => by
          refine ih k (i + 1) x (by omega) (by omega) hp (fun p q h1 h2 => ?_)
          by_cases e : q = j + 1
          · subst e
            by_cases e2 : p = j
            · rw [e2]; exact hR
            · have h3 := hinv p j (by omega) (by omega) (by omega)
              unfold RR at *
              omega
          · exact hinv p q h1 (by omega) e
        have hswap : ¬ RR W (x.getD j 0) (x.getD (j + 1) 0) → flittingref09_Order.l1 k s ((x.set j (x.getD (j + 1) 0)).set (j + 1) (x.getD j 0)) (i : Int) (j : Int) = some r := fun hR => by
          refine ihj k _ (by omega) (by omega) ((swap_perm x j (by omega)).trans hp) (fun p q h1 h2 h3 => ?_)
          rw [swap_get x j (by omega), swap_get x j (by omega)]
          by_cases q1 : q = j + 1
          · rw [if_neg h3, if_pos q1]
            by_cases p1 : p = j
            · rw [if_pos p1]
              unfold RR at *
              omega
            · rw [if_neg p1, if_neg (by omega)]
              exact hinv p j (by omega) (by omega) (by omega)
          · rw [if_neg h3, if_neg q1]
            by_cases p1 : p = j
            · rw [if_pos p1]
              exact hinv (j + 1) q (by omega) h2 q1
            · rw [if_neg p1]
              by_cases p2 : p = j + 1
              · rw [if_pos p2]
                exact hinv j q (by omega) h2 q1
              · rw [if_neg p2]
                exact hinv p q h1 h2 q1
        generalize x.getD j 0 = a at *
        generalize x.getD (j + 1) 0 = b at *
        by_cases c1 : W a > W b
        · rw [if_pos c1]
          exact hgo (.inl c1)
        · rw [if_neg c1]
          by_cases c2 : W a = W b
          · rw [if_pos c2]
            by_cases c3 : a ≤ b
            · rw [if_pos c3]
              exact hgo (.inr ⟨c2.symm, c3⟩)
            · rw [if_neg c3]
              exact hswap (fun h => by unfold RR at h; omega)
          · rw [if_neg c2]
            exact hswap (fun h => by unfold RR at h; omega)
    obtain ⟨k, rfl⟩ : ∃ m, k = m + 1 := ⟨k - 1, by omega⟩
    have hxl := hp.length_eq
    simp only [flittingref09_Order.l0]
    rw [if_pos (by omega)]
    exact inner i k x (Nat.le_refl _) (by omega) hp (fun p q h1 h2 h3 => hs p q h1 (by omega))
theorem rorder_f (k : Nat) (s : Int) (l : List Int) (hl : l.length ≤ 1048576) (hk : l.length * (l.length + 3) + 20 ≤ k) : flittingref09_Order.f k s l = some (orderF s l) := by
  unfold flittingref09_Order.f
  rw [Option.bind_some, if_pos (by simp; omega), List.nil_append]
  exact ord_run s l (orderF s l) (wgt s) (fun k d hk => rweight_f k hk s d) (fun x hp hs => order_unique s l x hp hs) hl l.length k 0 l (by omega) hk (List.Perm.refl _) (fun p q _ h => absurd h (Nat.not_lt_zero q))
theorem ints_run (d : Nat) : ∀ (k i : Nat) (a : List Int), d + i = a.length → d < k → a.length < 10000000 → flittingref09_Ints.l0 k a a (i : Int) = some true := by
  induction d with
  | zero =>
    intro k i a hd hk _
    obtain ⟨k, rfl⟩ : ∃ m, k = m + 1 := ⟨k - 1, by omega⟩
    simp only [flittingref09_Ints.l0]
    rw [if_neg (by omega)]
  | succ d ih =>
    intro k i a hd hk hm
    obtain ⟨k, rfl⟩ : ∃ m, k = m + 1 := ⟨k - 1, by omega⟩
    simp only [flittingref09_Ints.l0]
    rw [if_pos (by omega), if_pos (by omega), if_pos (by omega), if_pos trivial, show wrap64 ((i : Int) + 1) = ((i + 1 : Nat) : Int) from by unfold wrap64; omega]
    exact ih k (i + 1) a (by omega) (by omega) hm
theorem ints_f (k : Nat) (a : List Int) (hk : a.length < k) (hm : a.length < 10000000) : flittingref09_Ints.f k a a = some true := by
  unfold flittingref09_Ints.f
  rw [if_pos rfl]
  exact ints_run a.length k 0 a (by omega) hk hm
theorem rtargets_run (s : Int) (l : List Int) (n : Int) (hl : l.length ≤ 40) (d : Nat) : ∀ (k q : Nat), d + q = l.length → d + 2500 ≤ k →
    flittingref09_Targets.l0 k s l n (inK l q) (q : Int) = some (if n < 0 ∨ ((inK l l.length).length : Int) < n then ([], false) else ((orderF s (inK l l.length)).take n.toNat, true)) := by
  induction d with
  | zero =>
    intro k q hd hk
    obtain ⟨k, rfl⟩ : ∃ m, k = m + 1 := ⟨k - 1, by omega⟩
    obtain rfl : q = l.length := by omega
    have hil := inK_length l l.length
    have hq : (inK l l.length).length * ((inK l l.length).length + 3) ≤ 40 * 43 := Nat.mul_le_mul (by omega) (by omega)
    simp only [flittingref09_Targets.l0]
    rw [if_neg (by omega)]
    by_cases h0 : n < 0
    · rw [if_pos h0, if_pos (.inl h0)]
    · rw [if_neg h0]
      by_cases h1 : ((inK l l.length).length : Int) < n
      · rw [if_pos (by omega), if_pos (.inr h1)]
      · rw [if_neg (by omega), if_neg (fun h => h.elim h0 h1), rorder_f k s _ (by omega) (by omega), Option.bind_some, if_pos (by omega), if_pos (by rw [orderF_length]; omega)]
  | succ d ih =>
    intro k q hd hk
    obtain ⟨k, rfl⟩ : ∃ m, k = m + 1 := ⟨k - 1, by omega⟩
    have hil := inK_length l q
    have h := ih k (q + 1) (by omega) (by omega)
    have hk2 : inK l (q + 1) = if l.getD q 0 = 1 then inK l q ++ [(q : Int)] else inK l q := rfl
    simp only [flittingref09_Targets.l0]
    rw [if_pos (by omega), if_pos (by omega), rd_at, show wrap64 ((q : Int) + 1) = ((q + 1 : Nat) : Int) from by unfold wrap64; omega]
    by_cases hx : l.getD q 0 = 1
    · rw [if_pos hx] at hk2
      rw [if_pos hx, if_pos (by omega), ← hk2]
      exact h
    · rw [if_neg hx] at hk2
      rw [if_neg hx, ← hk2]
      exact h
theorem RankTargets : flittinglaw12_RankTargets.Pure := by
  intro a0 l1 a2 _ _ _ _ _
  refine ⟨3000, ?_⟩
  unfold flittinglaw12_RankTargets.f
  by_cases h40 : (l1.length : Int) > 40
  · rw [if_pos h40, answers_t, Option.bind_some]
  have hl : l1.length ≤ 40 := by omega
  have hil := inK_length l1 l1.length
  have hr : flittingref09_Targets.f 3000 a0 l1 a2 = _ := rtargets_run a0 l1 a2 hl l1.length 3000 0 (by omega) (by omega)
  rw [if_neg h40]
  by_cases h : a2 < 0 ∨ ((inK l1 l1.length).length : Int) < a2
  · rw [if_pos h] at hr
    rw [targets_no a0 l1 a2 (by omega) h, Option.bind_some, hr, Option.bind_some, answers_t, Option.bind_some, if_pos rfl, if_pos (beq_self_eq_true _), ints_f 3000 [] (by decide) (by decide), Option.bind_some]
  · rw [if_neg h] at hr
    rw [targets_f a0 l1 a2 (by omega) h, Option.bind_some, hr, Option.bind_some, answers_t, Option.bind_some, if_pos rfl, if_pos (beq_self_eq_true _), ints_f 3000 _ (by rw [List.length_take, orderF_length]; omega) (by rw [List.length_take, orderF_length]; omega), Option.bind_some]
end Go.Proofs.YtohlphmjhmcpoaaDoor.PureRankTargets
namespace Go.Proofs.YtohlphmjhmcpoaaDoor.Pure
theorem RankTargets : Go.Proofs.YtohlphmjhmcpoaaDoor.PRankTargets.flittinglaw12_RankTargets.Pure := Go.Proofs.YtohlphmjhmcpoaaDoor.PureRankTargets.RankTargets
end Go.Proofs.YtohlphmjhmcpoaaDoor.Pure
