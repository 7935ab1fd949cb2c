/- RankFew: when one drive more is In, of each stripe's targets at most one is another one; when one is not any more, likewise. -/
import Derived.Test.YtohlphmjhmcpoaaDoorPRankFewx0
import Derived.Test.YtohlphmjhmcpoaaDoorPRankFewx1
import Derived.Test.YtohlphmjhmcpoaaDoorPRankFewx2
import Derived.Test.YtohlphmjhmcpoaaDoorPRankFewx3
import Derived.Test.YtohlphmjhmcpoaaDoorPRankFewx4
namespace Go.Proofs.YtohlphmjhmcpoaaDoor.PureRankFew
open Go.RowKit Go.Proofs.YtohlphmjhmcpoaaDoor.PRankFew Go.Proofs.YtohlphmjhmcpoaaDoorW.PrintWords Go.Proofs.YtohlphmjhmcpoaaDoorW.PrintLast Go.Proofs.YtohlphmjhmcpoaaDoorW.PrintMore 
set_option linter.unusedVariables false
set_option linter.unusedSimpArgs false
theorem u8_nat {a : Int} (h : (Lit.int .u8 a).wf = true) : ∃ n : Nat, n < 256 ∧ a = (n : Int) := by
  simp [Lit.wf, IntKind.min, IntKind.max, IntKind.bits, IntKind.signed] at h
  exact ⟨a.toNat, by omega, by omega⟩
theorem sumF_f (l : List Int) (h : l.length < 1099511627776) (hb : ∀ x ∈ l, 0 ≤ x ∧ x < 256) : hash_Sum.f l = some (sumF l) := by
  unfold hash_Sum.f
  rw [if_pos ⟨h, hb⟩]
theorem sumF_length (l : List Int) : (sumF l).length = 32 := by
  unfold sumF
  generalize blocks init ((sumPad l).length / 64) (sumPad l) = s
  simp [outB, St.l, enc_length]
def wgt (s d : Int) : Int := be ((sumF (enc (IntKind.u64.wrap s) 8 ++ enc (IntKind.u64.wrap d) 8)).take 8)
theorem two_bytes (s d : Int) : ∀ x ∈ enc (IntKind.u64.wrap s) 8 ++ enc (IntKind.u64.wrap d) 8, 0 ≤ x ∧ x < 256 := fun x hx => by
  rcases List.mem_append.1 hx with h | h <;> exact enc_bytes _ _ x h
theorem two_len (s d : Int) : (enc (IntKind.u64.wrap s) 8 ++ enc (IntKind.u64.wrap d) 8).length < 1099511627776 := by rw [List.length_append, enc_length, enc_length]; decide
theorem sum_bytes (b : List Int) : ∀ x ∈ (sumF b).take 8, 0 ≤ x ∧ x < 256 := fun x hx => by
  have h := List.mem_of_mem_take hx
  unfold sumF outB at h
  obtain ⟨y, _, h⟩ := List.mem_flatMap.1 h
  exact enc_bytes _ _ x h
theorem sum_len8 (b : List Int) : ((sumF b).take 8).length = 8 := by rw [List.length_take, sumF_length]; decide
theorem weight_f (k : Nat) (hk : 9 ≤ k) (s d : Int) : hash_Weight.f k s d = some (wgt s d) := by
  have h8 := sum_len8 (enc (IntKind.u64.wrap s) 8 ++ enc (IntKind.u64.wrap d) 8)
  unfold hash_Weight.f
  rw [show (8 : Int) = ((8 : Nat) : Int) from rfl, put_f k [] _ 8 (by decide) hk (by decide), Option.bind_some, List.nil_append, put_f k _ _ 8 (by decide) hk (by rw [enc_length]; decide), Option.bind_some, sumF_f _ (two_len s d) (two_bytes s d), Option.bind_some, sumF_length, if_pos (by decide), get_f k _ hk (by omega) (sum_bytes _), Option.bind_some]
  rfl
theorem wOf_eq (s d : Int) : wOf s d = wgt s d := by
  unfold wOf
  rw [weight_f 100 (by decide) s d]
  rfl
theorem order_f (s : Int) (l : List Int) (hl : l.length ≤ 1048576) : rank_Order.f s l = some (orderF s l) := by
  unfold rank_Order.f
  rw [if_pos ⟨hl, fun d _ => by rw [weight_f 100 (by decide)]; rfl⟩]
theorem orderF_length (s : Int) (l : List Int) : (orderF s l).length = l.length := by
  unfold orderF
  rw [List.length_map, sortN_length, nears, List.length_map]
theorem targets_no (s : Int) (l : List Int) (n : Int) (hl : l.length ≤ 1048576) (h : n < 0 ∨ ((inK l l.length).length : Int) < n) : rank_Targets.f s l n = some ([], false) := by
  unfold rank_Targets.f
  rw [if_pos hl, if_pos h]
theorem targets_f (s : Int) (l : List Int) (n : Int) (hl : l.length ≤ 1048576) (h : ¬ (n < 0 ∨ ((inK l l.length).length : Int) < n)) : rank_Targets.f s l n = some ((orderF s (inK l l.length)).take n.toNat, true) := by
  have h2 := inK_length l l.length
  unfold rank_Targets.f
  rw [if_pos hl, if_neg h, order_f s _ (by omega), Option.bind_some, if_pos (orderF_length _ _)]
theorem order_one (s x : Int) : orderF s [x] = [x] := by simp [orderF, sortN, nears]
theorem answers_t : flittinglaw12_answers.f = some true := by
  have e : inK [0, 1] ([0, 1] : List Int).length = [1] := by decide
  unfold flittinglaw12_answers.f
  rw [targets_f 5 [0, 1] 1 (by decide) (by rw [e]; decide), Option.bind_some, e, order_one, if_pos rfl]
  have h4 := orderF_length 1 [4, 4]
  rw [if_pos (by decide), if_pos (by decide), if_pos (by decide), order_f 1 [4, 4] (by decide), Option.bind_some, h4]
  rfl
/-! sorted -/
def leN (x y : Int × Int) : Bool := !(Go.Proofs.ltOf nearC) y x
theorem leN_iff (x y : Int × Int) : leN x y = true ↔ y.2 < x.2 ∨ (y.2 = x.2 ∧ x.1 ≤ y.1) := by
  unfold leN
  rw [ltN]
  simp
  omega
theorem sortN_perm (l : List (Int × Int)) : (sortN l).Perm l := List.mergeSort_perm _ _
theorem sortN_sorted (l : List (Int × Int)) : (sortN l).Pairwise fun x y => leN x y = true := by
  have h := List.pairwise_mergeSort (le := leN) (fun a b c h1 h2 => by rw [leN_iff] at *; omega) (fun a b => by
    rw [Bool.or_eq_true, leN_iff, leN_iff]
    omega) l
  exact h
theorem nears_mem {s : Int} {l : List Int} {x : Int × Int} (h : x ∈ nears s l) : x.2 = wgt s x.1 := by
  obtain ⟨d, _, rfl⟩ := List.mem_map.1 h
  exact wOf_eq s d
theorem orderF_nears (s : Int) (l : List Int) : nears s (orderF s l) = sortN (nears s l) := by
  unfold orderF
  unfold nears
  rw [List.map_map]
  conv => rhs; rw [← List.map_id (sortN (List.map (fun d => (d, wOf s d)) l))]
  apply List.map_congr_left
  intro x hx
  have := nears_mem (s := s) (l := l) ((sortN_perm (nears s l)).mem_iff.1 hx)
  show (x.1, wOf s x.1) = x
  rw [wOf_eq, ← this]
theorem orderF_sorted (s : Int) (l : List Int) : (orderF s l).Pairwise fun a b => wgt s b < wgt s a ∨ (wgt s b = wgt s a ∧ a ≤ b) := by
  have h := sortN_sorted (nears s l)
  rw [← orderF_nears] at h
  unfold nears at h
  rw [List.pairwise_map] at h
  refine h.imp fun {a b} hab => ?_
  rw [leN_iff] at hab
  simpa only [wOf_eq] using hab
theorem orderF_perm (s : Int) (l : List Int) : (orderF s l).Perm l := by
  have h := (sortN_perm (nears s l)).map (·.1)
  unfold nears at h
  rw [List.map_map] at h
  have e : List.map ((fun x : Int × Int => x.1) ∘ fun d => (d, wOf s d)) l = l := by
    conv => rhs; rw [← List.map_id l]
    rfl
  rw [e] at h
  exact h
def upto (n : Nat) : List Int := (List.range n).map fun i : Nat => (i : Int)
theorem upto_length (n : Nat) : (upto n).length = n := by simp [upto]
theorem upto_succ (q : Nat) : upto q ++ [(q : Int)] = upto (q + 1) := by simp [upto, List.range_succ]
theorem upto_mem {n : Nat} {x : Int} : x ∈ upto n ↔ ∃ i : Nat, i < n ∧ x = (i : Int) := by
  unfold upto
  rw [List.mem_map]
  constructor
  · rintro ⟨i, hi, rfl⟩; exact ⟨i, List.mem_range.1 hi, rfl⟩
  · rintro ⟨i, hi, rfl⟩; exact ⟨i, List.mem_range.2 hi, rfl⟩
theorem order_unique (s : Int) (l l' : List Int) (hp : l'.Perm l) (hs : l'.Pairwise fun a b => wgt s b < wgt s a ∨ (wgt s b = wgt s a ∧ a ≤ b)) : l' = orderF s l :=
  List.Perm.eq_of_pairwise (fun a b _ _ h1 h2 => by omega) hs (orderF_sorted s l) (hp.trans (orderF_perm s l).symm)
theorem mem_take_erase (x t : Int) (hxt : x ≠ t) : ∀ (L : List Int) (n : Nat), x ∈ L.take n → x ∈ (L.erase t).take n := by
  intro L
  induction L with
  | nil => intro n h; simp at h
  | cons y L ih =>
    intro n h
    cases n with
    | zero => simp at h
    | succ n =>
      rw [List.take_succ_cons] at h
      by_cases hy : y = t
      · subst hy
        rw [List.erase_cons_head]
        rcases List.mem_cons.1 h with e | h
        · exact absurd e hxt
        · exact List.mem_of_mem_take (i := n) (by rw [List.take_take, Nat.min_eq_left (Nat.le_succ n)]; exact h)
      · rw [List.erase_cons_tail (by simpa using hy), List.take_succ_cons]
        rcases List.mem_cons.1 h with e | h
        · exact List.mem_cons.2 (.inl e)
        · exact List.mem_cons.2 (.inr (ih n h))
theorem inK_mem (l : List Int) (q : Nat) {x : Int} : x ∈ inK l q ↔ ∃ i : Nat, i < q ∧ l.getD i 0 = 1 ∧ x = (i : Int) := by
  induction q with
  | zero => simp [inK]
  | succ q ih =>
    unfold inK
    split
    · rename_i h
      rw [List.mem_append, ih, List.mem_singleton]
      constructor
      · rintro (⟨i, h1, h2, h3⟩ | e)
        · exact ⟨i, by omega, h2, h3⟩
        · exact ⟨q, by omega, h, e⟩
      · rintro ⟨i, h1, h2, h3⟩
        by_cases e : i = q
        · subst e; exact .inr h3
        · exact .inl ⟨i, by omega, h2, h3⟩
    · rename_i h
      rw [ih]
      constructor
      · rintro ⟨i, h1, h2, h3⟩; exact ⟨i, by omega, h2, h3⟩
      · rintro ⟨i, h1, h2, h3⟩
        have : i ≠ q := fun e => h (by rw [← e]; exact h2)
        exact ⟨i, by omega, h2, h3⟩
theorem inK_nodup (l : List Int) (q : Nat) : (inK l q).Nodup := by
  induction q with
  | zero => simp [inK]
  | succ q ih =>
    unfold inK
    split
    · rw [List.nodup_append]
      refine ⟨ih, by simp, fun a ha b hb => ?_⟩
      obtain ⟨i, hi, _, rfl⟩ := (inK_mem l q).1 ha
      have : b = (q : Int) := by simpa using hb
      omega
    · exact ih
theorem inK_erase (l : List Int) (t : Nat) (ht : t < l.length) (q : Nat) : (inK (l.set t 1) q).erase (t : Int) = inK (l.set t 2) q := by
  have hg : ∀ (v : Int) (i : Nat), (l.set t v).getD i 0 = if i = t then v else l.getD i 0 := fun v i => by
    rw [List.getD_eq_getElem?_getD, List.getElem?_set]
    by_cases e : i = t
    · subst e
      rw [if_pos rfl, if_pos rfl, if_pos ht]
      rfl
    · rw [if_neg (fun h => e h.symm), if_neg e, List.getD_eq_getElem?_getD]
  induction q with
  | zero => rfl
  | succ q ih =>
    unfold inK
    rw [hg, hg]
    by_cases e : q = t
    · subst e
      have hn : ¬ ((q : Nat) : Int) ∈ inK (l.set q 1) q := fun h => by
        obtain ⟨i, hi, _, e⟩ := (inK_mem _ _).1 h
        omega
      rw [if_pos rfl, if_pos rfl, if_pos rfl, if_neg (by decide), List.erase_append_right _ hn, ← ih, List.erase_of_not_mem hn]
      simp
    · rw [if_neg e, if_neg e]
      by_cases h1 : l.getD q 0 = 1
      · rw [if_pos h1, if_pos h1, ← ih]
        by_cases hm : ((t : Nat) : Int) ∈ inK (l.set t 1) q
        · rw [List.erase_append_left _ hm]
        · rw [List.erase_append_right _ hm, List.erase_of_not_mem hm, List.erase_of_not_mem (by simp; omega)]
      · rw [if_neg h1, if_neg h1, ih]
theorem order_erase (s : Int) (l : List Int) (t : Int) : (orderF s l).erase t = orderF s (l.erase t) :=
  order_unique s (l.erase t) _ ((orderF_perm s l).erase t) ((orderF_sorted s l).erase t)
theorem order_nodup (s : Int) (l : List Int) (h : l.Nodup) : (orderF s l).Nodup := (orderF_perm s l).nodup_iff.2 h
theorem few_in (t : Int) (a b : List Int) (yes : Bool) (hb : b.length ≤ 20) (x16 : Int) (i : Nat) (hi : i < a.length) (d : Nat) : ∀ (k j : Nat) (has : Bool), d + j = b.length → d + 1 ≤ k → has = decide (a.getD i 0 ∈ b.take j) →
    flittinglaw12_RankFew.l1 k t a yes b x16 (i : Int) has (j : Int) = flittinglaw12_RankFew.l1 (k - d) t a yes b x16 (i : Int) (decide (a.getD i 0 ∈ b)) (b.length : Int) := by
  induction d with
  | zero =>
    intro k j has hd hk hh
    obtain rfl : j = b.length := by omega
    rw [List.take_of_length_le (Nat.le_refl _)] at hh
    rw [hh]
    rfl
  | succ d ih =>
    intro k j has hd hk hh
    obtain ⟨k, rfl⟩ : ∃ m, k = m + 1 := ⟨k - 1, by omega⟩
    have hj : j < b.length := by omega
    have ew : wrap64 ((j : Int) + 1) = ((j + 1 : Nat) : Int) := by unfold wrap64; omega
    have e1 : rd a (i : Int) = a.getD i 0 := by simp [rd]
    have e2 : rd b (j : Int) = b[j] := by simp [rd, hj]
    have htk : b.take (j + 1) = b.take j ++ [b[j]] := List.take_succ_eq_append_getElem hj
    rw [show k + 1 - (d + 1) = k - d by omega]
    simp only [flittinglaw12_RankFew.l1]
    rw [if_pos (by omega)]
    cases hc : has with
    | true =>
      rw [if_pos rfl, ew]
      refine ih k (j + 1) true (by omega) (by omega) ?_
      rw [hc] at hh
      have := of_decide_eq_true hh.symm
      rw [htk, decide_eq_true (List.mem_append.2 (.inl this))]
    | false =>
      rw [if_neg (by decide), if_pos (by omega), if_pos (by omega), if_pos (by omega), ew, e1, e2]
      refine ih k (j + 1) _ (by omega) (by omega) ?_
      rw [hc] at hh
      have hno := of_decide_eq_false hh.symm
      rw [htk]
      by_cases e : a.getD i 0 = b[j]
      · rw [decide_eq_true (List.mem_append.2 (.inr (by rw [e]; simp)))]
        simpa using e
      · rw [decide_eq_false (fun h => (List.mem_append.1 h).elim hno (fun h => e (by simpa using h)))]
        simpa using e
section
variable (t : Int) (a b : List Int) (yes : Bool) (hyes : yes = true) (ha : a.length ≤ 20) (hb : b.length ≤ 20) (hmem : ∀ x ∈ a, x ≠ t → x ∈ b) (hnd : a.Nodup)
include hyes ha hb hmem hnd
theorem few_run (d : Nat) : ∀ (k i : Nat) (o : Int), d + i = a.length → d * 30 + 5 ≤ k → 0 ≤ o → o ≤ 1 → (o = 1 → t ∈ a.take i) →
    flittinglaw12_RankFew.l0 k t a yes b o (i : Int) = some true := by
  induction d with
  | zero =>
    intro k i o hd hk h0 h1 ho
    obtain ⟨k, rfl⟩ : ∃ m, k = m + 1 := ⟨k - 1, by omega⟩
    simp only [flittinglaw12_RankFew.l0]
    rw [if_neg (by omega), answers_t, Option.bind_some, if_pos rfl, if_pos hyes, decide_eq_true h1]
  | succ d ih =>
    intro k i o hd hk h0 h1 ho
    obtain ⟨k, rfl⟩ : ∃ m, k = m + 1 := ⟨k - 1, by omega⟩
    have hi : i < a.length := by omega
    have h := few_in t a b yes hb o i hi b.length k 0 false (by omega) (by omega) (by simp)
    simp only [flittinglaw12_RankFew.l0]
    rw [if_pos (by omega)]
    refine h.trans ?_
    obtain ⟨K, hK⟩ : ∃ K, k - b.length = K + 1 := ⟨k - b.length - 1, by omega⟩
    have ew : wrap64 ((i : Int) + 1) = ((i + 1 : Nat) : Int) := by unfold wrap64; omega
    have e1 : rd a (i : Int) = a.getD i 0 := by simp [rd]
    have eg : a.getD i 0 = a[i] := by simp [hi]
    have htk : a.take (i + 1) = a.take i ++ [a[i]] := List.take_succ_eq_append_getElem hi
    rw [hK]
    simp only [flittinglaw12_RankFew.l1]
    rw [if_neg (by omega)]
    by_cases hm : a.getD i 0 ∈ b
    · rw [decide_eq_true hm, if_pos rfl, ew]
      exact ih K (i + 1) o (by omega) (by omega) h0 h1 (fun e => by rw [htk]; exact List.mem_append.2 (.inl (ho e)))
    · have het : a.getD i 0 = t := by
        by_cases e : a.getD i 0 = t
        · exact e
        · exact absurd (hmem _ (by rw [eg]; exact List.getElem_mem hi) e) hm
      have ho0 : o ≠ 1 := fun e => by
        have hmt := ho e
        obtain ⟨j, hj, hjt⟩ := List.getElem_of_mem hmt
        rw [List.length_take] at hj
        rw [List.getElem_take] at hjt
        have hne := (List.nodup_iff_pairwise_ne.1 hnd)
        have := List.pairwise_iff_getElem.1 hne j i (by omega) hi (by omega)
        exact this (by rw [hjt, ← eg, het])
      rw [decide_eq_false hm, if_neg (by decide), if_pos (by omega), if_pos (by omega), e1, if_pos het, ew, show wrap64 (o + 1) = o + 1 from by unfold wrap64; omega]
      exact ih K (i + 1) (o + 1) (by omega) (by omega) (by omega) (by omega) (fun _ => by rw [htk, ← eg, het]; simp)
end
theorem RankFew : flittinglaw12_RankFew.Pure := by
  intro a0 l1 a2 a3 _ _ _ _ w2 w3
  obtain ⟨p, hp, rfl⟩ := u8_nat w2
  obtain ⟨q, hq, rfl⟩ := u8_nat w3
  refine ⟨1000, ?_⟩
  have hyes : flittinglaw12_RankFew.j0 1000 a0 l1 (p : Int) (q : Int) true = some true := by
    simp only [flittinglaw12_RankFew.j0]
    rw [if_pos trivial, answers_t, Option.bind_some]
  unfold flittinglaw12_RankFew.f
  by_cases h0 : (l1.length : Int) = 0
  · rw [if_pos h0, hyes]
  rw [if_neg h0]
  by_cases h20 : (l1.length : Int) > 20
  · rw [decide_eq_true h20, hyes]
  rw [decide_eq_false h20]
  clear hyes
  have hwp : wrap64 (p : Int) = (p : Int) := by unfold wrap64; omega
  have htm : Int.tmod (p : Int) (l1.length : Int) = ((p % l1.length : Nat) : Int) := rfl
  have htl : p % l1.length < l1.length := Nat.mod_lt _ (by omega)
  have hn8 : wrap64 (Int.tmod (q : Int) 8) = ((q % 8 : Nat) : Int) := by
    rw [show Int.tmod (q : Int) 8 = ((q % 8 : Nat) : Int) from rfl]
    unfold wrap64
    omega
  simp only [flittinglaw12_RankFew.j0]
  rw [if_neg (by decide), if_neg h0, Option.bind_some, if_pos (by simp; omega), Option.bind_some, Option.bind_some, if_pos (by simp; omega), Option.bind_some, hwp, htm, List.nil_append, if_pos (by omega), if_pos (by omega), if_pos (by omega), Int.toNat_natCast, hn8]
  generalize p % l1.length = t at *
  generalize q % 8 = n at *
  have e1 := inK_erase l1 t htl l1.length
  have hmem1 : ((t : Nat) : Int) ∈ inK (l1.set t 1) l1.length := (inK_mem _ _).2 ⟨t, htl, by simp [htl], rfl⟩
  have hlen := List.length_erase_of_mem hmem1
  rw [e1] at hlen
  have hle1 := inK_length (l1.set t 1) l1.length
  have hle2 := inK_length (l1.set t 2) l1.length
  have hpos : 0 < (inK (l1.set t 1) l1.length).length := List.length_pos_of_mem hmem1
  have hl1 : (l1.set t 1).length = l1.length := List.length_set ..
  have hl2 : (l1.set t 2).length = l1.length := List.length_set ..
  by_cases hb : ((inK (l1.set t 2) l1.length).length : Int) < (n : Int)
  · by_cases ha : ((inK (l1.set t 1) l1.length).length : Int) < (n : Int)
    · rw [targets_no a0 _ _ (by omega) (.inr (by rw [hl1]; exact ha)), Option.bind_some, targets_no a0 _ _ (by omega) (.inr (by rw [hl2]; exact hb)), Option.bind_some, if_neg (by decide), answers_t, Option.bind_some]
    · rw [targets_f a0 _ _ (by omega) (by rw [hl1]; omega), Option.bind_some, targets_no a0 _ _ (by omega) (.inr (by rw [hl2]; exact hb)), Option.bind_some, if_neg (by decide), answers_t, Option.bind_some]
  · rw [targets_f a0 _ _ (by omega) (by rw [hl1]; omega), Option.bind_some, targets_f a0 _ _ (by omega) (by rw [hl2]; omega), Option.bind_some, if_pos rfl, hl1, hl2, Int.toNat_natCast]
    have hoe := order_erase a0 (inK (l1.set t 1) l1.length) (t : Int)
    rw [e1] at hoe
    refine few_run (t : Int) _ _ true rfl (by rw [List.length_take, orderF_length]; omega) (by rw [List.length_take, orderF_length]; omega) (fun x hx hxt => ?_) ?_ _ 999 0 0 rfl (by rw [List.length_take, orderF_length]; omega) (by omega) (by omega) (fun e => by omega)
    · rw [← hoe]
      exact mem_take_erase x t hxt _ _ hx
    · exact (List.take_sublist _ _).nodup (order_nodup _ _ (inK_nodup _ _))
end Go.Proofs.YtohlphmjhmcpoaaDoor.PureRankFew
namespace Go.Proofs.YtohlphmjhmcpoaaDoor.Pure
theorem RankFew : Go.Proofs.YtohlphmjhmcpoaaDoor.PRankFew.flittinglaw12_RankFew.Pure := Go.Proofs.YtohlphmjhmcpoaaDoor.PureRankFew.RankFew
end Go.Proofs.YtohlphmjhmcpoaaDoor.Pure
