/- RankNear: each one is nearer than the next one. -/
import Derived.Test.YtohlphmjhmcpoaaDoorPRankNearx0
import Derived.Test.YtohlphmjhmcpoaaDoorPRankNearx1
import Derived.Test.YtohlphmjhmcpoaaDoorPRankNearx2
import Derived.Test.YtohlphmjhmcpoaaDoorPRankNearx3
import Derived.Test.YtohlphmjhmcpoaaDoorPRankNearx4
import Derived.Test.YtohlphmjhmcpoaaDoorPRankNearx5
namespace Go.Proofs.YtohlphmjhmcpoaaDoor.PureRankNear
open Go.RowKit Go.Proofs.YtohlphmjhmcpoaaDoor.PRankNear Go.Proofs.YtohlphmjhmcpoaaDoorW.PrintWords Go.Proofs.YtohlphmjhmcpoaaDoorW.PrintLast Go.Proofs.YtohlphmjhmcpoaaDoorW.PrintMore 
set_option linter.unusedVariables false
set_option linter.unusedSimpArgs false
theorem u8_nat {a : Int} (h : (Lit.int .u8 a).wf = true) : ∃ n : Nat, n < 256 ∧ a = (n : Int) := by
  simp [Lit.wf, IntKind.min, IntKind.max, IntKind.bits, IntKind.signed] at h
  exact ⟨a.toNat, by omega, by omega⟩
theorem sumF_f (l : List Int) (h : l.length < 1099511627776) (hb : ∀ x ∈ l, 0 ≤ x ∧ x < 256) : hash_Sum.f l = some (sumF l) := by
  unfold hash_Sum.f
  rw [if_pos ⟨h, hb⟩]
theorem sumF_length (l : List Int) : (sumF l).length = 32 := by
  unfold sumF
  generalize blocks init ((sumPad l).length / 64) (sumPad l) = s
  simp [outB, St.l, enc_length]
theorem shaF_f (l : List Int) (h : l.length < 1099511627776) (hb : ∀ x ∈ l, 0 ≤ x ∧ x < 256) : flittingref01_Sha.f l = some (sumF l) := by
  unfold flittingref01_Sha.f
  rw [if_pos ⟨h, hb⟩]
def wgt (s d : Int) : Int := be ((sumF (enc (IntKind.u64.wrap s) 8 ++ enc (IntKind.u64.wrap d) 8)).take 8)
theorem two_bytes (s d : Int) : ∀ x ∈ enc (IntKind.u64.wrap s) 8 ++ enc (IntKind.u64.wrap d) 8, 0 ≤ x ∧ x < 256 := fun x hx => by
  rcases List.mem_append.1 hx with h | h <;> exact enc_bytes _ _ x h
theorem two_len (s d : Int) : (enc (IntKind.u64.wrap s) 8 ++ enc (IntKind.u64.wrap d) 8).length < 1099511627776 := by rw [List.length_append, enc_length, enc_length]; decide
theorem sum_bytes (b : List Int) : ∀ x ∈ (sumF b).take 8, 0 ≤ x ∧ x < 256 := fun x hx => by
  have h := List.mem_of_mem_take hx
  unfold sumF outB at h
  obtain ⟨y, _, h⟩ := List.mem_flatMap.1 h
  exact enc_bytes _ _ x h
theorem sum_len8 (b : List Int) : ((sumF b).take 8).length = 8 := by rw [List.length_take, sumF_length]; decide
theorem weight_f (k : Nat) (hk : 9 ≤ k) (s d : Int) : hash_Weight.f k s d = some (wgt s d) := by
  have h8 := sum_len8 (enc (IntKind.u64.wrap s) 8 ++ enc (IntKind.u64.wrap d) 8)
  unfold hash_Weight.f
  rw [show (8 : Int) = ((8 : Nat) : Int) from rfl, put_f k [] _ 8 (by decide) hk (by decide), Option.bind_some, List.nil_append, put_f k _ _ 8 (by decide) hk (by rw [enc_length]; decide), Option.bind_some, sumF_f _ (two_len s d) (two_bytes s d), Option.bind_some, sumF_length, if_pos (by decide), get_f k _ hk (by omega) (sum_bytes _), Option.bind_some]
  rfl
theorem wOf_eq (s d : Int) : wOf s d = wgt s d := by
  unfold wOf
  rw [weight_f 100 (by decide) s d]
  rfl
theorem order_f (s : Int) (l : List Int) (hl : l.length ≤ 1048576) : rank_Order.f s l = some (orderF s l) := by
  unfold rank_Order.f
  rw [if_pos ⟨hl, fun d _ => by rw [weight_f 100 (by decide)]; rfl⟩]
theorem orderF_length (s : Int) (l : List Int) : (orderF s l).length = l.length := by
  unfold orderF
  rw [List.length_map, sortN_length, nears, List.length_map]
theorem targets_no (s : Int) (l : List Int) (n : Int) (hl : l.length ≤ 1048576) (h : n < 0 ∨ ((inK l l.length).length : Int) < n) : rank_Targets.f s l n = some ([], false) := by
  unfold rank_Targets.f
  rw [if_pos hl, if_pos h]
theorem targets_f (s : Int) (l : List Int) (n : Int) (hl : l.length ≤ 1048576) (h : ¬ (n < 0 ∨ ((inK l l.length).length : Int) < n)) : rank_Targets.f s l n = some ((orderF s (inK l l.length)).take n.toNat, true) := by
  have h2 := inK_length l l.length
  unfold rank_Targets.f
  rw [if_pos hl, if_neg h, order_f s _ (by omega), Option.bind_some, if_pos (orderF_length _ _)]
theorem order_one (s x : Int) : orderF s [x] = [x] := by simp [orderF, sortN, nears]
theorem answers_t : flittinglaw12_answers.f = some true := by
  have e : inK [0, 1] ([0, 1] : List Int).length = [1] := by decide
  unfold flittinglaw12_answers.f
  rw [targets_f 5 [0, 1] 1 (by decide) (by rw [e]; decide), Option.bind_some, e, order_one, if_pos rfl]
  have h4 := orderF_length 1 [4, 4]
  rw [if_pos (by decide), if_pos (by decide), if_pos (by decide), order_f 1 [4, 4] (by decide), Option.bind_some, h4]
  rfl
/-! sorted -/
def leN (x y : Int × Int) : Bool := !(Go.Proofs.ltOf nearC) y x
theorem leN_iff (x y : Int × Int) : leN x y = true ↔ y.2 < x.2 ∨ (y.2 = x.2 ∧ x.1 ≤ y.1) := by
  unfold leN
  rw [ltN]
  simp
  omega
theorem sortN_perm (l : List (Int × Int)) : (sortN l).Perm l := List.mergeSort_perm _ _
theorem sortN_sorted (l : List (Int × Int)) : (sortN l).Pairwise fun x y => leN x y = true := by
  have h := List.pairwise_mergeSort (le := leN) (fun a b c h1 h2 => by rw [leN_iff] at *; omega) (fun a b => by
    rw [Bool.or_eq_true, leN_iff, leN_iff]
    omega) l
  exact h
theorem nears_mem {s : Int} {l : List Int} {x : Int × Int} (h : x ∈ nears s l) : x.2 = wgt s x.1 := by
  obtain ⟨d, _, rfl⟩ := List.mem_map.1 h
  exact wOf_eq s d
theorem orderF_nears (s : Int) (l : List Int) : nears s (orderF s l) = sortN (nears s l) := by
  unfold orderF
  unfold nears
  rw [List.map_map]
  conv => rhs; rw [← List.map_id (sortN (List.map (fun d => (d, wOf s d)) l))]
  apply List.map_congr_left
  intro x hx
  have := nears_mem (s := s) (l := l) ((sortN_perm (nears s l)).mem_iff.1 hx)
  show (x.1, wOf s x.1) = x
  rw [wOf_eq, ← this]
theorem orderF_sorted (s : Int) (l : List Int) : (orderF s l).Pairwise fun a b => wgt s b < wgt s a ∨ (wgt s b = wgt s a ∧ a ≤ b) := by
  have h := sortN_sorted (nears s l)
  rw [← orderF_nears] at h
  unfold nears at h
  rw [List.pairwise_map] at h
  refine h.imp fun {a b} hab => ?_
  rw [leN_iff] at hab
  simpa only [wOf_eq] using hab
theorem orderF_perm (s : Int) (l : List Int) : (orderF s l).Perm l := by
  have h := (sortN_perm (nears s l)).map (·.1)
  unfold nears at h
  rw [List.map_map] at h
  have e : List.map ((fun x : Int × Int => x.1) ∘ fun d => (d, wOf s d)) l = l := by
    conv => rhs; rw [← List.map_id l]
    rfl
  rw [e] at h
  exact h
theorem rweight_f (k : Nat) (hk : 9 ≤ k) (s d : Int) : flittingref01_Weight.f k s d = some (wgt s d) := by
  have w0 : ∀ a : Int, 0 ≤ IntKind.u64.wrap a ∧ IntKind.u64.wrap a < 18446744073709551616 := fun a => by rw [Go.IntKind.wrap_u64]; omega
  have h8 := sum_len8 (enc (IntKind.u64.wrap s) 8 ++ enc (IntKind.u64.wrap d) 8)
  unfold flittingref01_Weight.f
  rw [show (8 : Int) = ((8 : Nat) : Int) from rfl, num_f k _ 8 (by decide) hk (w0 _).1 (w0 _).2, num_f k _ 8 (by decide) hk (w0 _).1 (w0 _).2, Option.bind_some, Option.bind_some, if_pos (by rw [enc_length, enc_length]; decide), shaF_f _ (two_len s d) (two_bytes s d), Option.bind_some, sumF_length, if_pos (by decide), read_f k _ hk (by omega) (sum_bytes _), Option.bind_some]
  rfl
def upto (n : Nat) : List Int := (List.range n).map fun i : Nat => (i : Int)
theorem upto_length (n : Nat) : (upto n).length = n := by simp [upto]
theorem upto_succ (q : Nat) : upto q ++ [(q : Int)] = upto (q + 1) := by simp [upto, List.range_succ]
theorem upto_mem {n : Nat} {x : Int} : x ∈ upto n ↔ ∃ i : Nat, i < n ∧ x = (i : Int) := by
  unfold upto
  rw [List.mem_map]
  constructor
  · rintro ⟨i, hi, rfl⟩; exact ⟨i, List.mem_range.1 hi, rfl⟩
  · rintro ⟨i, hi, rfl⟩; exact ⟨i, List.mem_range.2 hi, rfl⟩
theorem order_unique (s : Int) (l l' : List Int) (hp : l'.Perm l) (hs : l'.Pairwise fun a b => wgt s b < wgt s a ∨ (wgt s b = wgt s a ∧ a ≤ b)) : l' = orderF s l :=
  List.Perm.eq_of_pairwise (fun a b _ _ h1 h2 => by omega) hs (orderF_sorted s l) (hp.trans (orderF_perm s l).symm)
theorem near_all (s : Int) (x5 l : List Int) (hl : l.length = x5.length) (hm : l.length ≤ 100) (h : l.Pairwise fun a b => wgt s b < wgt s a ∨ (wgt s b = wgt s a ∧ a ≤ b)) (d : Nat) : ∀ (k i : Nat), 1 ≤ i → d + i = max l.length 1 → d + 12 ≤ k → flittinglaw12_RankNear.l1 k s x5 l (i : Int) = some true := by
  induction d with
  | zero =>
    intro k i h1 hd hk
    obtain ⟨k, rfl⟩ : ∃ m, k = m + 1 := ⟨k - 1, by omega⟩
    simp only [flittinglaw12_RankNear.l1]
    rw [if_neg (by omega), answers_t, Option.bind_some, if_pos rfl, hl]
    simp
  | succ d ih =>
    intro k i h1 hd hk
    obtain ⟨k, rfl⟩ : ∃ m, k = m + 1 := ⟨k - 1, by omega⟩
    have hi : i < l.length := by omega
    have e1 : wrap64 ((i : Int) - 1) = ((i - 1 : Nat) : Int) := by unfold wrap64; omega
    have e2 : wrap64 ((i : Int) + 1) = ((i + 1 : Nat) : Int) := by unfold wrap64; omega
    have hp := List.pairwise_iff_getElem.1 h (i - 1) i (by omega) hi (by omega)
    have g1 : rd l ((i - 1 : Nat) : Int) = l[i - 1] := by simp [rd, show i - 1 < l.length by omega]
    have g2 : rd l (i : Int) = l[i] := by simp [rd, hi]
    simp only [flittinglaw12_RankNear.l1]
    rw [if_pos (by omega), e1, if_pos (by omega), if_pos (by omega), rweight_f k (by omega), Option.bind_some, if_pos (by omega), rweight_f k (by omega), Option.bind_some, g1, g2, if_neg (by omega), e2]
    exact ih k (i + 1) (by omega) (by omega) (by omega)
theorem near_run (s : Int) (x1 : Int) (n : Nat) (hn : n ≤ 20) (hx : wrap64 (Int.tmod x1 20) = (n : Int)) (d : Nat) : ∀ (k q : Nat), d + q = n → d + 60 ≤ k → flittinglaw12_RankNear.l0 k s x1 (upto q) (q : Int) = some true := by
  induction d with
  | zero =>
    intro k q hd hk
    obtain ⟨k, rfl⟩ : ∃ m, k = m + 1 := ⟨k - 1, by omega⟩
    have hq : (upto q).length = q := by simp [upto]
    simp only [flittinglaw12_RankNear.l0]
    rw [hx, if_neg (by omega), order_f s _ (by omega), Option.bind_some]
    exact near_all s (upto q) (orderF s (upto q)) (orderF_length _ _) (by rw [orderF_length]; omega) (orderF_sorted _ _) (max (orderF s (upto q)).length 1 - 1) k 1 (by omega) (by omega) (by rw [orderF_length]; omega)
  | succ d ih =>
    intro k q hd hk
    obtain ⟨k, rfl⟩ : ∃ m, k = m + 1 := ⟨k - 1, by omega⟩
    have hq : (upto q).length = q := by simp [upto]
    have hu : upto q ++ [(q : Int)] = upto (q + 1) := by simp [upto, List.range_succ]
    simp only [flittinglaw12_RankNear.l0]
    rw [hx, if_pos (by omega), if_pos (by omega), hu, show wrap64 ((q : Int) + 1) = ((q + 1 : Nat) : Int) from by unfold wrap64; omega]
    exact ih k (q + 1) (by omega) (by omega)
theorem RankNear : flittinglaw12_RankNear.Pure := by
  intro a0 a1 _ w1
  obtain ⟨p, hp, rfl⟩ := u8_nat w1
  refine ⟨100, ?_⟩
  have hx : wrap64 (Int.tmod (p : Int) 20) = ((p % 20 : Nat) : Int) := by
    rw [show Int.tmod (p : Int) 20 = ((p % 20 : Nat) : Int) from rfl]
    unfold wrap64
    omega
  unfold flittinglaw12_RankNear.f
  exact near_run a0 (p : Int) (p % 20) (by omega) hx (p % 20) 100 0 (by omega) (by omega)
end Go.Proofs.YtohlphmjhmcpoaaDoor.PureRankNear
namespace Go.Proofs.YtohlphmjhmcpoaaDoor.Pure
theorem RankNear : Go.Proofs.YtohlphmjhmcpoaaDoor.PRankNear.flittinglaw12_RankNear.Pure := Go.Proofs.YtohlphmjhmcpoaaDoor.PureRankNear.RankNear
end Go.Proofs.YtohlphmjhmcpoaaDoor.Pure
