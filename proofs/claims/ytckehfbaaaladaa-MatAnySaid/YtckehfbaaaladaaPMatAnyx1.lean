-- Written by myprint.py (this session's own driver of the kit's print, with contracts of its own handed in).
import Derived.Test.YtckehfbaaaladaaPMatAnyx0
namespace Go.Proofs.Ytckehfbaaaladaa.PMatAny
open Go.RowKit Go.Proofs.YtckehfbaaaladaaW.PrintWords Go.Proofs.YtckehfbaaaladaaW.PrintLast Go.Proofs.YtckehfbaaaladaaW.PrintMore
attribute [local go_sem] max2_int min2_int max_two min_two max_three min_three max_four min_four   -- for this text's walks alone
set_option linter.unusedVariables false
set_option linter.unusedSimpArgs false

-- NOT PRINTED: function 24 (slices_IndexFunc_byte_byte)

-- NOT PRINTED: function 29 (slices_ContainsFunc_byte_byte)

/-! ### mat_fit: function 19, by hand -/
theorem fit1_calls (A : Option Addr) (l c B n cap m cm : Nat) (ad : Addr) (Am : Option Addr) (w : World) (hb : w.cell? ⟨B, 0, none⟩ = some (.slice (some ad) n cap)) (hn : 0 < n) (hm : w.cell? ad = some (.slice Am m cm)) :
    Calls Try.prog 30 #[.slice A l c, .pointer (some ⟨B, 0, none⟩)] w fun e w' => e = .returned (.bool (l != m)) ∧ w' = w := by
  have hm0 : w.cell? (ad.add 0) = some (.slice Am m cm) := by simpa [Addr.add] using hm
  have h0 : (0 : Int) < (n : Int) := by omega
  have he : ((l : Int) != (m : Int)) = (l != m) := by
    by_cases h : l = m
    · subst h; simp
    · have h2 : (l : Int) ≠ (m : Int) := by omega
      rw [bne_iff_ne.2 h, bne_iff_ne.2 h2]
  go_enter Try.func30, Try.ntmps30
  go_wp2
  go_ret
  exact ⟨rfl, rfl⟩
set_option maxRecDepth 100000 in
theorem idx1_calls (B n c cap m cm : Nat) (ad : Addr) (Am : Option Addr) (ls : Nat → Nat) (w : World) (hb : w.cell? ⟨B, 0, none⟩ = some (.slice (some ad) n cap)) (hn : 0 < n) (hn2 : n ≤ 9223372036854775807) (hm : w.cell? ad = some (.slice Am m cm))
    (hr : ∀ i, i < n → ∃ Ai ci, w.cell? (ad.add i) = some (.slice Ai (ls i) ci)) :
    Calls Try.prog 24 #[.slice (some ad) n c, .func (.func 30) #[] #[.pointer (some ⟨B, 0, none⟩)]] w fun e w' => ∃ j : Int, e = .returned (.int .i64 j) ∧ w' = w ∧ ((j = -1 ∧ ∀ i, i < n → ls i = m) ∨ ∃ i : Nat, j = i ∧ i < n ∧ ls i ≠ m) := by
  have HB := Aside0.mk hb
  have HM := Aside0.mk hm
  have HR := Aside0.mk hr
  clear hb hm hr
  go_enter Try.func24, Try.ntmps24
  go_wp2
  go_loopw [8] (fun i wr => ∃ k : Nat, k ≤ n ∧ i = .int .i64 k ∧ wr = w ∧ Aside0 (∀ i, i < k → ls i = m)) (fun i _ => n - (intOf i).toNat)
  case atStart => exact ⟨0, Nat.zero_le _, rfl, rfl, ⟨fun i hi => absurd hi (Nat.not_lt_zero i)⟩⟩
  case round =>
    obtain ⟨k, hk, rfl, rfl, hall⟩ := hrel
    by_cases hlt : k < n
    · obtain ⟨Ai, ci, hc⟩ := HR.out k hlt
      have hd : decide (k < n) = true := decide_eq_true hlt
      by_cases hkm : ls k = m
      · have hb : (ls k != m) = false := by simp [hkm]
        go_wp2_with (go_at_call 30; refine (fit1_calls _ _ _ B n cap m cm ad Am _ HB.out hn HM.out).mono ?_; rintro e w' ⟨rfl, rfl⟩)
        go_roundw
        case rel => exact ⟨k + 1, by omega, by go_num, by first | exact trivial | rfl, ⟨fun i hi => by by_cases h : i = k; rw [h, hkm]; exact hall.out i (by omega)⟩⟩
        case measure => simp [intOf]; omega
      · have hb : (ls k != m) = true := by simp [hkm]
        go_wp2_with (go_at_call 30; refine (fit1_calls _ _ _ B n cap m cm ad Am _ HB.out hn HM.out).mono ?_; rintro e w' ⟨rfl, rfl⟩)
        go_ret
        exact ⟨_, rfl, rfl, .inr ⟨k, rfl, hlt, hkm⟩⟩
    · obtain rfl : k = n := by omega
      have hd : decide (k < k) = false := decide_eq_false (Nat.lt_irrefl k)
      go_wp2
      go_ret
      exact ⟨-1, rfl, rfl, .inl ⟨rfl, hall.out⟩⟩
theorem cont1_calls (B n c cap m cm : Nat) (ad : Addr) (Am : Option Addr) (ls : Nat → Nat) (w : World) (hb : w.cell? ⟨B, 0, none⟩ = some (.slice (some ad) n cap)) (hn : 0 < n) (hn2 : n ≤ 9223372036854775807) (hm : w.cell? ad = some (.slice Am m cm))
    (hr : ∀ i, i < n → ∃ Ai ci, w.cell? (ad.add i) = some (.slice Ai (ls i) ci)) :
    Calls Try.prog 29 #[.slice (some ad) n c, .func (.func 30) #[] #[.pointer (some ⟨B, 0, none⟩)]] w fun e w' => ∃ b : Bool, e = .returned (.bool b) ∧ w' = w ∧ ((b = false ∧ ∀ i, i < n → ls i = m) ∨ (b = true ∧ ∃ i : Nat, i < n ∧ ls i ≠ m)) := by
  have H := Aside0.mk (idx1_calls B n c cap m cm ad Am ls w hb hn hn2 hm hr)
  clear hb hm hr
  go_enter Try.func29, Try.ntmps29
  go_wp2_with (go_at_call 24; refine H.out.mono ?_; rintro e w' ⟨j, rfl, rfl, hj⟩)
  go_ret
  refine ⟨_, rfl, rfl, ?_⟩
  rcases hj with ⟨rfl, hall⟩ | ⟨i, rfl, hi, hne⟩
  · exact .inl ⟨by decide, hall⟩
  · exact .inr ⟨decide_eq_true (by omega), i, hi, hne⟩
def fitB (l : List (List Int)) : Bool := match l with
  | [] => false
  | r :: s => s.all fun x => x.length == r.length
theorem fitB_true {l : List (List Int)} (hn : 0 < l.length) (h : ∀ i, i < l.length → (l.getD i []).length = (l.getD 0 []).length) : fitB l = true := by
  cases l with
  | nil => simp at hn
  | cons r s =>
    simp only [fitB, List.all_eq_true, beq_iff_eq]
    intro x hx
    obtain ⟨i, hi, rfl⟩ := List.getElem_of_mem hx
    have := h (i + 1) (by simpa using hi)
    simpa [List.getD_eq_getElem?_getD, hi] using this
theorem fitB_false {l : List (List Int)} {i : Nat} (hi : i < l.length) (h : (l.getD i []).length ≠ (l.getD 0 []).length) : fitB l = false := by
  cases l with
  | nil => simp at hi
  | cons r s =>
    rw [Bool.eq_false_iff]
    intro hall
    simp only [fitB, List.all_eq_true, beq_iff_eq] at hall
    apply h
    cases i with
    | zero => rfl
    | succ i =>
      have hi' : i < s.length := by simpa using hi
      have := hall s[i] (List.getElem_mem hi')
      simpa [List.getD_eq_getElem?_getD, hi'] using this
def mat_fit.f (l0 : List (List Int)) : Option Bool := some (fitB l0)
set_option maxRecDepth 100000 in
theorem mat_fit.calls (A0 : Option Addr) (c0 : Nat) (l0 : List (List Int)) (r : Bool) (w : World) (hr0 : Kd.C (Kd.slice 5 (Kd.int .u8)) w A0 l0.length l0) (hc0 : l0.length ≤ c0) (h : mat_fit.f l0 = some r) :
    Calls Try.prog 19 #[.slice A0 l0.length c0] w fun e w' => e = .returned (.bool r) ∧ Below w.heap.size w w' := by
  obtain rfl := Option.some.inj h
  clear h
  by_cases hn : l0.length = 0
  · obtain rfl : l0 = [] := List.eq_nil_of_length_eq_zero hn
    clear hr0
    go_enter Try.func19, Try.ntmps19
    go_wp2_with fail
    go_ret
    exact ⟨rfl, (Below.refl _ _).alloc (Nat.le_refl _) _⟩
  · have hn0 : 0 < l0.length := by omega
    have hn2 := hr0.2.1
    obtain ⟨ad, rfl, hcs⟩ := hr0.2.2 hn0
    have hcell : ∀ i, i < l0.length → ∃ Ai ci, w.cell? (ad.add i) = some (.slice Ai (l0.getD i []).length ci) := fun i hi => by
      obtain ⟨c, _, ⟨A', c', rfl, _, _⟩, hcell⟩ := hcs i _ (List.getElem?_eq_getElem hi)
      have h2 := hcell 0 _ rfl
      have e : l0.getD i [] = l0[i] := by simp [hi]
      rw [e]
      exact ⟨A', c', by simpa [Kd.slice] using h2⟩
    obtain ⟨Am, cm, hm⟩ := hcell 0 hn0
    have hm0 : w.cell? ad = some (.slice Am (l0.getD 0 []).length cm) := by simpa [Addr.add] using hm
    have hB : Below w.heap.size w (w.alloc (.cells #[.slice (some ad) l0.length c0] 22)) := (Below.refl _ _).alloc (Nat.le_refl _) _
    have hbx : (w.alloc (.cells #[.slice (some ad) l0.length c0] 22)).cell? ⟨w.heap.size, 0, none⟩ = some (.slice (some ad) l0.length c0) := blk_cell (blk_new w (.cells #[.slice (some ad) l0.length c0] 22)) 0
    have H := Aside0.mk (cont1_calls w.heap.size l0.length c0 c0 (l0.getD 0 []).length cm ad Am (fun i => (l0.getD i []).length) (w.alloc (.cells #[.slice (some ad) l0.length c0] 22)) hbx hn0 hn2 (pw_cell_below hB hm0) (fun i hi => by obtain ⟨Ai, ci, h⟩ := hcell i hi; exact ⟨Ai, ci, pw_cell_below hB h⟩))
    have HB := Aside0.mk hB
    have hd : decide (0 < l0.length) = true := decide_eq_true hn0
    clear hcs hcell hm hm0 hB hbx hr0
    go_enter Try.func19, Try.ntmps19
    go_wp2_with (go_at_call 29; refine H.out.mono ?_; rintro e w' ⟨b, rfl, rfl, hb⟩)
    go_ret
    refine ⟨?_, HB.out⟩
    rcases hb with ⟨rfl, hall⟩ | ⟨rfl, i, hi, hne⟩
    · rw [fitB_true hn0 hall]; rfl
    · rw [fitB_false hi hne]; rfl

/-! ### gf_Mul: function 31 -/
def gf_Mul.l0 : Nat → Int → Int → Int → Int → Option (Int)
  | 0, _, _, _, _ => none
  | k + 1, x0, x1, x5, x6 => if x6 < 8 then (gf_Mul.l0 k (Go.bits .xor .u8 ((x0 * 2) % 256) ((29 * ((Int.tdiv x0 128) % 256)) % 256)) (x1 / 2) (Go.bits .xor .u8 x5 ((x0 * (Go.bits .and .u8 x1 1)) % 256)) (wrap64 (x6 + 1))) else (some x5)
def gf_Mul.f (k : Nat) (a0 : Int) (a1 : Int) : Option (Int) := gf_Mul.l0 k a0 a1 0 0
theorem gf_Mul.mono_l : ∀ k, (∀ y0 y1 y2 y3, LeO (gf_Mul.l0 k y0 y1 y2 y3) (gf_Mul.l0 (k + 1) y0 y1 y2 y3))
  | 0 => fun _ _ _ _ r h => by simp [gf_Mul.l0] at h
  | k + 1 => by
    have ih0 := gf_Mul.mono_l k
    · intro y0 y1 y2 y3
      unfold gf_Mul.l0
      repeat' first
      | (with_reducible exact ih0 _ _ _ _)
      | (with_reducible exact LeO.refl _)
      | (with_reducible exact LeO.none _)
      | (with_reducible refine LeO.ite ?_ ?_)
      | (with_reducible refine LeO.bind ?_ (fun _ => ?_))
      | exact ih0 _ _ _ _
      | exact LeO.none _
      | refine LeO.ite ?_ ?_
      | refine LeO.bind ?_ (fun _ => ?_)
theorem gf_Mul.mono : ∀ a0 a1 k, LeO (gf_Mul.f k a0 a1) (gf_Mul.f (k + 1) a0 a1) := by
  intro a0 a1 k
  have ih0 := gf_Mul.mono_l k
  unfold gf_Mul.f
  repeat' first
      | (with_reducible exact ih0 _ _ _ _)
      | (with_reducible exact LeO.refl _)
      | (with_reducible exact LeO.none _)
      | (with_reducible refine LeO.ite ?_ ?_)
      | (with_reducible refine LeO.bind ?_ (fun _ => ?_))
      | exact ih0 _ _ _ _
      | exact LeO.none _
      | refine LeO.ite ?_ ?_
      | refine LeO.bind ?_ (fun _ => ?_)
set_option maxHeartbeats 8000000 in
set_option maxRecDepth 100000 in
theorem gf_Mul.calls (k : Nat) (a0 : Int) (a1 : Int) (r : Int) (w : World) (h : gf_Mul.f k a0 a1 = some r) :
    Calls Try.prog 31 #[.int .u8 a0, .int .u8 a1] w fun e w' => e = .returned (.int .u8 r) ∧ Drawn0 w w' := by
  have H : (gf_Mul.l0 k a0 a1 0 0) = some r := h
  clear h
  have H' := Aside0.mk H
  clear H
  go_enter Try.func31, Try.ntmps31
  go_wp2
  go_loopg [0, 1, 5, 6] k (fun kq v0 v1 v5 v6 w' => ∃ (x0_1 : Int) (x1_1 : Int) (x5_1 : Int) (x6_1 : Int), v0 = .int .u8 x0_1 ∧ v1 = .int .u8 x1_1 ∧ v5 = .int .u8 x5_1 ∧ v6 = .int .i64 x6_1 ∧ Aside0 (gf_Mul.l0 kq x0_1 x1_1 x5_1 x6_1 = some r) ∧ Aside0 (kq ≤ k) ∧ Drawn0 w w')
  case atStart => exact ⟨(a0), (a1), (0), (0), (by first | rfl | (simp; done) | (simp [*]; done)), (by first | rfl | (simp; done) | (simp [*]; done)), (by first | rfl | (simp; done) | (simp [*]; done)), (by first | rfl | (simp; done) | (simp [*]; done)), H', ⟨Nat.le_refl _⟩, by repeat (first | exact Drawn0.refl _ | apply Drawn0.step)⟩
  case round =>
    clear H'
    try clear p2
    obtain ⟨x0_1, x1_1, x5_1, x6_1, rfl, rfl, rfl, rfl, HA, HK1, ⟨m1, rfl⟩⟩ := hrel
    cases gk with
    | zero => exact absurd HA.out (by simp [gf_Mul.l0])
    | succ k1 =>
      have H := HA.out
      clear HA
      simp only [gf_Mul.l0] at H
      by_cases c3 : x6_1 < 8
      · rw [if_pos c3] at H
        have c3b0 : decide (x6_1 < 8) = true := decide_eq_true c3
        clear c3
        have H' := Aside0.mk H
        clear H
        go_wp2
        go_roundg k1
        case measure => have := HK1.out; omega
        case rel => exact ⟨(Go.bits .xor .u8 ((x0_1 * 2) % 256) ((29 * ((Int.tdiv x0_1 128) % 256)) % 256)), (x1_1 / 2), (Go.bits .xor .u8 x5_1 ((x0_1 * (Go.bits .and .u8 x1_1 1)) % 256)), (wrap64 (x6_1 + 1)), (by first | rfl | (simp; done) | (simp [*]; done)), (by first | rfl | (simp; done) | (simp [*]; done)), (by first | rfl | (simp; done) | (simp [*]; done)), (by first | rfl | (simp; done) | (simp [*]; done)), H', ⟨by have := HK1.out; omega⟩, by repeat (first | exact Drawn0.refl _ | apply Drawn0.step)⟩
      · rw [if_neg c3] at H
        have c3b0 : decide (x6_1 < 8) = false := decide_eq_false c3
        clear c3
        obtain rfl := Option.some.inj H
        go_wp2
        go_ret
        exact ⟨by first | rfl | (simp; done) | (simp [*]; done), by repeat (first | exact Drawn0.refl _ | apply Drawn0.step)⟩

/-! ### mat_add: function 20 -/
def mat_add.l0 : Nat → List Int → Int → List Int → Int → Int → Option (List Int)
  | 0, _, _, _, _, _ => none
  | k + 1, x0, x2, x8, x9, x10 => if x10 < x9 then (if 0 ≤ x10 then (if x10 < (x8.length : Int) then (if x10 < (x0.length : Int) then ((gf_Mul.f k x2 (rd x8 x10)).bind fun t103 => (mat_add.l0 k (x0.set (x10 : Int).toNat (Go.bits .xor .u8 (rd x0 x10) t103)) x2 x8 x9 (wrap64 (x10 + 1)))) else (none)) else (none)) else (none)) else (some x0)
def mat_add.f (k : Nat) (l0 : List Int) (l1 : List Int) (a2 : Int) : Option (List Int) := mat_add.l0 k l0 a2 l1 (l1.length : Int) 0
theorem mat_add.mono_l : ∀ k, (∀ y0 y1 y2 y3 y4, LeO (mat_add.l0 k y0 y1 y2 y3 y4) (mat_add.l0 (k + 1) y0 y1 y2 y3 y4))
  | 0 => fun _ _ _ _ _ r h => by simp [mat_add.l0] at h
  | k + 1 => by
    have ih0 := mat_add.mono_l k
    · intro y0 y1 y2 y3 y4
      unfold mat_add.l0
      repeat' first
      | (with_reducible exact ih0 _ _ _ _ _)
      | (with_reducible exact gf_Mul.mono _ _ _)
      | (with_reducible exact LeO.refl _)
      | (with_reducible exact LeO.none _)
      | (with_reducible refine LeO.ite ?_ ?_)
      | (with_reducible refine LeO.bind ?_ (fun _ => ?_))
      | exact ih0 _ _ _ _ _
      | exact gf_Mul.mono _ _ _
      | exact LeO.none _
      | refine LeO.ite ?_ ?_
      | refine LeO.bind ?_ (fun _ => ?_)
theorem mat_add.mono : ∀ a0 a1 a2 k, LeO (mat_add.f k a0 a1 a2) (mat_add.f (k + 1) a0 a1 a2) := by
  intro a0 a1 a2 k
  have ih0 := mat_add.mono_l k
  unfold mat_add.f
  repeat' first
      | (with_reducible exact ih0 _ _ _ _ _)
      | (with_reducible exact gf_Mul.mono _ _ _)
      | (with_reducible exact LeO.refl _)
      | (with_reducible exact LeO.none _)
      | (with_reducible refine LeO.ite ?_ ?_)
      | (with_reducible refine LeO.bind ?_ (fun _ => ?_))
      | exact ih0 _ _ _ _ _
      | exact gf_Mul.mono _ _ _
      | exact LeO.none _
      | refine LeO.ite ?_ ?_
      | refine LeO.bind ?_ (fun _ => ?_)
def mat_add.T3 : Bool × List (List Nat × List Nat) := (true, [([], []), ([], []), ([0, 1], [0, 1]), ([2], [2]), ([], []), ([], []), ([4, 5], [4, 5]), ([3, 6], [3, 6]), ([0, 1, 0, 1, 2, 3, 4, 5, 6, 7], [0, 1]), ([8, 7, 6, 0, 1, 2, 3, 4, 5, 6, 7], [7, 8])])
def mat_add.B3 : List Nat := [0, 0, 3, 7, 0, 0, 48, 127, 255, 511]
theorem mat_add.tab3 : rtab .any (opsOf Try.f20 3) = mat_add.T3 := by kernel_rfl
theorem mat_add.bits3 : waitsOk mat_add.T3.2 mat_add.B3 = true := by kernel_rfl
set_option maxHeartbeats 8000000 in
set_option maxRecDepth 100000 in
theorem mat_add.calls (k : Nat) (P0_ : Nat → Prop) (u9000_ : Value) (l0 : List Int) (A1 : Option Addr) (c1 : Nat) (l1 : List Int) (a2 : Int) (r : List Int) (w0 w : World) (hB : Below w0.heap.size w0 w) (ho0 : Kd.R (Kd.int .u8) 5 w w0.heap.size P0_ u9000_ l0) (hr1 : ∀ W_, Kept w W_ (fun k_ => P0_ k_) → Kd.C (Kd.int .u8) W_ A1 l1.length l1) (hc1 : l1.length ≤ c1) (h : mat_add.f k l0 l1 a2 = some r) :
    Calls Try.prog 20 #[u9000_, .slice A1 l1.length c1, .int .u8 a2] w fun e w' => e = .returned (.tuple #[]) ∧ Kd.R (Kd.int .u8) 5 w' w0.heap.size (fun k_ => (P0_ k_ ∨ w.heap.size ≤ k_)) u9000_ r ∧ Below w0.heap.size w0 w' ∧ Kept w w' (fun k_ => P0_ k_) := by
  have HO0 := Aside0.mk (show Kd.R (Kd.int .u8) 5 w w0.heap.size (fun k_ => (P0_ k_ ∨ w.heap.size ≤ k_)) u9000_ l0 from Kd.R_mono ho0 (fun k_ hk => (.inl hk)))
  have HR1 := Aside0.mk hr1
  have HC1 := Aside0.mk hc1
  clear hr1 hc1
  have HK := Aside0.mk (Kept.refl w (fun k_ => P0_ k_))
  have HW0 := Aside0.mk hB.size
  have HB := Aside0.mk hB
  clear hB
  have H : (mat_add.l0 k l0 a2 l1 (l1.length : Int) 0) = some r := h
  clear h
  have H' := Aside0.mk H
  clear H
  go_enter Try.func20, Try.ntmps20
  go_wp2
  go_loopg [10] k (fun kq v10 w' => ∃ (x0_1 : List Int) (x10_1 : Int), v10 = .int .i64 x10_1 ∧ Aside0 (mat_add.l0 kq x0_1 a2 l1 (l1.length : Int) x10_1 = some r) ∧ Aside0 (kq ≤ k) ∧ Aside0 (Kd.R (Kd.int .u8) 5 w' w0.heap.size (fun k_ => (P0_ k_ ∨ w.heap.size ≤ k_)) u9000_ x0_1) ∧ Aside0 (Kept w w' (fun k_ => P0_ k_)) ∧ Aside0 (Below w0.heap.size w0 w'))
  case atStart => exact ⟨(l0), (0), (by first | rfl | (simp; done) | (simp [*]; done)), H', ⟨Nat.le_refl _⟩, ⟨by (with_reducible repeat (first | apply Kd.R_alloc | apply Kd.R_drewN | apply Kd.R_drew)); exact HO0.out⟩, ⟨by repeat (first | (with_reducible first | exact HK.out | apply Kept.alloc | apply Kept.drewN | apply Kept.drew) | exact HK.out)⟩, ⟨by repeat (first | (with_reducible first | exact HB.out | apply below_alloc | apply pw_below_drewN | apply below_drew1) | exact HB.out)⟩⟩
  case round =>
    clear H'
    try clear c1
    try clear c2
    try clear p2
    obtain ⟨x0_1, x10_1, rfl, HA, HK1, HO_0, HK, HB⟩ := hrel
    cases gk with
    | zero => exact absurd HA.out (by simp [mat_add.l0])
    | succ k1 =>
      have H := HA.out
      clear HA
      simp only [mat_add.l0] at H
      by_cases c4 : x10_1 < (l1.length : Int)
      · rw [if_pos c4] at H
        have c4b0 : decide (x10_1 < (l1.length : Int)) = true := decide_eq_true c4
        clear c4
        by_cases c5 : 0 ≤ x10_1
        · rw [if_pos c5] at H
          have c5b0 : decide (0 ≤ x10_1) = true := decide_eq_true c5
          clear c5
          by_cases c6 : x10_1 < (l1.length : Int)
          · rw [if_pos c6] at H
            have c6b0 : decide (x10_1 < (l1.length : Int)) = true := decide_eq_true c6
            clear c6
            by_cases c7 : x10_1 < (x0_1.length : Int)
            · rw [if_pos c7] at H
              have c7b0 : decide (x10_1 < (x0_1.length : Int)) = true := decide_eq_true c7
              clear c7
              replace H := Option.bind_eq_some_iff.mp H
              obtain ⟨t103, A80, H⟩ := H
              replace H : (mat_add.l0 k1 (x0_1.set (x10_1 : Int).toNat (Go.bits .xor .u8 (rd x0_1 x10_1) t103)) a2 l1 (l1.length : Int) (wrap64 (x10_1 + 1))) = some r := H
              have A8 := Aside0.mk A80
              clear A80
              obtain ⟨y104, hy104⟩ : ∃ y_ : List Int, y_ = (x0_1.set (x10_1 : Int).toNat (Go.bits .xor .u8 (rd x0_1 x10_1) t103)) := ⟨_, rfl⟩
              replace H : (mat_add.l0 k1 y104 a2 l1 (l1.length : Int) (wrap64 (x10_1 + 1))) = some r := by first | (rw [hy104]; with_reducible exact H) | (have H2_ := (Option.bind_some _ _).symm.trans H; rw [hy104]; with_reducible exact H2_) | (have H2_ := (Option.bind_some _ _).symm.trans H; with_reducible exact H2_) | with_reducible exact H | (rw [hy104]; exact H) | exact H
              have Ny104 := Aside0.mk hy104
              clear hy104
              have H' := Aside0.mk H
              clear H
              have p101 : 0 ≤ (x10_1 : Int) := of_decide_eq_true (by first | (with_reducible assumption) | assumption)
              have q101 : x10_1 < (l1.length : Int) := of_decide_eq_true (by first | (with_reducible assumption) | assumption)
              obtain ⟨ad101, e101, hx101_0⟩ := Kd.at_int (Kd.C_kept_now HR1.out HK.out) x10_1 p101 q101
              cases e101
              replace p101 := eq_true p101
              replace q101 := eq_true q101
              try go_wp2
              have n0_ := Aside0.mk (Kd.R_drew HO_0.out)
              have n1_ := Aside0.mk (Kept.drew HK.out)
              have n2_ := Aside0.mk (below_drew1 HB.out)
              clear HO_0
              clear HK
              clear HB
              have HO_0 := n0_
              have HK := n1_
              have HB := n2_
              clear n0_ n1_ n2_
              obtain ⟨Ao11, co11, eo11⟩ := Kd.R_slice HO_0.out
              (first | subst eo11 | (injection eo11 with f1_ f2_ f3_; have f4_ := f1_.symm; have f5_ := f3_.symm; clear f1_ f2_ f3_; subst f4_; subst f5_))
              have p102 : 0 ≤ (x10_1 : Int) := of_decide_eq_true (by first | (with_reducible assumption) | assumption)
              have q102 : x10_1 < (x0_1.length : Int) := of_decide_eq_true (by first | (with_reducible assumption) | assumption)
              obtain ⟨ad102, e102, hx102_0⟩ := Kd.at_int (Kd.R_reads' HO_0.out).2.2 x10_1 p102 q102
              cases e102
              replace p102 := eq_true p102
              replace q102 := eq_true q102
              refine start_ (n := 10) (S := fun w' => w'.cell? (ad102.add (x10_1).toNat) = some (.int .u8 (rd x0_1 x10_1))) (ds := [9]) #[false, false, false, false, false, false, false, false, false, false] (by kernel_rfl) rfl rfl (hx102_0) (fun hHeld => ?_); refine with_tabW mat_add.tab3 mat_add.bits3 (fun HT_ HW_ => ?_)
              generalize wr.drew = w10 at HO_0 HK HB hx102_0 hHeld ⊢
              refine pure_ (i := 0) (N := some 15) (v := ?_) (a' := ?_) #[true, false, false, false, false, false, false, false, false, false] rfl rfl (any_of HT_.out (by kernel_rfl)) (fun _ _ _ h => h) (Or.inl ⟨by rfl, ?_⟩) ?_ ?_
              rotate_left
              · intro w'
                go_simp
                with_reducible rfl
              rotate_left
              · simp only [Act.put, List.setIfInBounds_toArray, List.set_cons_zero, List.set_cons_succ, i64_w, i32_w]
                rfl
              refine pure_ (i := 1) (N := some 16) (v := ?_) (a' := ?_) #[true, true, false, false, false, false, false, false, false, false] rfl rfl (any_of HT_.out (by kernel_rfl)) (fun _ _ _ h => h) (Or.inl ⟨by rfl, ?_⟩) ?_ ?_
              rotate_left
              · intro w'
                go_simp
                with_reducible rfl
              rotate_left
              · simp only [Act.put, List.setIfInBounds_toArray, List.set_cons_zero, List.set_cons_succ, i64_w, i32_w]
                rfl
              refine pure_ (i := 2) (N := some 17) (v := ?_) (a' := ?_) #[true, true, true, false, false, false, false, false, false, false] rfl rfl (any_of HT_.out (by kernel_rfl)) (fun _ _ _ h => h) (Or.inl ⟨by rfl, ?_⟩) ?_ ?_
              rotate_left
              · intro w'
                go_simp
                with_reducible rfl
              rotate_left
              · simp only [Act.put, List.setIfInBounds_toArray, List.set_cons_zero, List.set_cons_succ, i64_w, i32_w]
                rfl
              refine pure_ (i := 4) (N := some 19) (v := ?_) (a' := ?_) #[true, true, true, false, true, false, false, false, false, false] rfl rfl (any_of HT_.out (by kernel_rfl)) (fun _ _ _ h => h) (Or.inl ⟨by rfl, ?_⟩) ?_ ?_
              rotate_left
              · intro w'
                go_simp
                with_reducible rfl
              rotate_left
              · simp only [Act.put, List.setIfInBounds_toArray, List.set_cons_zero, List.set_cons_succ, i64_w, i32_w]
                rfl
              refine pure_ (i := 5) (N := some 20) (v := ?_) (a' := ?_) #[true, true, true, false, true, true, false, false, false, false] rfl rfl (any_of HT_.out (by kernel_rfl)) (fun _ _ _ h => h) (Or.inl ⟨by rfl, ?_⟩) ?_ ?_
              rotate_left
              · intro w'
                go_simp
                with_reducible rfl
              rotate_left
              · simp only [Act.put, List.setIfInBounds_toArray, List.set_cons_zero, List.set_cons_succ, i64_w, i32_w]
                rfl
              refine take_ (i := 3) (N := some 18) (v := ?_) (a' := ?_) #[true, true, true, true, true, true, false, false, false, false] rfl rfl (take_ofW HT_.out HW_.out (by kernel_rfl)) (fun _ _ _ h => h) (Or.inl ⟨by rfl, ?_⟩) hHeld ?_ ?_
              rotate_left
              · intro w' s0
                go_simp
                with_reducible rfl
              rotate_left
              · simp only [Act.put, List.setIfInBounds_toArray, List.set_cons_zero, List.set_cons_succ, i64_w, i32_w]
                rfl
              refine one_ (i := 6) (N := some 21) #[true, true, true, true, true, true, true, false, false, false] rfl rfl (one_of HT_.out (by kernel_rfl)) (by decide) (fun K hK => ?_)
              refine goes_ Try.func31 (by kernel_rfl) rfl #[.int .u8 a2, .int .u8 (rd l1 x10_1)] (by rfl) rfl rfl (by (try simp only [List.map_toArray, List.map_cons, List.map_nil]); first | done | rfl | (simp only [List.length_drop, List.length_take]; rfl)) ?_
              with_reducible refine (gf_Mul.calls k1 a2 (rd l1 x10_1) t103 _ A8.out).mono ?_
              rintro e w' ⟨rfl, ⟨nd, rfl⟩⟩
              refine ⟨_, rfl, ?_⟩
              have p9 : 0 ≤ (x10_1 : Int) := of_decide_eq_true (by first | (with_reducible assumption) | assumption)
              have q9 : (x10_1 : Int) < ((x0_1.length : Int) : Int) := of_decide_eq_true (by first | (with_reducible assumption) | assumption)
              obtain ⟨go9, co9, eo9, gb9, gl9, cl9, HG9⟩ := Kd.R_form HO_0.out (by omega)
              (first | cases eo9 | (injection eo9 with ea_ en_ ec_; (first | subst ea_ | (injection ea_ with ea_; subst ea_)); subst ec_; clear en_))
              have GB9 := Aside0.mk gb9
              have GG9 := Aside0.mk HG9
              clear gb9 gl9 HG9
              have HMgo9 := Aside0.mk (show (P0_ go9 ∨ w.heap.size ≤ go9) from (HO_0.out.1 _ rfl))
              (first | simp only [add_plain] at hx102_0 | skip)
              obtain ⟨hx9_0, hf9_0⟩ := Kd.R_celln 0 HO_0.out (x10_1 : Int) p9 q9
              replace p9 := eq_true p9
              replace q9 := eq_true q9
              have HP12 := Kd.R_putn HO_0.out (x10_1 : Int) (Go.bits .xor .u8 (rd x0_1 x10_1) t103)
              rw [← Ny104.out] at HP12
              have HQ12 := Aside0.mk HP12
              clear HP12
              refine hK.out _ _ (hHeld) (fun hHeld => ?_)
              clear hK K
              refine norm_ (a' := ?_) ?_ ?_
              rotate_left
              · show Act.put _ (some 21) _ = _
                simp only [Act.put, List.setIfInBounds_toArray, List.set_cons_zero, List.set_cons_succ, i64_w, i32_w]
                rfl
              refine pure_ (i := 7) (N := some 22) (v := ?_) (a' := ?_) #[true, true, true, true, true, true, true, true, false, false] rfl rfl (any_of HT_.out (by kernel_rfl)) (fun _ _ _ h => h) (Or.inl ⟨by rfl, ?_⟩) ?_ ?_
              rotate_left
              · intro w'
                go_simp
                with_reducible rfl
              rotate_left
              · simp only [Act.put, List.setIfInBounds_toArray, List.set_cons_zero, List.set_cons_succ, i64_w, i32_w]
                rfl
              refine pure_ (i := 8) (N := some 23) (v := ?_) (a' := ?_) #[true, true, true, true, true, true, true, true, true, false] rfl rfl (any_of HT_.out (by kernel_rfl)) (fun _ _ _ h => h) (Or.inl ⟨by rfl, ?_⟩) ?_ ?_
              rotate_left
              · intro w'
                go_simp
                with_reducible rfl
              rotate_left
              · simp only [Act.put, List.setIfInBounds_toArray, List.set_cons_zero, List.set_cons_succ, i64_w, i32_w]
                rfl
              refine last_ (i := 9) (N := none) #[true, true, true, true, true, true, true, true, true, true] rfl rfl (one_of HT_.out (by kernel_rfl)) (by decide) (fun K hK => ?_)
              refine skip_ (w1 := ?_) (by rfl) rfl ?_ ?_
              rotate_left
              · go_simp
                rfl
              refine hK.out _ _ ?_
              clear hK K
              refine done_ (done_of HT_.out (by kernel_rfl)) ?_
              try go_wp2
              go_roundg k1
              case measure => have := HK1.out; omega
              case rel => exact ⟨(y104), (wrap64 (x10_1 + 1)), (by first | rfl | (simp; done) | (simp [*]; done)), H', ⟨by have := HK1.out; omega⟩, ⟨by (with_reducible repeat (first | apply Kd.R_alloc | apply Kd.R_drewN | apply Kd.R_drew)); exact HQ12.out⟩, ⟨by repeat (first | (with_reducible first | exact HK.out | apply Kept.alloc | apply Kept.drewN | apply Kept.drew | refine Kept.setCell ?_ HMgo9.out _) | exact HK.out)⟩, ⟨by repeat (first | (with_reducible first | exact HB.out | apply below_alloc | apply pw_below_drewN | apply below_drew1 | refine below_set ?_ GB9.out) | exact HB.out)⟩⟩
            · rw [if_neg c7] at H
              exact absurd H (by simp)
          · rw [if_neg c6] at H
            exact absurd H (by simp)
        · rw [if_neg c5] at H
          exact absurd H (by simp)
      · rw [if_neg c4] at H
        have c4b0 : decide (x10_1 < (l1.length : Int)) = false := decide_eq_false c4
        clear c4
        obtain rfl := Option.some.inj H
        go_wp2
        first | go_end0 | ((try simp only [Exit.inBlock, Exit.then]); refine bodyPost_ret (results_none rfl _ _ _) rfl ?_)
        exact ⟨by first | rfl | (simp [errW_none, errW_some] <;> rfl) | (simp [*, errW_none, errW_some] <;> rfl), by (with_reducible repeat (first | apply Kd.R_alloc | apply Kd.R_drewN | apply Kd.R_drew)); exact HO_0.out, by repeat (first | (with_reducible first | exact HB.out | apply below_alloc | apply pw_below_drewN | apply below_drew1) | exact HB.out), by repeat (first | (with_reducible first | exact HK.out | apply Kept.alloc | apply Kept.drewN | apply Kept.drew) | exact HK.out)⟩

end Go.Proofs.Ytckehfbaaaladaa.PMatAny
