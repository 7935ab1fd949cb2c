-- Written by myprint.py (this session's own driver of the kit's print, with contracts of its own handed in).
import Derived.Test.YtpncaggdngijnaaPStripeJoinx0
namespace Go.Proofs.Ytpncaggdngijnaa.PStripeJoin
open Go.RowKit Go.Proofs.YtpncaggdngijnaaW.PrintWords Go.Proofs.YtpncaggdngijnaaW.PrintLast Go.Proofs.YtpncaggdngijnaaW.PrintMore
attribute [local go_sem] max2_int min2_int max_two min_two max_three min_three max_four min_four   -- for this text's walks alone
set_option linter.unusedVariables false
set_option linter.unusedSimpArgs false

/-! ### stripe_Count: function 9 -/
def stripe_Count.f (a0 : Int) (a1 : Int) : Option (Int) := if a0 < 1 then (some 0) else (if a1 < 1 then (some 0) else (if (wrap64 (a0 * 8)) = 0 then (none) else (some (wrap64 ((wrap64 (Int.tdiv (wrap64 (a1 - 1)) (wrap64 (a0 * 8)))) + 1)))))
set_option maxHeartbeats 8000000 in
set_option maxRecDepth 100000 in
theorem stripe_Count.calls (a0 : Int) (a1 : Int) (r : Int) (w : World) (h : stripe_Count.f a0 a1 = some r) :
    Calls Try.prog 9 #[.int .i64 a0, .int .i64 a1] w fun e w' => e = .returned (.int .i64 r) ∧ Drawn0 w w' := by
  have H : (if a0 < 1 then (some 0) else (if a1 < 1 then (some 0) else (if (wrap64 (a0 * 8)) = 0 then (none) else (some (wrap64 ((wrap64 (Int.tdiv (wrap64 (a1 - 1)) (wrap64 (a0 * 8)))) + 1)))))) = some r := h
  clear h
  by_cases c3 : a0 < 1
  · rw [if_pos c3] at H
    have c3b0 : decide (a0 < 1) = true := decide_eq_true c3
    clear c3
    obtain rfl := Option.some.inj H
    go_enter Try.func9, Try.ntmps9
    go_wp2
    go_ret
    exact ⟨by first | rfl | (simp; done) | (simp [*]; done), by repeat (first | exact Drawn0.refl _ | apply Drawn0.step)⟩
  · rw [if_neg c3] at H
    have c3b0 : decide (a0 < 1) = false := decide_eq_false c3
    clear c3
    by_cases c4 : a1 < 1
    · rw [if_pos c4] at H
      have c4b0 : decide (a1 < 1) = true := decide_eq_true c4
      clear c4
      obtain rfl := Option.some.inj H
      go_enter Try.func9, Try.ntmps9
      go_wp2
      go_ret
      exact ⟨by first | rfl | (simp; done) | (simp [*]; done), by repeat (first | exact Drawn0.refl _ | apply Drawn0.step)⟩
    · rw [if_neg c4] at H
      have c4b0 : decide (a1 < 1) = false := decide_eq_false c4
      clear c4
      by_cases c5 : (wrap64 (a0 * 8)) = 0
      · rw [if_pos c5] at H
        exact absurd H (by simp)
      · rw [if_neg c5] at H
        have c5b0 : ((wrap64 (a0 * 8)) == 0) = false := beq_eq_false_iff_ne.mpr c5
        have c5b1 : ((wrap64 (a0 * 8)) != 0) = true := bne_iff_ne.mpr c5
        obtain rfl := Option.some.inj H
        go_enter Try.func9, Try.ntmps9
        go_wp2
        go_ret
        exact ⟨by first | rfl | (simp; done) | (simp [*]; done), by repeat (first | exact Drawn0.refl _ | apply Drawn0.step)⟩

-- NOT PRINTED: function 16 (slices_AppendSeq_byte_byte)

-- NOT PRINTED: function 13 (slices_Collect_byte)

-- NOT PRINTED: function 14 (slices_Chunk_byte_byte)

/-! ### stripe_Split: function 10, by hand -/
attribute [local go_sem] Oper.semAt_some
/-- Chunk i of the block b, p bytes each. -/
def chE (b p : Nat) (i : Nat) : Value := .slice (some ⟨b, p * i, none⟩) p p
set_option maxRecDepth 100000 in
set_option maxHeartbeats 2000000 in
theorem chunk1_in (n : Nat) (hn : 1 ≤ n) (l Bs Bp n₀ b p N : Nat) (hp : 0 < p) (hM : p * N ≤ 1099511627776) (hBs : Bs < n₀) (hBp : Bp < n₀) (J Jx : List Nat → World → Prop)
    (hJd : ∀ pre W q, J pre W → J pre (W.drewN q))
    (hY : ∀ pre x W, J pre W → pre.length < N → YieldAt Fence.wide (n - 1) Try.prog l #[chE b p x] W fun e W' =>
      (e = .returned (.bool true) ∧ J (pre ++ [x]) W' ∧ Below n₀ W W') ∨ (e = .returned (.bool false) ∧ Jx (pre ++ [x]) W'))
    (W : World) (hcs : W.cell? ⟨Bs, 0, none⟩ = some (.slice (some ⟨b, 0, none⟩) (p * N) (p * N))) (hcp : W.cell? ⟨Bp, 0, none⟩ = some (.int .i64 p)) (h0 : J [] W) :
    CallsIn Fence.wide n Try.prog 17 #[.func (.yield l) #[] #[], .pointer (some ⟨Bs, 0, none⟩), .pointer (some ⟨Bp, 0, none⟩)] W fun e W' => (∃ v, e = .returned v) ∧
      ((∃ ys, ys = List.range N ∧ J ys W') ∨ (∃ pre, (∃ k, k ≤ N ∧ pre = List.range k) ∧ Jx pre W')) := by
  refine callsIn_of_wp Try.func17 rfl trivial ?_ rfl
  simp only [Try.ntmps17, List.size_toArray, List.length_cons, List.length_nil, Nat.reduceAdd, Nat.reduceSub, Array.replicate_succ, Array.replicate_zero, List.push_toArray, List.append_toArray, List.nil_append, List.cons_append]
  gi_wp2
  gi_loopw [4] (fun i wr => ∃ k o : Nat, k ≤ N ∧ o = p * k ∧ i = .int .i64 o ∧ J (List.range k) wr ∧ Below n₀ W wr)
    (fun i _ => p * N - (intOf i).toNat)
  case atStart => exact ⟨0, 0, Nat.zero_le _, rfl, rfl, h0, Below.refl _ _⟩
  case round =>
    obtain ⟨k, o, hk, ho, rfl, hJs, hnx⟩ := hrel
    have hcs' := (hnx.cell (p := ⟨Bs, 0, none⟩) hBs).trans hcs
    have hcp' := (hnx.cell (p := ⟨Bp, 0, none⟩) hBp).trans hcp
    by_cases hlt : k < N
    · have hoM : o + p ≤ p * N := by rw [ho, ← Nat.mul_succ]; exact Nat.mul_le_mul_left p hlt
      generalize hMM : p * N = M at *
      have HMM := Aside0.mk hMM
      have hlt' : decide (o < M) = true := decide_eq_true (by omega)
      have HO := Aside0.mk ho
      clear ho hMM
      gi_wp2
      gi_quiet (fail)
      obtain ⟨fn, tmps, assign, body, hy, hR⟩ := hY _ k (wr.drewN nq) (hJd _ _ nq hJs) (by rw [List.length_range]; exact hlt)
      unfold chE at hy
      rw [← HO.out] at hy
      gi_wp2
      refine hR.mono ?_
      rintro e W3 (⟨rfl, hJ3, hk3⟩ | ⟨rfl, hJx3⟩)
      · have hcp3 : W3.cell? ⟨Bp, 0, none⟩ = some (.int .i64 p) := (hk3.cell (p := ⟨Bp, 0, none⟩) hBp).trans hcp'
        gi_wp2
        go_roundw
        case rel => exact ⟨k + 1, o + p, by omega, by rw [HO.out, Nat.mul_succ], by simp, by rw [List.range_succ]; exact hJ3, (pw_below_drewN hnx nq).trans hk3⟩
        case measure => simp [intOf]; omega
      · gi_wp2
        refine bodyPost_ret (results_none rfl _ _ _) rfl ?_
        exact ⟨⟨_, rfl⟩, .inr ⟨_, ⟨k + 1, by omega, by rw [List.range_succ]⟩, hJx3⟩⟩
    · obtain rfl : k = N := by omega
      generalize hMM : p * k = M at *
      subst ho
      gi_wp2
      go_end0
      exact ⟨⟨_, rfl⟩, .inl ⟨_, rfl, hJs⟩⟩
theorem chunk_stops (n : Nat) (hn : 1 ≤ n) (Bs Bp b p N : Nat) (hp : 0 < p) (hM : p * N ≤ 1099511627776) (w : World) (hBs : Bs < w.heap.size) (hBp : Bp < w.heap.size)
    (hcs : w.cell? ⟨Bs, 0, none⟩ = some (.slice (some ⟨b, 0, none⟩) (p * N) (p * N))) (hcp : w.cell? ⟨Bp, 0, none⟩ = some (.int .i64 p)) :
    SeqStopsK Fence.wide n Try.prog 17 #[.pointer (some ⟨Bs, 0, none⟩), .pointer (some ⟨Bp, 0, none⟩)] (fun i : Nat => #[chE b p i]) (Below w.heap.size) (fun ys => ys = List.range N) (fun _ => True) N w := fun l J Jx W hW hJ _ hY h0 => by
  refine (chunk1_in n hn l Bs Bp w.heap.size b p N hp hM hBs hBp J Jx (fun pre W q h => hJ pre W (W.drewN q) none h ⟨rfl, rfl, rfl, Nat.le_refl _, fun _ _ _ => rfl⟩ (fun r e => by cases e)) hY W ((hW.cell (p := ⟨Bs, 0, none⟩) hBs).trans hcs) ((hW.cell (p := ⟨Bp, 0, none⟩) hBp).trans hcp) h0).mono ?_
  rintro e W' ⟨he, ⟨ys, rfl, hj⟩ | ⟨pre, _, hj⟩⟩
  · exact ⟨he, .inl ⟨_, rfl, hj⟩⟩
  · exact ⟨he, .inr ⟨_, trivial, hj⟩⟩
theorem chunk_calls (a : Option Addr) (len cap p : Nat) (hp : 0 < p) (w : World) :
    Calls Try.prog 14 #[.slice a len cap, .int .i64 p] w fun e w' => e = .returned (.func (.func 17) #[] #[.pointer (some ⟨w.heap.size, 0, none⟩), .pointer (some ⟨w.heap.size + 1, 0, none⟩)]) ∧ w' = (w.alloc (.cells #[.slice a len cap] 25)).alloc (.cells #[.int .i64 p] 3) := by
  have hd : decide (p < 1) = false := decide_eq_false (by omega)
  have hd2 : decide ((p : Int) < 1) = false := decide_eq_false (by omega)
  go_enter Try.func14, Try.ntmps14
  go_wp2
  go_ret
  exact ⟨rfl, rfl⟩
theorem infoRow : (Try.prog.info? 25).map (fun i => (i.zero, i.size, i.bytes)) = some (some (.slice none 0 0), 1, 24) := by kernel_rfl
set_option maxRecDepth 100000 in
set_option maxHeartbeats 2000000 in
theorem appendSeq_in (n : Nat) (hn : 3 ≤ n) (Bs Bp b p N : Nat) (hp : 0 < p) (hM : p * N ≤ 1099511627776) (w : World) (hBs : Bs < w.heap.size) (hBp : Bp < w.heap.size)
    (hcs : w.cell? ⟨Bs, 0, none⟩ = some (.slice (some ⟨b, 0, none⟩) (p * N) (p * N))) (hcp : w.cell? ⟨Bp, 0, none⟩ = some (.int .i64 p)) :
    CallsIn Fence.wide n Try.prog 16 #[.slice none 0 0, .func (.func 17) #[] #[.pointer (some ⟨Bs, 0, none⟩), .pointer (some ⟨Bp, 0, none⟩)]] w fun e W' =>
      ∃ v, e = .returned v ∧ W'.ownsRow w.heap.size 25 1 v N ((List.range N).map (chE b p)) ∧ Below w.heap.size w W' := by
  have h1 : 1 ≤ n := by omega
  have hN : N ≤ 1099511627776 := Nat.le_trans (Nat.le_mul_of_pos_left N hp) hM
  have hmx : N ≤ maxLen := by unfold maxLen; omega
  obtain ⟨i0, hi, hz0, hz1, hz2⟩ := info_parts infoRow
  refine callsIn_of_wp_marks Try.func16 rfl trivial ?_ rfl
  simp only [Try.ntmps16, List.size_toArray, List.length_cons, List.length_nil, Nat.reduceAdd, Nat.reduceSub, Array.replicate_succ, Array.replicate_zero, List.push_toArray, List.append_toArray, List.nil_append, List.cons_append]
  gi_wp2
  have bO := Boxed.new w 26 (.slice none 0 0)
  have hB0 : Below w.heap.size w (w.alloc (.cells #[.slice none 0 0] 26)) := (Below.refl _ w).alloc (Nat.le_refl _) _
  refine wpIn_rangeFunc_ownG rfl h1 (gf := 17) (lb := #[.pointer (some ⟨Bs, 0, none⟩), .pointer (some ⟨Bp, 0, none⟩)]) rfl trivial (enters_of Try.func17 (by kernel_rfl) rfl)
    (chunk_stops (n - 1) (by omega) Bs Bp b p N hp hM w hBs hBp hcs hcp) belowK_t (belowK_b (by simp)) hB0 (fun _ => rfl)
    (fun pre W => (∃ v, Boxed W w.heap.size 26 v ∧ W.ownsRow w.heap.size 25 1 v pre.length (pre.map (chE b p)) ∧ (v = .slice none 0 0 ↔ pre = [])) ∧ Below w.heap.size w W)
    (fun _ _ _ => False)
    (OwnFrom.and (Own.from (holdsRow_own w.heap.size w.heap.size 26 25 1 (fun pre : List Nat => pre.length) (fun pre => pre.map (chE b p)) (fun pre v => v = .slice none 0 0 ↔ pre = [])) _) (ownFrom_below (Nat.le_refl _) (by simp)))
    (fun _ _ _ _ _ hs _ _ => hs)
    ⟨⟨_, bO, World.ownsRow_nil _ _ _ _, by simp⟩, hB0⟩
    (fun x => { tmps := #[.slice none 0 0, .func (.func 17) #[] #[.pointer (some ⟨Bs, 0, none⟩), .pointer (some ⟨Bp, 0, none⟩)], .pointer (some ⟨w.heap.size, 0, none⟩), undef, .slice none 0 0, .slice (some ⟨b, p * x, none⟩) p p, .func (.func 17) #[] #[.pointer (some ⟨Bs, 0, none⟩), .pointer (some ⟨Bp, 0, none⟩)], .slice (some ⟨b, p * x, none⟩) p p, undef, undef, undef, undef, undef], defers := [] }) ?assign ?body ?done ?stop
  case assign =>
    intro l x W K hK
    gi_wp2
    exact hK
  case body =>
    rintro l pre x W ⟨⟨v, hv, hrow, hnil⟩, hB⟩ hlt
    have hc := hv.cell
    gi_wp2_with (gi_at_builtin; refine wpListIn_append_own _ rfl _ _ 26 rfl w.heap.size 25 i0 (.slice none 0 0) 1 24 Try.underlying26 hi hz0 hz1 hz2 rfl (by decide) _ _ _ rfl (hrow.alloc _) ⟨W.heap.size, 0, none⟩ 1 1 [.slice (some ⟨b, p * x, none⟩) p p] rfl rfl (cell_one_new _ _ _) (by simp [Value.oneCell']) (by omega) (by omega) (by have := hB.size; simp; omega) ?_; intro v' w1 hown' hgrow _; obtain ⟨g', cap', rfl⟩ := ownsRow_succ hown'; obtain ⟨hv1, hv2, hr2, hk2, hb2⟩ := hv.appended (by decide) hrow hB.size (Nat.le_refl _) hown' hgrow; have hc1 := hv1.cell; have hf1 := hv1.frozen)
    exact ⟨hk2.from _, hb2, ⟨_, hv2, by simpa [chE] using hr2, by simp⟩, hB.trans hb2⟩
  case done =>
    rintro D ys W hD rfl ⟨⟨v, hv, hrow, hnil⟩, hB⟩ hK
    have hc := hv.cell
    gi_wp2
    refine ⟨by simp, .inl ⟨_, _, rfl, run_takeDeferred hK, ?_⟩⟩
    refine ⟨_, results_tmp rfl _ _ _, v, rfl, ?_, hB.trans (belowK_b (w := w) (Nat.le_refl _) W D _ _ (by simp at hD; omega) hK rfl rfl)⟩
    have h2 := ownsRow_putObj hrow (.deferred none) hK rfl
    rwa [List.length_range] at h2
  case stop =>
    rintro D c pre W _ _ h _
    exact h.elim
theorem collect_calls (Bs Bp b p N : Nat) (hp : 0 < p) (hM : p * N ≤ 1099511627776) (w : World) (hBs : Bs < w.heap.size) (hBp : Bp < w.heap.size)
    (hcs : w.cell? ⟨Bs, 0, none⟩ = some (.slice (some ⟨b, 0, none⟩) (p * N) (p * N))) (hcp : w.cell? ⟨Bp, 0, none⟩ = some (.int .i64 p)) :
    Calls Try.prog 13 #[.func (.func 17) #[] #[.pointer (some ⟨Bs, 0, none⟩), .pointer (some ⟨Bp, 0, none⟩)]] w fun e W' =>
      ∃ v, e = .returned v ∧ W'.ownsRow w.heap.size 25 1 v N ((List.range N).map (chE b p)) ∧ Below w.heap.size w W' := by
  have HA := Aside0.mk ((callsIn_wide (n := 3)).1 (appendSeq_in 3 (by decide) Bs Bp b p N hp hM w hBs hBp hcs hcp))
  clear hcs hcp
  go_enter Try.func13, Try.ntmps13
  go_wp2_with (go_at_call 16; refine HA.out.mono ?_; rintro e w1 ⟨v, rfl, ho, hb⟩)
  go_ret
  exact ⟨_, rfl, ho, hb⟩
def cntN (k s : Nat) : Nat := (s - 1) / (8 * k) + 1
def fullF (k : Nat) (d : List Int) : List Int := d ++ List.replicate (8 * k * cntN k d.length - d.length) 0
def pieceF (l : List Int) (p i : Nat) : List Int := (l.drop (p * i)).take p
def splitF (k : Int) (d : List Int) : List (List Int) := if k < 1 ∨ d.length = 0 then [] else (List.range (cntN k.toNat d.length)).map (pieceF (fullF k.toNat d) (8 * k.toNat))
def stripe_Split.f (a0 : Int) (l1 : List Int) : Option (List (List Int)) := if a0 ≤ 1048576 ∧ -9223372036854775808 ≤ a0 ∧ l1.length ≤ 1048576 then some (splitF a0 l1) else none
theorem cntN_bound (k s : Nat) (hk : 1 ≤ k) (hs : 1 ≤ s) : s ≤ 8 * k * cntN k s ∧ 8 * k * cntN k s ≤ s + 8 * k := by
  unfold cntN
  have h1 := Nat.div_add_mod (s - 1) (8 * k)
  have h2 := Nat.mod_lt (s - 1) (show 8 * k > 0 by omega)
  rw [Nat.mul_add, Nat.mul_one]
  omega
theorem fullF_length (k : Nat) (d : List Int) (hk : 1 ≤ k) (hs : 1 ≤ d.length) : (fullF k d).length = 8 * k * cntN k d.length := by
  unfold fullF
  have := cntN_bound k d.length hk hs
  simp only [List.length_append, List.length_replicate]
  omega
theorem count_zero (a : Int) (n : Nat) (h : a < 1 ∨ n = 0) : stripe_Count.f a (n : Int) = some 0 := by
  unfold stripe_Count.f
  by_cases h1 : a < 1
  · rw [if_pos h1]
  · rw [if_neg h1, if_pos (by omega)]
theorem count_pos (k n : Nat) (hk : 1 ≤ k) (hk2 : k ≤ 1048576) (hn : 1 ≤ n) (hn2 : n ≤ 9223372036854775807) : stripe_Count.f (k : Int) (n : Int) = some ((cntN k n : Nat) : Int) := by
  have e1 : wrap64 ((k : Int) * 8) = ((8 * k : Nat) : Int) := by unfold wrap64; omega
  have e2 : wrap64 ((n : Int) - 1) = ((n - 1 : Nat) : Int) := by unfold wrap64; omega
  have e3 : Int.tdiv ((n - 1 : Nat) : Int) ((8 * k : Nat) : Int) = (((n - 1) / (8 * k) : Nat) : Int) := by rw [Int.tdiv_eq_ediv_of_nonneg (by omega)]; rfl
  have h4 : (n - 1) / (8 * k) ≤ n - 1 := Nat.div_le_self _ _
  unfold stripe_Count.f
  rw [if_neg (by omega), if_neg (by omega), e1, if_neg (by omega), e2, e3]
  unfold cntN
  congr 1
  generalize (n - 1) / (8 * k) = q at h4
  have e4 : wrap64 (q : Int) = q := by unfold wrap64; omega
  rw [e4]
  unfold wrap64
  omega
theorem made_bytes (n : Nat) : madeCells #[Value.int .u8 0] n = ((List.replicate n (0 : Int)).map (Value.int .u8)).toArray := by
  apply Array.ext
  · simp [madeCells]
  · intro i h1 h2
    simp [madeCells, Nat.mod_one]
theorem two_boxes (W : World) (a b : Value) (s t : TypeId) : ((W.alloc (.cells #[a] s)).alloc (.cells #[b] t)).cell? ⟨W.heap.size, 0, none⟩ = some a ∧ ((W.alloc (.cells #[a] s)).alloc (.cells #[b] t)).cell? ⟨W.heap.size + 1, 0, none⟩ = some b := by
  have h1 := ((Boxed.new W s a).alloc (.cells #[b] t)).cell
  have h2 := (Boxed.new (W.alloc (.cells #[a] s)) t b).cell
  rw [World.size_alloc] at h2
  exact ⟨h1, h2⟩
theorem splice_full (l : List Int) (M : Nat) : splice ((List.replicate M (0 : Int)).map (Value.int .u8)) 0 (l.map (Value.int .u8)) = (l ++ List.replicate (M - l.length) 0).map (Value.int .u8) := by
  simp [splice, List.drop_replicate]
theorem split_V {w' : World} {B b p N : Nat} {v : Value} {full : List Int} (hB : B ≤ b) (hN : N ≤ 9223372036854775807) (hpm : p ≤ 9223372036854775807) (ho : w'.ownsRow B 25 1 v N ((List.range N).map (chE b p))) (hf : w'.heap[b]? = some (.cells (full.map (Value.int .u8)).toArray 5 (0, 0))) (hl : full.length = p * N) :
    Kd.V (Kd.slice 5 (Kd.int .u8)) 25 w' B (fun k_ => B ≤ k_) v ((List.range N).map (pieceF full p)) := by
  rcases ho.2 with ⟨rfl, rfl⟩ | ⟨g, cap, cur, rfl, hg, hh, hn, hcap, hsz, htk⟩
  · exact Kd.V_nil _ _ _ _ _
  · refine ⟨some ⟨g, 0, none⟩, cap, by simp, by simpa using hn, fun W' hW => ?_⟩
    have hgl : g < w'.heap.size := (Array.getElem?_eq_some_iff.1 hh).1
    have hbl : b < w'.heap.size := (Array.getElem?_eq_some_iff.1 hf).1
    refine ⟨rfl, by simpa using hN, fun _ => ⟨_, rfl, fun j x hj => ?_⟩⟩
    obtain ⟨hj', hx⟩ := List.getElem?_eq_some_iff.1 hj
    have hjN : j < N := by simpa using hj'
    have hx' : pieceF full p j = x := by simpa using hx
    have hpj : p * j + p ≤ p * N := by rw [← Nat.mul_succ]; exact Nat.mul_le_mul_left p hjN
    have hxl : x.length = p := by rw [← hx']; unfold pieceF; rw [List.length_take, List.length_drop]; omega
    refine ⟨[chE b p j], rfl, ⟨some ⟨b, p * j, none⟩, p, by rw [hxl]; rfl, by omega, ?_⟩, fun i u hu => ?_⟩
    · refine Kd.C_of_reads (d := (0 : Int)) ⟨rfl, by omega, fun _ => ⟨_, rfl, fun q hq => ?_⟩⟩
      have ea : (⟨b, p * j, none⟩ : Addr).add q = ⟨b, p * j + q, none⟩ := by cases q <;> simp [Addr.add]
      rw [ea]
      have hb2 : W'.heap[b]? = some (.cells (full.map (Value.int .u8)).toArray 5 (0, 0)) := (hW b hB hbl).trans hf
      have hql : p * j + q < full.length := by omega
      simp only [World.cell?, hb2, List.getElem?_toArray, List.getElem?_map, List.getElem?_eq_getElem hql, Option.map_some]
      rw [← hx']
      unfold pieceF
      rw [List.getD_eq_getElem?_getD, List.getElem?_take, if_pos (show q < p by omega), List.getElem?_drop, List.getElem?_eq_getElem hql]
      rfl
    · have hi : i = 0 := by
        have := (List.getElem?_eq_some_iff.1 hu).1
        simpa using this
      subst hi
      obtain rfl : chE b p j = u := by simpa using hu
      have ea : (⟨g, 0, none⟩ : Addr).add (j * (Kd.slice 5 (Kd.int .u8)).sz + 0) = ⟨g, j, none⟩ := by
        have : j * (Kd.slice 5 (Kd.int .u8)).sz + 0 = j := by simp [Kd.slice]
        rw [this]
        cases j <;> simp [Addr.add]
      rw [ea]
      have hg2 : W'.heap[g]? = some (.cells cur 25 (0, 0)) := (hW g hg hgl).trans hh
      have h3 := congrArg (fun l => l[j]?) htk
      simp only [Nat.mul_one, List.getElem?_take, if_pos hjN, List.getElem?_map, List.getElem?_range hjN, Option.map_some] at h3
      simp only [World.cell?, hg2]
      rw [← h3]
      simp
set_option maxRecDepth 100000 in
set_option maxHeartbeats 2000000 in
theorem stripe_Split.calls (a0 : Int) (A1 : Option Addr) (c1 : Nat) (l1 : List Int) (r : List (List Int)) (w : World) (hr1 : Kd.C (Kd.int .u8) w A1 l1.length l1) (hc1 : l1.length ≤ c1) (h : stripe_Split.f a0 l1 = some r) :
    Calls Try.prog 10 #[.int .i64 a0, .slice A1 l1.length c1] w fun e w' => ∃ v0_ : Value, e = .returned (v0_) ∧ Kd.V (Kd.slice 5 (Kd.int .u8)) 25 w' w.heap.size (fun k_ => w.heap.size ≤ k_) v0_ r ∧ Below w.heap.size w w' := by
  unfold stripe_Split.f at h
  split at h
  case isFalse => cases h
  rename_i hh
  obtain ⟨hk2, _, hl2⟩ := hh
  have hs := Option.some.inj h
  clear h
  unfold splitF at hs
  by_cases h0 : a0 < 1 ∨ l1.length = 0
  · rw [if_pos h0] at hs
    subst hs
    have HC := Aside0.mk (count_zero a0 l1.length h0)
    clear hr1 h0
    go_enter Try.func10, Try.ntmps10
    go_wp2_with (go_at_call 9; refine (stripe_Count.calls _ _ 0 _ HC.out).mono ?_; rintro e w' ⟨rfl, ⟨nd, rfl⟩⟩)
    go_ret
    exact ⟨_, rfl, Kd.V_nil _ _ _ _ _, pw_below_drewN (Below.refl _ _) _⟩
  · rw [if_neg h0] at hs
    obtain ⟨k, rfl⟩ : ∃ k : Nat, a0 = (k : Int) := ⟨a0.toNat, by omega⟩
    rw [Int.toNat_natCast] at hs
    have hk1 : 1 ≤ k := by omega
    have hn1 : 1 ≤ l1.length := by omega
    have HC := Aside0.mk (count_pos k l1.length hk1 (by omega) hn1 (by omega))
    have hb := cntN_bound k l1.length hk1 hn1
    have hfl := fullF_length k l1 hk1 hn1
    have HFe : Aside0 (fullF k l1 = l1 ++ List.replicate (8 * k * cntN k l1.length - l1.length) 0) := ⟨rfl⟩
    have e1 : wrap64 ((k : Int) * 8) = ((8 * k : Nat) : Int) := by unfold wrap64; omega
    have hcp : 1 ≤ cntN k l1.length := by unfold cntN; exact Nat.le_add_left 1 _
    have hNM : cntN k l1.length ≤ 8 * k * cntN k l1.length := Nat.le_mul_of_pos_left _ (by omega)
    have e2 : wrap64 (((cntN k l1.length : Nat) : Int) * ((8 * k : Nat) : Int)) = ((8 * k * cntN k l1.length : Nat) : Int) := by
      have : ((cntN k l1.length : Nat) : Int) * ((8 * k : Nat) : Int) = ((8 * k * cntN k l1.length : Nat) : Int) := by rw [← Int.natCast_mul, Nat.mul_comm]
      rw [this]
      unfold wrap64
      omega
    have e3 : (k : Int) * 8 = ((8 * k : Nat) : Int) := by omega
    have e4 : ((cntN k l1.length : Nat) : Int) * ((8 * k : Nat) : Int) = ((8 * k * cntN k l1.length : Nat) : Int) := by rw [← Int.natCast_mul, Nat.mul_comm]
    generalize fullF k l1 = full at *
    generalize cntN k l1.length = N at *
    have hp0 : 0 < 8 * k := by omega
    have hpm : 8 * k ≤ 8388608 := by omega
    generalize 8 * k = p at *
    generalize hM : p * N = M at *
    have HM := Aside0.mk hM
    have HS := Aside0.mk hs
    clear hs h0
    have HFL := Aside0.mk hfl
    have hM40 : M ≤ 9437184 := by omega
    have hlM : l1.length ≤ M := hb.1
    clear hM hfl hb
    have HMB := Aside0.mk (made_bytes M)
    have HSP := Aside0.mk (splice_full l1 M)
    have HG0 : Aside0 (∀ W : World, (W.alloc (.cells (Array.replicate M (Value.int .u8 0)) 5)).heap[W.heap.size]? = some (.cells ((List.replicate M (0 : Int)).map (Value.int .u8)).toArray 5 (0, 0))) := ⟨fun W => by
      have e : ((List.replicate M (0 : Int)).map (Value.int .u8)).toArray = Array.replicate M (Value.int .u8 0) := by simp
      rw [e]
      exact blk_new _ _⟩
    have HSrc : Aside0 (∀ W' : World, Below w.heap.size w W' → 0 < (l1.map (Value.int .u8)).length → ∃ ad, A1 = some ad ∧ ∀ (j : Nat) v, (l1.map (Value.int .u8))[j]? = some v → W'.cell? (ad.add j) = some v) := ⟨fun W' hB _ => by
      obtain ⟨ad, he, hc⟩ := (Kd.reads_of_C (enc := Value.int .u8) (d := (0 : Int)) (h1 := fun _ => rfl) (Kd.C_below hr1 hB)).2.2 (by omega)
      refine ⟨ad, he, fun j v hv => ?_⟩
      obtain ⟨hj, e⟩ := List.getElem?_eq_some_iff.1 hv
      rw [List.length_map] at hj
      rw [hc j hj, ← e]
      simp [hj]⟩
    obtain ⟨i5, hi5, hz5, hs5, hb5⟩ := info_parts info5
    have hsz5 : (Try.prog.info? 5).map (·.size) = some 1 := by rw [hi5, Option.map_some, hs5]
    have hby : i5.bytes * M ≤ 281474976710656 := by rw [hb5]; omega
    have h63 : M ≤ 9223372036854775807 := by omega
    have hmin : (l1.map (Value.int .u8)).length = Nat.min l1.length M := by rw [List.length_map]; exact (Nat.min_eq_left hlM).symm
    have hone : ∀ v ∈ l1.map (Value.int .u8), v.oneCell' = true := fun v hv => by obtain ⟨x, _, rfl⟩ := List.mem_map.1 hv; rfl
    have hfit : 0 + (l1.map (Value.int .u8)).length ≤ ((List.replicate M (0 : Int)).map (Value.int .u8)).length := by simp; omega
    have HMin := Aside0.mk hmin
    have HOne := Aside0.mk hone
    have HFit := Aside0.mk hfit
    clear hr1 hmin hone hfit
    go_enter Try.func10, Try.ntmps10
    go_wp2_with (first | (go_at_call 9; refine (stripe_Count.calls _ _ N _ HC.out).mono ?_; rintro e w' ⟨rfl, ⟨nd, rfl⟩⟩) | (at_make; refine wpList_make_row _ rfl _ _ 25 rfl 5 i5 (.int .u8 0) Try.underlying25 hi5 hz5 hs5 rfl .i64 .i64 M rfl rfl hby h63 ?_; rw [HMB.out]) | ((with_reducible refine gate_builtin (b := .copy) (xs := #[.tmp 20, .tmp 21]) rfl ?_); refine wpList_copy_splice rfl (.tmp 20) (.tmp 21) 25 25 rfl 5 Try.underlying25 hsz5 (some ⟨w.heap.size, 0, none⟩) A1 M M l1.length c1 rfl rfl w.heap.size 0 ((List.replicate M (0 : Int)).map (Value.int .u8)) 5 (HG0.out (w.drewN nd)) (l1.map (Value.int .u8)) HMin.out (fun h => ⟨rfl, HSrc.out _ ((pw_below_drewN (Below.refl _ _) nd).alloc (Nat.le_refl _) _) h⟩) HFit.out HOne.out w.heap.size w ((pw_below_drewN (Below.refl _ _) nd).alloc (Nat.le_refl _) _) (Nat.le_refl _) ?_; intro W2 hg2 hb2; have HG2 := Aside0.mk hg2; have HB2 := Aside0.mk hb2; clear hb2 hg2) | (go_at_call 14; refine (chunk_calls _ _ _ p hp0 _).mono ?_; rintro e W3 ⟨rfl, rfl⟩) | (go_at_call 13; refine (collect_calls W2.heap.size (W2.heap.size + 1) w.heap.size p N hp0 (by rw [HM.out]; omega) _ (by simp; omega) (by simp) (by rw [HM.out]; exact (two_boxes W2 _ _ 25 3).1) (two_boxes W2 _ _ 25 3).2).mono ?_; rintro e W4 ⟨v4, rfl, ho4, hb4⟩; have HO4 := Aside0.mk ho4; have HB4 := Aside0.mk hb4; clear ho4 hb4))
    go_ret
    have h1 := HG2.out.out
    have hsz : w.heap.size < W2.heap.size := (Array.getElem?_eq_some_iff.1 h1).1
    have hB3 : Below w.heap.size w ((W2.alloc (.cells #[.slice (some ⟨w.heap.size, 0, none⟩) M M] 25)).alloc (.cells #[.int .i64 p] 3)) := (HB2.out.alloc HB2.out.size _).alloc (by simp; omega) _
    have hBel : Below w.heap.size w W4 := hB3.trans (HB4.out.mono hB3.size)
    have hf : W4.heap[w.heap.size]? = some (.cells (full.map (Value.int .u8)).toArray 5 (0, 0)) := by
      rw [HSP.out, ← HFe.out] at h1
      rw [HB4.out.block w.heap.size (by simp; omega)]
      exact blk_alloc (blk_alloc h1 _) _
    refine ⟨v4, rfl, ?_, hBel⟩
    rw [← HS.out]
    exact split_V (Nat.le_refl _) (by omega) (by omega) (own_weaken HO4.out (by simp; omega)) hf (by rw [HFL.out, HM.out])

-- NOT PRINTED: function 18 (bytealg_MakeNoZero)

-- NOT PRINTED: function 15 (bytes_Join)

/-! ### stripe_Join: function 12, by hand -/
theorem V_string {P : Program} {w : World} {src dst e e' base : Nat} {ok : Nat → Prop} {v : Value} {xs : List Int} (hs : P.underlying src = some (.slice e)) (he : P.underlying e = some (.int .u8)) (hd : P.underlying dst = some .string)
    (h : Kd.V (Kd.int .u8) e' w base ok v xs) : (convert src dst v).run P w = .ok (.string (strOfNums xs)) w := by
  obtain ⟨A, c, rfl⟩ := Kd.V_slice h
  exact Kd.C_string hs he hd (Kd.V_reads' h).2.2
def renJ : Go.Shelf.Ren := ⟨fun | 14 => 15 | 15 => 18 | x => x, fun | 22 => 25 | 26 => 26 | x => x, fun x => x⟩
theorem joinL : Go.Proofs.SlLaysJ.n14 Try.prog renJ := by
  constructor <;> first | kernel_rfl | (intro w; kernel_rfl)
theorem add_none (g j : Nat) : (⟨g, 0, none⟩ : Addr).add j = ⟨g, j, none⟩ := by cases j <;> simp [Addr.add]
theorem bytesOf_length (xs : List Int) : (Lib.bytesOf xs).length = xs.length := by simp [Lib.bytesOf]
theorem bytesOf_inj : ∀ (xs ys : List Int), (∀ x ∈ xs, 0 ≤ x ∧ x < 256) → (∀ x ∈ ys, 0 ≤ x ∧ x < 256) → Lib.bytesOf xs = Lib.bytesOf ys → xs = ys
  | [], [], _, _, _ => rfl
  | [], _ :: _, _, _, h => by simp [Lib.bytesOf] at h
  | _ :: _, [], _, _, h => by simp [Lib.bytesOf] at h
  | x :: xs, y :: ys, hx, hy, h => by
    simp only [Lib.bytesOf, List.map_cons, List.cons.injEq] at h
    have h1 := hx x List.mem_cons_self
    have h2 := hy y List.mem_cons_self
    have h3 := congrArg UInt8.toNat h.1
    simp only [UInt8.toNat_ofNat'] at h3
    rw [bytesOf_inj xs ys (fun z hz => hx z (List.mem_cons_of_mem _ hz)) (fun z hz => hy z (List.mem_cons_of_mem _ hz)) h.2]
    congr 1
    omega
theorem bytesOf_flatten (ps : List (List Int)) : Lib.bytesOf ps.flatten = (ps.map Lib.bytesOf).flatten := by
  unfold Lib.bytesOf
  rw [List.map_flatten]
theorem joinTail_empty (ls : List (List UInt8)) : Lib.joinTail [] ls = ls.flatten := by simp [Lib.joinTail]
theorem join_empty (ls : List (List UInt8)) : Lib.join ls [] = ls.flatten := by
  cases ls with
  | nil => rfl
  | cons x r => rw [Lib.join_cons, joinTail_empty]; rfl
theorem F_fresh {B : Nat} {w' : World} {v : Value} {l : List UInt8} {xs : List Int} (h : Lib.FreshBytes B w' v l) (hx : Lib.bytesOf xs = l) (hb : ∀ x ∈ xs, 0 ≤ x ∧ x < 256) :
    ∃ A c, v = .slice A xs.length c ∧ xs.length ≤ c ∧ Kd.F (Kd.int .u8) w' (fun k => B ≤ k) A xs.length xs := by
  obtain ⟨g, cap, zs, rfl, hB, hl, hm, hz, hzb, ht, hc, _⟩ := h
  have hlen : l.length = xs.length := by rw [← hx, bytesOf_length]
  rw [hlen] at hl ht
  have e : zs.take xs.length = xs := bytesOf_inj _ _ (fun x hx' => hzb x (List.mem_of_mem_take hx')) hb (ht.trans hx.symm)
  refine ⟨some ⟨g, 0, none⟩, cap, by rw [hlen], hl, fun W' hW => ?_⟩
  refine Kd.C_of_reads (d := (0 : Int)) ⟨rfl, by unfold maxLen at hm; omega, fun hn => ⟨_, rfl, fun j hj => ?_⟩⟩
  have h1 := hc j (by omega)
  have h2 : g < w'.heap.size := World.block_lt_of_cell? w' ⟨g, j, none⟩ h1
  rw [add_none]
  have h3 : W'.cell? ⟨g, j, none⟩ = w'.cell? ⟨g, j, none⟩ := by simp only [World.cell?, hW g hB h2]
  rw [h3, h1]
  have e2 : xs.getD j 0 = zs.getD j 0 := by
    rw [List.getD_eq_getElem?_getD, List.getD_eq_getElem?_getD]
    conv => lhs; rw [← e]
    rw [List.getElem?_take, if_pos hj]
  rw [e2]
theorem holds_of {w : World} {A : Option Addr} {p : List Int} {c : Nat} (h : Kd.C (Kd.int .u8) w A p.length p) (hb : ∀ x ∈ p, 0 ≤ x ∧ x < 256) : Lib.HoldsBytes w (.slice A p.length c) (Lib.bytesOf p) := by
  have hr := Kd.reads_of_C (enc := Value.int .u8) (d := (0 : Int)) (h1 := fun _ => rfl) h
  refine ⟨A, c, by rw [bytesOf_length], fun e => ?_, fun a ha i x hx => ?_⟩
  · subst e
    cases p with
    | nil => rfl
    | cons x p => obtain ⟨ad, he, _⟩ := hr.2.2 (by simp); cases he
  · have hi : i < p.length := by
      have := (List.getElem?_eq_some_iff.1 hx).1
      rwa [bytesOf_length] at this
    obtain ⟨ad, he, hc⟩ := hr.2.2 (by omega)
    rw [ha] at he
    cases he
    rw [hc i hi]
    have h1 := hb p[i] (List.getElem_mem hi)
    have e1 : x = UInt8.ofNat p[i].toNat := by
      simp only [Lib.bytesOf, List.getElem?_map, List.getElem?_eq_getElem hi, Option.map_some, Option.some.injEq] at hx
      exact hx.symm
    have e2 : p.getD i 0 = p[i] := by simp [hi]
    rw [e1, e2, UInt8.toNat_ofNat']
    congr 2
    omega
theorem parts_of {w : World} {A : Option Addr} {ps : List (List Int)} (h : Kd.C (Kd.slice 5 (Kd.int .u8)) w A ps.length ps) (hn : 0 < ps.length) (hb : ∀ l ∈ ps, ∀ x ∈ l, 0 ≤ x ∧ x < 256) :
    ∃ b o vs, A = some ⟨b, o, none⟩ ∧ Lib.PartsAt w ⟨b, o, none⟩ vs (ps.map Lib.bytesOf) := by
  obtain ⟨ad, rfl, hc⟩ := h.2.2 hn
  have hj : ∀ (j : Nat) (hj : j < ps.length), ∃ A' c', w.cell? (ad.add j) = some (.slice A' ps[j].length c') ∧ Kd.C (Kd.int .u8) w A' ps[j].length ps[j] := fun j hj => by
    obtain ⟨c, hl, ⟨A', c', rfl, _, hC⟩, hcell⟩ := hc j _ (List.getElem?_eq_getElem hj)
    have := hcell 0 _ rfl
    exact ⟨A', c', by simpa [Kd.slice] using this, hC⟩
  have hs : ad.spot = none := by
    obtain ⟨A', c', h0, _⟩ := hj 0 hn
    simpa [Addr.add] using World.cell?_spot h0
  obtain ⟨b, o, s⟩ := ad
  subst hs
  have hv : ∀ (i : Nat) v, ((List.range ps.length).map fun j => (w.cell? ((⟨b, o, none⟩ : Addr).add j)).getD undef)[i]? = some v → ∃ (hi : i < ps.length), v = (w.cell? ((⟨b, o, none⟩ : Addr).add i)).getD undef := fun i v h => by
    obtain ⟨hi, e⟩ := List.getElem?_eq_some_iff.1 h
    have hi' : i < ps.length := by simpa using hi
    exact ⟨hi', by simpa using e.symm⟩
  refine ⟨b, o, (List.range ps.length).map fun j => (w.cell? ((⟨b, o, none⟩ : Addr).add j)).getD undef, rfl, by simp, fun i v h => ?_, fun i v l h hl => ?_⟩
  · obtain ⟨hi, rfl⟩ := hv i v h
    obtain ⟨A', c', h0, _⟩ := hj i hi
    rw [h0]
    rfl
  · obtain ⟨hi, rfl⟩ := hv i v h
    obtain ⟨A', c', h0, hC⟩ := hj i hi
    have e : l = Lib.bytesOf ps[i] := by
      simp only [List.getElem?_map, List.getElem?_eq_getElem hi, Option.map_some, Option.some.injEq] at hl
      exact hl.symm
    subst e
    rw [h0]
    exact holds_of hC (hb _ (List.getElem_mem hi))
theorem lens_flatten (ps : List (List Int)) : Lib.lens (ps.map Lib.bytesOf) = ps.flatten.length := by
  simp [Lib.lens, List.length_flatten, Function.comp_def, bytesOf_length]
theorem bytesJoin_calls (A0 : Option Addr) (c0 : Nat) (ps : List (List Int)) (w : World) (hr0 : Kd.C (Kd.slice 5 (Kd.int .u8)) w A0 ps.length ps) (hc0 : ps.length ≤ c0) (hb : ∀ l ∈ ps, ∀ x ∈ l, 0 ≤ x ∧ x < 256) (hn : ps.length ≤ 1048576) (hl : ps.flatten.length ≤ 1099511627776) :
    Calls Try.prog 15 #[.slice A0 ps.length c0, .slice none 0 0] w fun e w' => ∃ A c, e = .returned (.slice A ps.flatten.length c) ∧ ps.flatten.length ≤ c ∧ Kd.F (Kd.int .u8) w' (fun k => w.heap.size ≤ k) A ps.flatten.length ps.flatten ∧ Below w.heap.size w w' := by
  have hfb : ∀ x ∈ ps.flatten, 0 ≤ x ∧ x < 256 := fun x hx => by
    obtain ⟨l, hl, hx⟩ := List.mem_flatten.1 hx
    exact hb l hl x hx
  have hfin : ∀ (w' : World) (v : Value), Lib.FreshBytes w.heap.size w' v (ps.map Lib.bytesOf).flatten → ∃ A c, v = .slice A ps.flatten.length c ∧ ps.flatten.length ≤ c ∧ Kd.F (Kd.int .u8) w' (fun k => w.heap.size ≤ k) A ps.flatten.length ps.flatten :=
    fun _ _ h => F_fresh h (bytesOf_flatten ps) hfb
  rcases ps with _ | ⟨p, _ | ⟨q, r⟩⟩
  · refine (Go.Proofs.Any.bytes_Join_none joinL A0 c0 (.slice none 0 0) w).mono ?_
    rintro e w' ⟨rfl, rfl⟩
    refine ⟨_, _, rfl, Nat.le_refl _, fun W' _ => ⟨rfl, by decide, fun h => absurd h (Nat.lt_irrefl 0)⟩, (Below.refl _ _).alloc (Nat.le_refl _) _⟩
  · obtain ⟨b, o, vs, rfl, hP⟩ := parts_of hr0 (by simp) hb
    obtain ⟨p0, cap, l, h1, h2, h3, h4⟩ := hP.get 0 (by simp)
    have e1 : l = Lib.bytesOf p := by simpa using h1.symm
    subst e1
    have h2' : w.cell? ⟨b, o, none⟩ = some (.slice p0 (Lib.bytesOf p).length cap) := by simpa [Addr.add] using h2
    by_cases hp : p = []
    · subst hp
      refine (Go.Proofs.Any.bytes_Join_one_empty joinL b o c0 p0 cap (.slice none 0 0) w (by simpa [Lib.bytesOf] using h2')).mono ?_
      rintro e w' ⟨rfl, rfl⟩
      exact ⟨_, _, rfl, Nat.le_refl _, fun W' _ => ⟨rfl, by decide, fun h => absurd h (Nat.lt_irrefl 0)⟩, Below.refl _ _⟩
    · have hpl : 0 < p.length := List.length_pos_iff.2 hp
      obtain ⟨ad0, rfl⟩ : ∃ ad0, p0 = some ad0 := by
        cases p0 with
        | none => have := congrArg List.length (h3 rfl); rw [bytesOf_length] at this; exact absurd (List.length_eq_zero_iff.1 this) hp
        | some a => exact ⟨a, rfl⟩
      refine (Go.Proofs.Any.bytes_Join_one joinL b o c0 ad0 cap (Lib.bytesOf p) (.slice none 0 0) w h2' (h4 ad0 rfl) (by rw [bytesOf_length]; exact hpl) (by rw [bytesOf_length]; have hl2 := hl; simp only [List.flatten_cons, List.flatten_nil, List.append_nil] at hl2; omega)).mono ?_
      rintro e w' ⟨v, rfl, hf, hbl⟩
      obtain ⟨A, c, rfl, hc, hF⟩ := hfin _ v (by simpa using hf)
      exact ⟨A, c, rfl, hc, hF, hbl⟩
  · obtain ⟨b, o, vs, rfl, hP⟩ := parts_of hr0 (by simp) hb
    refine (Go.Proofs.Any.bytes_Join_many joinL b o _ c0 vs _ (.slice none 0 0) [] w (by rw [List.length_map]) (by simp) hP hc0 ⟨none, 0, rfl, fun _ => rfl, fun a ha => by cases ha⟩ (by omega) (by rw [lens_flatten]; simp only [List.length_nil, Nat.zero_mul]; omega)).mono ?_
    rintro e w' ⟨v, rfl, hf, hbl⟩
    rw [join_empty] at hf
    obtain ⟨A, c, rfl, hc, hF⟩ := hfin _ _ hf
    exact ⟨A, c, rfl, hc, hF, hbl⟩
def joinF (ps : List (List Int)) (size : Int) : List Int × Bool := if 0 ≤ size ∧ size ≤ ps.flatten.length then (ps.flatten.take size.toNat, true) else ([], false)
def stripe_Join.f (l0 : List (List Int)) (a1 : Int) : Option (List Int × Bool) := if l0.length ≤ 1048576 ∧ l0.flatten.length ≤ 1099511627776 ∧ ∀ l ∈ l0, ∀ x ∈ l, 0 ≤ x ∧ x < 256 then some (joinF l0 a1) else none
set_option maxRecDepth 100000 in
theorem stripe_Join.calls (A0 : Option Addr) (c0 : Nat) (l0 : List (List Int)) (a1 : Int) (r1 : List Int) (r2 : Bool) (w : World) (hr0 : Kd.C (Kd.slice 5 (Kd.int .u8)) w A0 l0.length l0) (hc0 : l0.length ≤ c0) (h : stripe_Join.f l0 a1 = some (r1, r2)) :
    Calls Try.prog 12 #[.slice A0 l0.length c0, .int .i64 a1] w fun e w' => ∃ v0_ : Value, e = .returned (.tuple #[v0_, .bool r2]) ∧ Kd.V (Kd.int .u8) 5 w' w.heap.size (fun k_ => w.heap.size ≤ k_) v0_ r1 ∧ Below w.heap.size w w' := by
  unfold stripe_Join.f at h
  split at h
  case isFalse => cases h
  rename_i hh
  have hJ := Option.some.inj h
  have HC := Aside0.mk (bytesJoin_calls A0 c0 l0 w hr0 hc0 hh.2.2 hh.1 hh.2.1)
  clear h hh hr0 hc0
  unfold joinF at hJ
  generalize l0.flatten = L at hJ HC
  by_cases hs : 0 ≤ a1 ∧ a1 ≤ (L.length : Int)
  · rw [if_pos hs] at hJ
    obtain ⟨rfl, rfl⟩ := Prod.mk.inj hJ
    clear hJ
    obtain ⟨h0, h1⟩ := hs
    have hd1 : decide (a1 < 0) = false := decide_eq_false (by omega)
    have hd2 : decide ((L.length : Int) < a1) = false := decide_eq_false (by omega)
    go_enter Try.func12, Try.ntmps12
    go_wp2_with (go_at_call 15; go_loud (refine HC.out.mono ?_; rintro e w1 ⟨A, c, rfl, hc, hF, hB⟩; have HF := Aside0.mk hF; have HB := Aside0.mk hB; have h3 : a1 ≤ (c : Int) := (by omega); clear hF hB))
    go_ret2
    have hl : (L.take a1.toNat).length = a1.toNat := by rw [List.length_take]; omega
    exact ⟨.slice A a1.toNat a1.toNat, rfl, ⟨A, a1.toNat, by rw [hl], by rw [hl]; exact Nat.le_refl _, Kd.F_imp HF.out (fun W' hC => Kd.C_take hC (by omega))⟩, HB.out⟩
  · rw [if_neg hs] at hJ
    obtain ⟨rfl, rfl⟩ := Prod.mk.inj hJ
    clear hJ
    by_cases h0 : a1 < 0
    · have hd1 : decide (a1 < 0) = true := decide_eq_true h0
      go_enter Try.func12, Try.ntmps12
      go_wp2_with (go_at_call 15; refine HC.out.mono ?_; rintro e w1 ⟨A, c, rfl, hc, hF, hB⟩; have HB := Aside0.mk hB; clear hF hB)
      go_ret2
      exact ⟨_, rfl, Kd.V_nil _ _ _ _ _, HB.out⟩
    · have hd1 : decide (a1 < 0) = false := decide_eq_false h0
      have hd2 : decide ((L.length : Int) < a1) = true := decide_eq_true (by omega)
      go_enter Try.func12, Try.ntmps12
      go_wp2_with (go_at_call 15; refine HC.out.mono ?_; rintro e w1 ⟨A, c, rfl, hc, hF, hB⟩; have HB := Aside0.mk hB; clear hF hB)
      go_ret2
      exact ⟨_, rfl, Kd.V_nil _ _ _ _ _, HB.out⟩

/-! ### flittinglaw16_answers: function 8, by hand -/
def flittinglaw16_answers.f : Option Bool := some true
def abc : Array Value := #[.int .u8 97, .int .u8 98, .int .u8 99]
theorem abc_C (W : World) (g : Nat) (fr : Nat × Nat) (h : W.heap[g]? = some (.cells abc 5 fr)) : Kd.C (Kd.int .u8) W (some ⟨g, 0, none⟩) ([97, 98, 99] : List Int).length [97, 98, 99] := by
  refine Kd.C_of_reads (d := (0 : Int)) ⟨rfl, by decide, fun _ => ⟨_, rfl, fun j hj => ?_⟩⟩
  rw [add_none]
  simp only [World.cell?, h]
  have : j = 0 ∨ j = 1 ∨ j = 2 := by simp at hj; omega
  rcases this with rfl | rfl | rfl <;> rfl
theorem parts_C (W : World) (g g2 : Nat) (fr fr2 : Nat × Nat) (h : W.heap[g]? = some (.cells abc 5 fr)) (h2 : W.heap[g2]? = some (.cells #[.slice (some ⟨g, 0, none⟩) 3 3] 25 fr2)) :
    Kd.C (Kd.slice 5 (Kd.int .u8)) W (some ⟨g2, 0, none⟩) ([[97, 98, 99]] : List (List Int)).length [[97, 98, 99]] := by
  refine ⟨rfl, by decide, fun _ => ⟨_, rfl, fun j p hj => ?_⟩⟩
  cases j with
  | succ j => simp at hj
  | zero =>
    obtain rfl : ([97, 98, 99] : List Int) = p := by simpa using hj
    refine ⟨[.slice (some ⟨g, 0, none⟩) 3 3], rfl, ⟨some ⟨g, 0, none⟩, 3, rfl, by decide, abc_C W g fr h⟩, fun i u hu => ?_⟩
    cases i with
    | succ i => simp at hu
    | zero =>
      obtain rfl : Value.slice (some ⟨g, 0, none⟩) 3 3 = u := by simpa using hu
      simp [Addr.add, World.cell?, h2]
set_option maxRecDepth 100000 in
set_option maxHeartbeats 2000000 in
theorem flittinglaw16_answers.calls (r : Bool) (w : World) (h : flittinglaw16_answers.f = some r) : Calls Try.prog 8 #[] w fun e w' => e = .returned (.bool r) ∧ Below w.heap.size w w' := by
  obtain rfl : true = r := Option.some.inj h
  clear h
  have hcv1 := Lib.run_convert_bytes_const (P := Try.prog) w 25 5 #[.int .u8 97, .int .u8 98, .int .u8 99] 3 3 Try.underlying25 Try.underlying5
  have HJ : Aside0 (stripe_Join.f [[97, 98, 99]] 2 = some ([97, 98], true)) := ⟨by decide⟩
  have HCn : Aside0 (stripe_Count.f 2 17 = some 2) := ⟨count_pos 2 17 (by decide) (by decide) (by decide) (by decide)⟩
  have HSp : Aside0 (stripe_Split.f 1 [97, 98, 99] = some [[97, 98, 99, 0, 0, 0, 0, 0]]) := ⟨by decide⟩
  have hstr : strOfNums [97, 98] = ⟨#[97, 98]⟩ := rfl
  have HP : Aside0 (Kd.C (Kd.slice 5 (Kd.int .u8)) ((w.alloc (.cells #[.int .u8 97, .int .u8 98, .int .u8 99] 5 (3, 4))).alloc (.cells #[.slice (some ⟨w.heap.size, 0, none⟩) 3 3] 25)) (some ⟨w.heap.size + 1, 0, none⟩) ([[97, 98, 99]] : List (List Int)).length [[97, 98, 99]]) := ⟨by
    refine parts_C _ w.heap.size (w.heap.size + 1) (3, 4) (0, 0) (blk_alloc (World.alloc_heap_new w _) _) ?_
    have := World.alloc_heap_new (w.alloc (.cells #[.int .u8 97, .int .u8 98, .int .u8 99] 5 (3, 4))) (.cells #[.slice (some ⟨w.heap.size, 0, none⟩) 3 3] 25)
    rwa [World.size_alloc] at this⟩
  have HB1 : Aside0 (Below w.heap.size w ((w.alloc (.cells #[.int .u8 97, .int .u8 98, .int .u8 99] 5 (3, 4))).alloc (.cells #[.slice (some ⟨w.heap.size, 0, none⟩) 3 3] 25))) := ⟨((Below.refl _ _).alloc (Nat.le_refl _) _).alloc (by simp) _⟩
  go_enter Try.func8, Try.ntmps8
  go_wp2_with (first | (go_at_call 12; refine (stripe_Join.calls _ 1 [[97, 98, 99]] 2 [97, 98] true _ HP.out (Nat.le_refl _) HJ.out).mono ?_; rintro e w3 ⟨v3, rfl, ho3, hb3⟩; have hs3 := V_string (P := Try.prog) Try.underlying25 Try.underlying5 Try.underlying9 ho3; have HO3 := Aside0.mk ho3; have HB3 : Aside0 (Below w.heap.size w w3) := ⟨HB1.out.trans (hb3.mono HB1.out.size)⟩; clear ho3 hb3) | (go_at_call 9; refine (stripe_Count.calls _ _ 2 _ HCn.out).mono ?_; rintro e w' ⟨rfl, ⟨nd, rfl⟩⟩; have hcv2 : (convert 25 25 (.slice (some ⟨w3.heap.size, 0, none⟩) 3 3)).run Try.prog ((w3.drewN nd).alloc (.cells #[.int .u8 97, .int .u8 98, .int .u8 99] 5)) = .ok (.slice (some ⟨w3.heap.size, 0, none⟩) 3 3) ((w3.drewN nd).alloc (.cells #[.int .u8 97, .int .u8 98, .int .u8 99] 5 (3, 4))) := Lib.run_convert_bytes_const (w3.drewN nd) 25 5 _ 3 3 Try.underlying25 Try.underlying5) | (go_at_call 10; refine (stripe_Split.calls 1 _ 3 [97, 98, 99] [[97, 98, 99, 0, 0, 0, 0, 0]] _ (abc_C _ w3.heap.size (3, 4) (World.alloc_heap_new (w3.drewN nd) _)) (Nat.le_refl _) HSp.out).mono ?_; rintro e w5 ⟨v5, rfl, ho5, hb5⟩; have hs5 := V_string (P := Try.prog) Try.underlying25 Try.underlying5 Try.underlying9 (Kd.V_below (Kd.V_alloc (Kd.V_drewN HO3.out nd) _) hb5); have HB5 : Aside0 (Below w.heap.size w w5) := ⟨((pw_below_drewN HB3.out nd).alloc HB3.out.size _).trans (hb5.mono (by have := HB3.out.size; simp; omega))⟩; obtain ⟨A5, c5, e5⟩ := Kd.V_slice ho5; subst e5; clear ho5 hb5 hs3))
  go_ret
  exact ⟨rfl, HB5.out⟩

/-! ### flittingref01_Same: function 11 -/
def flittingref01_Same.l0 : Nat → List Int → List Int → Int → Option (Bool)
  | 0, _, _, _ => none
  | k + 1, x0, x1, x5 => if x5 < (x0.length : Int) then (if 0 ≤ x5 then (if x5 < (x1.length : Int) then (if (rd x0 x5) = (rd x1 x5) then (flittingref01_Same.l0 k x0 x1 (wrap64 (x5 + 1))) else (some false)) else (none)) else (none)) else (some true)
def flittingref01_Same.f (k : Nat) (l0 : List Int) (l1 : List Int) : Option (Bool) := if (l0.length : Int) = (l1.length : Int) then (flittingref01_Same.l0 k l0 l1 0) else (some false)
theorem flittingref01_Same.mono_l : ∀ k, (∀ y0 y1 y2, LeO (flittingref01_Same.l0 k y0 y1 y2) (flittingref01_Same.l0 (k + 1) y0 y1 y2))
  | 0 => fun _ _ _ r h => by simp [flittingref01_Same.l0] at h
  | k + 1 => by
    have ih0 := flittingref01_Same.mono_l k
    · intro y0 y1 y2
      unfold flittingref01_Same.l0
      repeat' first
      | (with_reducible exact ih0 _ _ _)
      | (with_reducible exact LeO.refl _)
      | (with_reducible exact LeO.none _)
      | (with_reducible refine LeO.ite ?_ ?_)
      | (with_reducible refine LeO.bind ?_ (fun _ => ?_))
      | exact ih0 _ _ _
      | exact LeO.none _
      | refine LeO.ite ?_ ?_
      | refine LeO.bind ?_ (fun _ => ?_)
theorem flittingref01_Same.mono : ∀ a0 a1 k, LeO (flittingref01_Same.f k a0 a1) (flittingref01_Same.f (k + 1) a0 a1) := by
  intro a0 a1 k
  have ih0 := flittingref01_Same.mono_l k
  unfold flittingref01_Same.f
  repeat' first
      | (with_reducible exact ih0 _ _ _)
      | (with_reducible exact LeO.refl _)
      | (with_reducible exact LeO.none _)
      | (with_reducible refine LeO.ite ?_ ?_)
      | (with_reducible refine LeO.bind ?_ (fun _ => ?_))
      | exact ih0 _ _ _
      | exact LeO.none _
      | refine LeO.ite ?_ ?_
      | refine LeO.bind ?_ (fun _ => ?_)
set_option maxHeartbeats 8000000 in
set_option maxRecDepth 100000 in
theorem flittingref01_Same.calls (k : Nat) (A0 : Option Addr) (c0 : Nat) (l0 : List Int) (A1 : Option Addr) (c1 : Nat) (l1 : List Int) (r : Bool) (w : World) (hr0 : Kd.C (Kd.int .u8) w A0 l0.length l0) (hc0 : l0.length ≤ c0) (hr1 : Kd.C (Kd.int .u8) w A1 l1.length l1) (hc1 : l1.length ≤ c1) (h : flittingref01_Same.f k l0 l1 = some r) :
    Calls Try.prog 11 #[.slice A0 l0.length c0, .slice A1 l1.length c1] w fun e w' => e = .returned (.bool r) ∧ Drawn0 w w' := by
  have HR0 := Aside0.mk hr0
  have HC0 := Aside0.mk hc0
  clear hr0 hc0
  have HR1 := Aside0.mk hr1
  have HC1 := Aside0.mk hc1
  clear hr1 hc1
  have H : (if (l0.length : Int) = (l1.length : Int) then (flittingref01_Same.l0 k l0 l1 0) else (some false)) = some r := h
  clear h
  by_cases c3 : (l0.length : Int) = (l1.length : Int)
  · rw [if_pos c3] at H
    have c3b0 : ((l0.length : Int) == (l1.length : Int)) = true := beq_iff_eq.mpr c3
    have c3b1 : ((l0.length : Int) != (l1.length : Int)) = false := bne_eq_false_iff_eq.mpr c3
    have c3b2 : (l0.length == l1.length) = true := by first | simpa using c3 | (simp at c3 ⊢; omega)
    clear c3
    have H' := Aside0.mk H
    clear H
    go_enter Try.func11, Try.ntmps11
    go_wp2
    repeat (go_quiet (fail); try go_wp2)
    go_loopg [5] k (fun kq v5 w' => ∃ (x5_1 : Int), v5 = .int .i64 x5_1 ∧ Aside0 (flittingref01_Same.l0 kq l0 l1 x5_1 = some r) ∧ Aside0 (kq ≤ k) ∧ Drawn0 w w')
    case atStart => exact ⟨(0), (by first | rfl | (simp; done) | (simp [*]; done)), H', ⟨Nat.le_refl _⟩, by repeat (first | exact Drawn0.refl _ | apply Drawn0.step)⟩
    case round =>
      clear H'
      try clear c1
      try clear p2
      try clear c3
      try clear c3b0
      try clear c3b1
      try clear c3b2
      obtain ⟨x5_1, rfl, HA, HK1, ⟨m1, rfl⟩⟩ := hrel
      cases gk with
      | zero => exact absurd HA.out (by simp [flittingref01_Same.l0])
      | succ k1 =>
        have H := HA.out
        clear HA
        simp only [flittingref01_Same.l0] at H
        by_cases c4 : x5_1 < (l0.length : Int)
        · rw [if_pos c4] at H
          have c4b0 : decide (x5_1 < (l0.length : Int)) = true := decide_eq_true c4
          clear c4
          by_cases c5 : 0 ≤ x5_1
          · rw [if_pos c5] at H
            have c5b0 : decide (0 ≤ x5_1) = true := decide_eq_true c5
            clear c5
            by_cases c6 : x5_1 < (l1.length : Int)
            · rw [if_pos c6] at H
              have c6b0 : decide (x5_1 < (l1.length : Int)) = true := decide_eq_true c6
              clear c6
              by_cases c7 : (rd l0 x5_1) = (rd l1 x5_1)
              · rw [if_pos c7] at H
                have c7b0 : ((rd l0 x5_1) == (rd l1 x5_1)) = true := beq_iff_eq.mpr c7
                have c7b1 : ((rd l0 x5_1) != (rd l1 x5_1)) = false := bne_eq_false_iff_eq.mpr c7
                clear c7
                have H' := Aside0.mk H
                clear H
                have p105 : 0 ≤ (x5_1 : Int) := of_decide_eq_true (by first | (with_reducible assumption) | assumption)
                have q105 : x5_1 < (l0.length : Int) := of_decide_eq_true (by first | (with_reducible assumption) | assumption)
                obtain ⟨ad105, e105, hx105_0⟩ := Kd.at_int HR0.out x5_1 p105 q105
                cases e105
                replace p105 := eq_true p105
                replace q105 := eq_true q105
                have p106 : 0 ≤ (x5_1 : Int) := of_decide_eq_true (by first | (with_reducible assumption) | assumption)
                have q106 : x5_1 < (l1.length : Int) := of_decide_eq_true (by first | (with_reducible assumption) | assumption)
                obtain ⟨ad106, e106, hx106_0⟩ := Kd.at_int HR1.out x5_1 p106 q106
                cases e106
                replace p106 := eq_true p106
                replace q106 := eq_true q106
                go_wp2
                repeat (go_quiet (fail); try go_wp2)
                go_roundg k1
                case measure => have := HK1.out; omega
                case rel => exact ⟨(wrap64 (x5_1 + 1)), (by first | rfl | (simp; done) | (simp [*]; done)), H', ⟨by have := HK1.out; omega⟩, by repeat (first | exact Drawn0.refl _ | apply Drawn0.step)⟩
              · rw [if_neg c7] at H
                have c7b0 : ((rd l0 x5_1) == (rd l1 x5_1)) = false := beq_eq_false_iff_ne.mpr c7
                have c7b1 : ((rd l0 x5_1) != (rd l1 x5_1)) = true := bne_iff_ne.mpr c7
                obtain rfl := Option.some.inj H
                have p105 : 0 ≤ (x5_1 : Int) := of_decide_eq_true (by first | (with_reducible assumption) | assumption)
                have q105 : x5_1 < (l0.length : Int) := of_decide_eq_true (by first | (with_reducible assumption) | assumption)
                obtain ⟨ad105, e105, hx105_0⟩ := Kd.at_int HR0.out x5_1 p105 q105
                cases e105
                replace p105 := eq_true p105
                replace q105 := eq_true q105
                have p106 : 0 ≤ (x5_1 : Int) := of_decide_eq_true (by first | (with_reducible assumption) | assumption)
                have q106 : x5_1 < (l1.length : Int) := of_decide_eq_true (by first | (with_reducible assumption) | assumption)
                obtain ⟨ad106, e106, hx106_0⟩ := Kd.at_int HR1.out x5_1 p106 q106
                cases e106
                replace p106 := eq_true p106
                replace q106 := eq_true q106
                go_wp2
                repeat (go_quiet (fail); try go_wp2)
                go_ret
                exact ⟨by first | rfl | (simp; done) | (simp [*]; done), by repeat (first | exact Drawn0.refl _ | apply Drawn0.step)⟩
            · rw [if_neg c6] at H
              exact absurd H (by simp)
          · rw [if_neg c5] at H
            exact absurd H (by simp)
        · rw [if_neg c4] at H
          have c4b0 : decide (x5_1 < (l0.length : Int)) = false := decide_eq_false c4
          clear c4
          obtain rfl := Option.some.inj H
          go_wp2
          repeat (go_quiet (fail); try go_wp2)
          go_ret
          exact ⟨by first | rfl | (simp; done) | (simp [*]; done), by repeat (first | exact Drawn0.refl _ | apply Drawn0.step)⟩
  · rw [if_neg c3] at H
    have c3b0 : ((l0.length : Int) == (l1.length : Int)) = false := beq_eq_false_iff_ne.mpr c3
    have c3b1 : ((l0.length : Int) != (l1.length : Int)) = true := bne_iff_ne.mpr c3
    have c3b2 : (l0.length == l1.length) = false := by first | simpa using c3 | (simp at c3 ⊢; omega)
    obtain rfl := Option.some.inj H
    go_enter Try.func11, Try.ntmps11
    go_wp2
    repeat (go_quiet (fail); try go_wp2)
    go_ret
    exact ⟨by first | rfl | (simp; done) | (simp [*]; done), by repeat (first | exact Drawn0.refl _ | apply Drawn0.step)⟩

end Go.Proofs.Ytpncaggdngijnaa.PStripeJoin
