/- RecLarge: the walk. -/
import Derived.Test.YthoebncbhmefmaaRu
import Derived.Test.YthoebncbhmefmaaRv
import Derived.Test.YthoebncbhmefmaaOp
namespace Go.Proofs.Ythoebncbhmefmaa.PRecLarge
open Go.RowKit Go.Proofs.YthoebncbhmefmaaW.PrintWords Go.Proofs.YthoebncbhmefmaaW.PrintLast Go.Proofs.YthoebncbhmefmaaW.PrintMore
attribute [local go_sem] max2_int min2_int max_two min_two max_three min_three max_four min_four
set_option linter.unusedVariables false
set_option linter.unusedSimpArgs false
open Go.Proofs.Ythoebncbhmefmaa.Rc Go.Proofs.Ythoebncbhmefmaa.Op
def sev (i : Nat) : S41 := ⟨(i : Int), 0, [1, 2, 3, 4, 5, 6, 7]⟩
def lk (k : Nat) : List S41 := (List.range k).map sev
theorem lk_len (k : Nat) : (lk k).length = k := by simp [lk]
theorem lk_succ (k : Nat) : lk (k + 1) = lk k ++ [sev k] := by simp [lk, List.range_succ]
def rk (k : Nat) : Rc := ⟨1, 1, 0, ⟨#[]⟩, lk k, [], []⟩
theorem sev_len (i : Nat) (s : St) : (wStripe (sev i) s).1.length = s.1.length + 37 := by
  simp [wStripe, sev, wInts, wN_len]
theorem sev_bad (i : Nat) (hi : i < 1000) (s : St) : (wStripe (sev i) s).2 = s.2 := by
  have h1 : ¬ ((i : Int) < 0) := by omega
  have h2 : ¬ ((1073741824 : Int) < (i : Int)) := by omega
  simp [wStripe, sev, wInts, wN, h1, h2]
theorem fold_sev (s : St) : ∀ k, k ≤ 1000 → ((lk k).foldl (fun s x => wStripe x s) s).1.length = s.1.length + 37 * k ∧ ((lk k).foldl (fun s x => wStripe x s) s).2 = s.2 := by
  intro k
  induction k with
  | zero => intro _; simp [lk]
  | succ k ih =>
    intro hk
    obtain ⟨h1, h2⟩ := ih (by omega)
    rw [lk_succ, List.foldl_append]
    simp only [List.foldl_cons, List.foldl_nil]
    rw [sev_len, sev_bad k (by omega), h1, h2]
    exact ⟨by omega, rfl⟩
theorem wrec_k (k : Nat) (hk : k ≤ 1000) : (wRec (rk k)).1.length = 14 + 37 * k ∧ (wRec (rk k)).2 = decide (255 < k) := by
  obtain ⟨s, hs⟩ : ∃ s, s = wKey (rk k).key (wN (rk k).size 4 1073741824 (wN (rk k).id 4 1073741824 (wHead (rk k)))) := ⟨_, rfl⟩
  have hs1 : s.1.length = 10 := by rw [hs]; rfl
  have hs2 : s.2 = false := by rw [hs]; rfl
  have e : wRec (rk k) = wInts [] (wObjs [] (wStripes (lk k) s)) := by rw [hs]; rfl
  rw [e]
  obtain ⟨h1, h2⟩ := fold_sev (wN (lk k).length 1 255 s) k hk
  have e2 : wStripes (lk k) s = (lk k).foldl (fun s x => wStripe x s) (wN (lk k).length 1 255 s) := rfl
  rw [← e2] at h1 h2
  rw [wN_len, hs1] at h1
  have h3 : (wStripes (lk k) s).2 = decide (255 < k) := by
    rw [h2, lk_len]
    have h1 : ¬ ((k : Int) < 0) := by omega
    by_cases h : 255 < k
    · have h2 : (255 : Int) < (k : Int) := by omega
      simp [wN, hs2, h1, h2, h]
    · have h2 : ¬ ((255 : Int) < (k : Int)) := by omega
      simp [wN, hs2, h1, h2, h]
  constructor
  · simp only [wInts, wObjs, List.foldl_nil, wN_len, h1]; omega
  · simp only [wInts, wObjs, List.foldl_nil, List.length_nil]
    show ((wN 0 1 255 (wN 0 2 65535 (wStripes (lk k) s))).2) = _
    simp [wN, h3]
theorem enc_big (k : Nat) (hk : k ≤ 1000) (h : 255 < k) : encO (rk k) = ([], 2) := by
  have := wrec_k k hk
  unfold encO
  rw [this.2, if_pos (by simpa using h)]
theorem enc_large (k : Nat) (h1 : ¬ 255 < k) (h2 : 221 < k) : encO (rk k) = ([], 4) := by
  have := wrec_k k (by omega)
  unfold encO
  rw [this.2, if_neg (by simpa using h1), if_pos (by omega)]
theorem enc_ok (k : Nat) (h : ¬ 221 < k) : encO (rk k) = ((wRec (rk k)).1, 0) := by
  have := wrec_k k (by omega)
  unfold encO
  rw [this.2, if_neg (by simp; omega), if_neg (by omega)]
theorem lit_row (W : World) (base : Nat) (ok : Nat → Prop) (hb : base ≤ W.heap.size) (ho : ok W.heap.size) : (Kd.int .i64).R 3 (W.alloc (.cells #[.int .i64 1, .int .i64 2, .int .i64 3, .int .i64 4, .int .i64 5, .int .i64 6, .int .i64 7] 3)) base ok (.slice (some ⟨W.heap.size, 0, none⟩) 7 7) [1, 2, 3, 4, 5, 6, 7] := by
  refine Kd.R_of_own (enc := Value.int .i64) (h1 := fun _ => rfl) ?_ (fun k hk => ?_)
  · exact World.ownsRow_lit (base := base) (e := 3) (size := 1) W #[.int .i64 1, .int .i64 2, .int .i64 3, .int .i64 4, .int .i64 5, .int .i64 6, .int .i64 7] 7 hb (by decide) rfl
  · have : W.heap.size = k := by simpa [Value.ownBlock] using hk
    subst this; exact ho
/-- The loop's state. -/
structure Lg (w W : World) (k : Nat) : Prop where
  hb : Below w.heap.size w W
  ex : ∃ A c, W.heap[w.heap.size]? = some (.cells #[.int .i64 1, .int .i64 1, .int .i64 0, .string ⟨#[]⟩, .slice A (lk k).length c, .slice none 0 0, .slice none 0 0] 26 (0, 0)) ∧ k41.R 41 W w.heap.size (fun j => j ≠ w.heap.size) (.slice A (lk k).length c) (lk k)
def flittinglaw09_RecLarge.Pure : Prop := True
set_option maxHeartbeats 4000000 in
set_option maxRecDepth 100000 in
theorem flittinglaw09_RecLarge.walk (_P : flittinglaw09_RecLarge.Pure) (a0 : Int) (w : World) (h0 : (Lit.int .u8 a0).wf = true) :
    Calls Try.prog 7 #[.int .u8 a0] w fun e w' => e = .returned (.bool true) ∧ Below w.heap.size w w' := by
  have ha0 : 0 ≤ a0 ∧ a0 ≤ 255 := by
    have h : IntKind.u8.min ≤ a0 ∧ a0 ≤ IntKind.u8.max := by simpa [Lit.wf] using h0
    exact h
  obtain ⟨n, rfl⟩ : ∃ n : Nat, a0 = n := ⟨a0.toNat, by omega⟩
  have hn : n ≤ 255 := by omega
  obtain ⟨K, hK⟩ : ∃ K, K = n + 100 := ⟨_, rfl⟩
  have hK2 : K ≤ 355 := by omega
  have hwk : wrap64 ((n : Int) + 100) = (K : Int) := by unfold wrap64; omega
  have hwi : IntKind.i64.wrap (n : Int) = (n : Int) := by rw [IntKind.wrap_i64]; omega
  obtain ⟨w1, hw1⟩ : ∃ w1, w1 = w.alloc (.cells #[.int .i64 1, .int .i64 1, .int .i64 0, .string ⟨#[]⟩, .slice none 0 0, .slice none 0 0, .slice none 0 0] 26) := ⟨_, rfl⟩
  have hB1 : Below w.heap.size w w1 := by rw [hw1]; exact (Below.refl _ _).alloc (Nat.le_refl _) _
  have hb1 : w1.heap[w.heap.size]? = some (.cells #[.int .i64 1, .int .i64 1, .int .i64 0, .string ⟨#[]⟩, .slice none 0 0, .slice none 0 0, .slice none 0 0] 26 (0, 0)) := by rw [hw1]; exact heap_alloc_new w _
  have HL1 : Aside0 (Lg w w1 0) := ⟨hB1, none, 0, hb1, Kd.R_nil _ _ _ _ _⟩
  have HW1 := Aside0.mk hw1
  have HKK := Aside0.mk hK2
  clear _P h0 ha0 hw1 hB1 hb1 hK hn
  go_enter Try.func7, Try.ntmps7
  go_upto_region 3 with fail
  rw [← HW1.out, hwk]
  clear hwk
  go_wp2
  go_loopw [5, 13, 14, 15, 16, 17, 18, 19, 20, 21, 22, 23, 24, 25] (fun x5 x13 x14 x15 x16 x17 x18 x19 x20 x21 x22 x23 x24 x25 wr => ∃ k : Nat, k ≤ K ∧ x5 = .int .i64 k ∧ Aside0 (Lg w wr k)) (fun x5 _ _ _ _ _ _ _ _ _ _ _ _ _ _ => K - (intOf x5).toNat)
  case atStart => exact ⟨0, Nat.zero_le _, rfl, HL1⟩
  case round =>
    obtain ⟨k, hk, rfl, HL⟩ := hrel
    obtain ⟨A, c, hblk, hR⟩ := HL.out.ex
    have HBK := Aside0.mk hblk
    have HR := Aside0.mk hR
    have HB := Aside0.mk HL.out.hb
    have HLT : Aside0 (w.heap.size < wr.heap.size) := ⟨blk_lt hblk⟩
    by_cases hlt : k < K
    · have d4 : wr.cell? ⟨w.heap.size, 4, none⟩ = some (.slice A (lk k).length c) := (blk_cell hblk 4).trans rfl
      have hwk2 : wrap64 ((k : Int) + 1) = ((k + 1 : Nat) : Int) := by unfold wrap64; have := HKK.out; omega
      obtain ⟨wl, hwl⟩ : ∃ wl, wl = wr.alloc (.cells #[.int .i64 1, .int .i64 2, .int .i64 3, .int .i64 4, .int .i64 5, .int .i64 6, .int .i64 7] 3) := ⟨_, rfl⟩
      have hBl : Below wr.heap.size wr wl := by rw [hwl]; exact (Below.refl _ _).alloc (Nat.le_refl _) _
      have hMl : k41.M wl w.heap.size (fun j => j = wr.heap.size) (sev k) [.int .i64 (k : Int), .int .i64 0, .slice (some ⟨wr.heap.size, 0, none⟩) 7 7] := k41_mkM _ _ _ (sev k) (by rw [hwl]; exact lit_row wr w.heap.size _ HB.out.size rfl)
      have HBl := Aside0.mk hBl
      have HMl := Aside0.mk hMl
      have HWL := Aside0.mk hwl
      have HRl : Aside0 (k41.R 41 wl w.heap.size (fun j => j ≠ w.heap.size) (.slice A (lk k).length c) (lk k)) := ⟨Kd.R_below hR hBl⟩
      have HBwl : Aside0 (Below w.heap.size w wl) := ⟨HB.out.trans (hBl.mono HB.out.size)⟩
      have HBKl : Aside0 (wl.heap[w.heap.size]? = _) := ⟨blk_below hblk hBl⟩
      have HZ : Aside0 (wl.heap.size = wr.heap.size + 1) := ⟨by rw [hwl]; exact Array.size_push ..⟩
      clear hblk hR hwl hBl hMl
      go_wp2_with (at_builtin; rw [← HWL.out]; refine Kd.R_append k41 (w0 := w) w.heap.size rfl (.tmp 19) (.tmp 23) 22 41 (.agg #[.int .i64 0, .int .i64 0, .slice none 0 0]) 40 rfl Try.underlying22 info41 rfl (by decide) (by decide) (.slice A (lk k).length c) (lk k) (sev k) [.int .i64 (k : Int), .int .i64 0, .slice (some ⟨wr.heap.size, 0, none⟩) 7 7] (fun j => j ≠ w.heap.size) (fun j => j = wr.heap.size) rfl ?hx HMl.out ?hok ?hfr HRl.out HBwl.out HBwl.out.size ?hlen ?_; (case hx => first | rfl | (rw [HZ.out]; rfl)); (case hok => intro j hj; subst hj; exact ⟨by have := HLT.out; omega, fun e => by have := ((Kd.R_bound HR.out).1 _ e.symm).2.2.1; omega⟩); (case hfr => intro j hj; have := HLT.out; have := HZ.out; omega); (case hlen => rw [lk_len]; have := HKK.out; omega); intro v3 w3 ho hb hg hat; have HO3 := Aside0.mk ho; have HB3 := Aside0.mk hb; have HG3 := Aside0.mk hg; obtain ⟨A3, n3, e3⟩ := Kd.R_slice ho; subst e3; have hbk3 : w3.heap[w.heap.size]? = _ := (hg.block w.heap.size (by have := HLT.out; have := HZ.out; omega) (fun e => HR.out.1 _ e.symm rfl)).trans HBKl.out; have HBK3 := Aside0.mk hbk3; have e4 : w3.cell? ⟨w.heap.size, 4, none⟩ = some (.slice A (lk k).length c) := (blk_cell hbk3 4).trans rfl; have efz : ∀ j, w3.frozen? ⟨w.heap.size, j, none⟩ = false := fun j => blk_frozen hbk3 j; clear ho hb hg hat hbk3)
      go_roundw
      case rel =>
        refine ⟨k + 1, by omega, by go_num, ⟨⟨HB3.out.setCell (Nat.le_refl _) _, A3, n3, ?_, ?_⟩⟩⟩
        · have := blk_set HBK3.out 4 (.slice A3 (lk k ++ [sev k]).length n3)
          rw [lk_succ]
          simpa using this
        · rw [lk_succ]
          exact Kd.R_far (by simpa using HO3.out) (fun _ h => h) _
      case measure => simp [intOf]; omega
    · obtain rfl : k = K := by omega
      have hd : decide ((k : Int) < (k : Int)) = false := decide_eq_false (by omega)
      have HC := Aside0.mk (Kd.F_now (Kd.R_F hR))
      have d0 : wr.cell? ⟨w.heap.size, 0, none⟩ = some (.int .i64 1) := (blk_cell hblk 0).trans rfl
      have d1 : wr.cell? ⟨w.heap.size, 1, none⟩ = some (.int .i64 1) := (blk_cell hblk 1).trans rfl
      have d2 : wr.cell? ⟨w.heap.size, 2, none⟩ = some (.int .i64 0) := (blk_cell hblk 2).trans rfl
      have d3 : wr.cell? ⟨w.heap.size, 3, none⟩ = some (.string ⟨#[]⟩) := (blk_cell hblk 3).trans rfl
      have d4 : wr.cell? ⟨w.heap.size, 4, none⟩ = some (.slice A (lk k).length c) := (blk_cell hblk 4).trans rfl
      have d5 : wr.cell? ⟨w.heap.size, 5, none⟩ = some (.slice none 0 0) := (blk_cell hblk 5).trans rfl
      have d6 : wr.cell? ⟨w.heap.size, 6, none⟩ = some (.slice none 0 0) := (blk_cell hblk 6).trans rfl
      have HE : Aside0 (Calls Try.prog 10 #[.agg #[.int .i64 1, .int .i64 1, .int .i64 0, .string ⟨#[]⟩, .slice A (lk k).length c, .slice none 0 0, .slice none 0 0]] wr _) := ⟨encode_calls A none none c 0 0 (rk k) wr HC.out (Kd.C_nil _ _) (Kd.C_nil _ _) (by rw [(wrec_k k (by have := HKK.out; omega)).1]; have := HKK.out; omega)⟩
      have HP : Aside0 ((wRec (rk k)).1.length = 14 + 37 * k) := ⟨(wrec_k k (by have := HKK.out; omega)).1⟩
      have hwm : wrap64 (37 * (k : Int)) = 37 * (k : Int) := by unfold wrap64; have := HKK.out; omega
      have hwa : wrap64 (14 + 37 * (k : Int)) = 14 + 37 * (k : Int) := by unfold wrap64; have := HKK.out; omega
      clear hblk hR hk hlt
      by_cases h1 : 255 < k
      · rw [enc_big k (by have := HKK.out; omega) h1] at HE
        have t1 : decide ((255 : Int) < (k : Int)) = true := decide_eq_true (by omega)
        clear h1 HP
        go_wp2_with fail
        refine HE.out.mono ?_
        rintro e w4 ⟨v4, rfl, hR4, hB4⟩
        obtain ⟨A4, n4, e4⟩ := Kd.R_slice hR4
        subst e4
        have HB4 : Aside0 (Below w.heap.size w w4) := ⟨HB.out.trans (hB4.mono HB.out.size)⟩
        clear hR4 hB4 HE d0 d1 d2 d3 d4 d5 d6
        go_wp2_with fail
        refine (answers_calls _).mono ?_
        rintro e w5 ⟨rfl, hb5⟩
        have HB5 : Aside0 (Below w.heap.size w w5) := ⟨HB4.out.trans (hb5.mono HB4.out.size)⟩
        clear hb5
        go_wp2
        go_ret
        exact ⟨rfl, HB5.out⟩
      · by_cases h2 : 221 < k
        · rw [enc_large k h1 h2] at HE
          have t1 : decide ((255 : Int) < (k : Int)) = false := decide_eq_false (by omega)
          have t2 : decide ((8192 : Int) < 14 + 37 * (k : Int)) = true := decide_eq_true (by omega)
          clear h1 h2 HP
          go_wp2_with fail
          refine HE.out.mono ?_
          rintro e w4 ⟨v4, rfl, hR4, hB4⟩
          obtain ⟨A4, n4, e4⟩ := Kd.R_slice hR4
          subst e4
          have HB4 : Aside0 (Below w.heap.size w w4) := ⟨HB.out.trans (hB4.mono HB.out.size)⟩
          clear hR4 hB4 HE d0 d1 d2 d3 d4 d5 d6
          go_wp2_with fail
          refine (answers_calls _).mono ?_
          rintro e w5 ⟨rfl, hb5⟩
          have HB5 : Aside0 (Below w.heap.size w w5) := ⟨HB4.out.trans (hb5.mono HB4.out.size)⟩
          clear hb5
          go_wp2
          go_ret
          exact ⟨rfl, HB5.out⟩
        · rw [enc_ok k h2] at HE
          have t1 : decide ((255 : Int) < (k : Int)) = false := decide_eq_false (by omega)
          have t2 : decide ((8192 : Int) < 14 + 37 * (k : Int)) = false := decide_eq_false (by omega)
          obtain ⟨l, hl⟩ : ∃ l, l = (wRec (rk k)).1 := ⟨_, rfl⟩
          rw [← hl] at HE HP
          have t3 : decide ((0 : Int) < (l.length : Int)) = true := decide_eq_true (by have := HP.out; omega)
          have t4 : decide (0 < l.length) = true := decide_eq_true (by have := HP.out; omega)
          clear h1 h2 HP hl
          go_wp2_with fail
          refine HE.out.mono ?_
          rintro e w4 ⟨v4, rfl, hR4, hB4⟩
          obtain ⟨A4, n4, e4⟩ := Kd.R_slice hR4
          subst e4
          have HB4 : Aside0 (Below w.heap.size w w4) := ⟨HB.out.trans (hB4.mono HB.out.size)⟩
          clear hR4 hB4 HE d0 d1 d2 d3 d4 d5 d6
          go_wp2_with fail
          refine (answers_calls _).mono ?_
          rintro e w5 ⟨rfl, hb5⟩
          have HB5 : Aside0 (Below w.heap.size w w5) := ⟨HB4.out.trans (hb5.mono HB4.out.size)⟩
          clear hb5
          go_wp2
          go_ret
          exact ⟨rfl, HB5.out⟩
end Go.Proofs.Ythoebncbhmefmaa.PRecLarge
