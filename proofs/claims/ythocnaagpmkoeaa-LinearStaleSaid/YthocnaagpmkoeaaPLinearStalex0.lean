/- LinearStale: the walk. -/
import Derived.Test.YthocnaagpmkoeaaLn8
import Derived.Test.YthocnaagpmkoeaaOp
namespace Go.Proofs.Ythocnaagpmkoeaa.PLinearStale
open Go.RowKit Go.Proofs.YthocnaagpmkoeaaW.PrintWords Go.Proofs.YthocnaagpmkoeaaW.PrintLast Go.Proofs.YthocnaagpmkoeaaW.PrintMore
attribute [local go_sem] max2_int min2_int max_two min_two max_three min_three max_four min_four
set_option linter.unusedVariables false
set_option linter.unusedSimpArgs false
open Go.Proofs.Ythocnaagpmkoeaa.Ln Go.Proofs.Ythocnaagpmkoeaa.Op Go.Proofs.Ythocnaagpmkoeaa.Mp
def flittinglaw22_LinearStale.Pure : Prop := True
set_option maxHeartbeats 4000000 in
set_option maxRecDepth 100000 in
theorem flittinglaw22_LinearStale.walk (_P : flittinglaw22_LinearStale.Pure) (A0 : Option Addr) (c0 : Nat) (l0 : List Int) (A1 : Option Addr) (c1 : Nat) (l1 : List Int) (a2 : Int) (w : World) (hl0 : l0.length ≤ c0) (hC0 : U8.C w A0 l0.length l0) (hG0 : Row 1 (fun n => (Lit.int .u8 n).wf = true) l0) (hl1 : l1.length ≤ c1) (hC1 : U8.C w A1 l1.length l1) (hG1 : Row 1 (fun n => (Lit.int .u8 n).wf = true) l1) (w2 : (Lit.int .u8 a2).wf = true) :
    Calls Try.prog 5 #[.slice A0 l0.length c0, .slice A1 l1.length c1, .int .u8 a2] w fun e w' => e = .returned (.bool true) ∧ Below w.heap.size w w' := by
  have hb : ∀ n, (Lit.int .u8 n).wf = true → 0 ≤ n ∧ n < 256 := fun n h => by
    have h2 : (decide (IntKind.u8.min ≤ n) && decide (n ≤ IntKind.u8.max)) = true := h
    simp only [Bool.and_eq_true, decide_eq_true_eq] at h2
    have e1 : IntKind.u8.min = 0 := by decide
    have e2 : IntKind.u8.max = 255 := by decide
    omega
  have HY0 : Aside0 (Byt l0) := ⟨fun x hx => hb x (hG0.all x hx)⟩
  have HY1 : Aside0 (Byt l1) := ⟨fun x hx => hb x (hG1.all x hx)⟩
  obtain ⟨p2, q2⟩ := hb a2 w2
  have HM : Aside0 (l0.length < 1000000000000000) := ⟨by have := hG0.len; omega⟩
  have HC0 := Aside0.mk hC0
  have HC1 := Aside0.mk hC1
  have HL0 := Aside0.mk hl0
  have HL1 := Aside0.mk hl1
  have HLEN : Aside0 (l0.length < 1000000000000000 → flittingref01_Same.f (l0.length + 1) l0 l1 = some (decide (l0 = l1))) := ⟨same_f l0 l1⟩
  clear hl0 hC0 hG0 hl1 hC1 hG1 w2 hb _P
  by_cases t0 : l0.length ≤ 100
  · have d0 : decide ((100 : Int) < (l0.length : Int)) = false := decide_eq_false (by omega)
    by_cases hs : l0 = l1
    · have HS : Aside0 (flittingref01_Same.f (l0.length + 1) l0 l1 = some true) := ⟨by rw [HLEN.out (by omega)]; simp [hs]⟩
      clear hs t0
      go_enter Try.func5, Try.ntmps5
      go_wp2_with fail
      refine (flittingref01_Same.calls (l0.length + 1) A0 c0 l0 A1 c1 l1 true w HC0.out HL0.out HC1.out HL1.out HS.out).mono ?_
      rintro e w1 ⟨rfl, hd1⟩
      have HB1 := Aside0.mk hd1.below
      clear hd1
      go_wp2_with fail
      refine (answers_calls _).mono ?_
      rintro e w2 ⟨rfl, hb2⟩
      go_wp2_with fail
      go_ret
      exact ⟨rfl, HB1.out.trans (hb2.mono HB1.out.size)⟩
    · have HS : Aside0 (flittingref01_Same.f (l0.length + 1) l0 l1 = some false) := ⟨by rw [HLEN.out (by omega)]; simp [hs]⟩
      have HNE := Aside0.mk hs
      clear hs t0
      by_cases t1 : l1.length ≤ 100
      · have d1 : decide ((100 : Int) < (l1.length : Int)) = false := decide_eq_false (by omega)
        clear t1
        go_enter Try.func5, Try.ntmps5
        go_wp2_with fail
        refine (flittingref01_Same.calls (l0.length + 1) A0 c0 l0 A1 c1 l1 false w HC0.out HL0.out HC1.out HL1.out HS.out).mono ?_
        rintro e w1 ⟨rfl, hd1⟩
        have HB1 := Aside0.mk hd1.below
        clear hd1
        obtain ⟨W, hW⟩ : ∃ W, (((((w1.alloc (.cells #[.int .i64 0, .int .i64 1, .string ⟨#[107]⟩, .slice A0 l0.length c0, .int .i64 1, .int .i64 2, .int .i64 2, .int .i64 0, .slice none 0 0, .slice none 0 0] 29)).alloc (.cells #[.int .i64 0, .int .i64 1, .string ⟨#[107]⟩, .slice A1 l1.length c1, .int .i64 3, .int .i64 4, .int .i64 4, .int .i64 0, .slice none 0 0, .slice none 0 0] 29)).alloc (.cells #[.int .i64 0, .int .i64 2, .string ⟨#[107]⟩, .slice none 0 0, .int .i64 (a2 + 5), .int .i64 (a2 + 5 + 1), .int .i64 (a2 + 5), .int .i64 0, .slice A0 l0.length c0, .slice none 0 0] 29)).alloc (.cells #[.int .i64 0, .int .i64 2, .string ⟨#[107]⟩, .slice none 0 0, .int .i64 (a2 + 5), .int .i64 (a2 + 5 + 1), .int .i64 (a2 + 5), .int .i64 0, .slice A1 l1.length c1, .slice none 0 0] 29)).alloc (.cells #[.int .i64 0, .int .i64 2, .string ⟨#[107]⟩, .slice none 0 0, .int .i64 2, .int .i64 (a2 + 5 + 1), .int .i64 3, .int .i64 0, .slice A0 l0.length c0, .slice none 0 0] 29)) = W := ⟨_, rfl⟩
        have hWA : W = allocs w1 [.cells #[.int .i64 0, .int .i64 1, .string ⟨#[107]⟩, .slice A0 l0.length c0, .int .i64 1, .int .i64 2, .int .i64 2, .int .i64 0, .slice none 0 0, .slice none 0 0] 29, .cells #[.int .i64 0, .int .i64 1, .string ⟨#[107]⟩, .slice A1 l1.length c1, .int .i64 3, .int .i64 4, .int .i64 4, .int .i64 0, .slice none 0 0, .slice none 0 0] 29, .cells #[.int .i64 0, .int .i64 2, .string ⟨#[107]⟩, .slice none 0 0, .int .i64 (a2 + 5), .int .i64 (a2 + 5 + 1), .int .i64 (a2 + 5), .int .i64 0, .slice A0 l0.length c0, .slice none 0 0] 29, .cells #[.int .i64 0, .int .i64 2, .string ⟨#[107]⟩, .slice none 0 0, .int .i64 (a2 + 5), .int .i64 (a2 + 5 + 1), .int .i64 (a2 + 5), .int .i64 0, .slice A1 l1.length c1, .slice none 0 0] 29, .cells #[.int .i64 0, .int .i64 2, .string ⟨#[107]⟩, .slice none 0 0, .int .i64 2, .int .i64 (a2 + 5 + 1), .int .i64 3, .int .i64 0, .slice A0 l0.length c0, .slice none 0 0] 29] := hW.symm
        have HBW : Aside0 (Below w1.heap.size w1 W) := ⟨by rw [hWA]; exact allocs_below _ _⟩
        have b0 : W.heap[w1.heap.size]? = some (.cells #[.int .i64 0, .int .i64 1, .string ⟨#[107]⟩, .slice A0 l0.length c0, .int .i64 1, .int .i64 2, .int .i64 2, .int .i64 0, .slice none 0 0, .slice none 0 0] 29) := by rw [hWA]; exact allocs_at w1 _ 0 _ rfl
        have b1 : W.heap[w1.heap.size + 1]? = some (.cells #[.int .i64 0, .int .i64 1, .string ⟨#[107]⟩, .slice A1 l1.length c1, .int .i64 3, .int .i64 4, .int .i64 4, .int .i64 0, .slice none 0 0, .slice none 0 0] 29) := by rw [hWA]; exact allocs_at w1 _ 1 _ rfl
        have b2 : W.heap[w1.heap.size + 1 + 1]? = some (.cells #[.int .i64 0, .int .i64 2, .string ⟨#[107]⟩, .slice none 0 0, .int .i64 (a2 + 5), .int .i64 (a2 + 5 + 1), .int .i64 (a2 + 5), .int .i64 0, .slice A0 l0.length c0, .slice none 0 0] 29) := by rw [hWA]; exact allocs_at w1 _ 2 _ rfl
        have b3 : W.heap[w1.heap.size + 1 + 1 + 1]? = some (.cells #[.int .i64 0, .int .i64 2, .string ⟨#[107]⟩, .slice none 0 0, .int .i64 (a2 + 5), .int .i64 (a2 + 5 + 1), .int .i64 (a2 + 5), .int .i64 0, .slice A1 l1.length c1, .slice none 0 0] 29) := by rw [hWA]; exact allocs_at w1 _ 3 _ rfl
        have b4 : W.heap[w1.heap.size + 1 + 1 + 1 + 1]? = some (.cells #[.int .i64 0, .int .i64 2, .string ⟨#[107]⟩, .slice none 0 0, .int .i64 2, .int .i64 (a2 + 5 + 1), .int .i64 3, .int .i64 0, .slice A0 l0.length c0, .slice none 0 0] 29) := by rw [hWA]; exact allocs_at w1 _ 4 _ rfl
        have BB0 := Aside0.mk b0
        have BB1 := Aside0.mk b1
        have BB2 := Aside0.mk b2
        have BB3 := Aside0.mk b3
        have BB4 := Aside0.mk b4
        have HK1 : Aside0 (∀ W', Below W.heap.size W W' → Calls Try.prog 7 #[.slice (some ⟨W'.heap.size, 0, none⟩) 3 3] (W'.alloc (.cells #[.int .i64 0, .int .i64 1, .string ⟨#[107]⟩, .slice A0 l0.length c0, .int .i64 1, .int .i64 2, .int .i64 2, .int .i64 0, .slice none 0 0, .slice none 0 0, .int .i64 0, .int .i64 1, .string ⟨#[107]⟩, .slice A1 l1.length c1, .int .i64 3, .int .i64 4, .int .i64 4, .int .i64 0, .slice none 0 0, .slice none 0 0, .int .i64 0, .int .i64 2, .string ⟨#[107]⟩, .slice none 0 0, .int .i64 (a2 + 5), .int .i64 (a2 + 5 + 1), .int .i64 (a2 + 5), .int .i64 0, .slice A0 l0.length c0, .slice none 0 0] 29)) fun e w' => e = .returned (.bool false) ∧ Below W'.heap.size W' w') := ⟨fun W' hb =>
          check_new W' _ rfl [fX ⟨A0, c0, l0⟩, fY ⟨A1, c1, l1⟩, fZ (a2 + 5) ⟨A0, c0, l0⟩] _ rfl 3 rfl false (stale1 _ _ _ (by omega) HY0.out HY1.out HNE.out) (by decide) (by
            have k0 : Ds.ok W' ⟨A0, c0, l0⟩ := ⟨HL0.out, Kd.C_below HC0.out (HB1.out.trans ((HBW.out.trans (hb.mono HBW.out.size)).mono HB1.out.size))⟩
            have k1 : Ds.ok W' ⟨A1, c1, l1⟩ := ⟨HL1.out, Kd.C_below HC1.out (HB1.out.trans ((HBW.out.trans (hb.mono HBW.out.size)).mono HB1.out.size))⟩
            intro x hx
            simp only [List.mem_cons, List.not_mem_nil, or_false] at hx
            rcases hx with rfl | rfl | rfl
            · exact ⟨⟨k0, ds_nil _⟩, by show (1 : Nat) ≤ 1000; decide, .inl rfl⟩
            · exact ⟨⟨k1, ds_nil _⟩, by show (1 : Nat) ≤ 1000; decide, .inl rfl⟩
            · exact ⟨⟨ds_nil _, k0⟩, by show (1 : Nat) ≤ 1000; decide, .inr rfl⟩)⟩
        have HK2 : Aside0 (∀ W', Below W.heap.size W W' → Calls Try.prog 7 #[.slice (some ⟨W'.heap.size, 0, none⟩) 3 3] (W'.alloc (.cells #[.int .i64 0, .int .i64 1, .string ⟨#[107]⟩, .slice A0 l0.length c0, .int .i64 1, .int .i64 2, .int .i64 2, .int .i64 0, .slice none 0 0, .slice none 0 0, .int .i64 0, .int .i64 1, .string ⟨#[107]⟩, .slice A1 l1.length c1, .int .i64 3, .int .i64 4, .int .i64 4, .int .i64 0, .slice none 0 0, .slice none 0 0, .int .i64 0, .int .i64 2, .string ⟨#[107]⟩, .slice none 0 0, .int .i64 (a2 + 5), .int .i64 (a2 + 5 + 1), .int .i64 (a2 + 5), .int .i64 0, .slice A1 l1.length c1, .slice none 0 0] 29)) fun e w' => e = .returned (.bool true) ∧ Below W'.heap.size W' w') := ⟨fun W' hb =>
          check_new W' _ rfl [fX ⟨A0, c0, l0⟩, fY ⟨A1, c1, l1⟩, fZ (a2 + 5) ⟨A1, c1, l1⟩] _ rfl 3 rfl true (stale2 _ _ _ (by omega)) (by decide) (by
            have k0 : Ds.ok W' ⟨A0, c0, l0⟩ := ⟨HL0.out, Kd.C_below HC0.out (HB1.out.trans ((HBW.out.trans (hb.mono HBW.out.size)).mono HB1.out.size))⟩
            have k1 : Ds.ok W' ⟨A1, c1, l1⟩ := ⟨HL1.out, Kd.C_below HC1.out (HB1.out.trans ((HBW.out.trans (hb.mono HBW.out.size)).mono HB1.out.size))⟩
            intro x hx
            simp only [List.mem_cons, List.not_mem_nil, or_false] at hx
            rcases hx with rfl | rfl | rfl
            · exact ⟨⟨k0, ds_nil _⟩, by show (1 : Nat) ≤ 1000; decide, .inl rfl⟩
            · exact ⟨⟨k1, ds_nil _⟩, by show (1 : Nat) ≤ 1000; decide, .inl rfl⟩
            · exact ⟨⟨ds_nil _, k1⟩, by show (1 : Nat) ≤ 1000; decide, .inr rfl⟩)⟩
        have HK3 : Aside0 (∀ W', Below W.heap.size W W' → Calls Try.prog 7 #[.slice (some ⟨W'.heap.size, 0, none⟩) 3 3] (W'.alloc (.cells #[.int .i64 0, .int .i64 1, .string ⟨#[107]⟩, .slice A0 l0.length c0, .int .i64 1, .int .i64 2, .int .i64 2, .int .i64 0, .slice none 0 0, .slice none 0 0, .int .i64 0, .int .i64 1, .string ⟨#[107]⟩, .slice A1 l1.length c1, .int .i64 3, .int .i64 4, .int .i64 4, .int .i64 0, .slice none 0 0, .slice none 0 0, .int .i64 0, .int .i64 2, .string ⟨#[107]⟩, .slice none 0 0, .int .i64 2, .int .i64 (a2 + 5 + 1), .int .i64 3, .int .i64 0, .slice A0 l0.length c0, .slice none 0 0] 29)) fun e w' => e = .returned (.bool true) ∧ Below W'.heap.size W' w') := ⟨fun W' hb =>
          check_new W' _ rfl [fX ⟨A0, c0, l0⟩, fY ⟨A1, c1, l1⟩, fV (a2 + 5) ⟨A0, c0, l0⟩] _ rfl 3 rfl true (stale3 _ _ _ (by omega)) (by decide) (by
            have k0 : Ds.ok W' ⟨A0, c0, l0⟩ := ⟨HL0.out, Kd.C_below HC0.out (HB1.out.trans ((HBW.out.trans (hb.mono HBW.out.size)).mono HB1.out.size))⟩
            have k1 : Ds.ok W' ⟨A1, c1, l1⟩ := ⟨HL1.out, Kd.C_below HC1.out (HB1.out.trans ((HBW.out.trans (hb.mono HBW.out.size)).mono HB1.out.size))⟩
            intro x hx
            simp only [List.mem_cons, List.not_mem_nil, or_false] at hx
            rcases hx with rfl | rfl | rfl
            · exact ⟨⟨k0, ds_nil _⟩, by show (1 : Nat) ≤ 1000; decide, .inl rfl⟩
            · exact ⟨⟨k1, ds_nil _⟩, by show (1 : Nat) ≤ 1000; decide, .inl rfl⟩
            · exact ⟨⟨ds_nil _, k0⟩, by show (1 : Nat) ≤ 1000; decide, .inr rfl⟩)⟩
        clear hWA b0 b1 b2 b3 b4
        go_upto_region 11 with fail
        clear hW
        generalize w1.heap.size + 1 + 1 + 1 + 1 = p4_ at *
        generalize w1.heap.size + 1 + 1 + 1 = p3_ at *
        generalize w1.heap.size + 1 + 1 = p2_ at *
        generalize w1.heap.size + 1 = p1_ at *
        generalize hp0 : w1.heap.size = p0_ at BB0 ⊢
        clear hp0
        go_wp2_with fail
        refine (answers_calls _).mono ?_
        rintro e w4 ⟨rfl, hb4⟩
        have HB4 := Aside0.mk hb4
        have m0_0 : w4.cell? ⟨p0_, 0, none⟩ = some (.int .i64 0) := (blk_cell (blk_below BB0.out hb4) 0).trans rfl
        have m0_1 : w4.cell? ⟨p0_, 1, none⟩ = some (.int .i64 1) := (blk_cell (blk_below BB0.out hb4) 1).trans rfl
        have m0_2 : w4.cell? ⟨p0_, 2, none⟩ = some (.string ⟨#[107]⟩) := (blk_cell (blk_below BB0.out hb4) 2).trans rfl
        have m0_3 : w4.cell? ⟨p0_, 3, none⟩ = some (.slice A0 l0.length c0) := (blk_cell (blk_below BB0.out hb4) 3).trans rfl
        have m0_4 : w4.cell? ⟨p0_, 4, none⟩ = some (.int .i64 1) := (blk_cell (blk_below BB0.out hb4) 4).trans rfl
        have m0_5 : w4.cell? ⟨p0_, 5, none⟩ = some (.int .i64 2) := (blk_cell (blk_below BB0.out hb4) 5).trans rfl
        have m0_6 : w4.cell? ⟨p0_, 6, none⟩ = some (.int .i64 2) := (blk_cell (blk_below BB0.out hb4) 6).trans rfl
        have m0_7 : w4.cell? ⟨p0_, 7, none⟩ = some (.int .i64 0) := (blk_cell (blk_below BB0.out hb4) 7).trans rfl
        have m0_8 : w4.cell? ⟨p0_, 8, none⟩ = some (.slice none 0 0) := (blk_cell (blk_below BB0.out hb4) 8).trans rfl
        have m0_9 : w4.cell? ⟨p0_, 9, none⟩ = some (.slice none 0 0) := (blk_cell (blk_below BB0.out hb4) 9).trans rfl
        have m1_0 : w4.cell? ⟨p1_, 0, none⟩ = some (.int .i64 0) := (blk_cell (blk_below BB1.out hb4) 0).trans rfl
        have m1_1 : w4.cell? ⟨p1_, 1, none⟩ = some (.int .i64 1) := (blk_cell (blk_below BB1.out hb4) 1).trans rfl
        have m1_2 : w4.cell? ⟨p1_, 2, none⟩ = some (.string ⟨#[107]⟩) := (blk_cell (blk_below BB1.out hb4) 2).trans rfl
        have m1_3 : w4.cell? ⟨p1_, 3, none⟩ = some (.slice A1 l1.length c1) := (blk_cell (blk_below BB1.out hb4) 3).trans rfl
        have m1_4 : w4.cell? ⟨p1_, 4, none⟩ = some (.int .i64 3) := (blk_cell (blk_below BB1.out hb4) 4).trans rfl
        have m1_5 : w4.cell? ⟨p1_, 5, none⟩ = some (.int .i64 4) := (blk_cell (blk_below BB1.out hb4) 5).trans rfl
        have m1_6 : w4.cell? ⟨p1_, 6, none⟩ = some (.int .i64 4) := (blk_cell (blk_below BB1.out hb4) 6).trans rfl
        have m1_7 : w4.cell? ⟨p1_, 7, none⟩ = some (.int .i64 0) := (blk_cell (blk_below BB1.out hb4) 7).trans rfl
        have m1_8 : w4.cell? ⟨p1_, 8, none⟩ = some (.slice none 0 0) := (blk_cell (blk_below BB1.out hb4) 8).trans rfl
        have m1_9 : w4.cell? ⟨p1_, 9, none⟩ = some (.slice none 0 0) := (blk_cell (blk_below BB1.out hb4) 9).trans rfl
        have m2_0 : w4.cell? ⟨p2_, 0, none⟩ = some (.int .i64 0) := (blk_cell (blk_below BB2.out hb4) 0).trans rfl
        have m2_1 : w4.cell? ⟨p2_, 1, none⟩ = some (.int .i64 2) := (blk_cell (blk_below BB2.out hb4) 1).trans rfl
        have m2_2 : w4.cell? ⟨p2_, 2, none⟩ = some (.string ⟨#[107]⟩) := (blk_cell (blk_below BB2.out hb4) 2).trans rfl
        have m2_3 : w4.cell? ⟨p2_, 3, none⟩ = some (.slice none 0 0) := (blk_cell (blk_below BB2.out hb4) 3).trans rfl
        have m2_4 : w4.cell? ⟨p2_, 4, none⟩ = some (.int .i64 (a2 + 5)) := (blk_cell (blk_below BB2.out hb4) 4).trans rfl
        have m2_5 : w4.cell? ⟨p2_, 5, none⟩ = some (.int .i64 (a2 + 5 + 1)) := (blk_cell (blk_below BB2.out hb4) 5).trans rfl
        have m2_6 : w4.cell? ⟨p2_, 6, none⟩ = some (.int .i64 (a2 + 5)) := (blk_cell (blk_below BB2.out hb4) 6).trans rfl
        have m2_7 : w4.cell? ⟨p2_, 7, none⟩ = some (.int .i64 0) := (blk_cell (blk_below BB2.out hb4) 7).trans rfl
        have m2_8 : w4.cell? ⟨p2_, 8, none⟩ = some (.slice A0 l0.length c0) := (blk_cell (blk_below BB2.out hb4) 8).trans rfl
        have m2_9 : w4.cell? ⟨p2_, 9, none⟩ = some (.slice none 0 0) := (blk_cell (blk_below BB2.out hb4) 9).trans rfl
        clear hb4
        go_wp2_with fail
        refine (HK1.out _ HB4.out).mono ?_
        rintro e w5 ⟨rfl, hb5⟩
        have HB5 := Aside0.mk (HB4.out.trans (hb5.mono HB4.out.size))
        clear hb5
        clear m0_0 m0_1 m0_2 m0_3 m0_4 m0_5 m0_6 m0_7 m0_8 m0_9 m1_0 m1_1 m1_2 m1_3 m1_4 m1_5 m1_6 m1_7 m1_8 m1_9 m2_0 m2_1 m2_2 m2_3 m2_4 m2_5 m2_6 m2_7 m2_8 m2_9
        have n0_0 : w5.cell? ⟨p0_, 0, none⟩ = some (.int .i64 0) := (blk_cell (blk_below BB0.out HB5.out) 0).trans rfl
        have n0_1 : w5.cell? ⟨p0_, 1, none⟩ = some (.int .i64 1) := (blk_cell (blk_below BB0.out HB5.out) 1).trans rfl
        have n0_2 : w5.cell? ⟨p0_, 2, none⟩ = some (.string ⟨#[107]⟩) := (blk_cell (blk_below BB0.out HB5.out) 2).trans rfl
        have n0_3 : w5.cell? ⟨p0_, 3, none⟩ = some (.slice A0 l0.length c0) := (blk_cell (blk_below BB0.out HB5.out) 3).trans rfl
        have n0_4 : w5.cell? ⟨p0_, 4, none⟩ = some (.int .i64 1) := (blk_cell (blk_below BB0.out HB5.out) 4).trans rfl
        have n0_5 : w5.cell? ⟨p0_, 5, none⟩ = some (.int .i64 2) := (blk_cell (blk_below BB0.out HB5.out) 5).trans rfl
        have n0_6 : w5.cell? ⟨p0_, 6, none⟩ = some (.int .i64 2) := (blk_cell (blk_below BB0.out HB5.out) 6).trans rfl
        have n0_7 : w5.cell? ⟨p0_, 7, none⟩ = some (.int .i64 0) := (blk_cell (blk_below BB0.out HB5.out) 7).trans rfl
        have n0_8 : w5.cell? ⟨p0_, 8, none⟩ = some (.slice none 0 0) := (blk_cell (blk_below BB0.out HB5.out) 8).trans rfl
        have n0_9 : w5.cell? ⟨p0_, 9, none⟩ = some (.slice none 0 0) := (blk_cell (blk_below BB0.out HB5.out) 9).trans rfl
        have n1_0 : w5.cell? ⟨p1_, 0, none⟩ = some (.int .i64 0) := (blk_cell (blk_below BB1.out HB5.out) 0).trans rfl
        have n1_1 : w5.cell? ⟨p1_, 1, none⟩ = some (.int .i64 1) := (blk_cell (blk_below BB1.out HB5.out) 1).trans rfl
        have n1_2 : w5.cell? ⟨p1_, 2, none⟩ = some (.string ⟨#[107]⟩) := (blk_cell (blk_below BB1.out HB5.out) 2).trans rfl
        have n1_3 : w5.cell? ⟨p1_, 3, none⟩ = some (.slice A1 l1.length c1) := (blk_cell (blk_below BB1.out HB5.out) 3).trans rfl
        have n1_4 : w5.cell? ⟨p1_, 4, none⟩ = some (.int .i64 3) := (blk_cell (blk_below BB1.out HB5.out) 4).trans rfl
        have n1_5 : w5.cell? ⟨p1_, 5, none⟩ = some (.int .i64 4) := (blk_cell (blk_below BB1.out HB5.out) 5).trans rfl
        have n1_6 : w5.cell? ⟨p1_, 6, none⟩ = some (.int .i64 4) := (blk_cell (blk_below BB1.out HB5.out) 6).trans rfl
        have n1_7 : w5.cell? ⟨p1_, 7, none⟩ = some (.int .i64 0) := (blk_cell (blk_below BB1.out HB5.out) 7).trans rfl
        have n1_8 : w5.cell? ⟨p1_, 8, none⟩ = some (.slice none 0 0) := (blk_cell (blk_below BB1.out HB5.out) 8).trans rfl
        have n1_9 : w5.cell? ⟨p1_, 9, none⟩ = some (.slice none 0 0) := (blk_cell (blk_below BB1.out HB5.out) 9).trans rfl
        have n3_0 : w5.cell? ⟨p3_, 0, none⟩ = some (.int .i64 0) := (blk_cell (blk_below BB3.out HB5.out) 0).trans rfl
        have n3_1 : w5.cell? ⟨p3_, 1, none⟩ = some (.int .i64 2) := (blk_cell (blk_below BB3.out HB5.out) 1).trans rfl
        have n3_2 : w5.cell? ⟨p3_, 2, none⟩ = some (.string ⟨#[107]⟩) := (blk_cell (blk_below BB3.out HB5.out) 2).trans rfl
        have n3_3 : w5.cell? ⟨p3_, 3, none⟩ = some (.slice none 0 0) := (blk_cell (blk_below BB3.out HB5.out) 3).trans rfl
        have n3_4 : w5.cell? ⟨p3_, 4, none⟩ = some (.int .i64 (a2 + 5)) := (blk_cell (blk_below BB3.out HB5.out) 4).trans rfl
        have n3_5 : w5.cell? ⟨p3_, 5, none⟩ = some (.int .i64 (a2 + 5 + 1)) := (blk_cell (blk_below BB3.out HB5.out) 5).trans rfl
        have n3_6 : w5.cell? ⟨p3_, 6, none⟩ = some (.int .i64 (a2 + 5)) := (blk_cell (blk_below BB3.out HB5.out) 6).trans rfl
        have n3_7 : w5.cell? ⟨p3_, 7, none⟩ = some (.int .i64 0) := (blk_cell (blk_below BB3.out HB5.out) 7).trans rfl
        have n3_8 : w5.cell? ⟨p3_, 8, none⟩ = some (.slice A1 l1.length c1) := (blk_cell (blk_below BB3.out HB5.out) 8).trans rfl
        have n3_9 : w5.cell? ⟨p3_, 9, none⟩ = some (.slice none 0 0) := (blk_cell (blk_below BB3.out HB5.out) 9).trans rfl
        go_wp2_with fail
        refine (HK2.out _ HB5.out).mono ?_
        rintro e w6 ⟨rfl, hb6⟩
        have HB6 := Aside0.mk (HB5.out.trans (hb6.mono HB5.out.size))
        clear hb6
        clear n0_0 n0_1 n0_2 n0_3 n0_4 n0_5 n0_6 n0_7 n0_8 n0_9 n1_0 n1_1 n1_2 n1_3 n1_4 n1_5 n1_6 n1_7 n1_8 n1_9 n3_0 n3_1 n3_2 n3_3 n3_4 n3_5 n3_6 n3_7 n3_8 n3_9
        have o0_0 : w6.cell? ⟨p0_, 0, none⟩ = some (.int .i64 0) := (blk_cell (blk_below BB0.out HB6.out) 0).trans rfl
        have o0_1 : w6.cell? ⟨p0_, 1, none⟩ = some (.int .i64 1) := (blk_cell (blk_below BB0.out HB6.out) 1).trans rfl
        have o0_2 : w6.cell? ⟨p0_, 2, none⟩ = some (.string ⟨#[107]⟩) := (blk_cell (blk_below BB0.out HB6.out) 2).trans rfl
        have o0_3 : w6.cell? ⟨p0_, 3, none⟩ = some (.slice A0 l0.length c0) := (blk_cell (blk_below BB0.out HB6.out) 3).trans rfl
        have o0_4 : w6.cell? ⟨p0_, 4, none⟩ = some (.int .i64 1) := (blk_cell (blk_below BB0.out HB6.out) 4).trans rfl
        have o0_5 : w6.cell? ⟨p0_, 5, none⟩ = some (.int .i64 2) := (blk_cell (blk_below BB0.out HB6.out) 5).trans rfl
        have o0_6 : w6.cell? ⟨p0_, 6, none⟩ = some (.int .i64 2) := (blk_cell (blk_below BB0.out HB6.out) 6).trans rfl
        have o0_7 : w6.cell? ⟨p0_, 7, none⟩ = some (.int .i64 0) := (blk_cell (blk_below BB0.out HB6.out) 7).trans rfl
        have o0_8 : w6.cell? ⟨p0_, 8, none⟩ = some (.slice none 0 0) := (blk_cell (blk_below BB0.out HB6.out) 8).trans rfl
        have o0_9 : w6.cell? ⟨p0_, 9, none⟩ = some (.slice none 0 0) := (blk_cell (blk_below BB0.out HB6.out) 9).trans rfl
        have o1_0 : w6.cell? ⟨p1_, 0, none⟩ = some (.int .i64 0) := (blk_cell (blk_below BB1.out HB6.out) 0).trans rfl
        have o1_1 : w6.cell? ⟨p1_, 1, none⟩ = some (.int .i64 1) := (blk_cell (blk_below BB1.out HB6.out) 1).trans rfl
        have o1_2 : w6.cell? ⟨p1_, 2, none⟩ = some (.string ⟨#[107]⟩) := (blk_cell (blk_below BB1.out HB6.out) 2).trans rfl
        have o1_3 : w6.cell? ⟨p1_, 3, none⟩ = some (.slice A1 l1.length c1) := (blk_cell (blk_below BB1.out HB6.out) 3).trans rfl
        have o1_4 : w6.cell? ⟨p1_, 4, none⟩ = some (.int .i64 3) := (blk_cell (blk_below BB1.out HB6.out) 4).trans rfl
        have o1_5 : w6.cell? ⟨p1_, 5, none⟩ = some (.int .i64 4) := (blk_cell (blk_below BB1.out HB6.out) 5).trans rfl
        have o1_6 : w6.cell? ⟨p1_, 6, none⟩ = some (.int .i64 4) := (blk_cell (blk_below BB1.out HB6.out) 6).trans rfl
        have o1_7 : w6.cell? ⟨p1_, 7, none⟩ = some (.int .i64 0) := (blk_cell (blk_below BB1.out HB6.out) 7).trans rfl
        have o1_8 : w6.cell? ⟨p1_, 8, none⟩ = some (.slice none 0 0) := (blk_cell (blk_below BB1.out HB6.out) 8).trans rfl
        have o1_9 : w6.cell? ⟨p1_, 9, none⟩ = some (.slice none 0 0) := (blk_cell (blk_below BB1.out HB6.out) 9).trans rfl
        have o4_0 : w6.cell? ⟨p4_, 0, none⟩ = some (.int .i64 0) := (blk_cell (blk_below BB4.out HB6.out) 0).trans rfl
        have o4_1 : w6.cell? ⟨p4_, 1, none⟩ = some (.int .i64 2) := (blk_cell (blk_below BB4.out HB6.out) 1).trans rfl
        have o4_2 : w6.cell? ⟨p4_, 2, none⟩ = some (.string ⟨#[107]⟩) := (blk_cell (blk_below BB4.out HB6.out) 2).trans rfl
        have o4_3 : w6.cell? ⟨p4_, 3, none⟩ = some (.slice none 0 0) := (blk_cell (blk_below BB4.out HB6.out) 3).trans rfl
        have o4_4 : w6.cell? ⟨p4_, 4, none⟩ = some (.int .i64 2) := (blk_cell (blk_below BB4.out HB6.out) 4).trans rfl
        have o4_5 : w6.cell? ⟨p4_, 5, none⟩ = some (.int .i64 (a2 + 5 + 1)) := (blk_cell (blk_below BB4.out HB6.out) 5).trans rfl
        have o4_6 : w6.cell? ⟨p4_, 6, none⟩ = some (.int .i64 3) := (blk_cell (blk_below BB4.out HB6.out) 6).trans rfl
        have o4_7 : w6.cell? ⟨p4_, 7, none⟩ = some (.int .i64 0) := (blk_cell (blk_below BB4.out HB6.out) 7).trans rfl
        have o4_8 : w6.cell? ⟨p4_, 8, none⟩ = some (.slice A0 l0.length c0) := (blk_cell (blk_below BB4.out HB6.out) 8).trans rfl
        have o4_9 : w6.cell? ⟨p4_, 9, none⟩ = some (.slice none 0 0) := (blk_cell (blk_below BB4.out HB6.out) 9).trans rfl
        go_wp2_with fail
        refine (HK3.out _ HB6.out).mono ?_
        rintro e w7 ⟨rfl, hb7⟩
        have HB7 := Aside0.mk (HB6.out.trans (hb7.mono HB6.out.size))
        clear hb7
        go_wp2_with fail
        go_ret
        exact ⟨rfl, HB1.out.trans ((HBW.out.trans (HB7.out.mono HBW.out.size)).mono HB1.out.size)⟩
      · have d1 : decide ((100 : Int) < (l1.length : Int)) = true := decide_eq_true (by omega)
        clear t1
        go_enter Try.func5, Try.ntmps5
        go_wp2_with fail
        refine (flittingref01_Same.calls (l0.length + 1) A0 c0 l0 A1 c1 l1 false w HC0.out HL0.out HC1.out HL1.out HS.out).mono ?_
        rintro e w1 ⟨rfl, hd1⟩
        have HB1 := Aside0.mk hd1.below
        clear hd1
        go_wp2_with fail
        refine (answers_calls _).mono ?_
        rintro e w2 ⟨rfl, hb2⟩
        go_wp2_with fail
        go_ret
        exact ⟨rfl, HB1.out.trans (hb2.mono HB1.out.size)⟩
  · have d0 : decide ((100 : Int) < (l0.length : Int)) = true := decide_eq_true (by omega)
    by_cases hs : l0 = l1
    · have HS : Aside0 (flittingref01_Same.f (l0.length + 1) l0 l1 = some true) := ⟨by rw [HLEN.out HM.out]; simp [hs]⟩
      clear hs
      go_enter Try.func5, Try.ntmps5
      go_wp2_with fail
      refine (flittingref01_Same.calls (l0.length + 1) A0 c0 l0 A1 c1 l1 true w HC0.out HL0.out HC1.out HL1.out HS.out).mono ?_
      rintro e w1 ⟨rfl, hd1⟩
      have HB1 := Aside0.mk hd1.below
      clear hd1
      go_wp2_with fail
      refine (answers_calls _).mono ?_
      rintro e w2 ⟨rfl, hb2⟩
      go_wp2_with fail
      go_ret
      exact ⟨rfl, HB1.out.trans (hb2.mono HB1.out.size)⟩
    · have HS : Aside0 (flittingref01_Same.f (l0.length + 1) l0 l1 = some false) := ⟨by rw [HLEN.out HM.out]; simp [hs]⟩
      clear hs
      go_enter Try.func5, Try.ntmps5
      go_wp2_with fail
      refine (flittingref01_Same.calls (l0.length + 1) A0 c0 l0 A1 c1 l1 false w HC0.out HL0.out HC1.out HL1.out HS.out).mono ?_
      rintro e w1 ⟨rfl, hd1⟩
      have HB1 := Aside0.mk hd1.below
      clear hd1
      go_wp2_with fail
      refine (answers_calls _).mono ?_
      rintro e w2 ⟨rfl, hb2⟩
      go_wp2_with fail
      go_ret
      exact ⟨rfl, HB1.out.trans (hb2.mono HB1.out.size)⟩
end Go.Proofs.Ythocnaagpmkoeaa.PLinearStale
