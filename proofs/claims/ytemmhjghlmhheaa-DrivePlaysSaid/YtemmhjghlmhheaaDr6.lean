/- Drives: the contracts of the reference's drive. -/
import Derived.Test.YtemmhjghlmhheaaProg
import Derived.Below
import Derived.Deep.Draws
import Derived.Deep.AppendLies
import Derived.Maps.AppendAt
import Derived.OwnWalk
import Derived.Laws.BytesArg
import Derived.Laws.MakeOwn
import Derived.Laws.OwnMore
import Derived.Deep.OwnRows
import Derived.Tactics
import Derived.Lib.ConvBytes
import Derived.Laws.Slices
import Derived.WalkKit
import Derived.KernelRfl
import Derived.RowKit3
import Derived.Deep.LoopGhost
import Derived.Deep.QuietTactic
import Derived.BigQuiet
import Derived.WideLaws
import Derived.Deep.DeepCutAuto
import Derived.Deep.CutBlock
import Derived.Deep.RegionHeld3
import Derived.Laws.Rows
import Derived.Lib.AppendStr
import Derived.ArgAppend
import Derived.Laws.IdiomCopy
import Derived.OrdersHeld
import Derived.Laws.BitsLemmas
import Derived.RowKit
import Derived.Test.YtemmhjghlmhheaaWWords
import Derived.Test.YtemmhjghlmhheaaWLast
import Derived.Test.YtemmhjghlmhheaaWTab
import Derived.Test.YtemmhjghlmhheaaWFour
import Derived.Test.YtemmhjghlmhheaaWQPut
import Derived.Test.YtemmhjghlmhheaaWApart
import Derived.Test.YtemmhjghlmhheaaWArr
import Derived.Test.YtemmhjghlmhheaaWZeros
import Derived.Test.YtemmhjghlmhheaaWFoot
import Derived.Test.YtemmhjghlmhheaaWKept
import Derived.Test.YtemmhjghlmhheaaWShare
import Derived.Test.YtemmhjghlmhheaaWN
import Derived.Test.YtemmhjghlmhheaaWFootNe
import Derived.Test.YtemmhjghlmhheaaWAt
import Derived.Test.YtemmhjghlmhheaaWEqStruct
import Derived.Test.YtemmhjghlmhheaaWRepsOne
import Derived.Test.YtemmhjghlmhheaaWInv
import Derived.Test.YtemmhjghlmhheaaWInvWords
import Derived.Test.YtemmhjghlmhheaaWGuard
import Derived.Test.YtemmhjghlmhheaaWNEv
import Derived.Test.YtemmhjghlmhheaaWMore
import Derived.Test.YtemmhjghlmhheaaDr5
namespace Go.Proofs.Ytemmhjghlmhheaa.Dr
open Go.RowKit Go.Proofs.YtemmhjghlmhheaaW.PrintWords Go.Proofs.YtemmhjghlmhheaaW.PrintLast Go.Proofs.YtemmhjghlmhheaaW.PrintMore
attribute [local go_sem] max2_int min2_int max_two min_two max_three min_three max_four min_four
set_option linter.unusedVariables false
set_option linter.unusedSimpArgs false
set_option maxHeartbeats 8000000 in
set_option maxRecDepth 100000 in
theorem rcheck_calls (g : Nat) (d : Dr) (i : Int) (ok : Nat → Prop) (w : World) (h : Dp 47 61 w ok g d) :
    Calls Try.prog 24 #[.pointer (some ⟨g, 0, none⟩), .int .i64 i] w fun e w' => e = .returned (.int .i64 (d.check i)) ∧ w' = w := by
  obtain ⟨v, u, h⟩ := h
  obtain ⟨A, c, B, e, rfl, rfl, hl1, hl2⟩ := dv_len h
  obtain ⟨c0, c1, c2, hfz⟩ := dv_cell h
  obtain ⟨sl, lo, lost⟩ := d
  simp only at c0 c1 c2 hl1 hl2
  clear h
  cases lost with
  | true =>
    go_enter Try.func24, Try.ntmps24
    go_wp2
    go_ret
    exact ⟨rfl, rfl⟩
  | false =>
    by_cases h0 : i < 0
    · have h1 : decide (i < 0) = true := decide_eq_true h0
      have hs : Dr.check ⟨sl, lo, false⟩ i = 1 := by simp [Dr.check, h0]
      rw [hs]
      clear hs h0
      go_enter Try.func24, Try.ntmps24
      go_wp2
      go_ret
      exact ⟨rfl, rfl⟩
    · have h1 : decide (i < 0) = false := decide_eq_false h0
      by_cases h2 : (sl.length : Int) ≤ i
      · have h3 : decide ((sl.length : Int) ≤ i) = true := decide_eq_true h2
        have hs : Dr.check ⟨sl, lo, false⟩ i = 1 := by simp [Dr.check, h0, h2]
        rw [hs]
        clear hs h0 h2
        go_enter Try.func24, Try.ntmps24
        go_wp2
        go_ret
        exact ⟨rfl, rfl⟩
      · have h3 : decide ((sl.length : Int) ≤ i) = false := decide_eq_false h2
        have hs : Dr.check ⟨sl, lo, false⟩ i = 0 := by simp [Dr.check, h0, h2]
        rw [hs]
        clear hs h0 h2
        go_enter Try.func24, Try.ntmps24
        go_wp2
        go_ret
        exact ⟨rfl, rfl⟩
set_option maxRecDepth 100000 in
set_option maxHeartbeats 1000000 in
theorem rput_calls (g : Nat) (d : Dr) (i : Int) (lb : List Int) (A : Option Addr) (n c : Nat) (ok okx : Nat → Prop) (w : World) (h : Dp 47 61 w ok g d) (hF : Kd.F U8 w okx A n lb) (hnew : ∀ k, w.heap.size ≤ k → ok k) (hn : n < 17592186044416) (hl : d.loose.length < 1000000) :
    Calls Try.prog 18 #[.pointer (some ⟨g, 0, none⟩), .int .i64 i, .slice A n c] w fun e w' => e = .returned (.int .i64 (d.writeE i n)) ∧ Dp 47 61 w' ok g (d.write i lb) ∧ Kq w w' ok g := by
  have HC := Aside0.mk (rcheck_calls g d i ok w h)
  obtain rfl : lb.length = n := Kd.F_len hF
  have HFF := Aside0.mk hF
  have HN := Aside0.mk hnew
  have HP := Aside0.mk h
  clear hF hnew
  by_cases hc : d.check i = 0
  · rw [hc] at HC
    by_cases h64 : 64 < lb.length
    · have h1 : decide ((64 : Int) < (lb.length : Int)) = true := decide_eq_true (by omega)
      have h2 : decide (64 < lb.length) = true := decide_eq_true h64
      have e1 : d.writeE i lb.length = 1 := by simp [Dr.writeE, hc, h64]
      have e2 : d.write i lb = d := by simp [Dr.write, hc, h64]
      rw [e1, e2]
      clear e1 e2 hc h64 h
      go_enter Try.func18, Try.ntmps18
      go_wp2_with fail
      refine HC.out.mono ?_
      rintro e w' ⟨rfl, rfl⟩
      go_wp2
      go_ret
      exact ⟨rfl, HP.out, Kq.refl _ _ _⟩
    · have h1 : decide ((64 : Int) < (lb.length : Int)) = false := decide_eq_false (by omega)
      have h2 : decide (64 < lb.length) = false := decide_eq_false h64
      have e1 : d.writeE i lb.length = 0 := by simp [Dr.writeE, hc, h64]
      have e2 : d.write i lb = { d with loose := d.loose ++ [(i, lb)] } := by simp [Dr.write, hc, h64]
      rw [e1, e2]
      clear e1 e2 hc h64
      obtain ⟨v, u, h⟩ := h
      obtain ⟨c0, c1, c2, hfz⟩ := dv_cell h
      have HD := Aside0.mk h
      clear h
      go_enter Try.func18, Try.ntmps18
      go_wp2_with fail
      refine HC.out.mono ?_
      rintro e w' ⟨rfl, rfl⟩
      go_wp2_with fail
      have hlv : ∀ k, w'.heap.size ≤ k → some k ≠ v.ownBlock := fun k hk e => by have := Kd.N_lt HD.out.hv k e.symm; omega
      have hlu : ∀ k, w'.heap.size ≤ k → some k ≠ u.ownBlock := fun k hk e => by have := Kd.N_lt HD.out.hu k e.symm; omega
      have HLV := Aside0.mk hlv
      have HLU := Aside0.mk hlu
      have HGU : Aside0 (some g ≠ u.ownBlock) := ⟨fun e => HD.out.ng (HD.out.hu.1 g e.symm).1⟩
      clear hlv hlu
      have HM : Aside0 (U8.R 5 (w'.drew.alloc (.cells #[] 5)) w'.heap.size (fun _ => True) (.slice (some ⟨w'.heap.size, 0, none⟩) 0 0) []) :=
        ⟨⟨fun _ _ => trivial, [], World.ownsRow_made w'.drew #[] 0 (Nat.le_refl _) (Nat.zero_le _) rfl, Reps.none _ _⟩⟩
      have HBm : Aside0 (Below w'.heap.size w' (w'.drew.alloc (.cells #[] 5))) := ⟨((Below.refl _ _).drew).alloc (Nat.le_refl _) _⟩
      refine start_ (n := 15) (S := fun w' => w'.cell? ⟨g, 1, none⟩ = some u) (ds := [14]) #[false, false, false, false, false, false, false, false, false, false, false, false, false, false, false] (by kernel_rfl) rfl rfl (c1) (fun hHeld => ?_)
      refine pure_ (i := 0) (N := some 17) (v := ?_) (a' := ?_) #[true, false, false, false, false, false, false, false, false, false, false, false, false, false, false] rfl rfl (by kernel_rfl) (fun _ _ _ h => h) (Or.inl ⟨by rfl, ?_⟩) ?_ ?_
      rotate_left
      · intro w'
        go_simp
        with_reducible rfl
      rotate_left
      · simp only [Act.put, List.setIfInBounds_toArray, List.set_cons_zero, List.set_cons_succ, i64_w, i32_w]
        rfl
      refine pure_ (i := 1) (N := some 18) (v := ?_) (a' := ?_) #[true, true, false, false, false, false, false, false, false, false, false, false, false, false, false] rfl rfl (by kernel_rfl) (fun _ _ _ h => h) (Or.inl ⟨by rfl, ?_⟩) ?_ ?_
      rotate_left
      · intro w'
        go_simp
        with_reducible rfl
      rotate_left
      · simp only [Act.put, List.setIfInBounds_toArray, List.set_cons_zero, List.set_cons_succ, i64_w, i32_w]
        rfl
      refine pure_ (i := 2) (N := some 19) (v := ?_) (a' := ?_) #[true, true, true, false, false, false, false, false, false, false, false, false, false, false, false] rfl rfl (by kernel_rfl) (fun _ _ _ h => h) (Or.inl ⟨by rfl, ?_⟩) ?_ ?_
      rotate_left
      · intro w'
        go_simp
        with_reducible rfl
      rotate_left
      · simp only [Act.put, List.setIfInBounds_toArray, List.set_cons_zero, List.set_cons_succ, i64_w, i32_w]
        rfl
      refine pure_ (i := 3) (N := some 20) (v := ?_) (a' := ?_) #[true, true, true, true, false, false, false, false, false, false, false, false, false, false, false] rfl rfl (by kernel_rfl) (fun _ _ _ h => h) (Or.inl ⟨by rfl, ?_⟩) ?_ ?_
      rotate_left
      · intro w'
        go_simp
        with_reducible rfl
      rotate_left
      · simp only [Act.put, List.setIfInBounds_toArray, List.set_cons_zero, List.set_cons_succ, i64_w, i32_w]
        rfl
      refine pure_ (i := 5) (N := some 22) (v := ?_) (a' := ?_) #[true, true, true, true, false, true, false, false, false, false, false, false, false, false, false] rfl rfl (by kernel_rfl) (fun _ _ _ h => h) (Or.inl ⟨by rfl, ?_⟩) ?_ ?_
      rotate_left
      · intro w'
        go_simp
        with_reducible rfl
      rotate_left
      · simp only [Act.put, List.setIfInBounds_toArray, List.set_cons_zero, List.set_cons_succ, i64_w, i32_w]
        rfl
      refine pure_ (i := 7) (N := some 24) (v := ?_) (a' := ?_) #[true, true, true, true, false, true, false, true, false, false, false, false, false, false, false] rfl rfl (by kernel_rfl) (fun _ _ _ h => h) (Or.inl ⟨by rfl, ?_⟩) ?_ ?_
      rotate_left
      · intro w'
        go_simp
        with_reducible rfl
      rotate_left
      · simp only [Act.put, List.setIfInBounds_toArray, List.set_cons_zero, List.set_cons_succ, i64_w, i32_w]
        rfl
      refine take_ (i := 4) (N := some 21) (v := ?_) (a' := ?_) #[true, true, true, true, true, true, false, true, false, false, false, false, false, false, false] rfl rfl (by kernel_rfl) (fun _ _ _ h => h) (Or.inl ⟨by rfl, ?_⟩) hHeld ?_ ?_
      rotate_left
      · intro w' s0
        go_simp
        with_reducible rfl
      rotate_left
      · simp only [Act.put, List.setIfInBounds_toArray, List.set_cons_zero, List.set_cons_succ, i64_w, i32_w]
        rfl
      refine one_ (i := 6) (N := some 23) #[true, true, true, true, true, true, true, true, false, false, false, false, false, false, false] rfl rfl (by kernel_rfl) (by decide) (fun K hK => ?_)
      refine value_ (w1 := ?_) (v := ?_) (by rfl) rfl ?_ ?_
      rotate_left 2
      · go_simp
        constructor
        · rfl
        · rfl
      refine hK.out _ _ ((pw_cell_below ((Below.refl _ _).alloc (Nat.le_refl _) _) c1)) (fun hHeld => ?_)
      clear hK K
      refine norm_ (a' := ?_) ?_ ?_
      rotate_left
      · show Act.put _ (some 23) _ = _
        simp only [Act.put, List.setIfInBounds_toArray, List.set_cons_zero, List.set_cons_succ, i64_w, i32_w]
        rfl
      refine one_ (i := 8) (N := some 25) #[true, true, true, true, true, true, true, true, true, false, false, false, false, false, false] rfl rfl (by kernel_rfl) (by decide) (fun K hK => ?_)
      refine Kd.R_append_rows_step U8 (w0 := w'.drew.alloc (.cells #[] 5)) (Rr := U8.K w') w'.heap.size (by rfl) (.tmp 23) (.tmp 24) 22 5 (.int .u8 0) 1 rfl Try.underlying22 info5 rfl (by decide) (by decide) (.slice (some ⟨w'.heap.size, 0, none⟩) 0 0) [] lb A lb.length c (fun _ => True) (fun _ => False) (by rfl) (by rfl) HM.out (Kd.C_below (Kd.F_now HFF.out) HBm.out) (fun _ _ h => h) (fun _ h => h.elim) (fun _ _ => trivial) (Below.refl _ _) (by simp) (by simp only [List.length_nil]; omega) ?_
      intro v2 w1 ho hb hg hat
      have HV2 : Aside0 (Vb w1 (fun k => w'.heap.size ≤ k) v2 lb) := ⟨vb_new ho (fun _ h => h)⟩
      have HB1 : Aside0 (Below w'.heap.size w' w1) := ⟨HBm.out.trans hb⟩
      obtain ⟨A2, n2, rfl⟩ := Kd.V_slice HV2.out
      clear ho hb hg hat
      refine hK.out _ _ ((pw_cell_below HB1.out c1)) (fun hHeld => ?_)
      clear hK K
      refine norm_ (a' := ?_) ?_ ?_
      rotate_left
      · show Act.put _ (some 25) _ = _
        simp only [Act.put, List.setIfInBounds_toArray, List.set_cons_zero, List.set_cons_succ, i64_w, i32_w]
        rfl
      refine pure_ (i := 9) (N := some 26) (v := ?_) (a' := ?_) #[true, true, true, true, true, true, true, true, true, true, false, false, false, false, false] rfl rfl (by kernel_rfl) (fun _ _ _ h => h) (Or.inl ⟨by rfl, ?_⟩) ?_ ?_
      rotate_left
      · intro w'
        go_simp
        with_reducible rfl
      rotate_left
      · simp only [Act.put, List.setIfInBounds_toArray, List.set_cons_zero, List.set_cons_succ, i64_w, i32_w]
        rfl
      refine one_ (i := 10) (N := some 27) #[true, true, true, true, true, true, true, true, true, true, true, false, false, false, false] rfl rfl (by kernel_rfl) (by decide) (fun K hK => ?_)
      refine value_ (w1 := ?_) (v := ?_) (by rfl) rfl ?_ ?_
      rotate_left 2
      · go_simp
        constructor
        · rfl
        · rfl
      refine hK.out _ _ ((pw_cell_below ((Below.refl _ _).alloc (Nat.le_refl _) _) (pw_cell_below HB1.out c1))) (fun hHeld => ?_)
      clear hK K
      refine norm_ (a' := ?_) ?_ ?_
      rotate_left
      · show Act.put _ (some 27) _ = _
        simp only [Act.put, List.setIfInBounds_toArray, List.set_cons_zero, List.set_cons_succ, i64_w, i32_w]
        rfl
      refine one_ (i := 11) (N := some 28) #[true, true, true, true, true, true, true, true, true, true, true, true, false, false, false] rfl rfl (by kernel_rfl) (by decide) (fun K hK => ?_)
      refine Kd.N_append_step Wr (w0 := w') 0 (by rfl) (.tmp 21) (.tmp 27) 45 61 _ 32 (by rfl) Try.underlying45 info61 rfl (by decide) (by decide) u d.loose (i, lb) _ (fun k => ok k ∧ some k ≠ v.ownBlock) (fun k => w'.heap.size ≤ k) (by rfl) (by rfl) (vb_wr HV2.out) (fun k hk => ⟨⟨HN.out k hk, HLV.out k hk⟩, HLU.out k hk⟩) (fun k hk => ⟨HN.out k (Nat.le_trans HB1.out.size hk), HLV.out k (Nat.le_trans HB1.out.size hk)⟩) (Kd.N_below HD.out.hu HB1.out) (HB1.out.mono (Nat.zero_le _)) (Nat.zero_le _) (by omega) ?_
      intro v3 w2 ho hb hg hat
      have hb2 := blk_grown (blk_below HD.out.blk HB1.out) hg HGU.out
      have hc2 : w2.cell? ⟨g, 1, none⟩ = some u := (blk_cell hb2 1).trans rfl
      have hf2 : w2.frozen? ⟨g, 1, none⟩ = false := blk_frozen hb2 1
      have HB2 := Aside0.mk hb2
      have HO3 := Aside0.mk ho
      have HBe := Aside0.mk hb
      have HG3 := Aside0.mk hg
      have HAT := Aside0.mk hat
      obtain ⟨A3, n3, rfl⟩ := Kd.N_slice HO3.out
      clear hb2 ho hb hg hat
      refine hK.out _ _ (hc2) (fun hHeld => ?_)
      clear hK K
      refine norm_ (a' := ?_) ?_ ?_
      rotate_left
      · show Act.put _ (some 28) _ = _
        simp only [Act.put, List.setIfInBounds_toArray, List.set_cons_zero, List.set_cons_succ, i64_w, i32_w]
        rfl
      refine pure_ (i := 12) (N := some 29) (v := ?_) (a' := ?_) #[true, true, true, true, true, true, true, true, true, true, true, true, true, false, false] rfl rfl (by kernel_rfl) (fun _ _ _ h => h) (Or.inl ⟨by rfl, ?_⟩) ?_ ?_
      rotate_left
      · intro w'
        go_simp
        with_reducible rfl
      rotate_left
      · simp only [Act.put, List.setIfInBounds_toArray, List.set_cons_zero, List.set_cons_succ, i64_w, i32_w]
        rfl
      refine pure_ (i := 13) (N := some 30) (v := ?_) (a' := ?_) #[true, true, true, true, true, true, true, true, true, true, true, true, true, true, false] rfl rfl (by kernel_rfl) (fun _ _ _ h => h) (Or.inl ⟨by rfl, ?_⟩) ?_ ?_
      rotate_left
      · intro w'
        go_simp
        with_reducible rfl
      rotate_left
      · simp only [Act.put, List.setIfInBounds_toArray, List.set_cons_zero, List.set_cons_succ, i64_w, i32_w]
        rfl
      refine last_ (i := 14) (N := none) #[true, true, true, true, true, true, true, true, true, true, true, true, true, true, true] rfl rfl (by kernel_rfl) (by decide) (fun K hK => ?_)
      refine skip_ (w1 := ?_) (by rfl) rfl ?_ ?_
      rotate_left
      · go_simp
        rfl
      refine hK.out _ _ ?_
      clear hK K
      refine done_ (by kernel_rfl) ?_
      have hlen : (d.loose ++ [(i, lb)]).length = d.loose.length + 1 := by simp
      rw [hlen] at HO3 HAT
      have HL := Aside0.mk hlen
      clear hlen
      clear hHeld
      go_wp2
      go_ret
      refine ⟨rfl, ⟨v, .slice A3 (d.loose.length + 1) n3, blk_set HB2.out 1 _, HD.out.ng, ?_, ?_⟩, ?_⟩
      · exact Kd.N_far (Kd.N_after (Kd.N_below HD.out.hv HB1.out) HG3.out HAT.out) (p := ⟨g, 1, none⟩) (fun k hk e => HD.out.ng (by have e' : k = g := e; exact e' ▸ hk.1)) _
      · exact Kd.N_far HO3.out (p := ⟨g, 1, none⟩) (fun k hk e => HD.out.ng (by have e' : k = g := e; exact e' ▸ hk.1)) _
      · exact (((Kq.of_below HB1.out).grown HG3.out (fun k hk => .inl (HD.out.hu.1 k hk).1)).set (p := ⟨g, 1, none⟩) (.inl rfl) _)
  · have h1 : (d.check i == 0) = false := by simpa using hc
    have h2 : (d.check i != 0) = true := by simpa using hc
    have e1 : d.writeE i lb.length = d.check i := by simp [Dr.writeE, hc]
    have e2 : d.write i lb = d := by simp [Dr.write, hc]
    rw [e1, e2]
    obtain ⟨x, hx⟩ : ∃ x, x = d.check i := ⟨_, rfl⟩
    rw [← hx] at HC h1 h2 ⊢
    clear e1 e2 hc hx h
    go_enter Try.func18, Try.ntmps18
    go_wp2_with fail
    refine HC.out.mono ?_
    rintro e w' ⟨rfl, rfl⟩
    go_wp2
    go_ret
    exact ⟨rfl, HP.out, Kq.refl _ _ _⟩
set_option maxRecDepth 100000 in
set_option maxHeartbeats 1000000 in
theorem rflush_calls (g : Nat) (d : Dr) (ok : Nat → Prop) (w : World) (h : Dp 47 61 w ok g d) (hfit : d.Fits) :
    Calls Try.prog 19 #[.pointer (some ⟨g, 0, none⟩)] w fun e w' => e = .returned (.int .i64 d.flushE) ∧ Dp 47 61 w' ok g d.flush ∧ Kq w w' ok g := by
  obtain ⟨v, u, h⟩ := h
  obtain ⟨A, c, B, cu, rfl, rfl, hl1, hl2⟩ := dv_len h
  obtain ⟨c0, c1, c2, hfz⟩ := dv_cell h
  obtain ⟨sl, lo, lost⟩ := d
  simp only at c0 c1 c2 hl1 hl2
  have HD := Aside0.mk h
  have HF := Aside0.mk hfit
  clear h hfit
  cases lost with
  | true =>
    go_enter Try.func19, Try.ntmps19
    go_wp2
    go_ret
    exact ⟨rfl, ⟨_, _, HD.out⟩, Kq.refl _ _ _⟩
  | false =>
    go_enter Try.func19, Try.ntmps19
    go_wp2
    go_loopw [3, 8, 9, 10, 11, 12, 13, 14, 15, 16, 17, 18, 19, 20, 21, 22, 23, 24, 25, 26, 27, 28, 29, 30, 31, 32, 33, 34, 35, 36, 37] (fun x3 x8 x9 x10 x11 x12 x13 x14 x15 x16 x17 x18 x19 x20 x21 x22 x23 x24 x25 x26 x27 x28 x29 x30 x31 x32 x33 x34 x35 x36 x37 wr => ∃ k : Nat, k ≤ lo.length ∧ x3 = .int .i64 k ∧ Aside0 (Dv 47 61 wr ok g (.slice A sl.length c) (.slice B lo.length cu) ⟨runw sl (lo.take k), lo, false⟩) ∧ Aside0 (Kq w wr ok g)) (fun x3 _ _ _ _ _ _ _ _ _ _ _ _ _ _ _ _ _ _ _ _ _ _ _ _ _ _ _ _ _ _  _ => lo.length - (intOf x3).toNat)
    case atStart => exact ⟨0, Nat.zero_le _, rfl, HD, ⟨Kq.refl _ _ _⟩⟩
    case round =>
      obtain ⟨k, hk, rfl, HDr, HKr⟩ := hrel
      have e0 := runw_len (lo.take k) sl
      by_cases hlt : k < lo.length
      · obtain ⟨h0, h1⟩ := fits_at HF.out k hlt
        obtain ⟨gu, cu', x, hu, hc0, hc1, hx⟩ := dv_looseN HDr.out k hlt
        have hs := runw_take sl lo k hlt
        obtain ⟨p, hp⟩ : ∃ p, p = lo.getD k (0, []) := ⟨_, rfl⟩
        obtain ⟨s, hs0⟩ : ∃ s, s = runw sl (lo.take k) := ⟨_, rfl⟩
        simp only at h0 h1 hc0 hx
        rw [← hp] at h0 h1 hc0 hx hs
        rw [← hs0] at HDr e0 hs
        obtain ⟨pi, pb⟩ := p
        obtain ⟨j, rfl⟩ : ∃ j : Nat, pi = (j : Int) := ⟨pi.toNat, by simp only at h0; omega⟩
        simp only [Int.toNat_natCast] at h0 h1 hc0 hx hs
        have hj : j < s.length := by omega
        obtain ⟨gv, cv, y, hv, _, _, _⟩ := dv_slotN HDr.out j hj
        injection hu with e1 e2 e3
        subst e1
        injection hv with e4 e5 e6
        subst e4
        obtain ⟨Ax, cx, rfl⟩ := Kd.V_slice hx
        have HS := Aside0.mk hs
        have HX := Aside0.mk hx
        have HE := Aside0.mk e0
        have HJ := Aside0.mk hj
        clear hp hs0 hs e2 e3 e5 e6 hx e0 hj h0 h1
        obtain ⟨c0', c1', c2', hfz'⟩ := dv_cell HDr.out
        clear c0 c1 c2 hfz
        have hj2 : (j : Int) < (sl.length : Int) := by have := HJ.out; have := HE.out; omega
        obtain ⟨gv', cv', y', hv', hy1, hy2, _⟩ := dv_slotN HDr.out j HJ.out
        injection hv' with e1 e2 e3
        injection e1 with e1
        injection e1 with e1
        subst e1
        have HY := Aside0.mk hy1
        clear e2 e3
        go_wp2_with fail
        go_still_tail 21, (by kernel_rfl)
        go_wp2
        go_roundw
        case rel =>
          have hgv : ok gv := (HDr.out.hv.1 gv (by simp [Value.ownBlock])).1
          have hd : Dv 47 61 wr.drew ok g (.slice (some ⟨gv, 0, none⟩) s.length c) (.slice (some ⟨gu, 0, none⟩) lo.length cu) ⟨s, lo, false⟩ := by rw [HE.out]; exact HDr.out.step (fun _ _ _ => rfl) rfl
          have hp := dv_putN (d := ⟨s, lo, false⟩) (u := .slice (some ⟨gu, 0, none⟩) lo.length cu) (y := y') hd j HJ.out HY.out HX.out (fun k hk => ⟨⟨hk.1.1, fun e => hk.2 (by simpa [Value.ownBlock] using e)⟩, fun e => hk.1.2 (by simp [Value.ownBlock, e])⟩)
          exact ⟨k + 1, by omega, by go_num, ⟨by rw [HS.out, ← HE.out]; exact hp⟩, ⟨(HKr.out.drewN 1).set (p := ⟨gv, j, none⟩) (.inr (.inl hgv)) _⟩⟩
        case measure => simp [intOf]; omega
      · obtain rfl : k = lo.length := by omega
        have hd : decide (lo.length < lo.length) = false := decide_eq_false (Nat.lt_irrefl _)
        obtain ⟨c0', c1', c2', hfz'⟩ := dv_cell HDr.out
        rw [List.take_length] at HDr
        clear hk hlt c0 c1 c2 hfz e0
        go_wp2
        go_ret
        refine ⟨rfl, ⟨_, _, (show Dv 47 61 _ ok g (.slice A sl.length c) (.slice none 0 0) ⟨runw sl lo, [], false⟩ from ⟨blk_set HDr.out.blk 1 _, HDr.out.ng, ?_, Kd.N_nil _ _ _ _ _⟩)⟩, HKr.out.set (p := ⟨g, 1, none⟩) (.inl rfl) _⟩
        exact Kd.N_mono (Kd.N_far HDr.out.hv (p := ⟨g, 1, none⟩) (fun k hk e => HDr.out.ng (by have e' : k = g := e; exact e' ▸ hk.1)) _) (fun k hk => ⟨hk.1, by simp [Value.ownBlock]⟩)
set_option maxRecDepth 100000 in
set_option maxHeartbeats 1000000 in
theorem rcrash_calls (g : Nat) (d : Dr) (keep : Int) (ok : Nat → Prop) (w : World) (h : Dp 47 61 w ok g d) (hfit : d.Fits) (hk0 : 0 ≤ keep) (hk1 : keep < 18446744073709551616) :
    Calls Try.prog 20 #[.pointer (some ⟨g, 0, none⟩), .int .u64 keep] w fun e w' => e = .returned (.tuple #[]) ∧ Dp 47 61 w' ok g (d.crash keep) ∧ Kq w w' ok g := by
  obtain ⟨v, u, h⟩ := h
  obtain ⟨A, c, B, cu, rfl, rfl, hl1, hl2⟩ := dv_len h
  obtain ⟨c0, c1, c2, hfz⟩ := dv_cell h
  obtain ⟨sl, lo, lost⟩ := d
  simp only at c0 c1 c2 hl1 hl2
  have HD := Aside0.mk h
  have HF := Aside0.mk hfit
  clear h hfit
  go_enter Try.func20, Try.ntmps20
  go_wp2
  go_loopw [4, 5, 6, 7, 8, 9, 10, 11, 12, 13, 14, 15, 16, 17, 18, 19, 20, 21, 22, 23, 24, 25, 26, 27, 28, 29, 30, 31, 32, 33, 34, 35, 36, 37, 38, 39, 40, 41, 42, 43, 44] (fun x4 x5 x6 x7 x8 x9 x10 x11 x12 x13 x14 x15 x16 x17 x18 x19 x20 x21 x22 x23 x24 x25 x26 x27 x28 x29 x30 x31 x32 x33 x34 x35 x36 x37 x38 x39 x40 x41 x42 x43 x44 wr => ∃ k : Nat, k ≤ lo.length ∧ x4 = .int .i64 k ∧ Aside0 (Dv 47 61 wr ok g (.slice A sl.length c) (.slice B lo.length cu) ⟨crashTo keep sl lo k, lo, lost⟩) ∧ Aside0 (Kq w wr ok g)) (fun x4 _ _ _ _ _ _ _ _ _ _ _ _ _ _ _ _ _ _ _ _ _ _ _ _ _ _ _ _ _ _ _ _ _ _ _ _ _ _ _ _  _ => lo.length - (intOf x4).toNat)
  case atStart => exact ⟨0, Nat.zero_le _, rfl, HD, ⟨Kq.refl _ _ _⟩⟩
  case round =>
    obtain ⟨k, hk, rfl, HDr, HKr⟩ := hrel
    have e0 := crashTo_len keep sl lo k
    by_cases hlt : k < lo.length
    · obtain ⟨h0, h1⟩ := fits_at HF.out k hlt
      obtain ⟨gu, cu', x, hu, hc0, hc1, hx⟩ := dv_looseN HDr.out k hlt
      have hs : crashTo keep sl lo (k + 1) = if bitK keep k then (crashTo keep sl lo k).set (lo.getD k (0, [])).1.toNat (lo.getD k (0, [])).2 else crashTo keep sl lo k := rfl
      obtain ⟨p, hp⟩ : ∃ p, p = lo.getD k (0, []) := ⟨_, rfl⟩
      obtain ⟨s, hs0⟩ : ∃ s, s = crashTo keep sl lo k := ⟨_, rfl⟩
      simp only at h0 h1 hc0 hx
      rw [← hp] at h0 h1 hc0 hx hs
      rw [← hs0] at HDr e0 hs
      obtain ⟨pi, pb⟩ := p
      obtain ⟨j, rfl⟩ : ∃ j : Nat, pi = (j : Int) := ⟨pi.toNat, by simp only at h0; omega⟩
      simp only [Int.toNat_natCast] at h0 h1 hc0 hx hs
      have hj : j < s.length := by omega
      obtain ⟨gv, cv, y, hv, _, _, _⟩ := dv_slotN HDr.out j hj
      injection hu with e1 e2 e3
      subst e1
      injection hv with e4 e5 e6
      subst e4
      obtain ⟨Ax, cx, rfl⟩ := Kd.V_slice hx
      have HS := Aside0.mk hs
      have HX := Aside0.mk hx
      have HE := Aside0.mk e0
      have HJ := Aside0.mk hj
      obtain ⟨c0', c1', c2', hfz'⟩ := dv_cell HDr.out
      clear c0 c1 c2 hfz
      have hj2 : (j : Int) < (sl.length : Int) := by have := HJ.out; have := HE.out; omega
      obtain ⟨gv', cv', y', hv', hy1, hy2, _⟩ := dv_slotN HDr.out j HJ.out
      injection hv' with e1 e2 e3'
      injection e1 with e1
      injection e1 with e1
      subst e1
      have HY := Aside0.mk hy1
      clear hp hs0 hs e2 e3 e3' e5 e6 hx e0 hj h0 h1
      by_cases h64 : k < 64
      · have b1 : decide ((k : Int) < 64) = true := decide_eq_true (by omega)
        have b2 : decide (k < 64) = true := decide_eq_true h64
        have hbit : ((keep / 2 ^ min k 64).tmod 2 == 1) = bitK keep k := by rw [Nat.min_eq_left (by omega), Int.tmod_eq_emod_of_nonneg (shr_le keep k hk0 hk1).1]; exact bit_rem keep k h64
        cases hbk : bitK keep k with
        | true =>
          rw [hbk] at hbit HS
          clear h64 hbk
          go_wp2_with fail
          go_still_tail 21, (by kernel_rfl)
          go_wp2
          go_roundw
          case rel =>
            have hgv : ok gv := (HDr.out.hv.1 gv (by simp [Value.ownBlock])).1
            have hd : Dv 47 61 wr.drew ok g (.slice (some ⟨gv, 0, none⟩) s.length c) (.slice (some ⟨gu, 0, none⟩) lo.length cu) ⟨s, lo, lost⟩ := by rw [HE.out]; exact HDr.out.step (fun _ _ _ => rfl) rfl
            have hp := dv_putN (d := ⟨s, lo, lost⟩) (u := .slice (some ⟨gu, 0, none⟩) lo.length cu) (y := y') hd j HJ.out HY.out HX.out (fun k hk => ⟨⟨hk.1.1, fun e => hk.2 (by simpa [Value.ownBlock] using e)⟩, fun e => hk.1.2 (by simp [Value.ownBlock, e])⟩)
            exact ⟨k + 1, by omega, by go_num, ⟨by rw [HS.out]; (first | rw [if_pos rfl] | rw [if_pos trivial]); rw [← HE.out]; exact hp⟩, ⟨(HKr.out.drewN 1).set (p := ⟨gv, j, none⟩) (.inr (.inl hgv)) _⟩⟩
          case measure => simp [intOf]; omega
        | false =>
          rw [hbk] at hbit HS
          clear h64 hbk
          go_wp2
          go_roundw
          case rel => exact ⟨k + 1, by omega, by go_num, ⟨by rw [HS.out, if_neg (by decide)]; exact HDr.out⟩, HKr⟩
          case measure => simp [intOf]; omega
      · have b1 : decide ((k : Int) < 64) = false := decide_eq_false (by omega)
        have b2 : decide (k < 64) = false := decide_eq_false h64
        have hbk := bit_far keep k h64
        rw [hbk] at HS
        clear h64 hbk
        go_wp2
        go_roundw
        case rel => exact ⟨k + 1, by omega, by go_num, ⟨by rw [HS.out, if_neg (by decide)]; exact HDr.out⟩, HKr⟩
        case measure => simp [intOf]; omega
    · obtain rfl : k = lo.length := by omega
      have hd : decide (lo.length < lo.length) = false := decide_eq_false (Nat.lt_irrefl _)
      obtain ⟨c0', c1', c2', hfz'⟩ := dv_cell HDr.out
      clear hk hlt c0 c1 c2 hfz e0
      go_wp2
      go_end0
      refine ⟨rfl, ⟨_, _, (show Dv 47 61 _ ok g (.slice A sl.length c) (.slice none 0 0) ⟨crashTo keep sl lo lo.length, [], lost⟩ from ⟨blk_set HDr.out.blk 1 _, HDr.out.ng, ?_, Kd.N_nil _ _ _ _ _⟩)⟩, HKr.out.set (p := ⟨g, 1, none⟩) (.inl rfl) _⟩
      exact Kd.N_mono (Kd.N_far HDr.out.hv (p := ⟨g, 1, none⟩) (fun k hk e => HDr.out.ng (by have e' : k = g := e; exact e' ▸ hk.1)) _) (fun k hk => ⟨hk.1, by simp [Value.ownBlock]⟩)
set_option maxRecDepth 100000 in
set_option maxHeartbeats 1000000 in
theorem rget_calls (g : Nat) (d : Dr) (j : Nat) (ok : Nat → Prop) (w : World) (h : Dp 47 61 w ok g d) (hj : j < d.slots.length) :
    Calls Try.prog 25 #[.pointer (some ⟨g, 0, none⟩), .int .i64 (j : Int)] w fun e w' => ∃ v_, e = .returned v_ ∧ Vb w ok v_ (d.get j) ∧ w' = w := by
  obtain ⟨v, u, h⟩ := h
  obtain ⟨A, c, B, cu, hv, rfl, hl1, hl2⟩ := dv_len h
  obtain ⟨gv, cap, x, hv2, hx1, hx2, hV⟩ := dv_slotN h j hj
  rw [hv2] at hv
  injection hv with e1 e2 e3
  subst hv2
  obtain ⟨c0, c1, c2, hfz⟩ := dv_cell h
  have HD := Aside0.mk h
  obtain ⟨b0, hb0⟩ : ∃ b0, b0 = d.slots.getD j [] := ⟨_, rfl⟩
  have hg : d.get j = getw b0 d.loose j := by rw [hb0]; rfl
  rw [hg]
  rw [← hb0] at hV
  have HV : Aside0 (Vb w ok x b0) := ⟨Kd.V_mono hV (fun k hk => hk.1.1)⟩
  have hj2 : (j : Int) < (d.slots.length : Int) := by omega
  obtain ⟨Ax, cx, rfl⟩ := Kd.V_slice hV
  clear h hV hb0 hg e1 e2 e3
  go_enter Try.func25, Try.ntmps25
  go_wp2
  go_loop [5, 6, 14, 15, 16, 17, 18, 19, 20, 21, 22, 23, 24, 25, 26, 27, 28, 29, 30, 31, 32, 33, 34, 35, 36, 37, 38, 39, 40] (fun b i q1 q2 q3 q4 q5 q6 q7 q8 q9 q10 q11 q12 q13 q14 q15 q16 q17 q18 q19 q20 q21 q22 q23 q24 q25 q26 q27 => ∃ k : Nat, k ≤ d.loose.length ∧ i = .int .i64 k ∧ Aside0 (Vb w ok b (getw b0 (d.loose.take k) j))) (fun _ i _ _ _ _ _ _ _ _ _ _ _ _ _ _ _ _ _ _ _ _ _ _ _ _ _ _ _  => d.loose.length - (intOf i).toNat)
  case atStart => exact ⟨0, Nat.zero_le _, rfl, HV⟩
  case round =>
    obtain ⟨k, hk, rfl, HO⟩ := hrel
    by_cases hlt : k < d.loose.length
    · have hgt := getw_take b0 d.loose j k hlt
      obtain ⟨gu, cu', y, hu, hc0, hc1, hx⟩ := dv_looseN HD.out k hlt
      obtain ⟨p, hp⟩ : ∃ p, p = d.loose.getD k (0, []) := ⟨_, rfl⟩
      rw [← hp] at hc0 hx hgt
      obtain ⟨pi, pb⟩ := p
      simp only at hc0 hx hgt
      injection hu with e1 e2 e3
      subst e1
      obtain ⟨Ay, cy, rfl⟩ := Kd.V_slice hx
      have HX : Aside0 (Vb w ok (.slice Ay pb.length cy) pb) := ⟨Kd.V_mono hx (fun k hk => hk.1.1)⟩
      have HG := Aside0.mk hgt
      clear hp hgt hx e2 e3
      by_cases hq : pi = (j : Int)
      · subst hq
        go_wp2
        go_round
        case rel => exact ⟨k + 1, by omega, by go_num, ⟨by rw [HG.out]; (first | rw [if_pos rfl] | rw [if_pos trivial]); exact HX.out⟩⟩
        case measure => simp [intOf]; omega
      · have hq1 : (pi == (j : Int)) = false := by simpa using hq
        have HQ := Aside0.mk hq
        clear hq
        go_wp2
        go_round
        case rel => exact ⟨k + 1, by omega, by go_num, ⟨by rw [HG.out, if_neg HQ.out]; exact HO.out⟩⟩
        case measure => simp [intOf]; omega
    · obtain rfl : k = d.loose.length := by omega
      have hd : decide (d.loose.length < d.loose.length) = false := decide_eq_false (Nat.lt_irrefl _)
      rw [List.take_length] at HO
      clear hk hlt
      go_wp2
      go_ret
      exact ⟨_, rfl, HO.out, rfl⟩
set_option maxHeartbeats 400000 in
set_option maxRecDepth 100000 in
theorem rnew_calls (n : Int) (w : World) (hn0 : -9223372036854775808 ≤ n) (hn1 : n < 9223372036854775808) :
    Calls Try.prog 17 #[.int .i64 n] w fun e w' => ∃ g, e = .returned (.pointer (some ⟨g, 0, none⟩)) ∧ Dp 47 61 w' (fun k => w.heap.size ≤ k ∧ k < g) g (Dr.new n) ∧ Below w.heap.size w w' ∧ w.heap.size ≤ g := by
  have hz : Kd.FK By w (fun _ => False) [] [.slice none 0 0] := vb_fk (Kd.V_nil U8 5 w 0 _)
  have HZ := Aside0.mk hz
  clear hz
  by_cases h0 : n < 0
  · have hs : Dr.new n = ⟨List.replicate (0 : Int).toNat [], [], false⟩ := by unfold Dr.new slotsOf; rw [if_pos h0]; rfl
    have h1 : decide (n < 0) = true := decide_eq_true h0
    have h3 : decide ((128 : Int) < 0) = false := rfl
    rw [hs]
    clear hs h0
    go_enter Try.func17, Try.ntmps17
    go_wp2_with (at_make; refine Kd.N_make By (w0 := w) w.heap.size 22 rfl rfl 44 (.tmp 7) (.tmp 7) rfl 0 rfl rfl Try.underlying44 (.slice none 0 0) 24 info22 rfl (by decide) (by decide) [] (ok := fun k => w.heap.size ≤ k) (okp := fun _ => False) HZ.out (fun _ h => h.elim) (Nat.le_refl _) (by omega) (by omega) (Below.refl _ _) (Nat.le_refl _) ?_; intro v1 w1 ho hb hg hat; have HO := Aside0.mk ho; have HB := Aside0.mk hb; obtain ⟨A1, n1, hv1⟩ := Kd.N_slice ho; rw [List.length_replicate] at hv1; subst hv1; clear ho hb hg hat)
    go_ret
    exact new_end w w1 _ _ HO.out HB.out
  by_cases h2 : n ≤ 128
  · have hs : Dr.new n = ⟨List.replicate n.toNat [], [], false⟩ := by unfold Dr.new slotsOf; rw [if_neg h0, if_pos (by omega)]
    have h3 : decide (128 < n) = false := decide_eq_false (by omega)
    have h4 : decide (n < 0) = false := decide_eq_false h0
    have h5 : 0 ≤ n := by omega
    rw [hs]
    clear hs h0
    go_enter Try.func17, Try.ntmps17
    go_wp2_with (at_make; refine Kd.N_make By (w0 := w) w.heap.size 22 rfl rfl 44 (.tmp 7) (.tmp 7) rfl n rfl rfl Try.underlying44 (.slice none 0 0) 24 info22 rfl (by decide) (by decide) [] (ok := fun k => w.heap.size ≤ k) (okp := fun _ => False) HZ.out (fun _ h => h.elim) (Nat.le_refl _) (by omega) (by omega) (Below.refl _ _) (Nat.le_refl _) ?_; intro v1 w1 ho hb hg hat; have HO := Aside0.mk ho; have HB := Aside0.mk hb; obtain ⟨A1, n1, hv1⟩ := Kd.N_slice ho; rw [List.length_replicate] at hv1; subst hv1; clear ho hb hg hat)
    go_ret
    exact new_end w w1 _ _ HO.out HB.out
  · have hs : Dr.new n = ⟨List.replicate (128 : Int).toNat [], [], false⟩ := by unfold Dr.new slotsOf; rw [if_neg h0, if_neg (by omega)]; rfl
    have h3 : decide (128 < n) = true := decide_eq_true (by omega)
    have h4 : decide (n < 0) = false := decide_eq_false h0
    have h5 : 0 ≤ n := by omega
    rw [hs]
    clear hs h0
    go_enter Try.func17, Try.ntmps17
    go_wp2_with (at_make; refine Kd.N_make By (w0 := w) w.heap.size 22 rfl rfl 44 (.tmp 7) (.tmp 7) rfl 128 rfl rfl Try.underlying44 (.slice none 0 0) 24 info22 rfl (by decide) (by decide) [] (ok := fun k => w.heap.size ≤ k) (okp := fun _ => False) HZ.out (fun _ h => h.elim) (Nat.le_refl _) (by omega) (by omega) (Below.refl _ _) (Nat.le_refl _) ?_; intro v1 w1 ho hb hg hat; have HO := Aside0.mk ho; have HB := Aside0.mk hb; obtain ⟨A1, n1, hv1⟩ := Kd.N_slice ho; rw [List.length_replicate] at hv1; subst hv1; clear ho hb hg hat)
    go_ret
    exact new_end w w1 _ _ HO.out HB.out
end Go.Proofs.Ytemmhjghlmhheaa.Dr
