/- Drives: the contract of Write. -/
import Derived.Test.YtemmhjghlmhheaaProg
import Derived.Below
import Derived.Deep.Draws
import Derived.Deep.AppendLies
import Derived.Maps.AppendAt
import Derived.OwnWalk
import Derived.Laws.BytesArg
import Derived.Laws.MakeOwn
import Derived.Laws.OwnMore
import Derived.Deep.OwnRows
import Derived.Tactics
import Derived.Lib.ConvBytes
import Derived.Laws.Slices
import Derived.WalkKit
import Derived.KernelRfl
import Derived.RowKit3
import Derived.Deep.LoopGhost
import Derived.Deep.QuietTactic
import Derived.BigQuiet
import Derived.WideLaws
import Derived.Deep.DeepCutAuto
import Derived.Deep.CutBlock
import Derived.Deep.RegionHeld3
import Derived.Laws.Rows
import Derived.Lib.AppendStr
import Derived.ArgAppend
import Derived.Laws.IdiomCopy
import Derived.OrdersHeld
import Derived.Laws.BitsLemmas
import Derived.RowKit
import Derived.Test.YtemmhjghlmhheaaWWords
import Derived.Test.YtemmhjghlmhheaaWLast
import Derived.Test.YtemmhjghlmhheaaWTab
import Derived.Test.YtemmhjghlmhheaaWFour
import Derived.Test.YtemmhjghlmhheaaWQPut
import Derived.Test.YtemmhjghlmhheaaWApart
import Derived.Test.YtemmhjghlmhheaaWArr
import Derived.Test.YtemmhjghlmhheaaWZeros
import Derived.Test.YtemmhjghlmhheaaWFoot
import Derived.Test.YtemmhjghlmhheaaWKept
import Derived.Test.YtemmhjghlmhheaaWShare
import Derived.Test.YtemmhjghlmhheaaWN
import Derived.Test.YtemmhjghlmhheaaWFootNe
import Derived.Test.YtemmhjghlmhheaaWAt
import Derived.Test.YtemmhjghlmhheaaWEqStruct
import Derived.Test.YtemmhjghlmhheaaWRepsOne
import Derived.Test.YtemmhjghlmhheaaWInv
import Derived.Test.YtemmhjghlmhheaaWInvWords
import Derived.Test.YtemmhjghlmhheaaWGuard
import Derived.Test.YtemmhjghlmhheaaWNEv
import Derived.Test.YtemmhjghlmhheaaWMore
import Derived.Test.YtemmhjghlmhheaaDr2
import Derived.Deep.RegionHeld3
namespace Go.Proofs.Ytemmhjghlmhheaa.Dr
open Go.RowKit Go.Proofs.YtemmhjghlmhheaaW.PrintWords Go.Proofs.YtemmhjghlmhheaaW.PrintLast Go.Proofs.YtemmhjghlmhheaaW.PrintMore
attribute [local go_sem] max2_int min2_int max_two min_two max_three min_three max_four min_four
set_option linter.unusedVariables false
set_option linter.unusedSimpArgs false
def Dr.writeE (d : Dr) (i : Int) (n : Nat) : Int := if d.check i = 0 then (if 64 < n then 1 else 0) else d.check i
def Dr.write (d : Dr) (i : Int) (lb : List Int) : Dr := if d.check i = 0 then (if 64 < lb.length then d else { d with loose := d.loose ++ [(i, lb)] }) else d
set_option maxRecDepth 100000 in
set_option maxHeartbeats 1000000 in
theorem write_calls (g : Nat) (d : Dr) (i : Int) (lb : List Int) (A : Option Addr) (n c : Nat) (ok okx : Nat → Prop) (w : World) (h : Dp 55 58 w ok g d) (hF : Kd.F U8 w okx A n lb) (hnew : ∀ k, w.heap.size ≤ k → ok k) (hn : n < 17592186044416) (hl : d.loose.length < 1000000) :
    Calls Try.prog 10 #[.pointer (some ⟨g, 0, none⟩), .int .i64 i, .slice A n c] w fun e w' => e = .returned (.int .i64 (d.writeE i n)) ∧ Dp 55 58 w' ok g (d.write i lb) ∧ Kq w w' ok g := by
  have HC := Aside0.mk (check_calls g d i ok w h)
  obtain rfl : lb.length = n := Kd.F_len hF
  have HFF := Aside0.mk hF
  have HN := Aside0.mk hnew
  have HP := Aside0.mk h
  clear hF hnew
  by_cases hc : d.check i = 0
  · rw [hc] at HC
    by_cases h64 : 64 < lb.length
    · have h1 : decide ((64 : Int) < (lb.length : Int)) = true := decide_eq_true (by omega)
      have h2 : decide (64 < lb.length) = true := decide_eq_true h64
      have e1 : d.writeE i lb.length = 1 := by simp [Dr.writeE, hc, h64]
      have e2 : d.write i lb = d := by simp [Dr.write, hc, h64]
      rw [e1, e2]
      clear e1 e2 hc h64 h
      go_enter Try.func10, Try.ntmps10
      go_wp2_with fail
      refine HC.out.mono ?_
      rintro e w' ⟨rfl, rfl⟩
      go_wp2
      go_ret
      exact ⟨rfl, HP.out, Kq.refl _ _ _⟩
    · have h1 : decide ((64 : Int) < (lb.length : Int)) = false := decide_eq_false (by omega)
      have h2 : decide (64 < lb.length) = false := decide_eq_false h64
      have e1 : d.writeE i lb.length = 0 := by simp [Dr.writeE, hc, h64]
      have e2 : d.write i lb = { d with loose := d.loose ++ [(i, lb)] } := by simp [Dr.write, hc, h64]
      rw [e1, e2]
      clear e1 e2 hc h64
      obtain ⟨v, u, h⟩ := h
      obtain ⟨c0, c1, c2, hfz⟩ := dv_cell h
      have HD := Aside0.mk h
      clear h
      go_enter Try.func10, Try.ntmps10
      go_wp2_with fail
      refine HC.out.mono ?_
      rintro e w' ⟨rfl, rfl⟩
      go_wp2_with fail
      have hlv : ∀ k, w'.heap.size ≤ k → some k ≠ v.ownBlock := fun k hk e => by have := Kd.N_lt HD.out.hv k e.symm; omega
      have hlu : ∀ k, w'.heap.size ≤ k → some k ≠ u.ownBlock := fun k hk e => by have := Kd.N_lt HD.out.hu k e.symm; omega
      have HLV := Aside0.mk hlv
      have HLU := Aside0.mk hlu
      have HGU : Aside0 (some g ≠ u.ownBlock) := ⟨fun e => HD.out.ng (HD.out.hu.1 g e.symm).1⟩
      clear hlv hlu
      refine start_ (n := 14) (S := fun w' => w'.cell? ⟨g, 1, none⟩ = some u) (ds := [13]) #[false, false, false, false, false, false, false, false, false, false, false, false, false, false] (by kernel_rfl) rfl rfl (c1) (fun hHeld => ?_)
      refine pure_ (i := 0) (N := some 17) (v := ?_) (a' := ?_) #[true, false, false, false, false, false, false, false, false, false, false, false, false, false] rfl rfl (by kernel_rfl) (fun _ _ _ h => h) (Or.inl ⟨by rfl, ?_⟩) ?_ ?_
      rotate_left
      · intro w'
        go_simp
        with_reducible rfl
      rotate_left
      · simp only [Act.put, List.setIfInBounds_toArray, List.set_cons_zero, List.set_cons_succ, i64_w, i32_w]
        rfl
      refine pure_ (i := 1) (N := some 18) (v := ?_) (a' := ?_) #[true, true, false, false, false, false, false, false, false, false, false, false, false, false] rfl rfl (by kernel_rfl) (fun _ _ _ h => h) (Or.inl ⟨by rfl, ?_⟩) ?_ ?_
      rotate_left
      · intro w'
        go_simp
        with_reducible rfl
      rotate_left
      · simp only [Act.put, List.setIfInBounds_toArray, List.set_cons_zero, List.set_cons_succ, i64_w, i32_w]
        rfl
      refine pure_ (i := 2) (N := some 19) (v := ?_) (a' := ?_) #[true, true, true, false, false, false, false, false, false, false, false, false, false, false] rfl rfl (by kernel_rfl) (fun _ _ _ h => h) (Or.inl ⟨by rfl, ?_⟩) ?_ ?_
      rotate_left
      · intro w'
        go_simp
        with_reducible rfl
      rotate_left
      · simp only [Act.put, List.setIfInBounds_toArray, List.set_cons_zero, List.set_cons_succ, i64_w, i32_w]
        rfl
      refine pure_ (i := 3) (N := some 20) (v := ?_) (a' := ?_) #[true, true, true, true, false, false, false, false, false, false, false, false, false, false] rfl rfl (by kernel_rfl) (fun _ _ _ h => h) (Or.inl ⟨by rfl, ?_⟩) ?_ ?_
      rotate_left
      · intro w'
        go_simp
        with_reducible rfl
      rotate_left
      · simp only [Act.put, List.setIfInBounds_toArray, List.set_cons_zero, List.set_cons_succ, i64_w, i32_w]
        rfl
      refine pure_ (i := 5) (N := some 22) (v := ?_) (a' := ?_) #[true, true, true, true, false, true, false, false, false, false, false, false, false, false] rfl rfl (by kernel_rfl) (fun _ _ _ h => h) (Or.inl ⟨by rfl, ?_⟩) ?_ ?_
      rotate_left
      · intro w'
        go_simp
        with_reducible rfl
      rotate_left
      · simp only [Act.put, List.setIfInBounds_toArray, List.set_cons_zero, List.set_cons_succ, i64_w, i32_w]
        rfl
      refine pure_ (i := 6) (N := some 23) (v := ?_) (a' := ?_) #[true, true, true, true, false, true, true, false, false, false, false, false, false, false] rfl rfl (by kernel_rfl) (fun _ _ _ h => h) (Or.inl ⟨by rfl, ?_⟩) ?_ ?_
      rotate_left
      · intro w'
        go_simp
        with_reducible rfl
      rotate_left
      · simp only [Act.put, List.setIfInBounds_toArray, List.set_cons_zero, List.set_cons_succ, i64_w, i32_w]
        rfl
      refine take_ (i := 4) (N := some 21) (v := ?_) (a' := ?_) #[true, true, true, true, true, true, true, false, false, false, false, false, false, false] rfl rfl (by kernel_rfl) (fun _ _ _ h => h) (Or.inl ⟨by rfl, ?_⟩) hHeld ?_ ?_
      rotate_left
      · intro w' s0
        go_simp
        with_reducible rfl
      rotate_left
      · simp only [Act.put, List.setIfInBounds_toArray, List.set_cons_zero, List.set_cons_succ, i64_w, i32_w]
        rfl
      refine one_ (i := 7) (N := some 24) #[true, true, true, true, true, true, true, true, false, false, false, false, false, false] rfl rfl (by kernel_rfl) (by decide) (fun K hK => ?_)
      refine goes_ Try.func27 (by kernel_rfl) rfl #[.slice A lb.length c] (by rfl) rfl rfl (by simp only [List.map_toArray, List.map_cons, List.map_nil]; rfl) ?_
      with_reducible refine (clone_calls A lb.length c lb _ (Kd.C_drew (Kd.F_now HFF.out)) (by omega)).mono ?_
      rintro e w1 ⟨v2, rfl, ho, hb1⟩
      refine ⟨_, rfl, ?_⟩
      have HV2 : Aside0 (Vb w1 (fun k => w'.heap.size ≤ k) v2 lb) := ⟨vb_new ho (fun _ h => h)⟩
      have HB1 : Aside0 (Below w'.heap.size w' w1) := ⟨⟨hb1.os, hb1.tape, hb1.output, hb1.size, hb1.block⟩⟩
      obtain ⟨A2, n2, rfl⟩ := Kd.V_slice HV2.out
      clear ho hb1
      refine hK.out _ _ ((pw_cell_below HB1.out c1)) (fun hHeld => ?_)
      clear hK K
      refine norm_ (a' := ?_) ?_ ?_
      rotate_left
      · show Act.put _ (some 24) _ = _
        simp only [Act.put, List.setIfInBounds_toArray, List.set_cons_zero, List.set_cons_succ, i64_w, i32_w]
        rfl
      refine pure_ (i := 8) (N := some 25) (v := ?_) (a' := ?_) #[true, true, true, true, true, true, true, true, true, false, false, false, false, false] rfl rfl (by kernel_rfl) (fun _ _ _ h => h) (Or.inl ⟨by rfl, ?_⟩) ?_ ?_
      rotate_left
      · intro w'
        go_simp
        with_reducible rfl
      rotate_left
      · simp only [Act.put, List.setIfInBounds_toArray, List.set_cons_zero, List.set_cons_succ, i64_w, i32_w]
        rfl
      refine one_ (i := 9) (N := some 26) #[true, true, true, true, true, true, true, true, true, true, false, false, false, false] rfl rfl (by kernel_rfl) (by decide) (fun K hK => ?_)
      refine value_ (w1 := ?_) (v := ?_) (by rfl) rfl ?_ ?_
      rotate_left 2
      · go_simp
        constructor
        · rfl
        · rfl
      refine hK.out _ _ ((pw_cell_below ((Below.refl _ _).alloc (Nat.le_refl _) _) (pw_cell_below HB1.out c1))) (fun hHeld => ?_)
      clear hK K
      refine norm_ (a' := ?_) ?_ ?_
      rotate_left
      · show Act.put _ (some 26) _ = _
        simp only [Act.put, List.setIfInBounds_toArray, List.set_cons_zero, List.set_cons_succ, i64_w, i32_w]
        rfl
      refine one_ (i := 10) (N := some 27) #[true, true, true, true, true, true, true, true, true, true, true, false, false, false] rfl rfl (by kernel_rfl) (by decide) (fun K hK => ?_)
      refine Kd.N_append_step Wr (w0 := w') 0 (by rfl) (.tmp 21) (.tmp 26) 53 58 _ 32 (by rfl) Try.underlying53 info58 rfl (by decide) (by decide) u d.loose (i, lb) _ (fun k => ok k ∧ some k ≠ v.ownBlock) (fun k => w'.heap.size ≤ k) (by rfl) (by rfl) (vb_wr HV2.out) (fun k hk => ⟨⟨HN.out k hk, HLV.out k hk⟩, HLU.out k hk⟩) (fun k hk => ⟨HN.out k (Nat.le_trans HB1.out.size hk), HLV.out k (Nat.le_trans HB1.out.size hk)⟩) (Kd.N_below HD.out.hu HB1.out) (HB1.out.mono (Nat.zero_le _)) (Nat.zero_le _) (by omega) ?_
      intro v3 w2 ho hb hg hat
      have hb2 := blk_grown (blk_below HD.out.blk HB1.out) hg HGU.out
      have hc2 : w2.cell? ⟨g, 1, none⟩ = some u := (blk_cell hb2 1).trans rfl
      have hf2 : w2.frozen? ⟨g, 1, none⟩ = false := blk_frozen hb2 1
      have HB2 := Aside0.mk hb2
      have HO3 := Aside0.mk ho
      have HBe := Aside0.mk hb
      have HG3 := Aside0.mk hg
      have HAT := Aside0.mk hat
      obtain ⟨A3, n3, rfl⟩ := Kd.N_slice HO3.out
      clear hb2 ho hb hg hat
      refine hK.out _ _ (hc2) (fun hHeld => ?_)
      clear hK K
      refine norm_ (a' := ?_) ?_ ?_
      rotate_left
      · show Act.put _ (some 27) _ = _
        simp only [Act.put, List.setIfInBounds_toArray, List.set_cons_zero, List.set_cons_succ, i64_w, i32_w]
        rfl
      refine pure_ (i := 11) (N := some 28) (v := ?_) (a' := ?_) #[true, true, true, true, true, true, true, true, true, true, true, true, false, false] rfl rfl (by kernel_rfl) (fun _ _ _ h => h) (Or.inl ⟨by rfl, ?_⟩) ?_ ?_
      rotate_left
      · intro w'
        go_simp
        with_reducible rfl
      rotate_left
      · simp only [Act.put, List.setIfInBounds_toArray, List.set_cons_zero, List.set_cons_succ, i64_w, i32_w]
        rfl
      refine pure_ (i := 12) (N := some 29) (v := ?_) (a' := ?_) #[true, true, true, true, true, true, true, true, true, true, true, true, true, false] rfl rfl (by kernel_rfl) (fun _ _ _ h => h) (Or.inl ⟨by rfl, ?_⟩) ?_ ?_
      rotate_left
      · intro w'
        go_simp
        with_reducible rfl
      rotate_left
      · simp only [Act.put, List.setIfInBounds_toArray, List.set_cons_zero, List.set_cons_succ, i64_w, i32_w]
        rfl
      refine last_ (i := 13) (N := none) #[true, true, true, true, true, true, true, true, true, true, true, true, true, true] rfl rfl (by kernel_rfl) (by decide) (fun K hK => ?_)
      refine skip_ (w1 := ?_) (by rfl) rfl ?_ ?_
      rotate_left
      · go_simp
        rfl
      refine hK.out _ _ ?_
      clear hK K
      refine done_ (by kernel_rfl) ?_
      have hlen : (d.loose ++ [(i, lb)]).length = d.loose.length + 1 := by simp
      rw [hlen] at HO3 HAT
      have HL := Aside0.mk hlen
      clear hlen
      clear hHeld
      go_wp2
      go_ret
      refine ⟨rfl, ⟨v, .slice A3 (d.loose.length + 1) n3, blk_set HB2.out 1 _, HD.out.ng, ?_, ?_⟩, ?_⟩
      · exact Kd.N_far (Kd.N_after (Kd.N_below HD.out.hv HB1.out) HG3.out HAT.out) (p := ⟨g, 1, none⟩) (fun k hk e => HD.out.ng (by have e' : k = g := e; exact e' ▸ hk.1)) _
      · exact Kd.N_far HO3.out (p := ⟨g, 1, none⟩) (fun k hk e => HD.out.ng (by have e' : k = g := e; exact e' ▸ hk.1)) _
      · exact (((Kq.of_below HB1.out).grown HG3.out (fun k hk => .inl (HD.out.hu.1 k hk).1)).set (p := ⟨g, 1, none⟩) (.inl rfl) _)
  · have h1 : (d.check i == 0) = false := by simpa using hc
    have h2 : (d.check i != 0) = true := by simpa using hc
    have e1 : d.writeE i lb.length = d.check i := by simp [Dr.writeE, hc]
    have e2 : d.write i lb = d := by simp [Dr.write, hc]
    rw [e1, e2]
    obtain ⟨x, hx⟩ : ∃ x, x = d.check i := ⟨_, rfl⟩
    rw [← hx] at HC h1 h2 ⊢
    clear e1 e2 hc hx h
    go_enter Try.func10, Try.ntmps10
    go_wp2_with fail
    refine HC.out.mono ?_
    rintro e w' ⟨rfl, rfl⟩
    go_wp2
    go_ret
    exact ⟨rfl, HP.out, Kq.refl _ _ _⟩
end Go.Proofs.Ytemmhjghlmhheaa.Dr
