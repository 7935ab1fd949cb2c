/- LinearNone: the walk. -/
import Derived.Test.YthocnaagpmkoeaaLn9
namespace Go.Proofs.Ythocnaagpmkoeaa.PLinearNone
open Go.RowKit Go.Proofs.YthocnaagpmkoeaaW.PrintWords Go.Proofs.YthocnaagpmkoeaaW.PrintLast Go.Proofs.YthocnaagpmkoeaaW.PrintMore
attribute [local go_sem] max2_int min2_int max_two min_two max_three min_three max_four min_four
set_option linter.unusedVariables false
set_option linter.unusedSimpArgs false
open Go.Proofs.Ythocnaagpmkoeaa.Ln Go.Proofs.Ythocnaagpmkoeaa.Op Go.Proofs.Ythocnaagpmkoeaa.Mp
def flittinglaw22_LinearNone.Pure : Prop := True
theorem run_none : runF (fun _ => none) (sortF []) = true := by
  rw [sort_eq [] [] (List.Perm.refl _) List.Pairwise.nil]
  rfl
theorem check_idle (A : Option Addr) (c : Nat) (xs : List Fc) (W : World) (hR : Rd W A xs) (hl : xs.length ≤ 100000) (hf : filt xs = []) :
    Calls Try.prog 7 #[.slice A xs.length c] W fun e w' => e = .returned (.bool true) ∧ Below W.heap.size W w' := by
  have h := check_calls A c xs W hR hl (by rw [hf]; decide) (by rw [hf]; intro x hx; cases hx)
  rw [hf, run_none] at h
  exact h
theorem check_none (W : World) : Calls Try.prog 7 #[.slice none 0 0] W fun e w' => e = .returned (.bool true) ∧ Below W.heap.size W w' := check_idle none 0 [] W (fun q hq => absurd hq (Nat.not_lt_zero _)) (by decide) rfl
set_option maxHeartbeats 4000000 in
set_option maxRecDepth 100000 in
theorem flittinglaw22_LinearNone.walk (_P : flittinglaw22_LinearNone.Pure) (A0 : Option Addr) (c0 : Nat) (l0 : List CT) (w : World) (hl0 : l0.length ≤ c0) (hC0 : CKt.C w A0 l0.length l0) (hG0 : Row 136 (fun x => (Lit.int .i64 x.1).wf = true ∧ (Lit.int .i64 x.2.1).wf = true ∧ x.2.2.1.size ≤ 140737488351232 ∧ Row 1 (fun n => (Lit.int .u8 n).wf = true) x.2.2.2.1 ∧ (Lit.int .i64 x.2.2.2.2.1).wf = true ∧ (Lit.int .i64 x.2.2.2.2.2.1).wf = true ∧ (Lit.int .i64 x.2.2.2.2.2.2.1).wf = true ∧ (Lit.int .i64 x.2.2.2.2.2.2.2.1).wf = true ∧ Row 1 (fun n => (Lit.int .u8 n).wf = true) x.2.2.2.2.2.2.2.2.1 ∧ Row 16 (fun s => s.size ≤ 140737488351232) x.2.2.2.2.2.2.2.2.2) l0) :
    Calls Try.prog 4 #[.slice A0 l0.length c0] w fun e w' => e = .returned (.bool true) ∧ Below w.heap.size w w' := by
  generalize hn : l0.length = n at *
  clear hG0 _P
  by_cases t0 : 60 < n
  · have d0 : decide ((60 : Int) < (n : Int)) = true := decide_eq_true (by omega)
    clear t0 hC0 hl0 hn
    go_enter Try.func4, Try.ntmps4
    go_wp2_with fail
    refine (answers_calls _).mono ?_
    rintro e w2 ⟨rfl, hb2⟩
    go_wp2_with fail
    go_ret
    exact ⟨rfl, hb2⟩
  · have d0 : decide ((60 : Int) < (n : Int)) = false := decide_eq_false (by omega)
    have hn60 : n ≤ 60 := by omega
    clear t0
    cases A0 with
    | none =>
      obtain rfl : n = 0 := by
        rcases Nat.eq_zero_or_pos n with h | h
        · exact h
        · obtain ⟨ad, e, _⟩ := hC0.2.2 h
          cases e
      clear hC0 hl0 hn hn60
      go_enter Try.func4, Try.ntmps4
      go_upto_region 4 with fail
      generalize hW : w.alloc (.cells #[] 29) = W
      have HBW : Aside0 (Below w.heap.size w W) := ⟨by rw [← hW]; exact (Below.refl _ _).alloc (Nat.le_refl _) _⟩
      have HK : Aside0 (∀ W', Below W.heap.size W W' → Calls Try.prog 7 #[.slice (some ⟨w.heap.size, 0, none⟩) 0 0] W' fun e w' => e = .returned (.bool true) ∧ Below W'.heap.size W' w') := ⟨fun W' _ => check_idle _ 0 [] W' (fun q hq => absurd hq (Nat.not_lt_zero _)) (by decide) rfl⟩
      clear hW
      go_wp2
      go_loopw [4] (fun i wr => i = .int .i64 0 ∧ wr = W) (fun _ _ => 0)
      case atStart => exact ⟨rfl, rfl⟩
      case round =>
        obtain ⟨rfl, hwr⟩ := hrel
        rw [hwr]
        clear hwr
        go_wp2_with fail
        refine (answers_calls _).mono ?_
        rintro e w6 ⟨rfl, hb6⟩
        have HB6 := Aside0.mk hb6
        clear hb6
        go_wp2_with fail
        refine (HK.out _ HB6.out).mono ?_
        rintro e w7 ⟨rfl, hb7⟩
        have HB7 := Aside0.mk (HB6.out.trans (hb7.mono HB6.out.size))
        clear hb7
        go_wp2_with fail
        refine (check_none _).mono ?_
        rintro e w8 ⟨rfl, hb8⟩
        have HB8 := Aside0.mk (HB7.out.trans (hb8.mono HB7.out.size))
        clear hb8
        go_wp2_with fail
        go_ret
        exact ⟨rfl, HBW.out.trans (HB8.out.mono HBW.out.size)⟩
    | some ad =>
      obtain ⟨fs, hfl, hcell⟩ := flats_of hC0
      have HC := Aside0.mk hcell
      have HL := Aside0.mk hfl
      clear hC0 hl0 hn hcell hfl
      have e0 : ∀ l : List Fc, (l.flatMap encF).length = l.length * 10 := fun l => by
        induction l with
        | nil => rfl
        | cons x l ih => rw [List.flatMap_cons, List.length_append, ih, encF_len, List.length_cons]; omega
      have HFL : Aside0 ((fs.flatMap encF).length = n * 10) := ⟨by rw [e0, HL.out]⟩
      have H1 : Aside0 (∀ u ∈ fs.flatMap encF, u.oneCell' = true) := ⟨fun u hu => by
        obtain ⟨f, _, hf⟩ := List.mem_flatMap.1 hu
        exact encF_one f u hf⟩
      have HMADE : Aside0 ((w.alloc (.cells #[] 29)).ownsRow w.heap.size 29 10 (.slice (some ⟨w.heap.size, 0, none⟩) 0 0) 0 []) := ⟨World.ownsRow_made w #[] 0 (Nat.le_refl _) (by decide) rfl⟩
      have HBA : Aside0 (Below w.heap.size w (w.alloc (.cells #[] 29))) := ⟨(Below.refl _ _).alloc (Nat.le_refl _) _⟩
      have HCA : Aside0 (∀ j u, (fs.flatMap encF)[j]? = some u → (w.alloc (.cells #[] 29)).cell? (ad.add j) = some u) := ⟨fun j u h => pw_cell_below HBA.out (HC.out j u h)⟩
      obtain ⟨i0, hi, hz0, hz1, hz2⟩ := info_parts info29
      clear e0
      go_enter Try.func4, Try.ntmps4
      go_wp2_with ((with_reducible refine gate_builtin (b := .append) (xs := #[.tmp 9, .tmp 10]) rfl ?_); at_builtin; refine wpList_append_own_at _ rfl (.tmp 9) (.tmp 10) 24 rfl w.heap.size 29 i0 zcall 10 136 Try.underlying24 hi hz0 hz1 hz2 rfl (by decide) (.slice (some ⟨w.heap.size, 0, none⟩) 0 0) 0 [] rfl HMADE.out ad n c0 (fs.flatMap encF) rfl HFL.out HCA.out H1.out (by unfold maxLen; omega) (by omega) HBA.out.size ?_; intro v5 w5 ho5 hg5 _ _; rw [Nat.zero_add] at ho5; obtain ⟨A5, c5, e5⟩ := own_slice ho5; subst e5; have HO5 := Aside0.mk ho5; have HG5 := Aside0.mk hg5; clear ho5 hg5)
      have HB5 : Aside0 (Below w.heap.size w w5) := ⟨HBA.out.grown HG5.out HBA.out.size (fun k hk => (HMADE.out.lt k hk).1)⟩
      clear hi hz0 hz1 hz2
      go_loopw [4] (fun i wr => ∃ q : Nat, q ≤ n ∧ i = .int .i64 q ∧ Aside0 (Rw w.heap.size wr A5 (zf fs q)) ∧ Aside0 (Below w.heap.size w wr)) (fun i _ => n - (intOf i).toNat)
      case atStart => exact ⟨0, Nat.zero_le _, rfl, ⟨by have h := rw_of_own HL.out HO5.out; rwa [show zf fs 0 = fs by simp [zf]]⟩, HB5⟩
      case round =>
        obtain ⟨q, hq, rfl, hR, hB⟩ := hrel
        by_cases hlt : q < n
        · have hd : decide (q < n) = true := decide_eq_true hlt
          obtain ⟨g, rfl, hBg, hc⟩ := hR.out q (by rw [zf_len, HL.out]; exact hlt)
          obtain ⟨c6, f6⟩ := hc 6 (by decide)
          have HNX : Aside0 (Rw w.heap.size (wr.setCell ⟨g, q * 10 + 6, none⟩ (.int .i64 0)) (some ⟨g, 0, none⟩) (zf fs (q + 1))) := ⟨rw_zero (by rw [HL.out]; exact hlt) hR.out⟩
          have HBX : Aside0 (Below w.heap.size w (wr.setCell ⟨g, q * 10 + 6, none⟩ (.int .i64 0))) := ⟨hB.out.setCell hBg _⟩
          clear hc
          go_wp2
          go_roundw
          case rel => exact ⟨q + 1, by omega, by go_num, HNX, HBX⟩
          case measure => simp [intOf]; omega
        · obtain rfl : q = n := by omega
          have hd : decide (q < q) = false := decide_eq_false (Nat.lt_irrefl q)
          have HBW := hB
          have HK : Aside0 (∀ W', Below wr.heap.size wr W' → Calls Try.prog 7 #[.slice A5 q c5] W' fun e w' => e = .returned (.bool true) ∧ Below W'.heap.size W' w') := ⟨fun W' h => by
            have h2 := check_idle A5 c5 (zf fs q) W' (hR.out.rd.below h) (by rw [zf_len, HL.out]; omega) (by rw [← HL.out]; exact filt_zf fs)
            rwa [zf_len, HL.out] at h2⟩
          clear hR hB
          go_wp2_with fail
          refine (answers_calls _).mono ?_
          rintro e w6 ⟨rfl, hb6⟩
          have HB6 := Aside0.mk hb6
          clear hb6
          go_wp2_with fail
          refine (HK.out _ HB6.out).mono ?_
          rintro e w7 ⟨rfl, hb7⟩
          have HB7 := Aside0.mk (HB6.out.trans (hb7.mono HB6.out.size))
          clear hb7
          go_wp2_with fail
          refine (check_none _).mono ?_
          rintro e w8 ⟨rfl, hb8⟩
          have HB8 := Aside0.mk (HB7.out.trans (hb8.mono HB7.out.size))
          clear hb8
          go_wp2_with fail
          go_ret
          exact ⟨rfl, HBW.out.trans (HB8.out.mono HBW.out.size)⟩
end Go.Proofs.Ythocnaagpmkoeaa.PLinearNone
