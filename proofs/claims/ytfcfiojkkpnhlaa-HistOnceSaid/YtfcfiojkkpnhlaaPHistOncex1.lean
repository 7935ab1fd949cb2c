-- Written by myprint.py (this session's own driver of the kit's print, with contracts of its own handed in).
import Derived.Test.YtfcfiojkkpnhlaaPHistOncex0
namespace Go.Proofs.Ytfcfiojkkpnhlaa.PHistOnce
open Go.RowKit Go.Proofs.YtfcfiojkkpnhlaaW.PrintWords Go.Proofs.YtfcfiojkkpnhlaaW.PrintLast Go.Proofs.YtfcfiojkkpnhlaaW.PrintMore
attribute [local go_sem] max2_int min2_int max_two min_two max_three min_three max_four min_four   -- for this text's walks alone
set_option linter.unusedVariables false
set_option linter.unusedSimpArgs false

-- NOT PRINTED: function 8 (hist_New)

-- NOT PRINTED: function 13 (bytes_Clone)

-- NOT PRINTED: function 15 (slices_Clone_string_string)

-- NOT PRINTED: function 14 (hist_Hist_run)

-- NOT PRINTED: function 9 (hist_Hist_Add)

-- NOT PRINTED: function 11 (hist_Hist_Calls)

-- NOT PRINTED: function 7 (flittinglaw21_answers)

/-! ### flittinglaw21_HistOnce: function 6, by hand -/
open Go.Proofs.Ytfcfiojkkpnhlaa.Hs Go.Proofs.Ytfcfiojkkpnhlaa.Op
theorem range_getD (task : Int) (n j : Nat) (h : j < n) : ((List.range n).map (onceC task)).getD j clz = onceC task j := by
  rw [List.getD_eq_getElem?_getD, List.getElem?_map, List.getElem?_range h]; rfl
theorem u8_wf {n : Int} (h : (Lit.int .u8 n).wf = true) : 0 ≤ n ∧ n < 256 := by
  simp [Lit.wf] at h
  have e1 : IntKind.u8.min = 0 := rfl
  have e2 : IntKind.u8.max = 255 := rfl
  (try rw [e1] at h)
  (try rw [e2] at h)
  omega
def flittinglaw21_HistOnce.Pure : Prop := True
set_option maxHeartbeats 4000000 in
set_option maxRecDepth 100000 in
theorem flittinglaw21_HistOnce.walk (_P : flittinglaw21_HistOnce.Pure) (n : Int) (task : Int) (w : World) (w0 : (Lit.int .u8 n).wf = true) (w1 : (Lit.int .i64 task).wf = true) :
    Calls Try.prog 6 #[.int .u8 n, .int .i64 task] w fun e w' => e = .returned (.bool true) ∧ Below w.heap.size w w' := by
  obtain ⟨hn0, hn1⟩ := u8_wf w0
  have HT := Aside0.mk w1
  have HT0 : Aside0 ((Lit.int .i64 0).wf = true) := ⟨rfl⟩
  have hk : n % 9 + 1 = (((n % 9).toNat + 1 : Nat) : Int) := by omega
  obtain ⟨k, hkk⟩ : ∃ k, k = (n % 9).toNat + 1 := ⟨_, rfl⟩
  rw [← hkk] at hk
  have hk9 : k < 10 := by omega
  clear hkk w0 w1 _P
  go_enter Try.func6, Try.ntmps6
  go_wp2_with fail
  refine (own_new w).mono ?_
  rintro e w1 ⟨g, mb, rfl, hO1⟩
  have O1 := Aside0.mk hO1
  clear hO1
  go_wp2_with fail
  go_loopw [7, 15, 16, 17, 18, 19, 20, 21, 22, 23, 24, 25, 26, 27, 28, 29, 30, 31, 32, 33, 34, 35] (fun x7 x15 x16 x17 x18 x19 x20 x21 x22 x23 x24 x25 x26 x27 x28 x29 x30 x31 x32 x33 x34 x35 wr => ∃ i : Nat, i ≤ k ∧ x7 = .int .i64 i ∧ Aside0 (Own w wr g mb (fun k => w.heap.size + 2 ≤ k) (onceH task i) (3 * i))) (fun x7 _ _ _ _ _ _ _ _ _ _ _ _ _ _ _ _ _ _ _ _ _ _ => k - (intOf x7).toNat)
  case atStart => exact ⟨0, Nat.zero_le _, rfl, O1⟩
  case round =>
    obtain ⟨i, hi, rfl, O1⟩ := hrel
    by_cases hlt : i < k
    · have hi3 : 3 * i < 999990 := by omega
      go_wp2_with fail
      refine (own_add O1.out (by omega) ⟨1, 2, ⟨#[107]⟩, [], 0⟩ ⟨0, task, false, 0, [], []⟩ _ _ _ (arg_nil _ _ _ rfl rfl rfl HT.out rfl) (fun k hk _ => hk.elim)).mono ?_
      rintro e w2 ⟨rfl, hO, _⟩
      have O2 := Aside0.mk hO
      clear hO
      go_wp2_with fail
      refine (own_add O2.out (by omega) ⟨2, task, ⟨#[]⟩, [], 0⟩ ⟨0, task, true, 1, [], []⟩ _ _ _ (arg_nil _ _ _ rfl rfl rfl HT.out HT.out) (fun k hk _ => hk.elim)).mono ?_
      rintro e w3 ⟨rfl, hO, _⟩
      have O3 := Aside0.mk hO
      clear hO
      go_wp2_with fail
      refine (own_add O3.out (by omega) ⟨2, task, ⟨#[]⟩, [], 0⟩ ⟨7, 0, true, 2, [], []⟩ _ _ _ (arg_nil _ _ _ rfl rfl rfl rfl HT.out) (fun k hk _ => hk.elim)).mono ?_
      rintro e w4 ⟨rfl, hO, _⟩
      have O4 := Aside0.mk hO
      clear hO
      go_wp2
      go_roundw
      case rel => exact ⟨i + 1, by omega, by go_num, O4⟩
      case measure => simp [intOf]; omega
    · have hik : i = k := by omega
      subst hik
      have hm : 3 * i < 999999 := by omega
      go_wp2_with fail
      refine (own_calls O1.out hm).mono ?_
      rintro e w5 ⟨v0, rfl, hN, hB, hO⟩
      have he := onceH_eq task i
      have hl : (onceH task i).list = (List.range i).map (onceC task) := by rw [he]
      rw [hl] at hN
      obtain ⟨gl, cap, rfl, _, _, _⟩ := Kd.N_form hN (by simp; omega)
      have hlen : ((List.range i).map (onceC task)).length = i := by simp
      rw [hlen] at hN
      have HN := Aside0.mk hN
      have HO := Aside0.mk hO
      rw [hlen]
      clear hN hB hO he hl hlen
      go_wp2
      go_loopw [9, 38, 39, 40, 41, 42, 43, 44, 45, 46, 47, 48, 49, 50, 51, 52, 53, 54, 55, 56, 57, 58, 59, 60, 61, 62, 63, 64, 65, 66, 67, 68, 69, 70, 71, 72, 73, 74, 75, 76, 77, 78, 79, 80, 81, 82] (fun x9 x38 x39 x40 x41 x42 x43 x44 x45 x46 x47 x48 x49 x50 x51 x52 x53 x54 x55 x56 x57 x58 x59 x60 x61 x62 x63 x64 x65 x66 x67 x68 x69 x70 x71 x72 x73 x74 x75 x76 x77 x78 x79 x80 x81 x82 wr => ∃ j : Nat, j ≤ i ∧ x9 = .int .i64 j ∧ wr = w5) (fun x9 _ _ _ _ _ _ _ _ _ _ _ _ _ _ _ _ _ _ _ _ _ _ _ _ _ _ _ _ _ _ _ _ _ _ _ _ _ _ _ _ _ _ _ _ _ _ => i - (intOf x9).toNat)
      case atStart => exact ⟨0, Nat.zero_le _, rfl, rfl⟩
      case round =>
        obtain ⟨j, hj, rfl, rfl⟩ := hrel
        by_cases hji : j < i
        · obtain ⟨vd, vo, vk, hcc, _⟩ := hl_elem (Kd.N_lower HN.out (Nat.zero_le _)) j (by simp; omega)
          rw [range_getD task i j hji] at hcc
          have m4 : wr.cell? ⟨gl, j * 10 + 4, none⟩ = some (.int .i64 (3 * (j : Int) + 1)) := hcc 4 _ rfl
          have m5 : wr.cell? ⟨gl, j * 10 + 5, none⟩ = some (.int .i64 (3 * (j : Int) + 2)) := hcc 5 _ rfl
          have m6 : wr.cell? ⟨gl, j * 10 + 6, none⟩ = some (.int .i64 (3 * (j : Int) + 2)) := hcc 6 _ rfl
          have m7 : wr.cell? ⟨gl, j * 10 + 7, none⟩ = some (.int .i64 0) := hcc 7 _ rfl
          clear hcc
          go_wp2
          go_roundw
          case rel => exact ⟨j + 1, by omega, by go_num, trivial⟩
          case measure => simp [intOf]; omega
        · have hji' : j = i := by omega
          subst hji'
          go_wp2_with fail
          refine (answers_calls _).mono ?_
          rintro e w6 ⟨rfl, hb⟩
          have HB := Aside0.mk (HO.out.bl.trans (hb.mono HO.out.bl.size))
          clear hb
          go_wp2
          go_ret
          exact ⟨rfl, HB.out⟩

end Go.Proofs.Ytfcfiojkkpnhlaa.PHistOnce
