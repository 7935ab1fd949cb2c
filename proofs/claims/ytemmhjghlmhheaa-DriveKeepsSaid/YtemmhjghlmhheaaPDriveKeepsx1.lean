-- Written by myprint.py (this session's own driver of the kit's print, with contracts of its own handed in).
import Derived.Test.YtemmhjghlmhheaaPDriveKeepsx0
namespace Go.Proofs.Ytemmhjghlmhheaa.PDriveKeeps
open Go.RowKit Go.Proofs.YtemmhjghlmhheaaW.PrintWords Go.Proofs.YtemmhjghlmhheaaW.PrintLast Go.Proofs.YtemmhjghlmhheaaW.PrintMore
attribute [local go_sem] max2_int min2_int max_two min_two max_three min_three max_four min_four   -- for this text's walks alone
set_option linter.unusedVariables false
set_option linter.unusedSimpArgs false

-- NOT PRINTED: function 9 (drive_New)

-- NOT PRINTED: function 26 (drive_Drive_check)

-- NOT PRINTED: function 27 (bytes_Clone)

-- NOT PRINTED: function 10 (drive_Drive_Write)

-- NOT PRINTED: function 28 (drive_Drive_do)

-- NOT PRINTED: function 12 (drive_Drive_Crash)

-- NOT PRINTED: function 15 (drive_Drive_Lasts)

-- NOT PRINTED: function 13 (drive_Drive_Read)

-- NOT PRINTED: function 22 (drive_Drive_Lost)

-- NOT PRINTED: function 23 (drive_Drive_Cap)

-- NOT PRINTED: function 8 (flittinglaw06_answers)

-- NOT PRINTED: function 11 (drive_Drive_Loose)

/-! ### flittinglaw06_DriveKeeps: function 3, by hand -/
open Go.Proofs.Ytemmhjghlmhheaa.Dr
/-- The slots that the writes go to, and what lasts of them. -/
def kw (ss : List Int) (i : Nat) : List (Int × List Int) := (List.range i).map fun (j : Nat) => (rd ss (j : Int) % 8, [(j : Int) + 1])
def wantTo (keep : Int) (ss : List Int) : Nat → List Int
  | 0 => List.replicate 8 0
  | i + 1 => if bitK keep i then (wantTo keep ss i).set (rd ss (i : Int) % 8).toNat ((i : Int) + 1) else wantTo keep ss i
def enc (x : Int) : List Int := if x = 0 then [] else [x]
theorem wantTo_len (keep : Int) (ss : List Int) : ∀ i, (wantTo keep ss i).length = 8
  | 0 => rfl
  | i + 1 => by
    unfold wantTo
    split
    · rw [List.length_set, wantTo_len keep ss i]
    · exact wantTo_len keep ss i
theorem wantTo_le (keep : Int) (ss : List Int) : ∀ i, ∀ x, x ∈ wantTo keep ss i → 0 ≤ x ∧ x ≤ i
  | 0 => fun x hx => by rw [List.eq_of_mem_replicate hx]; exact ⟨by decide, by decide⟩
  | i + 1 => fun x hx => by
    unfold wantTo at hx
    split at hx
    · rcases mem_set_of hx with h | h
      · have := wantTo_le keep ss i x h; omega
      · rw [h]; omega
    · have := wantTo_le keep ss i x hx; omega
theorem kw_snoc (ss : List Int) (i : Nat) : kw ss (i + 1) = kw ss i ++ [(rd ss i % 8, [(i : Int) + 1])] := by
  unfold kw
  rw [List.range_succ, List.map_append]; rfl
theorem kw_len (ss : List Int) (i : Nat) : (kw ss i).length = i := by unfold kw; rw [List.length_map, List.length_range]
theorem kw_at (ss : List Int) (n i : Nat) (h : i < n) : (kw ss n).getD i (0, []) = (rd ss i % 8, [(i : Int) + 1]) := by
  unfold kw
  rw [List.getD_eq_getElem?_getD, List.getElem?_map, List.getElem?_range h]; rfl
theorem crash_want (keep : Int) (ss : List Int) (n : Nat) : ∀ i, i ≤ n → crashTo keep (List.replicate 8 []) (kw ss n) i = (wantTo keep ss i).map enc
  | 0 => fun _ => rfl
  | i + 1 => fun hi => by
    unfold crashTo wantTo
    rw [crash_want keep ss n i (by omega), kw_at ss n i (by omega)]
    split
    · rw [List.map_set]
      have : enc ((i : Int) + 1) = [(i : Int) + 1] := by unfold enc; rw [if_neg (by omega)]
      rw [this]
    · rfl
theorem keeps_new : Dr.new 8 = ⟨List.replicate 8 [], [], false⟩ := rfl
theorem keeps_write (ss : List Int) (i : Nat) (s : Int) (h0 : 0 ≤ s) (h8 : s < 8) (hs : s = rd ss i % 8) : Dr.write ⟨List.replicate 8 [], kw ss i, false⟩ s [(i : Int) + 1] = ⟨List.replicate 8 [], kw ss (i + 1), false⟩ := by
  have h2 : ¬ 64 < [(i : Int) + 1].length := by simp
  have hc : Dr.check ⟨List.replicate 8 [], kw ss i, false⟩ s = 0 := by
    unfold Dr.check
    rw [if_neg (by simp), if_neg (by simp; omega)]
  unfold Dr.write
  rw [if_pos hc, if_neg h2, kw_snoc, ← hs]
theorem keeps_writeE (ss : List Int) (i : Nat) (s : Int) (h0 : 0 ≤ s) (h8 : s < 8) : Dr.writeE ⟨List.replicate 8 [], kw ss i, false⟩ s 1 = 0 := by
  have hc : Dr.check ⟨List.replicate 8 [], kw ss i, false⟩ s = 0 := by
    unfold Dr.check
    rw [if_neg (by simp), if_neg (by simp; omega)]
  unfold Dr.writeE
  rw [if_pos hc, if_neg (by decide)]
/-- An array of whole numbers. -/
def wArr (l : List Int) : Array Value := (l.map fun x => Value.int .i64 x).toArray
theorem wArr_set (l : List Int) (i : Nat) (x : Int) : (wArr l).setIfInBounds i (.int .i64 x) = wArr (l.set i x) := by
  unfold wArr
  rw [List.setIfInBounds_toArray, List.map_set]
theorem wArr_at (l : List Int) (i : Nat) (h : i < l.length) : (wArr l)[i]? = some (.int .i64 (l.getD i 0)) := by
  unfold wArr
  rw [List.getElem?_toArray, List.getElem?_map, List.getD_eq_getElem?_getD, List.getElem?_eq_getElem h]; rfl
theorem one_C (W : World) (g : Nat) (x : Int) (fr : Nat × Nat) (h : W.heap[g]? = some (.cells #[.int .u8 x] 5 fr)) : U8.C W (some ⟨g, 0, none⟩) 1 [x] := by
  refine Kd.C_of_reads (d := (0 : Int)) ⟨rfl, by decide, fun _ => ⟨_, rfl, fun j hj => ?_⟩⟩
  obtain rfl : j = 0 := by omega
  rw [add_plain]
  simp [World.cell?, h]
theorem keeps_fit (ss : List Int) (i : Nat) : (⟨List.replicate 8 [], kw ss i, false⟩ : Dr).Fit := by
  refine ⟨fun p hp => ?_, fun b hb => ?_, fun p hp => ?_⟩
  · unfold kw at hp
    obtain ⟨j, _, rfl⟩ := List.mem_map.1 hp
    show 0 ≤ rd ss j % 8 ∧ rd ss j % 8 < _
    simp
    omega
  · rw [List.eq_of_mem_replicate hb]; exact Nat.zero_le _
  · unfold kw at hp
    obtain ⟨j, _, rfl⟩ := List.mem_map.1 hp
    show 1 ≤ 64
    decide
def flittinglaw06_DriveKeeps.Pure : Prop := True
set_option maxHeartbeats 4000000 in
set_option maxRecDepth 100000 in
theorem flittinglaw06_DriveKeeps.walk (_P : flittinglaw06_DriveKeeps.Pure) (a0 : Option Addr) (len0 cap0 : Nat) (z0 : List Int) (a1 : Int) (w : World) (w0 : (a0 = none ∧ len0 = 0 ∧ cap0 = 0 ∧ z0 = []) ∨ ∃ x, a0 = some x ∧ len0 ≤ cap0 ∧ cap0 ≤ maxLen ∧ z0.length = cap0 ∧ (∀ i, i < z0.length → w.cell? (x.add i) = some (.int .u8 (z0.getD i 0))) ∧ ∀ n ∈ z0, (Lit.int .u8 n).wf = true) (y0 : len0 * 1 ≤ 140737488351232) (w1 : (Lit.int .u64 a1).wf = true) :
    Calls Try.prog 3 #[.slice a0 len0 cap0, .int .u64 a1] w fun e w' => e = .returned (.bool true) ∧ Below w.heap.size w w' := by
  have ha : 0 ≤ a1 ∧ a1 < 18446744073709551616 := by
    have h2 := w1
    simp [Lit.wf] at h2
    have e1 : IntKind.u64.min = 0 := rfl
    have e2 : IntKind.u64.max = 18446744073709551615 := rfl
    rw [e1, e2] at h2
    omega
  obtain ⟨l0, rfl, hr0, hm0, hw0, hc0⟩ := ReadsInt.ofRowC w0
  have HR0 : Aside0 (U8.C w a0 l0.length l0) := ⟨Kd.C_of_reads (d := (0 : Int)) (h1 := fun _ => rfl) hr0⟩
  have HC0 := Aside0.mk hc0
  have HW0 := Aside0.mk hw0
  have HR0i := Aside0.mk hr0
  clear w0 hr0 hm0 hw0 hc0
  clear w1 y0 _P
  by_cases g1 : 70 < l0.length
  · have d1 : decide ((70 : Int) < (l0.length : Int)) = true := decide_eq_true (by omega)
    have d2 : decide (70 < l0.length) = true := decide_eq_true g1
    clear g1
    go_enter Try.func3, Try.ntmps3
    go_wp2_with fail
    refine (answers_calls _).mono ?_
    rintro e w' ⟨rfl, hb⟩
    have HB := Aside0.mk hb
    clear hb
    go_wp2
    go_ret
    exact ⟨rfl, HB.out⟩
  have d1 : decide ((70 : Int) < (l0.length : Int)) = false := decide_eq_false (by omega)
  have d2 : decide (70 < l0.length) = false := decide_eq_false g1
  have hl : l0.length ≤ 70 := by omega
  obtain ⟨ha0, ha1⟩ := ha
  clear g1
  go_enter Try.func3, Try.ntmps3
  go_wp2_with fail
  refine (own_new 8 w w (Below.refl _ _) (by decide) (by decide)).mono ?_
  rintro e w1 ⟨g, rfl, hD, _, _⟩
  have hlt := hD.dp.lt
  have hsz := hD.hb.size
  have HD1 : Aside0 (Dp 55 58 w1 (fun k => w.heap.size ≤ k ∧ k ≠ g ∧ k ≠ w1.heap.size) g ⟨List.replicate 8 [], kw l0 0, false⟩) := ⟨hD.dp.mono (ok' := fun k => w.heap.size ≤ k ∧ k ≠ g ∧ k ≠ w1.heap.size) (fun k hk hl => ⟨hk.1, hk.2, by omega⟩) (fun h => h.2.1 rfl)⟩
  have HG : Aside0 (w.heap.size ≤ g ∧ g < w1.heap.size ∧ w.heap.size ≤ w1.heap.size) := ⟨⟨hD.hg, hlt, hsz⟩⟩
  have hB : Below w1.heap.size w1 (w1.alloc (.cells (wArr (wantTo a1 l0 0)) 27)) := (Below.refl _ _).alloc (Nat.le_refl _) _
  have HBA : Aside0 (Below w.heap.size w (w1.alloc (.cells (wArr (wantTo a1 l0 0)) 27))) := ⟨hD.hb.trans (hB.mono hsz)⟩
  have HDA := Aside0.mk (HD1.out.below hB)
  have HWA : Aside0 ((w1.alloc (.cells (wArr (wantTo a1 l0 0)) 27)).heap[w1.heap.size]? = some (.cells (wArr (wantTo a1 l0 0)) 27 (0, 0))) := ⟨heap_alloc_new w1 _⟩
  clear hD hlt hsz hB HD1
  go_wp2
  go_loopw [7, 8, 17, 18, 19, 20, 21, 22, 23, 24, 25, 26, 27, 28, 29, 30, 31, 32, 33, 34, 35, 36, 37, 38, 39, 40, 41, 42, 43, 44, 45, 46, 47, 48, 49, 50] (fun x7 x8 x17 x18 x19 x20 x21 x22 x23 x24 x25 x26 x27 x28 x29 x30 x31 x32 x33 x34 x35 x36 x37 x38 x39 x40 x41 x42 x43 x44 x45 x46 x47 x48 x49 x50 wr => ∃ k : Nat, k ≤ l0.length ∧ x7 = .int .i64 k ∧ Aside0 (Dp 55 58 wr (fun k => w.heap.size ≤ k ∧ k ≠ g ∧ k ≠ w1.heap.size) g ⟨List.replicate 8 [], kw l0 k, false⟩) ∧ Aside0 (wr.heap[w1.heap.size]? = some (.cells (wArr (wantTo a1 l0 k)) 27 (0, 0))) ∧ Aside0 (Below w.heap.size w wr)) (fun x7 _ _ _ _ _ _ _ _ _ _ _ _ _ _ _ _ _ _ _ _ _ _ _ _ _ _ _ _ _ _ _ _ _ _ _  _ => l0.length - (intOf x7).toNat)
  case atStart => exact ⟨0, Nat.zero_le _, rfl, HDA, HWA, HBA⟩
  case round =>
    obtain ⟨k, hk, rfl, HDr, HWr, HBr⟩ := hrel
    by_cases hlt : k < l0.length
    · obtain ⟨ad, rfl, hc⟩ := Kd.at_int (Kd.C_below HR0.out HBr.out) (k : Int) (by omega) (by omega)
      rw [Int.toNat_natCast] at hc
      have hx : 0 ≤ rd l0 (k : Int) ∧ rd l0 (k : Int) < 256 := by
        have hm : rd l0 (k : Int) ∈ l0 := by
          unfold rd
          rw [Int.toNat_natCast, List.getD_eq_getElem?_getD, List.getElem?_eq_getElem hlt]
          exact List.getElem_mem hlt
        have h2 := HW0.out _ hm
        simp [Lit.wf] at h2
        have e1 : IntKind.u8.min = 0 := rfl
        have e2 : IntKind.u8.max = 255 := rfl
        rw [e1, e2] at h2
        omega
      obtain ⟨x, hxx⟩ : ∃ x, x = rd l0 (k : Int) := ⟨_, rfl⟩
      rw [← hxx] at hc hx
      have HXX := Aside0.mk hxx
      obtain ⟨hx0, hx1⟩ := hx
      clear hxx
      obtain ⟨j, hj⟩ : ∃ j : Nat, x % 8 = (j : Int) := ⟨(x % 8).toNat, by omega⟩
      have hj8 : j < 8 := by omega
      have hj8i : (j : Int) < 8 := by omega
      have hB : Below wr.heap.size wr (wr.alloc (.cells #[.int .u8 ((k : Int) + 1)] 5)) := (Below.refl _ _).alloc (Nat.le_refl _) _
      have hC : U8.C (wr.alloc (.cells #[.int .u8 ((k : Int) + 1)] 5)) (some ⟨wr.heap.size, 0, none⟩) 1 [(k : Int) + 1] := one_C _ _ _ _ (heap_alloc_new wr _)
      have HA : Aside0 _ := ⟨write_calls g ⟨List.replicate 8 [], kw l0 k, false⟩ (j : Int) [(k : Int) + 1] _ 1 1 _ _ _ (HDr.out.below hB) (Kd.C_F (Kd.heap_int _) hC) (fun k' hk' => by have h1 := HBr.out.size; have h2 := hB.size; have h3 := HG.out; have h4 := blk_lt HWr.out; exact ⟨by omega, by omega, by omega⟩) (by decide) (by show (kw l0 k).length < 1000000; rw [kw_len]; omega)⟩
      rw [keeps_writeE l0 k j (by omega) (by omega), keeps_write l0 k j (by omega) (by omega) (by rw [← HXX.out, hj])] at HA
      have HB := Aside0.mk hB
      have hs : wantTo a1 l0 (k + 1) = if bitK a1 k then (wantTo a1 l0 k).set j ((k : Int) + 1) else wantTo a1 l0 k := by
        show (if bitK a1 k then (wantTo a1 l0 k).set (rd l0 (k : Int) % 8).toNat ((k : Int) + 1) else wantTo a1 l0 k) = _
        rw [← HXX.out, hj, Int.toNat_natCast]
      have HS := Aside0.mk hs
      clear hB hC hs
      go_wp2_with fail
      refine HA.out.mono ?_
      rintro e w2 ⟨rfl, hD2, hK2⟩
      have HD2 := Aside0.mk hD2
      have hblk : w2.heap[w1.heap.size]? = some (.cells (wArr (wantTo a1 l0 k)) 27 (0, 0)) := (hK2.block _ (Nat.lt_of_lt_of_le (blk_lt HWr.out) HB.out.size) (fun h => h.2.2 rfl) (fun h => by have := HG.out; omega)).trans ((HB.out.block _ (blk_lt HWr.out)).trans HWr.out)
      have HBL := Aside0.mk hblk
      have hcw : w2.cell? ⟨w1.heap.size, j, none⟩ = some (.int .i64 ((wantTo a1 l0 k).getD j 0)) := (blk_cell hblk j).trans (wArr_at _ _ (by rw [wantTo_len]; exact hj8))
      have hfw : w2.frozen? ⟨w1.heap.size, j, none⟩ = false := blk_frozen hblk j
      have HBW : Aside0 (Below w.heap.size w w2) := ⟨hK2.under (HBr.out.trans (HB.out.mono HBr.out.size)) HG.out.1 (fun k' hk' => hk'.1)⟩
      clear hD2 hK2 hblk HA
      by_cases h64 : k < 64
      · have b1 : decide ((k : Int) < 64) = true := decide_eq_true (by omega)
        have b2 : decide (k < 64) = true := decide_eq_true h64
        have hbit : ((a1 / 2 ^ min k 64).tmod 2 == 1) = bitK a1 k := by rw [Nat.min_eq_left (by omega), Int.tmod_eq_emod_of_nonneg (shr_le a1 k ha0 ha1).1]; exact bit_rem a1 k h64
        cases hbk : bitK a1 k with
        | true =>
          rw [hbk] at hbit HS
          clear h64 hbk
          go_wp2
          go_roundw
          case rel =>
            have hp := blk_set HBL.out j (.int .i64 ((k : Int) + 1))
            rw [wArr_set] at hp
            refine ⟨k + 1, by omega, by go_num, ⟨HD2.out.step (fun k' hk' _ => Below.heap_setCell _ _ _ _ (fun e => hk'.2.2 e)) (Below.heap_setCell _ _ _ _ (fun e => by have e' : g = w1.heap.size := e; have := HG.out; omega))⟩, ⟨?_⟩, ⟨HBW.out.setCell (by have := HG.out; exact this.2.2) _⟩⟩
            rw [HS.out]
            (first | rw [if_pos rfl] | rw [if_pos trivial])
            exact hp
          case measure => simp [intOf]; omega
        | false =>
          rw [hbk] at hbit HS
          clear h64 hbk
          go_wp2
          go_roundw
          case rel => exact ⟨k + 1, by omega, by go_num, HD2, ⟨by rw [HS.out, if_neg (by decide)]; exact HBL.out⟩, HBW⟩
          case measure => simp [intOf]; omega
      · have b1 : decide ((k : Int) < 64) = false := decide_eq_false (by omega)
        have b2 : decide (k < 64) = false := decide_eq_false h64
        have hbk := bit_far a1 k h64
        rw [hbk] at HS
        clear h64 hbk
        go_wp2
        go_roundw
        case rel => exact ⟨k + 1, by omega, by go_num, HD2, ⟨by rw [HS.out, if_neg (by decide)]; exact HBL.out⟩, HBW⟩
        case measure => simp [intOf]; omega
    · obtain rfl : k = l0.length := by omega
      have hd : decide (l0.length < l0.length) = false := decide_eq_false (Nat.lt_irrefl _)
      have HC : Aside0 _ := ⟨loose_calls g _ _ wr HDr.out⟩
      have hkl : (kw l0 l0.length).length = l0.length := kw_len _ _
      simp only [hkl] at HC
      clear hk hlt hkl
      go_wp2_with fail
      refine HC.out.mono ?_
      rintro e w3 ⟨rfl, rfl⟩
      have HA : Aside0 _ := ⟨crash_calls g _ a1 _ w3 HDr.out (keeps_fit _ _).fits (fun k' hk' => by have h1 := HBr.out.size; have h3 := HG.out; have h4 := blk_lt HWr.out; exact ⟨by omega, by omega, by omega⟩) ha0 ha1⟩
      go_wp2_with fail
      refine HA.out.mono ?_
      rintro e w4 ⟨rfl, hD4, hK4⟩
      have hcr : Dr.crash ⟨List.replicate 8 [], kw l0 l0.length, false⟩ a1 = ⟨(wantTo a1 l0 l0.length).map enc, [], false⟩ := by
        show Dr.mk (crashTo a1 (List.replicate 8 []) (kw l0 l0.length) (kw l0 l0.length).length) [] false = _
        rw [kw_len, crash_want a1 l0 _ _ (Nat.le_refl _)]
      rw [hcr] at hD4
      have HF4 : Aside0 (Dr.Fit ⟨(wantTo a1 l0 l0.length).map enc, [], false⟩) := ⟨hcr ▸ fit_crash (keeps_fit _ _) a1⟩
      have HW4 : Aside0 (w4.heap[w1.heap.size]? = some (.cells (wArr (wantTo a1 l0 l0.length)) 27 (0, 0))) := ⟨(hK4.block _ (blk_lt HWr.out) (fun h => h.2.2 rfl) (fun h => by have := HG.out; omega)).trans HWr.out⟩
      have HB4 : Aside0 (Below w.heap.size w w4) := ⟨hK4.under HBr.out HG.out.1 (fun k' hk' => hk'.1)⟩
      have HD4 := Aside0.mk hD4
      obtain ⟨ws, hws⟩ : ∃ ws, ws = wantTo a1 l0 l0.length := ⟨_, rfl⟩
      have hw8 : ws.length = 8 := by rw [hws]; exact wantTo_len _ _ _
      have hwl : ∀ x, x ∈ ws → 0 ≤ x ∧ x ≤ 70 := fun x hx => by rw [hws] at hx; have := wantTo_le _ _ _ x hx; omega
      rw [← hws] at HD4 HF4 HW4
      have HWL := Aside0.mk hwl
      have HW8 := Aside0.mk hw8
      clear hD4 hK4 hcr hws hwl hw8 HA HC HDr HWr HBr hd
      go_wp2
      go_loopw [9, 10, 11, 59, 60, 61, 62, 63, 64, 65, 66, 67, 68, 69, 70, 71, 72, 73, 74, 75, 76, 77, 78, 79, 80, 81, 82, 83, 84, 85, 86, 87, 88, 89, 90, 91, 92, 93, 94, 95, 96, 97, 98, 99, 100, 101, 102] (fun x9 x10 x11 x59 x60 x61 x62 x63 x64 x65 x66 x67 x68 x69 x70 x71 x72 x73 x74 x75 x76 x77 x78 x79 x80 x81 x82 x83 x84 x85 x86 x87 x88 x89 x90 x91 x92 x93 x94 x95 x96 x97 x98 x99 x100 x101 x102 wr => ∃ k : Nat, k ≤ 8 ∧ x9 = .int .i64 k ∧ Aside0 (Dp 55 58 wr (fun k => w.heap.size ≤ k ∧ k ≠ g ∧ k ≠ w1.heap.size) g ⟨ws.map enc, [], false⟩) ∧ Aside0 (wr.heap[w1.heap.size]? = some (.cells (wArr ws) 27 (0, 0))) ∧ Aside0 (Below w.heap.size w wr)) (fun x9 _ _ _ _ _ _ _ _ _ _ _ _ _ _ _ _ _ _ _ _ _ _ _ _ _ _ _ _ _ _ _ _ _ _ _ _ _ _ _ _ _ _ _ _ _ _  _ => 8 - (intOf x9).toNat)
      case atStart => exact ⟨0, by decide, rfl, HD4, HW4, HB4⟩
      case round =>
        obtain ⟨k, hk, rfl, HDr, HWr, HBr⟩ := hrel
        by_cases hlt : k < 8
        · have b1 : decide ((k : Int) < 8) = true := decide_eq_true (by omega)
          have b2 : decide (k < 8) = true := decide_eq_true hlt
          have hml : (ws.map enc).length = 8 := by rw [List.length_map]; exact HW8.out
          have hck : Dr.check ⟨ws.map enc, [], false⟩ (k : Int) = 0 := by
            unfold Dr.check
            rw [if_neg (by simp), if_neg (by show ¬ ((k : Int) < 0 ∨ ((ws.map enc).length : Int) ≤ k); omega)]
          have hgt : Dr.get ⟨ws.map enc, [], false⟩ k = enc (ws.getD k 0) := by
            show (ws.map enc).getD k [] = _
            rw [List.getD_eq_getElem?_getD, List.getElem?_map, List.getD_eq_getElem?_getD, List.getElem?_eq_getElem (by have := HW8.out; omega)]; rfl
          have HA : Aside0 _ := ⟨read_ok g ⟨ws.map enc, [], false⟩ k _ wr HDr.out HF4.out hck (by show k < (ws.map enc).length; omega)⟩
          rw [hgt] at HA
          have hwk : 0 ≤ ws.getD k 0 ∧ ws.getD k 0 ≤ 70 := by
            have h8 := HW8.out
            rw [List.getD_eq_getElem?_getD, List.getElem?_eq_getElem (by omega)]
            exact HWL.out _ (List.getElem_mem _)
          have hwa := wArr_at ws k (by have := HW8.out; omega)
          obtain ⟨x, hx⟩ : ∃ x, x = ws.getD k 0 := ⟨_, rfl⟩
          rw [← hx] at HA hwk hwa
          have HWA2 := Aside0.mk hwa
          obtain ⟨hx0, hx1⟩ := hwk
          have hk8 : (k : Int) < 8 := by omega
          have hk0 : (0 : Int) ≤ (k : Int) := by omega
          clear hx hwa hgt hck hml hlt hk
          go_wp2_with fail
          refine HA.out.mono ?_
          rintro e w5 ⟨v5, rfl, ho5, hb5⟩
          have HD5 := Aside0.mk (HDr.out.below hb5)
          have hblk5 := blk_below HWr.out hb5
          have HW5 := Aside0.mk hblk5
          have hcw : w5.cell? ⟨w1.heap.size, k, none⟩ = some (.int .i64 x) := (blk_cell hblk5 k).trans HWA2.out
          have HB5 : Aside0 (Below w.heap.size w w5) := ⟨HBr.out.trans (hb5.mono HBr.out.size)⟩
          by_cases hz : x = 0
          · subst hz
            obtain ⟨A5, c5, rfl⟩ := Kd.R_slice ho5
            have he : enc 0 = [] := rfl
            rw [he]
            clear ho5 hb5 hblk5 HA he
            go_wp2_with fail
            go_quiet (fail)
            go_wp2
            go_roundw
            case rel => exact ⟨k + 1, by omega, by go_num, ⟨HD5.out.drewN _⟩, HW5, ⟨pw_below_drewN HB5.out _⟩⟩
            case measure => simp [intOf]; omega
          · have he : enc x = [x] := by unfold enc; rw [if_neg hz]
            rw [he] at ho5
            obtain ⟨gb, c5, e5, _⟩ := Kd.R_form ho5 (show 0 < [x].length from Nat.zero_lt_one)
            subst e5
            obtain ⟨ad5, e5, hcb⟩ := Kd.at_int (Kd.R_reads' ho5).2.2 0 (by decide) (show (0 : Int) < ((1 : Nat) : Int) by decide)
            injection e5 with e5
            subst e5
            have hcb2 : w5.cell? ⟨gb, 0, none⟩ = some (.int .u8 x) := (congrArg w5.cell? (add_plain gb 0)).symm.trans hcb
            have hn1 : [x].length = 1 := rfl
            have hwr : IntKind.u8.wrap x = x := by rw [IntKind.wrap_u8]; omega
            have hwr2 : x % 256 = x := by omega
            have hz1 : (x == 0) = false := by simpa using hz
            have hz2 : decide (0 < x) = true := decide_eq_true (by omega)
            clear ho5 hb5 hblk5 HA he hcb hz
            go_wp2_with fail
            go_quiet (fail)
            go_wp2
            go_roundw
            case rel => exact ⟨k + 1, by omega, by go_num, ⟨HD5.out.drewN _⟩, HW5, ⟨pw_below_drewN HB5.out _⟩⟩
            case measure => simp [intOf]; omega
        · obtain rfl : k = 8 := by omega
          clear hk hlt
          go_wp2_with fail
          refine (answers_calls wr).mono ?_
          rintro e w5 ⟨rfl, hb5⟩
          have HD5 := Aside0.mk (HDr.out.below hb5)
          have HB5 : Aside0 (Below w.heap.size w w5) := ⟨HBr.out.trans (hb5.mono HBr.out.size)⟩
          clear hb5
          go_wp2_with fail
          refine (loose_calls g _ _ w5 HD5.out).mono ?_
          rintro e w6 ⟨rfl, rfl⟩
          go_wp2
          go_ret
          exact ⟨rfl, HB5.out⟩

end Go.Proofs.Ytemmhjghlmhheaa.PDriveKeeps
