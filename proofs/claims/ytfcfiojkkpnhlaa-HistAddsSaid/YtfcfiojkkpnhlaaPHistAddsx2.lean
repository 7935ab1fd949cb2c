-- Written by myprint.py (this session's own driver of the kit's print, with contracts of its own handed in).
import Derived.Test.YtfcfiojkkpnhlaaPHistAddsx0
import Derived.Test.YtfcfiojkkpnhlaaPHistAddsx1
namespace Go.Proofs.Ytfcfiojkkpnhlaa.PHistAdds
open Go.RowKit Go.Proofs.YtfcfiojkkpnhlaaW.PrintWords Go.Proofs.YtfcfiojkkpnhlaaW.PrintLast Go.Proofs.YtfcfiojkkpnhlaaW.PrintMore
attribute [local go_sem] max2_int min2_int max_two min_two max_three min_three max_four min_four   -- for this text's walks alone
set_option linter.unusedVariables false
set_option linter.unusedSimpArgs false

/-! ### flittinglaw21_HistAdds: function 3, by hand -/
open Go.Proofs.Ytfcfiojkkpnhlaa.Hs Go.Proofs.Ytfcfiojkkpnhlaa.Op
theorem same_run (d : Nat) : ∀ (k i : Nat) (a : List Int), d + i = a.length → d < k → a.length < 1000000 → flittingref01_Same.l0 k a a (i : Int) = some true := by
  induction d with
  | zero =>
    intro k i a hd hk _
    obtain ⟨k, rfl⟩ : ∃ m, k = m + 1 := ⟨k - 1, by omega⟩
    simp only [flittingref01_Same.l0]
    rw [if_neg (by omega)]
  | succ d ih =>
    intro k i a hd hk hm
    obtain ⟨k, rfl⟩ : ∃ m, k = m + 1 := ⟨k - 1, by omega⟩
    simp only [flittingref01_Same.l0]
    rw [if_pos (by omega), if_pos (by omega), if_pos (by omega), show wrap64 ((i : Int) + 1) = ((i + 1 : Nat) : Int) from by unfold wrap64; omega]
    exact ih k (i + 1) a (by omega) (by omega) hm
theorem same_f (k : Nat) (a : List Int) (hk : a.length < k) (hm : a.length < 1000000) : flittingref01_Same.f k a a = some true := by
  unfold flittingref01_Same.f
  rw [if_pos rfl]
  exact same_run a.length k 0 a (by omega) hk hm
theorem cell_lt {w : World} {a : Addr} {v : Value} (h : w.cell? a = some v) : a.block < w.heap.size := by
  rcases Nat.lt_or_ge a.block w.heap.size with hl | hl
  · exact hl
  · simp [World.cell?, Array.getElem?_eq_none hl] at h
theorem set_rep (es : List Bool) (j : Nat) (hj : j < es.length) : (List.replicate j true ++ es.drop j).set j true = List.replicate (j + 1) true ++ es.drop (j + 1) := by
  apply List.ext_getElem?
  intro i
  simp only [List.getElem?_set, List.getElem?_append, List.getElem?_replicate, List.getElem?_drop, List.length_append, List.length_replicate, List.length_drop]
  by_cases h1 : i < j
  · rw [if_neg (by omega), if_pos h1, if_pos h1, if_pos (by omega), if_pos (by omega)]
  · by_cases h2 : i = j
    · subst h2
      rw [if_pos rfl, if_pos (by omega), if_pos (by omega), if_pos (by omega)]
    · rw [if_neg (by omega), if_neg h1, if_neg (by omega)]
      congr 1
      omega
theorem info4 : (Try.prog.info? 4).map (fun i => (i.zero, i.size, i.bytes)) = some (some (.bool false), 1, 1) := by kernel_rfl
abbrev PK : Kd ((Int × Int × ByteArray × List Int × Int) × (Int × Int × Bool × Int × List Int × List ByteArray)) := Kd.pair SK AK
def SG (x : Int × Int × ByteArray × List Int × Int) : Prop := (Lit.int .i64 x.1).wf = true ∧ (Lit.int .i64 x.2.1).wf = true ∧ x.2.2.1.size ≤ 140737488351232 ∧ Row 1 (fun n => (Lit.int .u8 n).wf = true) x.2.2.2.1 ∧ (Lit.int .u64 x.2.2.2.2).wf = true
def AG (x : Int × Int × Bool × Int × List Int × List ByteArray) : Prop := (Lit.int .i64 x.1).wf = true ∧ (Lit.int .i64 x.2.1).wf = true ∧ True ∧ (Lit.int .i64 x.2.2.2.1).wf = true ∧ Row 1 (fun n => (Lit.int .u8 n).wf = true) x.2.2.2.2.1 ∧ Row 16 (fun s : ByteArray => s.size ≤ 140737488351232) x.2.2.2.2.2
def zP : (Int × Int × ByteArray × List Int × Int) × (Int × Int × Bool × Int × List Int × List ByteArray) := ((0, 0, ⟨#[]⟩, [], 0), (0, 0, false, 0, [], []))
theorem pair_at {W : World} {A : Option Addr} {l : List ((Int × Int × ByteArray × List Int × Int) × (Int × Int × Bool × Int × List Int × List ByteArray))} (h : PK.C W A l.length l) (k : Nat) (hk : k < l.length) :
    ∃ (ad : Addr) (x : Stp) (a : Ans) (X0 D Ks0 : Option Addr) (xc dc kc : Nat), A = some ad ∧ x = toStp (l.getD k zP).1 ∧ a = toAns (l.getD k zP).2 ∧ x.data.length ≤ xc ∧ U8.C W X0 x.data.length x.data ∧ a.data.length ≤ dc ∧ U8.C W D a.data.length a.data ∧ a.keys.length ≤ kc ∧ Kd.string.C W Ks0 a.keys.length a.keys ∧
      W.cell? (ad.add (k * 11)) = some (.int .i64 x.kind) ∧ W.cell? (⟨(ad.add (k * 11)).block, (ad.add (k * 11)).off + 1, none⟩) = some (.int .i64 x.a) ∧ W.cell? (⟨(ad.add (k * 11)).block, (ad.add (k * 11)).off + 2, none⟩) = some (.string x.key) ∧ W.cell? (⟨(ad.add (k * 11)).block, (ad.add (k * 11)).off + 3, none⟩) = some (.slice X0 x.data.length xc) ∧ W.cell? (⟨(ad.add (k * 11)).block, (ad.add (k * 11)).off + 4, none⟩) = some (.int .u64 x.keep) ∧ W.cell? (⟨(ad.add (k * 11)).block, (ad.add (k * 11)).off + 5, none⟩) = some (.int .i64 a.e) ∧ W.cell? (⟨(ad.add (k * 11)).block, (ad.add (k * 11)).off + 6, none⟩) = some (.int .i64 a.task) ∧ W.cell? (⟨(ad.add (k * 11)).block, (ad.add (k * 11)).off + 7, none⟩) = some (.bool a.done) ∧ W.cell? (⟨(ad.add (k * 11)).block, (ad.add (k * 11)).off + 8, none⟩) = some (.int .i64 a.mark) ∧ W.cell? (⟨(ad.add (k * 11)).block, (ad.add (k * 11)).off + 9, none⟩) = some (.slice D a.data.length dc) ∧ W.cell? (⟨(ad.add (k * 11)).block, (ad.add (k * 11)).off + 10, none⟩) = some (.slice Ks0 a.keys.length kc) := by
  obtain ⟨ad, cs, rfl, hcl, hK, hc⟩ := Kd.C_get h zP (k : Int) (by omega) (by omega)
  rw [Int.toNat_natCast] at hK hc
  obtain ⟨c1, c2, rfl, h1, h2⟩ := hK
  obtain ⟨X0, xc, rfl, hx, hxC⟩ := stp_K h1
  obtain ⟨D, dc, Ks0, kc, rfl, hd, hdC, hk2, hkC⟩ := ans_K h2
  have f : ∀ j u, (ad.add (k * 11 + j)) = u → (ad.add (k * PK.sz + j)) = u := fun j u e => e
  refine ⟨ad, _, _, X0, D, Ks0, xc, dc, kc, rfl, rfl, rfl, hx, hxC, hd, hdC, hk2, hkC, hc 0 _ rfl, ?_, ?_, ?_, ?_, ?_, ?_, ?_, ?_, ?_, ?_⟩
  · have := hc 1 _ rfl
    rwa [f 1 _ (add_field _ _ _ (by decide))] at this
  · have := hc 2 _ rfl
    rwa [f 2 _ (add_field _ _ _ (by decide))] at this
  · have := hc 3 _ rfl
    rwa [f 3 _ (add_field _ _ _ (by decide))] at this
  · have := hc 4 _ rfl
    rwa [f 4 _ (add_field _ _ _ (by decide))] at this
  · have := hc 5 _ rfl
    rwa [f 5 _ (add_field _ _ _ (by decide))] at this
  · have := hc 6 _ rfl
    rwa [f 6 _ (add_field _ _ _ (by decide))] at this
  · have := hc 7 _ rfl
    rwa [f 7 _ (add_field _ _ _ (by decide))] at this
  · have := hc 8 _ rfl
    rwa [f 8 _ (add_field _ _ _ (by decide))] at this
  · have := hc 9 _ rfl
    rwa [f 9 _ (add_field _ _ _ (by decide))] at this
  · have := hc 10 _ rfl
    rwa [f 10 _ (add_field _ _ _ (by decide))] at this
def flittinglaw21_HistAdds.Pure : Prop := True
set_option maxHeartbeats 8000000 in
set_option maxRecDepth 100000 in
theorem flittinglaw21_HistAdds.walk (_P : flittinglaw21_HistAdds.Pure) (A : Option Addr) (c : Nat) (l : List ((Int × Int × ByteArray × List Int × Int) × (Int × Int × Bool × Int × List Int × List ByteArray))) (w : World) (hl : l.length ≤ c) (hC : PK.C w A l.length l) (hG : Row 144 (fun x : (Int × Int × ByteArray × List Int × Int) × (Int × Int × Bool × Int × List Int × List ByteArray) => SG x.1 ∧ AG x.2) l) :
    Calls Try.prog 3 #[.slice A l.length c] w fun e w' => e = .returned (.bool true) ∧ Below w.heap.size w w' := by
  have HC := Aside0.mk hC
  have HG := Aside0.mk hG
  clear _P hC hG
  by_cases g1 : 100 < l.length
  · have d1 : decide ((100 : Int) < (l.length : Int)) = true := decide_eq_true (by omega)
    have d2 : decide (100 < l.length) = true := decide_eq_true g1
    clear g1
    go_enter Try.func3, Try.ntmps3
    go_wp2_with fail
    refine (answers_calls _).mono ?_
    rintro e w' ⟨rfl, hb⟩
    have HB := Aside0.mk hb
    clear hb
    go_wp2
    go_ret
    exact ⟨rfl, HB.out⟩
  have d1 : decide ((100 : Int) < (l.length : Int)) = false := decide_eq_false (by omega)
  have d2 : decide (100 < l.length) = false := decide_eq_false g1
  have hl100 : l.length ≤ 100 := by omega
  clear g1 hl
  go_enter Try.func3, Try.ntmps3
  go_wp2_with fail
  refine (own_new w).mono ?_
  rintro e w1 ⟨g, mb, rfl, hO1⟩
  have O1 := Aside0.mk hO1
  have HM : Aside0 (Kd.bool.R 4 (w1.alloc (.cells #[] 4)) w.heap.size (fun _ => True) (.slice (some ⟨w1.heap.size, 0, none⟩) 0 0) []) :=
    ⟨⟨fun _ _ => trivial, [], World.ownsRow_made w1 #[] 0 O1.out.bl.size (Nat.zero_le _) rfl, Reps.none _ _⟩⟩
  have HT0 : Aside0 (Three w (w1.alloc (.cells #[] 4)) g mb (fun _ => False) h0 0 (.slice none 0 0) [] (.slice (some ⟨w1.heap.size, 0, none⟩) 0 0) []) := ⟨by
    have hb : Below w1.heap.size w1 (w1.alloc (.cells #[] 4)) := (Below.refl _ _).alloc (Nat.le_refl _) _
    have hz : (w1.alloc (.cells #[] 4)).heap.size = w1.heap.size + 1 := by simp
    have hgm := O1.out.hp.lt
    refine ⟨_, O1.out.window hb, nt_nil _ _, HM.out, fun k hk => ?_, fun k e => (by cases e), fun k e => e.elim⟩
    rcases hk with hk | hk | hk
    · cases hk
    · injection hk with hk
      have hk' : w1.heap.size = k := hk
      refine ⟨by omega, fun e => ?_, by omega, by omega⟩
      have := e.2
      omega
    · exact hk.elim⟩
  clear hO1
  go_wp2
  go_loopw [4, 5, 6, 7, 8, 9, 10, 11, 18, 19, 20, 21, 22, 23, 24, 25, 26, 27, 28, 29, 30, 31, 32, 33, 34, 35, 36, 37, 38, 39, 40, 41, 42, 43, 44, 45, 46, 47, 48, 49, 50, 51, 52, 53, 54, 55, 56, 57, 58, 59, 60, 61, 62, 63, 64, 65, 66, 67, 68, 69, 70, 71, 72, 73, 74, 75, 76, 77, 78, 79, 80, 81, 82, 83, 84, 85, 86, 87, 88, 89, 90, 91, 92, 93, 94, 95, 96, 97, 98, 99, 100, 101, 102, 103, 104, 105, 106, 107, 108, 109, 110, 111, 112, 113, 114, 115, 116, 117, 118, 119, 120, 121, 122, 123, 124, 125, 126, 127, 128, 129, 130, 131, 132, 133, 134, 135, 136, 137, 138, 139, 140, 141, 142, 143, 144, 145, 146, 147, 148, 149, 150, 151, 152, 153, 154, 155, 156, 157, 158, 159, 160, 161, 162, 163, 164, 165, 166, 167] (fun x4 x5 x6 x7 x8 x9 x10 x11 x18 x19 x20 x21 x22 x23 x24 x25 x26 x27 x28 x29 x30 x31 x32 x33 x34 x35 x36 x37 x38 x39 x40 x41 x42 x43 x44 x45 x46 x47 x48 x49 x50 x51 x52 x53 x54 x55 x56 x57 x58 x59 x60 x61 x62 x63 x64 x65 x66 x67 x68 x69 x70 x71 x72 x73 x74 x75 x76 x77 x78 x79 x80 x81 x82 x83 x84 x85 x86 x87 x88 x89 x90 x91 x92 x93 x94 x95 x96 x97 x98 x99 x100 x101 x102 x103 x104 x105 x106 x107 x108 x109 x110 x111 x112 x113 x114 x115 x116 x117 x118 x119 x120 x121 x122 x123 x124 x125 x126 x127 x128 x129 x130 x131 x132 x133 x134 x135 x136 x137 x138 x139 x140 x141 x142 x143 x144 x145 x146 x147 x148 x149 x150 x151 x152 x153 x154 x155 x156 x157 x158 x159 x160 x161 x162 x163 x164 x165 x166 x167 wr => ∃ (k : Nat) (h : Hst) (ws : List Cl) (es : List Bool), k ≤ l.length ∧ x6 = .int .i64 k ∧ Aside0 (Three w wr g mb (fun _ => False) h k x4 ws x5 es) ∧ Aside0 (Jn h ws es k)) (fun _ _ x6 _ _ _ _ _ _ _ _ _ _ _ _ _ _ _ _ _ _ _ _ _ _ _ _ _ _ _ _ _ _ _ _ _ _ _ _ _ _ _ _ _ _ _ _ _ _ _ _ _ _ _ _ _ _ _ _ _ _ _ _ _ _ _ _ _ _ _ _ _ _ _ _ _ _ _ _ _ _ _ _ _ _ _ _ _ _ _ _ _ _ _ _ _ _ _ _ _ _ _ _ _ _ _ _ _ _ _ _ _ _ _ _ _ _ _ _ _ _ _ _ _ _ _ _ _ _ _ _ _ _ _ _ _ _ _ _ _ _ _ _ _ _ _ _ _ _ _ _ _ _ _ _ _ _ _ _ => l.length - (intOf x6).toNat)
  case atStart => exact ⟨0, _, _, _, Nat.zero_le _, rfl, HT0, ⟨jn0⟩⟩
  case round =>
    obtain ⟨k, h, ws, es, hk, rfl, HT, HJ⟩ := hrel
    by_cases hlt : k < l.length
    · obtain ⟨ad, x, a, X0, D, Ks0, xc, dc, kc, rfl, hxe, hae, hx1, hxC, hd1, hdC, hk1, hkC, q0, q1, q2, q3, q4, q5, q6, q7, q8, q9, q10⟩ := pair_at HC.out k hlt
      have hmem : l.getD k zP ∈ l := by
        rw [List.getD_eq_getElem?_getD, List.getElem?_eq_getElem hlt]
        exact List.getElem_mem hlt
      have HXA : Aside0 ((Lit.int .i64 x.a).wf = true ∧ (Lit.int .i64 a.task).wf = true) := ⟨by rw [hxe, hae]; exact ⟨(HG.out.all _ hmem).1.2.1, (HG.out.all _ hmem).2.2.1⟩⟩
      have HVX : Aside0 (Vb w (fun k => k < w.heap.size) (.slice X0 x.data.length xc) x.data ∧ Vb w (fun k => k < w.heap.size) (.slice D a.data.length dc) a.data ∧ Vs w (fun k => k < w.heap.size) (.slice Ks0 a.keys.length kc) a.keys) :=
        ⟨⟨X0, xc, rfl, hx1, Kd.C_F (Kd.heap_int _) hxC⟩, ⟨D, dc, rfl, hd1, Kd.C_F (Kd.heap_int _) hdC⟩, ⟨Ks0, kc, rfl, hk1, Kd.C_F Kd.heap_string hkC⟩⟩
      have HAD : Aside0 ((ad.add (k * 11)).block < wr.heap.size) := ⟨Nat.lt_of_lt_of_le (cell_lt q0) HT.out.bl.size⟩
      clear hmem hxe hae hx1 hxC hd1 hdC hk1 hkC
      replace q0 := pw_cell_below HT.out.bl q0
      replace q1 := pw_cell_below HT.out.bl q1
      replace q2 := pw_cell_below HT.out.bl q2
      replace q3 := pw_cell_below HT.out.bl q3
      replace q4 := pw_cell_below HT.out.bl q4
      replace q5 := pw_cell_below HT.out.bl q5
      replace q6 := pw_cell_below HT.out.bl q6
      replace q7 := pw_cell_below HT.out.bl q7
      replace q8 := pw_cell_below HT.out.bl q8
      replace q9 := pw_cell_below HT.out.bl q9
      replace q10 := pw_cell_below HT.out.bl q10
      go_upto_region 9 with fail
      refine start_ (n := 14) (S := fun w' => w'.cell? (ad.add (k * 11)) = some (.int .i64 x.kind) ∧ w'.cell? (⟨(ad.add (k * 11)).block, (ad.add (k * 11)).off + 1, none⟩) = some (.int .i64 x.a) ∧ w'.cell? (⟨(ad.add (k * 11)).block, (ad.add (k * 11)).off + 2, none⟩) = some (.string x.key) ∧ w'.cell? (⟨(ad.add (k * 11)).block, (ad.add (k * 11)).off + 3, none⟩) = some (.slice X0 x.data.length xc) ∧ w'.cell? (⟨(ad.add (k * 11)).block, (ad.add (k * 11)).off + 4, none⟩) = some (.int .u64 x.keep) ∧ w'.cell? (⟨(ad.add (k * 11)).block, (ad.add (k * 11)).off + 5, none⟩) = some (.int .i64 a.e) ∧ w'.cell? (⟨(ad.add (k * 11)).block, (ad.add (k * 11)).off + 6, none⟩) = some (.int .i64 a.task) ∧ w'.cell? (⟨(ad.add (k * 11)).block, (ad.add (k * 11)).off + 7, none⟩) = some (.bool a.done) ∧ w'.cell? (⟨(ad.add (k * 11)).block, (ad.add (k * 11)).off + 8, none⟩) = some (.int .i64 a.mark) ∧ w'.cell? (⟨(ad.add (k * 11)).block, (ad.add (k * 11)).off + 9, none⟩) = some (.slice D a.data.length dc) ∧ w'.cell? (⟨(ad.add (k * 11)).block, (ad.add (k * 11)).off + 10, none⟩) = some (.slice Ks0 a.keys.length kc)) (ds := [13]) #[false, false, false, false, false, false, false, false, false, false, false, false, false, false] (by kernel_rfl) rfl rfl ⟨q0, q1, q2, q3, q4, q5, q6, q7, q8, q9, q10⟩ (fun hHeld => ?_)
      refine pure_ (i := 0) (N := some 24) (v := ?_) (a' := ?_) #[true, false, false, false, false, false, false, false, false, false, false, false, false, false] rfl rfl (by kernel_rfl) (fun _ _ _ h => h) (Or.inl ⟨by rfl, ?_⟩) ?_ ?_
      rotate_left
      · intro w'
        go_simp
        with_reducible rfl
      rotate_left
      · simp only [Act.put, List.setIfInBounds_toArray, List.set_cons_zero, List.set_cons_succ, i64_w, i32_w]
        rfl
      refine pure_ (i := 1) (N := some 25) (v := ?_) (a' := ?_) #[true, true, false, false, false, false, false, false, false, false, false, false, false, false] rfl rfl (by kernel_rfl) (fun _ _ _ h => h) (Or.inl ⟨by rfl, ?_⟩) ?_ ?_
      rotate_left
      · intro w'
        go_simp
        with_reducible rfl
      rotate_left
      · simp only [Act.put, List.setIfInBounds_toArray, List.set_cons_zero, List.set_cons_succ, i64_w, i32_w]
        rfl
      refine pure_ (i := 2) (N := some 26) (v := ?_) (a' := ?_) #[true, true, true, false, false, false, false, false, false, false, false, false, false, false] rfl rfl (by kernel_rfl) (fun _ _ _ h => h) (Or.inl ⟨by rfl, ?_⟩) ?_ ?_
      rotate_left
      · intro w'
        go_simp
        with_reducible rfl
      rotate_left
      · simp only [Act.put, List.setIfInBounds_toArray, List.set_cons_zero, List.set_cons_succ, i64_w, i32_w]
        rfl
      refine pure_ (i := 3) (N := some 27) (v := ?_) (a' := ?_) #[true, true, true, true, false, false, false, false, false, false, false, false, false, false] rfl rfl (by kernel_rfl) (fun _ _ _ h => h) (Or.inl ⟨by rfl, ?_⟩) ?_ ?_
      rotate_left
      · intro w'
        go_simp
        with_reducible rfl
      rotate_left
      · simp only [Act.put, List.setIfInBounds_toArray, List.set_cons_zero, List.set_cons_succ, i64_w, i32_w]
        rfl
      refine pure_ (i := 5) (N := some 29) (v := ?_) (a' := ?_) #[true, true, true, true, false, true, false, false, false, false, false, false, false, false] rfl rfl (by kernel_rfl) (fun _ _ _ h => h) (Or.inl ⟨by rfl, ?_⟩) ?_ ?_
      rotate_left
      · intro w'
        go_simp
        with_reducible rfl
      rotate_left
      · simp only [Act.put, List.setIfInBounds_toArray, List.set_cons_zero, List.set_cons_succ, i64_w, i32_w]
        rfl
      refine pure_ (i := 6) (N := some 30) (v := ?_) (a' := ?_) #[true, true, true, true, false, true, true, false, false, false, false, false, false, false] rfl rfl (by kernel_rfl) (fun _ _ _ h => h) (Or.inl ⟨by rfl, ?_⟩) ?_ ?_
      rotate_left
      · intro w'
        go_simp
        with_reducible rfl
      rotate_left
      · simp only [Act.put, List.setIfInBounds_toArray, List.set_cons_zero, List.set_cons_succ, i64_w, i32_w]
        rfl
      refine pure_ (i := 7) (N := some 31) (v := ?_) (a' := ?_) #[true, true, true, true, false, true, true, true, false, false, false, false, false, false] rfl rfl (by kernel_rfl) (fun _ _ _ h => h) (Or.inl ⟨by rfl, ?_⟩) ?_ ?_
      rotate_left
      · intro w'
        go_simp
        with_reducible rfl
      rotate_left
      · simp only [Act.put, List.setIfInBounds_toArray, List.set_cons_zero, List.set_cons_succ, i64_w, i32_w]
        rfl
      refine pure_ (i := 8) (N := some 32) (v := ?_) (a' := ?_) #[true, true, true, true, false, true, true, true, true, false, false, false, false, false] rfl rfl (by kernel_rfl) (fun _ _ _ h => h) (Or.inl ⟨by rfl, ?_⟩) ?_ ?_
      rotate_left
      · intro w'
        go_simp
        with_reducible rfl
      rotate_left
      · simp only [Act.put, List.setIfInBounds_toArray, List.set_cons_zero, List.set_cons_succ, i64_w, i32_w]
        rfl
      refine take_ (i := 4) (N := some 28) (v := ?_) (a' := ?_) #[true, true, true, true, true, true, true, true, true, false, false, false, false, false] rfl rfl (by kernel_rfl) (fun _ _ _ h => h) (Or.inl ⟨by rfl, ?_⟩) hHeld ?_ ?_
      rotate_left
      · rintro w' ⟨s0, s1, s2, s3, s4, s5, s6, s7, s8, s9, s10⟩
        go_simp
        with_reducible rfl
      rotate_left
      · simp only [Act.put, List.setIfInBounds_toArray, List.set_cons_zero, List.set_cons_succ, i64_w, i32_w]
        rfl
      refine take_ (i := 9) (N := some 33) (v := ?_) (a' := ?_) #[true, true, true, true, true, true, true, true, true, true, false, false, false, false] rfl rfl (by kernel_rfl) (fun _ _ _ h => h) (Or.inl ⟨by rfl, ?_⟩) hHeld ?_ ?_
      rotate_left
      · rintro w' ⟨s0, s1, s2, s3, s4, s5, s6, s7, s8, s9, s10⟩
        go_simp
        with_reducible rfl
      rotate_left
      · simp only [Act.put, List.setIfInBounds_toArray, List.set_cons_zero, List.set_cons_succ, i64_w, i32_w]
        rfl
      refine join_ (σ := Nat × Nat) 2 #[true, true, true, true, true, true, true, true, true, true, true, true, false, false] (fun s_ => [(7, .pointer (some ⟨s_.1, 0, none⟩)), (8, .pointer (some ⟨s_.2, 0, none⟩))]) (fun s_ w' => (w'.cell? (ad.add (k * 11)) = some (.int .i64 x.kind) ∧ w'.cell? (⟨(ad.add (k * 11)).block, (ad.add (k * 11)).off + 1, none⟩) = some (.int .i64 x.a) ∧ w'.cell? (⟨(ad.add (k * 11)).block, (ad.add (k * 11)).off + 2, none⟩) = some (.string x.key) ∧ w'.cell? (⟨(ad.add (k * 11)).block, (ad.add (k * 11)).off + 3, none⟩) = some (.slice X0 x.data.length xc) ∧ w'.cell? (⟨(ad.add (k * 11)).block, (ad.add (k * 11)).off + 4, none⟩) = some (.int .u64 x.keep) ∧ w'.cell? (⟨(ad.add (k * 11)).block, (ad.add (k * 11)).off + 5, none⟩) = some (.int .i64 a.e) ∧ w'.cell? (⟨(ad.add (k * 11)).block, (ad.add (k * 11)).off + 6, none⟩) = some (.int .i64 a.task) ∧ w'.cell? (⟨(ad.add (k * 11)).block, (ad.add (k * 11)).off + 7, none⟩) = some (.bool a.done) ∧ w'.cell? (⟨(ad.add (k * 11)).block, (ad.add (k * 11)).off + 8, none⟩) = some (.int .i64 a.mark) ∧ w'.cell? (⟨(ad.add (k * 11)).block, (ad.add (k * 11)).off + 9, none⟩) = some (.slice D a.data.length dc) ∧ w'.cell? (⟨(ad.add (k * 11)).block, (ad.add (k * 11)).off + 10, none⟩) = some (.slice Ks0 a.keys.length kc)) ∧ s_.1 ≠ s_.2 ∧ w'.heap[s_.1]? = some (.cells #[.int .i64 0, .int .i64 0, .string ⟨#[]⟩, .slice none 0 0, .int .u64 0] 31) ∧ w'.heap[s_.2]? = some (.cells #[.int .i64 0, .int .i64 0, .bool false, .int .i64 0, .slice none 0 0, .slice none 0 0] 35) ∧ Below wr.heap.size wr w' ∧ wr.heap.size ≤ s_.1 ∧ wr.heap.size ≤ s_.2 ∧ s_.1 < w'.heap.size ∧ s_.2 < w'.heap.size) ?_ ?_
      rotate_left
      · intro hCont
        refine two_ (i := 10) (j := 11) (Ni := some 7) (Nj := some 8) #[true, true, true, true, true, true, true, true, true, true, true, false, false, false] #[true, true, true, true, true, true, true, true, true, true, false, true, false, false] rfl rfl rfl rfl (by kernel_rfl) (by decide) (by decide) (fun K hK => ?_) (fun K hK => ?_)
        · skip
          refine value_ (w1 := ?_) (v := ?_) (by rfl) rfl ?_ ?_
          rotate_left 2
          · go_simp
            constructor
            · rfl
            · rfl
          refine hK.out _ _ ⟨(pw_cell_below ((Below.refl _ _).alloc (Nat.le_refl _) _) hHeld.1), (pw_cell_below ((Below.refl _ _).alloc (Nat.le_refl _) _) hHeld.2.1), (pw_cell_below ((Below.refl _ _).alloc (Nat.le_refl _) _) hHeld.2.2.1), (pw_cell_below ((Below.refl _ _).alloc (Nat.le_refl _) _) hHeld.2.2.2.1), (pw_cell_below ((Below.refl _ _).alloc (Nat.le_refl _) _) hHeld.2.2.2.2.1), (pw_cell_below ((Below.refl _ _).alloc (Nat.le_refl _) _) hHeld.2.2.2.2.2.1), (pw_cell_below ((Below.refl _ _).alloc (Nat.le_refl _) _) hHeld.2.2.2.2.2.2.1), (pw_cell_below ((Below.refl _ _).alloc (Nat.le_refl _) _) hHeld.2.2.2.2.2.2.2.1), (pw_cell_below ((Below.refl _ _).alloc (Nat.le_refl _) _) hHeld.2.2.2.2.2.2.2.2.1), (pw_cell_below ((Below.refl _ _).alloc (Nat.le_refl _) _) hHeld.2.2.2.2.2.2.2.2.2.1), (pw_cell_below ((Below.refl _ _).alloc (Nat.le_refl _) _) hHeld.2.2.2.2.2.2.2.2.2.2)⟩ (fun hHeld => ?_)
          clear hK K
          refine norm_ (a' := ?_) ?_ ?_
          rotate_left
          · show Act.put _ (some 7) _ = _
            simp only [Act.put, List.setIfInBounds_toArray, List.set_cons_zero, List.set_cons_succ, i64_w, i32_w]
            rfl
          refine one_ (i := 11) (N := some 8) #[true, true, true, true, true, true, true, true, true, true, true, true, false, false] rfl rfl (by kernel_rfl) (by decide) (fun K hK => ?_)
          refine value_ (w1 := ?_) (v := ?_) (by rfl) rfl ?_ ?_
          rotate_left 2
          · go_simp
            constructor
            · rfl
            · rfl
          refine hK.out _ _ ⟨(pw_cell_below ((Below.refl _ _).alloc (Nat.le_refl _) _) hHeld.1), (pw_cell_below ((Below.refl _ _).alloc (Nat.le_refl _) _) hHeld.2.1), (pw_cell_below ((Below.refl _ _).alloc (Nat.le_refl _) _) hHeld.2.2.1), (pw_cell_below ((Below.refl _ _).alloc (Nat.le_refl _) _) hHeld.2.2.2.1), (pw_cell_below ((Below.refl _ _).alloc (Nat.le_refl _) _) hHeld.2.2.2.2.1), (pw_cell_below ((Below.refl _ _).alloc (Nat.le_refl _) _) hHeld.2.2.2.2.2.1), (pw_cell_below ((Below.refl _ _).alloc (Nat.le_refl _) _) hHeld.2.2.2.2.2.2.1), (pw_cell_below ((Below.refl _ _).alloc (Nat.le_refl _) _) hHeld.2.2.2.2.2.2.2.1), (pw_cell_below ((Below.refl _ _).alloc (Nat.le_refl _) _) hHeld.2.2.2.2.2.2.2.2.1), (pw_cell_below ((Below.refl _ _).alloc (Nat.le_refl _) _) hHeld.2.2.2.2.2.2.2.2.2.1), (pw_cell_below ((Below.refl _ _).alloc (Nat.le_refl _) _) hHeld.2.2.2.2.2.2.2.2.2.2)⟩ (fun hHeld => ?_)
          clear hK K
          refine norm_ (a' := ?_) ?_ ?_
          rotate_left
          · show Act.put _ (some 8) _ = _
            simp only [Act.put, List.setIfInBounds_toArray, List.set_cons_zero, List.set_cons_succ, i64_w, i32_w]
            rfl
          exact norm_ (by simp only [putAll, Act.put, List.setIfInBounds_toArray, List.set_cons_zero, List.set_cons_succ]) (hCont (wr.heap.size, wr.heap.size + 1) _ ⟨hHeld, (two_new wr (.cells #[.int .i64 0, .int .i64 0, .string ⟨#[]⟩, .slice none 0 0, .int .u64 0] 31) (.cells #[.int .i64 0, .int .i64 0, .bool false, .int .i64 0, .slice none 0 0, .slice none 0 0] 35)).1, (two_new wr (.cells #[.int .i64 0, .int .i64 0, .string ⟨#[]⟩, .slice none 0 0, .int .u64 0] 31) (.cells #[.int .i64 0, .int .i64 0, .bool false, .int .i64 0, .slice none 0 0, .slice none 0 0] 35)).2.1, (two_new wr (.cells #[.int .i64 0, .int .i64 0, .string ⟨#[]⟩, .slice none 0 0, .int .u64 0] 31) (.cells #[.int .i64 0, .int .i64 0, .bool false, .int .i64 0, .slice none 0 0, .slice none 0 0] 35)).2.2.1, (two_new wr (.cells #[.int .i64 0, .int .i64 0, .string ⟨#[]⟩, .slice none 0 0, .int .u64 0] 31) (.cells #[.int .i64 0, .int .i64 0, .bool false, .int .i64 0, .slice none 0 0, .slice none 0 0] 35)).2.2.2.1, Nat.le_refl _, Nat.le_succ _, (two_new wr (.cells #[.int .i64 0, .int .i64 0, .string ⟨#[]⟩, .slice none 0 0, .int .u64 0] 31) (.cells #[.int .i64 0, .int .i64 0, .bool false, .int .i64 0, .slice none 0 0, .slice none 0 0] 35)).2.2.2.2.1, (two_new wr (.cells #[.int .i64 0, .int .i64 0, .string ⟨#[]⟩, .slice none 0 0, .int .u64 0] 31) (.cells #[.int .i64 0, .int .i64 0, .bool false, .int .i64 0, .slice none 0 0, .slice none 0 0] 35)).2.2.2.2.2⟩)
        · skip
          refine value_ (w1 := ?_) (v := ?_) (by rfl) rfl ?_ ?_
          rotate_left 2
          · go_simp
            constructor
            · rfl
            · rfl
          refine hK.out _ _ ⟨(pw_cell_below ((Below.refl _ _).alloc (Nat.le_refl _) _) hHeld.1), (pw_cell_below ((Below.refl _ _).alloc (Nat.le_refl _) _) hHeld.2.1), (pw_cell_below ((Below.refl _ _).alloc (Nat.le_refl _) _) hHeld.2.2.1), (pw_cell_below ((Below.refl _ _).alloc (Nat.le_refl _) _) hHeld.2.2.2.1), (pw_cell_below ((Below.refl _ _).alloc (Nat.le_refl _) _) hHeld.2.2.2.2.1), (pw_cell_below ((Below.refl _ _).alloc (Nat.le_refl _) _) hHeld.2.2.2.2.2.1), (pw_cell_below ((Below.refl _ _).alloc (Nat.le_refl _) _) hHeld.2.2.2.2.2.2.1), (pw_cell_below ((Below.refl _ _).alloc (Nat.le_refl _) _) hHeld.2.2.2.2.2.2.2.1), (pw_cell_below ((Below.refl _ _).alloc (Nat.le_refl _) _) hHeld.2.2.2.2.2.2.2.2.1), (pw_cell_below ((Below.refl _ _).alloc (Nat.le_refl _) _) hHeld.2.2.2.2.2.2.2.2.2.1), (pw_cell_below ((Below.refl _ _).alloc (Nat.le_refl _) _) hHeld.2.2.2.2.2.2.2.2.2.2)⟩ (fun hHeld => ?_)
          clear hK K
          refine norm_ (a' := ?_) ?_ ?_
          rotate_left
          · show Act.put _ (some 8) _ = _
            simp only [Act.put, List.setIfInBounds_toArray, List.set_cons_zero, List.set_cons_succ, i64_w, i32_w]
            rfl
          refine one_ (i := 10) (N := some 7) #[true, true, true, true, true, true, true, true, true, true, true, true, false, false] rfl rfl (by kernel_rfl) (by decide) (fun K hK => ?_)
          refine value_ (w1 := ?_) (v := ?_) (by rfl) rfl ?_ ?_
          rotate_left 2
          · go_simp
            constructor
            · rfl
            · rfl
          refine hK.out _ _ ⟨(pw_cell_below ((Below.refl _ _).alloc (Nat.le_refl _) _) hHeld.1), (pw_cell_below ((Below.refl _ _).alloc (Nat.le_refl _) _) hHeld.2.1), (pw_cell_below ((Below.refl _ _).alloc (Nat.le_refl _) _) hHeld.2.2.1), (pw_cell_below ((Below.refl _ _).alloc (Nat.le_refl _) _) hHeld.2.2.2.1), (pw_cell_below ((Below.refl _ _).alloc (Nat.le_refl _) _) hHeld.2.2.2.2.1), (pw_cell_below ((Below.refl _ _).alloc (Nat.le_refl _) _) hHeld.2.2.2.2.2.1), (pw_cell_below ((Below.refl _ _).alloc (Nat.le_refl _) _) hHeld.2.2.2.2.2.2.1), (pw_cell_below ((Below.refl _ _).alloc (Nat.le_refl _) _) hHeld.2.2.2.2.2.2.2.1), (pw_cell_below ((Below.refl _ _).alloc (Nat.le_refl _) _) hHeld.2.2.2.2.2.2.2.2.1), (pw_cell_below ((Below.refl _ _).alloc (Nat.le_refl _) _) hHeld.2.2.2.2.2.2.2.2.2.1), (pw_cell_below ((Below.refl _ _).alloc (Nat.le_refl _) _) hHeld.2.2.2.2.2.2.2.2.2.2)⟩ (fun hHeld => ?_)
          clear hK K
          refine norm_ (a' := ?_) ?_ ?_
          rotate_left
          · show Act.put _ (some 7) _ = _
            simp only [Act.put, List.setIfInBounds_toArray, List.set_cons_zero, List.set_cons_succ, i64_w, i32_w]
            rfl
          exact norm_ (by simp only [putAll, Act.put, List.setIfInBounds_toArray, List.set_cons_zero, List.set_cons_succ]) (hCont (wr.heap.size + 1, wr.heap.size) _ ⟨hHeld, Ne.symm (two_new wr (.cells #[.int .i64 0, .int .i64 0, .bool false, .int .i64 0, .slice none 0 0, .slice none 0 0] 35) (.cells #[.int .i64 0, .int .i64 0, .string ⟨#[]⟩, .slice none 0 0, .int .u64 0] 31)).1, (two_new wr (.cells #[.int .i64 0, .int .i64 0, .bool false, .int .i64 0, .slice none 0 0, .slice none 0 0] 35) (.cells #[.int .i64 0, .int .i64 0, .string ⟨#[]⟩, .slice none 0 0, .int .u64 0] 31)).2.2.1, (two_new wr (.cells #[.int .i64 0, .int .i64 0, .bool false, .int .i64 0, .slice none 0 0, .slice none 0 0] 35) (.cells #[.int .i64 0, .int .i64 0, .string ⟨#[]⟩, .slice none 0 0, .int .u64 0] 31)).2.1, (two_new wr (.cells #[.int .i64 0, .int .i64 0, .bool false, .int .i64 0, .slice none 0 0, .slice none 0 0] 35) (.cells #[.int .i64 0, .int .i64 0, .string ⟨#[]⟩, .slice none 0 0, .int .u64 0] 31)).2.2.2.1, Nat.le_succ _, Nat.le_refl _, (two_new wr (.cells #[.int .i64 0, .int .i64 0, .bool false, .int .i64 0, .slice none 0 0, .slice none 0 0] 35) (.cells #[.int .i64 0, .int .i64 0, .string ⟨#[]⟩, .slice none 0 0, .int .u64 0] 31)).2.2.2.2.2, (two_new wr (.cells #[.int .i64 0, .int .i64 0, .bool false, .int .i64 0, .slice none 0 0, .slice none 0 0] 35) (.cells #[.int .i64 0, .int .i64 0, .string ⟨#[]⟩, .slice none 0 0, .int .u64 0] 31)).2.2.2.2.1⟩)
      rintro ⟨p, q⟩ w1 ⟨hS1, hpq, hbp, hbq, hbw, hp0, hq0, hp1, hq1⟩
      have hHeld := hS1
      simp only at hpq hbp hbq hp0 hq0 hp1 hq1
      have zp0 : w1.cell? ⟨p, 0, none⟩ = some _ := (blk_cell hbp 0).trans rfl
      have zp1 : w1.cell? ⟨p, 1, none⟩ = some _ := (blk_cell hbp 1).trans rfl
      have zp2 : w1.cell? ⟨p, 2, none⟩ = some _ := (blk_cell hbp 2).trans rfl
      have zp3 : w1.cell? ⟨p, 3, none⟩ = some _ := (blk_cell hbp 3).trans rfl
      have zp4 : w1.cell? ⟨p, 4, none⟩ = some _ := (blk_cell hbp 4).trans rfl
      have fp : ∀ j, w1.frozen? ⟨p, j, none⟩ = false := fun j => blk_frozen hbp j
      have HBQ := Aside0.mk hbq
      have HBP := Aside0.mk hbp
      have HBW1 := Aside0.mk hbw
      have HPQ := Aside0.mk hpq
      have HP0 := Aside0.mk hp0
      have HQ0 := Aside0.mk hq0
      have HP1 := Aside0.mk hp1
      have HQ1 := Aside0.mk hq1
      have hap : (ad.add (k * 11)).block ≠ p := fun e => by have := HAD.out; have := HP0.out; omega
      have HAP := Aside0.mk hap
      clear hbq hbp hbw hpq hp0 hq0 hp1 hq1 hap
      refine norm_ (a' := ?_) ?_ ?_
      rotate_left
      · simp only [putAll, Act.put, List.setIfInBounds_toArray, List.set_cons_zero, List.set_cons_succ]
        rfl
      refine one_ (i := 12) (N := none) #[true, true, true, true, true, true, true, true, true, true, true, true, true, false] rfl rfl (by kernel_rfl) (by decide) (fun K hK => ?_)
      refine skip_ (w1 := ?_) (by rfl) rfl ?_ ?_
      rotate_left
      · go_simp
        rfl
      obtain ⟨w2, hhw2, hbw2, hmw2, hlw2⟩ := fill_all w1 p [.int .i64 0, .int .i64 0, .string ⟨#[]⟩, .slice none 0 0, .int .u64 0] [.int .i64 x.kind, .int .i64 x.a, .string x.key, .slice X0 x.data.length xc, .int .u64 x.keep] 31 HBP.out rfl
      have hcw2 : (((((w1.setCell ⟨p, 0, none⟩ (.int .i64 x.kind)).setCell ⟨p, 1, none⟩ (.int .i64 x.a)).setCell ⟨p, 2, none⟩ (.string x.key)).setCell ⟨p, 3, none⟩ (.slice X0 x.data.length xc)).setCell ⟨p, 4, none⟩ (.int .u64 x.keep)) = w2 := hhw2
      rw [hcw2]
      have BKw2 : Aside0 (w2.heap[p]? = some (.cells #[.int .i64 x.kind, .int .i64 x.a, .string x.key, .slice X0 x.data.length xc, .int .u64 x.keep] 31 (0, 0))) := ⟨hbw2⟩
      have Mw2 := Aside0.mk hmw2
      have HLw2 := Aside0.mk hlw2
      clear hhw2 hcw2 hbw2 hmw2 hlw2
      have HBQ2 : Aside0 (w2.heap[q]? = _) := ⟨(Mw2.out q (Ne.symm HPQ.out)).trans HBQ.out⟩
      have zq0 : w2.cell? ⟨q, 0, none⟩ = some _ := (blk_cell HBQ2.out 0).trans rfl
      have zq1 : w2.cell? ⟨q, 1, none⟩ = some _ := (blk_cell HBQ2.out 1).trans rfl
      have zq2 : w2.cell? ⟨q, 2, none⟩ = some _ := (blk_cell HBQ2.out 2).trans rfl
      have zq3 : w2.cell? ⟨q, 3, none⟩ = some _ := (blk_cell HBQ2.out 3).trans rfl
      have zq4 : w2.cell? ⟨q, 4, none⟩ = some _ := (blk_cell HBQ2.out 4).trans rfl
      have zq5 : w2.cell? ⟨q, 5, none⟩ = some _ := (blk_cell HBQ2.out 5).trans rfl
      have fq : ∀ j, w2.frozen? ⟨q, j, none⟩ = false := fun j => blk_frozen HBQ2.out j
      refine hK.out _ _ ⟨((World.cell?_of_block (a := ad.add (k * 11)) (Mw2.out (ad.add (k * 11)).block HAP.out)).trans hHeld.1), ((World.cell?_of_block (a := ⟨(ad.add (k * 11)).block, (ad.add (k * 11)).off + 1, none⟩) (Mw2.out (ad.add (k * 11)).block HAP.out)).trans hHeld.2.1), ((World.cell?_of_block (a := ⟨(ad.add (k * 11)).block, (ad.add (k * 11)).off + 2, none⟩) (Mw2.out (ad.add (k * 11)).block HAP.out)).trans hHeld.2.2.1), ((World.cell?_of_block (a := ⟨(ad.add (k * 11)).block, (ad.add (k * 11)).off + 3, none⟩) (Mw2.out (ad.add (k * 11)).block HAP.out)).trans hHeld.2.2.2.1), ((World.cell?_of_block (a := ⟨(ad.add (k * 11)).block, (ad.add (k * 11)).off + 4, none⟩) (Mw2.out (ad.add (k * 11)).block HAP.out)).trans hHeld.2.2.2.2.1), ((World.cell?_of_block (a := ⟨(ad.add (k * 11)).block, (ad.add (k * 11)).off + 5, none⟩) (Mw2.out (ad.add (k * 11)).block HAP.out)).trans hHeld.2.2.2.2.2.1), ((World.cell?_of_block (a := ⟨(ad.add (k * 11)).block, (ad.add (k * 11)).off + 6, none⟩) (Mw2.out (ad.add (k * 11)).block HAP.out)).trans hHeld.2.2.2.2.2.2.1), ((World.cell?_of_block (a := ⟨(ad.add (k * 11)).block, (ad.add (k * 11)).off + 7, none⟩) (Mw2.out (ad.add (k * 11)).block HAP.out)).trans hHeld.2.2.2.2.2.2.2.1), ((World.cell?_of_block (a := ⟨(ad.add (k * 11)).block, (ad.add (k * 11)).off + 8, none⟩) (Mw2.out (ad.add (k * 11)).block HAP.out)).trans hHeld.2.2.2.2.2.2.2.2.1), ((World.cell?_of_block (a := ⟨(ad.add (k * 11)).block, (ad.add (k * 11)).off + 9, none⟩) (Mw2.out (ad.add (k * 11)).block HAP.out)).trans hHeld.2.2.2.2.2.2.2.2.2.1), ((World.cell?_of_block (a := ⟨(ad.add (k * 11)).block, (ad.add (k * 11)).off + 10, none⟩) (Mw2.out (ad.add (k * 11)).block HAP.out)).trans hHeld.2.2.2.2.2.2.2.2.2.2)⟩ (fun hHeld => ?_)
      clear hK K
      refine last_ (i := 13) (N := none) #[true, true, true, true, true, true, true, true, true, true, true, true, true, true] rfl rfl (by kernel_rfl) (by decide) (fun K hK => ?_)
      refine skip_ (w1 := ?_) (by rfl) rfl ?_ ?_
      rotate_left
      · go_simp
        rfl
      obtain ⟨w3, hhw3, hbw3, hmw3, hlw3⟩ := fill_all w2 q [.int .i64 0, .int .i64 0, .bool false, .int .i64 0, .slice none 0 0, .slice none 0 0] [.int .i64 a.e, .int .i64 a.task, .bool a.done, .int .i64 a.mark, .slice D a.data.length dc, .slice Ks0 a.keys.length kc] 35 HBQ2.out rfl
      have hcw3 : ((((((w2.setCell ⟨q, 0, none⟩ (.int .i64 a.e)).setCell ⟨q, 1, none⟩ (.int .i64 a.task)).setCell ⟨q, 2, none⟩ (.bool a.done)).setCell ⟨q, 3, none⟩ (.int .i64 a.mark)).setCell ⟨q, 4, none⟩ (.slice D a.data.length dc)).setCell ⟨q, 5, none⟩ (.slice Ks0 a.keys.length kc)) = w3 := hhw3
      rw [hcw3]
      have BKw3 : Aside0 (w3.heap[q]? = some (.cells #[.int .i64 a.e, .int .i64 a.task, .bool a.done, .int .i64 a.mark, .slice D a.data.length dc, .slice Ks0 a.keys.length kc] 35 (0, 0))) := ⟨hbw3⟩
      have Mw3 := Aside0.mk hmw3
      have HLw3 := Aside0.mk hlw3
      clear hhw3 hcw3 hbw3 hmw3 hlw3
      have BP3 : Aside0 (w3.heap[p]? = _) := ⟨(Mw3.out p HPQ.out).trans BKw2.out⟩
      have HB3 : Aside0 (Below wr.heap.size wr w3) := ⟨(HBW1.out.trans (HLw2.out.mono HP0.out)).trans (HLw3.out.mono HQ0.out)⟩
      refine hK.out _ _ ?_
      clear hK K
      refine done_ (by kernel_rfl) ?_
      have y0 : w3.cell? ⟨p, 0, none⟩ = some (.int .i64 x.kind) := (blk_cell BP3.out 0).trans rfl
      have y1 : w3.cell? ⟨p, 1, none⟩ = some (.int .i64 x.a) := (blk_cell BP3.out 1).trans rfl
      have y2 : w3.cell? ⟨p, 2, none⟩ = some (.string x.key) := (blk_cell BP3.out 2).trans rfl
      have y3 : w3.cell? ⟨p, 3, none⟩ = some (.slice X0 x.data.length xc) := (blk_cell BP3.out 3).trans rfl
      have y4 : w3.cell? ⟨p, 4, none⟩ = some (.int .u64 x.keep) := (blk_cell BP3.out 4).trans rfl
      have z0 : w3.cell? ⟨q, 0, none⟩ = some (.int .i64 a.e) := (blk_cell BKw3.out 0).trans rfl
      have z1 : w3.cell? ⟨q, 1, none⟩ = some (.int .i64 a.task) := (blk_cell BKw3.out 1).trans rfl
      have z2 : w3.cell? ⟨q, 2, none⟩ = some (.bool a.done) := (blk_cell BKw3.out 2).trans rfl
      have z3 : w3.cell? ⟨q, 3, none⟩ = some (.int .i64 a.mark) := (blk_cell BKw3.out 3).trans rfl
      have z4 : w3.cell? ⟨q, 4, none⟩ = some (.slice D a.data.length dc) := (blk_cell BKw3.out 4).trans rfl
      have z5 : w3.cell? ⟨q, 5, none⟩ = some (.slice Ks0 a.keys.length kc) := (blk_cell BKw3.out 5).trans rfl
      clear hHeld zp0 zp1 zp2 zp3 zp4 zq0 zq1 zq2 zq3 zq4 zq5 q0 q1 q2 q3 q4 q5 q6 q7 q8 q9 q10 fp fq hS1
      have T3 : Aside0 (Three w w3 g mb (fun k => k = p ∨ k = q) h k u4 ws u5 es) := ⟨HT.out.guard_ HB3.out (fun j hj => .inr (by
        rcases hj with rfl | rfl
        · exact ⟨HP0.out, blk_lt BP3.out⟩
        · exact ⟨HQ0.out, blk_lt BKw3.out⟩))⟩
      have T3b := T3.out.bl
      by_cases n1 : 200 < x.data.length
      · have b1 : decide ((200 : Int) < (x.data.length : Int)) = true := decide_eq_true (by omega)
        have b1' : decide (200 < x.data.length) = true := decide_eq_true n1
        clear n1 T3b
        go_wp2_with fail
        refine (answers_calls _).mono ?_
        rintro e w' ⟨rfl, hb⟩
        have HB := Aside0.mk (T3.out.bl.trans (hb.mono T3.out.bl.size))
        clear hb
        go_wp2
        go_ret
        exact ⟨rfl, HB.out⟩
      by_cases n2 : 200 < a.data.length
      · have b1 : decide ((200 : Int) < (x.data.length : Int)) = false := decide_eq_false (by omega)
        have b1' : decide (200 < x.data.length) = false := decide_eq_false n1
        have b2 : decide ((200 : Int) < (a.data.length : Int)) = true := decide_eq_true (by omega)
        have b2' : decide (200 < a.data.length) = true := decide_eq_true n2
        clear n1 n2 T3b
        go_wp2_with fail
        refine (answers_calls _).mono ?_
        rintro e w' ⟨rfl, hb⟩
        have HB := Aside0.mk (T3.out.bl.trans (hb.mono T3.out.bl.size))
        clear hb
        go_wp2
        go_ret
        exact ⟨rfl, HB.out⟩
      by_cases n3 : 50 < a.keys.length
      · have b1 : decide ((200 : Int) < (x.data.length : Int)) = false := decide_eq_false (by omega)
        have b1' : decide (200 < x.data.length) = false := decide_eq_false n1
        have b2 : decide ((200 : Int) < (a.data.length : Int)) = false := decide_eq_false (by omega)
        have b2' : decide (200 < a.data.length) = false := decide_eq_false n2
        have b3 : decide ((50 : Int) < (a.keys.length : Int)) = true := decide_eq_true (by omega)
        have b3' : decide (50 < a.keys.length) = true := decide_eq_true n3
        clear n1 n2 n3 T3b
        go_wp2_with fail
        refine (answers_calls _).mono ?_
        rintro e w' ⟨rfl, hb⟩
        have HB := Aside0.mk (T3.out.bl.trans (hb.mono T3.out.bl.size))
        clear hb
        go_wp2
        go_ret
        exact ⟨rfl, HB.out⟩
      have b1 : decide ((200 : Int) < (x.data.length : Int)) = false := decide_eq_false (by omega)
      have b1' : decide (200 < x.data.length) = false := decide_eq_false n1
      have b2 : decide ((200 : Int) < (a.data.length : Int)) = false := decide_eq_false (by omega)
      have b2' : decide (200 < a.data.length) = false := decide_eq_false n2
      have b3 : decide ((50 : Int) < (a.keys.length : Int)) = false := decide_eq_false (by omega)
      have b3' : decide (50 < a.keys.length) = false := decide_eq_false n3
      have hA : AArg w3 (fun k => k < w.heap.size) x a (.slice X0 x.data.length xc) (.slice D a.data.length dc) (.slice Ks0 a.keys.length kc) := ⟨Kd.V_step HVX.out.1 (fun k hk _ => T3b.block k hk), Kd.V_step HVX.out.2.1 (fun k hk _ => T3b.block k hk), Kd.V_step HVX.out.2.2 (fun k hk _ => T3b.block k hk), by omega, by omega, by omega, HXA.out.2, HXA.out.1⟩
      have HA := Aside0.mk hA
      have HLX : Aside0 (x.data.length ≤ 200 ∧ a.data.length ≤ 200 ∧ a.keys.length ≤ 50) := ⟨by omega⟩
      clear n1 n2 n3 hA T3b
      go_upto_region 12 with fail
      obtain ⟨okh, hO3, hpr3, hstep⟩ := T3.out.hist
      have HO3 := Aside0.mk hO3
      have HP3 := Aside0.mk hpr3
      have HST := Aside0.mk hstep
      have HX3 : Aside0 (∀ k, k < w.heap.size → k < w3.heap.size → ¬ okh k ∧ k ≠ mb ∧ k ≠ g) := ⟨fun k hk _ => ⟨fun e => by have := hO3.okk k e; omega, by have := hO3.bk; omega, by have := hO3.gk; omega⟩⟩
      clear hO3 hpr3 hstep
      go_wp2_with fail
      refine (own_add HO3.out (by omega) x a (.slice X0 x.data.length xc) (.slice D a.data.length dc) (.slice Ks0 a.keys.length kc) HA.out HX3.out).mono ?_
      rintro e w4 ⟨rfl, hO4, hK4⟩
      obtain ⟨hT4, hsame⟩ := HST.out w4 _ _ hO4 hK4
      have T4 : Aside0 (Three w w4 g mb (fun k => k = p ∨ k = q) (h.add x a) (k + 1) u4 ws u5 es) := ⟨hT4⟩
      have BP4 : Aside0 (w4.heap[p]? = _) := ⟨(hsame p (.inl rfl)).trans BP3.out⟩
      have BQ4 : Aside0 (w4.heap[q]? = _) := ⟨(hsame q (.inr rfl)).trans BKw3.out⟩
      clear hO4 hK4 hT4 hsame y0 y1 y2 y3 y4 z0 z1 z2 z3 z4 z5
      have y0 : w4.cell? ⟨p, 0, none⟩ = some (.int .i64 x.kind) := (blk_cell BP4.out 0).trans rfl
      have z0 : w4.cell? ⟨q, 0, none⟩ = some (.int .i64 a.e) := (blk_cell BQ4.out 0).trans rfl
      obtain ⟨A4, c4, hu4⟩ : ∃ A c, u4 = .slice A ws.length c := Kd.N_slice T4.out.nt
      obtain ⟨A5, c5, hu5⟩ : ∃ A c, u5 = .slice A ws.length c := by rw [← HJ.out.len]; exact Kd.R_slice T4.out.bs
      subst hu4 hu5
      have HEL := Aside0.mk HJ.out.len
      have hwl : ws.length ≤ k := by rw [HJ.out.list]; exact HT.out.fm.len
      by_cases h1 : x.kind = 1
      · have t1 : (x.kind == 1) = true := by simpa using h1
        by_cases he : a.e = 0
        · have te : (a.e == 0) = true := by simpa using he
          have HKE : Aside0 (x.kind = 1 ∧ a.e = 0) := ⟨h1, he⟩
          clear h1 he
          obtain ⟨wq, hwq⟩ : ∃ wq : World, wq = wr := ⟨_, rfl⟩
          subst hwq
          go_wp2_with fail
          go_loopw [9, 62, 63, 64, 65, 66, 67, 68, 69, 70, 71, 72, 73, 74, 75, 76, 77, 78] (fun x9 x62 x63 x64 x65 x66 x67 x68 x69 x70 x71 x72 x73 x74 x75 x76 x77 x78 wr => ∃ j : Nat, j ≤ ws.length ∧ x9 = .int .i64 j ∧ Aside0 (Three w wr g mb (fun k => k = p ∨ k = q) (h.add x a) (k + 1) (.slice A4 ws.length c4) ws (.slice A5 ws.length c5) (markTo ws es a.task j)) ∧ Aside0 (wr.heap[p]? = some (.cells #[.int .i64 x.kind, .int .i64 x.a, .string x.key, .slice X0 x.data.length xc, .int .u64 x.keep] 31 (0, 0)) ∧ wr.heap[q]? = some (.cells #[.int .i64 a.e, .int .i64 a.task, .bool a.done, .int .i64 a.mark, .slice D a.data.length dc, .slice Ks0 a.keys.length kc] 35 (0, 0)))) (fun x9 _ _ _ _ _ _ _ _ _ _ _ _ _ _ _ _ _ _ => ws.length - (intOf x9).toNat)
          case atStart => exact ⟨0, Nat.zero_le _, rfl, T4, ⟨BP4.out, BQ4.out⟩⟩
          case round =>
            obtain ⟨j, hj, rfl, TJ, BJ⟩ := hrel
            by_cases hjl : j < ws.length
            · obtain ⟨gl, cap, e4, _, _, _⟩ := Kd.N_form TJ.out.nt (by omega)
              have hml := markTo_len ws es a.task j
              obtain ⟨ge, cap5, e5, _, _, _⟩ := Kd.R_form TJ.out.bs (by have := HEL.out; omega)
              injection e4 with e4 hx4 e4'
              injection e5 with e5 hx5 e5'
              subst e4 e4' e5 e5'
              obtain ⟨hm1, hm2⟩ := TJ.out.end_cell j (by have := HEL.out; omega)
              clear hx4 hx5 hml
              obtain ⟨vd, vo, vk, hcc, _, _, _, _⟩ := hly_elem (Kd.N_lower TJ.out.nt (Nat.zero_le _)) j hjl
              have m0 : wr.cell? ⟨gl, j * 10, none⟩ = some (.int .i64 (ws.getD j clz).task) := hcc 0 _ rfl
              have z1 : wr.cell? ⟨q, 1, none⟩ = some (.int .i64 a.task) := (blk_cell BJ.out.2 1).trans rfl
              have hmk : markTo ws es a.task (j + 1) = if (ws.getD j clz).task = a.task then (markTo ws es a.task j).set j true else markTo ws es a.task j := rfl
              obtain ⟨tj, htj⟩ : ∃ t, t = (ws.getD j clz).task := ⟨_, rfl⟩
              rw [← htj] at m0 hmk
              have HMK := Aside0.mk hmk
              clear hcc htj hmk
              by_cases het : tj = a.task
              · have te2 : (tj == a.task) = true := by simpa using het
                have HET := Aside0.mk het
                have hTE := fun (n : Nat) => (TJ.out.below (pw_below_drewN (Below.refl _ _) n)).end_ j true
                have TE := Aside0.mk hTE
                clear het hTE
                go_wp2_with fail
                go_quiet (fail)
                go_wp2_with fail
                go_roundw
                case rel => exact ⟨j + 1, by omega, by go_num, ⟨by rw [HMK.out, if_pos HET.out]; exact (TE.out _).1⟩, ⟨((TE.out _).2 p (.inl (.inl rfl))).trans BJ.out.1, ((TE.out _).2 q (.inl (.inr rfl))).trans BJ.out.2⟩⟩
                case measure => simp [intOf]; omega
              · have te2 : (tj == a.task) = false := by simpa using het
                have HET := Aside0.mk het
                clear het
                go_wp2_with fail
                go_quiet (fail)
                go_wp2_with fail
                go_roundw
                case rel => exact ⟨j + 1, by omega, by go_num, ⟨by rw [HMK.out, if_neg HET.out]; exact TJ.out.below (pw_below_drewN (Below.refl _ _) _)⟩, ⟨BJ.out.1, BJ.out.2⟩⟩
                case measure => simp [intOf]; omega
            · have hjw : j = ws.length := by omega
              subst hjw
              have hml := markTo_len ws es a.task ws.length
              have y1 : wr.cell? ⟨p, 1, none⟩ = some (.int .i64 x.a) := (blk_cell BJ.out.1 1).trans rfl
              have y2 : wr.cell? ⟨p, 2, none⟩ = some (.string x.key) := (blk_cell BJ.out.1 2).trans rfl
              have y3 : wr.cell? ⟨p, 3, none⟩ = some (.slice X0 x.data.length xc) := (blk_cell BJ.out.1 3).trans rfl
              have z1 : wr.cell? ⟨q, 1, none⟩ = some (.int .i64 a.task) := (blk_cell BJ.out.2 1).trans rfl
              have hbl := TJ.out.bl
              have hFK : Kd.FK CKy wr (fun k => k < w.heap.size) (⟨a.task, x.a, x.key, x.data, (k : Int) + 1, 0, 0, 0, [], []⟩ : Cl) (cc ⟨a.task, x.a, x.key, x.data, (k : Int) + 1, 0, 0, 0, [], []⟩ (.slice X0 x.data.length xc) (.slice none 0 0) (.slice none 0 0)) := cly_fk (Kd.V_step HVX.out.1 (fun k hk _ => hbl.block k hk)) (Kd.V_nil _ _ _ _ _) (Kd.V_nil _ _ _ _ _)
              have HFK := Aside0.mk hFK
              obtain ⟨hn0, rows, hlr, hRr, hff⟩ := TJ.out.nt
              have HRr := Aside0.mk (Kd.raw_any hRr)
              have HLR := Aside0.mk hlr
              have HFF := Aside0.mk hff
              have HBL := Aside0.mk hbl
              have HML := Aside0.mk hml
              clear hn0 hlr hRr hff hFK hbl hml
              go_upto_region 22 with (at_builtin; refine Kd.R_append (Kd.raw 10) (w0 := w) w.heap.size rfl (.tmp 79) (.tmp 91) 26 40 _ 136 rfl Try.underlying26 info40 rfl (by decide) (by decide) (.slice A4 ws.length c4) rows (cc ⟨a.task, x.a, x.key, x.data, (k : Int) + 1, 0, 0, 0, [], []⟩ (.slice X0 x.data.length xc) (.slice none 0 0) (.slice none 0 0)) (cc ⟨a.task, x.a, x.key, x.data, (k : Int) + 1, 0, 0, 0, [], []⟩ (.slice X0 x.data.length xc) (.slice none 0 0) (.slice none 0 0)) (fun _ => True) (fun _ => False) rfl rfl (Kd.FK_raw HFK.out) (fun _ hk => hk.elim) (fun _ _ => trivial) HRr.out HBL.out HBL.out.size (by rw [HLR.out]; omega) ?_; intro v6 w6 hR6 hB6 hg6 hat6; have HR6 := Aside0.mk hR6; have HG6 := Aside0.mk hg6; have HAT6 := Aside0.mk hat6; have HB6 := Aside0.mk hB6; clear hR6 hg6 hat6 hB6)
              have T6 : Aside0 (Three w w6 g mb (fun k => k = p ∨ k = q) (h.add x a) (k + 1) v6 (ws ++ [⟨a.task, x.a, x.key, x.data, (k : Int) + 1, 0, 0, 0, [], []⟩]) (.slice A5 ws.length c5) (markTo ws es a.task ws.length)) := ⟨(TJ.out.want_ (nt_made TJ.out.nt HFK.out HBL.out.size HLR.out HFF.out HR6.out HG6.out HAT6.out) HG6.out HAT6.out).1⟩
              have HRb := Aside0.mk T6.out.bs
              go_wp2_with (at_builtin; refine Kd.R_append Kd.bool (w0 := w) w.heap.size rfl (.tmp 93) (.tmp 94) 27 4 (.bool false) 1 rfl Try.underlying27 info4 rfl (by decide) (by decide) (.slice A5 ws.length c5) (markTo ws es a.task ws.length) false [.bool false] (fun _ => True) (fun _ => False) rfl rfl rfl (fun _ hk => hk.elim) (fun _ _ => trivial) HRb.out HB6.out HB6.out.size (by rw [HML.out, HEL.out]; omega) ?_; intro v7 w7 hR7 hB7 hg7 hat7; have HR7 := Aside0.mk hR7; have HG7 := Aside0.mk hg7; have HAT7 := Aside0.mk hat7; clear hR7 hg7 hat7 hB7)
              have T7 := Aside0.mk (T6.out.ended_ HR7.out HG7.out HAT7.out).1
              go_roundw
              case rel => exact ⟨k + 1, h.add x a, _, _, by omega, by go_num, ⟨T7.out.less (fun _ (e : False) => e.elim)⟩, ⟨HJ.out.call x a HKE.out.1 HKE.out.2⟩⟩
              case measure => simp [intOf]; omega
        · have te : (a.e == 0) = false := by simpa using he
          have NO : Aside0 (¬ (x.kind = 1 ∧ a.e = 0) ∧ x.kind ≠ 2 ∧ x.kind ≠ 8) := ⟨fun e => he e.2, by omega, by omega⟩
          clear h1 he
          go_wp2_with fail
          go_roundw
          case rel => exact ⟨k + 1, h.add x a, ws, es, by omega, by go_num, ⟨T4.out.less (fun _ (e : False) => e.elim)⟩, ⟨HJ.out.other x a NO.out.1 NO.out.2.1 NO.out.2.2⟩⟩
          case measure => simp [intOf]; omega
      · have t1 : (x.kind == 1) = false := by simpa using h1
        by_cases h2 : x.kind = 2
        · have t2 : (x.kind == 2) = true := by simpa using h2
          have HK2 : Aside0 (x.kind = 2) := ⟨h2⟩
          clear h1 h2
          obtain ⟨wq, hwq⟩ : ∃ wq : World, wq = wr := ⟨_, rfl⟩
          subst hwq
          go_wp2_with fail
          go_loopw [10, 101, 102, 103, 104, 105, 106, 107, 108, 109, 110, 111, 112, 113, 114, 115, 116, 117, 118, 119, 120, 121, 122, 123, 124, 125, 126, 127, 128, 129, 130, 131, 132, 133, 134, 135, 136, 137, 138, 139, 140, 141, 142, 143, 144, 145, 146, 147, 148, 149, 150, 151, 152, 153, 154, 155, 156] (fun x10 x101 x102 x103 x104 x105 x106 x107 x108 x109 x110 x111 x112 x113 x114 x115 x116 x117 x118 x119 x120 x121 x122 x123 x124 x125 x126 x127 x128 x129 x130 x131 x132 x133 x134 x135 x136 x137 x138 x139 x140 x141 x142 x143 x144 x145 x146 x147 x148 x149 x150 x151 x152 x153 x154 x155 x156 wr => ∃ (j : Nat) (z : Int), j ≤ ws.length ∧ z = (j : Int) - 1 ∧ x10 = .int .i64 z ∧ Aside0 (Three w wr g mb (fun k => k = p ∨ k = q) (h.add x a) (k + 1) (.slice A4 ws.length c4) ws (.slice A5 ws.length c5) es) ∧ Aside0 (wr.heap[p]? = some (.cells #[.int .i64 x.kind, .int .i64 x.a, .string x.key, .slice X0 x.data.length xc, .int .u64 x.keep] 31 (0, 0)) ∧ wr.heap[q]? = some (.cells #[.int .i64 a.e, .int .i64 a.task, .bool a.done, .int .i64 a.mark, .slice D a.data.length dc, .slice Ks0 a.keys.length kc] 35 (0, 0))) ∧ Aside0 (∀ n, j ≤ n → n < ws.length → (ws.getD n clz).task = x.a → es.getD n true = true)) (fun x10 _ _ _ _ _ _ _ _ _ _ _ _ _ _ _ _ _ _ _ _ _ _ _ _ _ _ _ _ _ _ _ _ _ _ _ _ _ _ _ _ _ _ _ _ _ _ _ _ _ _ _ _ _ _ _ _ _ => ((intOf x10) + 1).toNat)
          case atStart => exact ⟨ws.length, _, Nat.le_refl _, rfl, rfl, T4, ⟨BP4.out, BQ4.out⟩, ⟨fun n h1 h2 => by omega⟩⟩
          case round =>
            obtain ⟨j, z, hj, hz, rfl, TJ, BJ, HNO⟩ := hrel
            by_cases hj0 : j = 0
            · have dz1 : decide (z ≥ 0) = false := decide_eq_false (by omega)
              have dz2 : decide (0 ≤ z) = false := decide_eq_false (by omega)
              subst hj0
              clear hz
              go_wp2_with fail
              go_roundw
              case rel => exact ⟨k + 1, h.add x a, ws, es, by omega, by go_num, ⟨TJ.out.less (fun _ (e : False) => e.elim)⟩, ⟨HJ.out.lost x a HK2.out (fun n hn ht => HNO.out n (Nat.zero_le _) hn ht)⟩⟩
              case measure => simp [intOf] <;> omega
            · obtain ⟨n, rfl⟩ : ∃ n, j = n + 1 := ⟨j - 1, by omega⟩
              have hzn : z = (n : Int) := by omega
              subst hzn
              have hn : n < ws.length := by omega
              obtain ⟨gl, cap, e4, _, _, _⟩ := Kd.N_form TJ.out.nt (by omega)
              obtain ⟨ge, cap5, e5, _, _, _⟩ := Kd.R_form TJ.out.bs (by have := HEL.out; omega)
              injection e4 with e4 hx4 e4'
              injection e5 with e5 hx5 e5'
              subst e4 e4' e5 e5'
              obtain ⟨hm1, hm2⟩ := TJ.out.end_cell n (by have := HEL.out; omega)
              obtain ⟨vd, vo, vk, hcc, hfz, hvd, hvo, hvk⟩ := hly_elem (Kd.N_lower TJ.out.nt (Nat.zero_le _)) n hn
              have hbl := TJ.out.bl
              have hgl := TJ.out.nt.base gl rfl
              have VDw : Aside0 (Vb w (fun k => k < w.heap.size) vd (ws.getD n clz).data) := ⟨Kd.V_step (Kd.V_mono hvd (fun k hk => hk.1.elim id (fun e => absurd (Option.some.inj e) hk.2))) (fun k hk _ => (hbl.block k hk).symm)⟩
              have VOw : Aside0 (Vb w (fun k => k < w.heap.size) vo (ws.getD n clz).out) := ⟨Kd.V_step (Kd.V_mono hvo (fun k hk => hk.1.elim id (fun e => absurd (Option.some.inj e) hk.2))) (fun k hk _ => (hbl.block k hk).symm)⟩
              have VKw : Aside0 (Vs w (fun k => k < w.heap.size) vk (ws.getD n clz).keys) := ⟨Kd.V_step (Kd.V_mono hvk (fun k hk => hk.1.elim id (fun e => absurd (Option.some.inj e) hk.2))) (fun k hk _ => (hbl.block k hk).symm)⟩
              have m0 : wr.cell? ⟨gl, n * 10, none⟩ = some (.int .i64 (ws.getD n clz).task) := hcc 0 _ rfl
              have y1 : wr.cell? ⟨p, 1, none⟩ = some (.int .i64 x.a) := (blk_cell BJ.out.1 1).trans rfl
              have hpg : q ≠ gl := fun e => (TJ.out.pr_ne q (.inr rfl)).1 (by rw [e]; rfl)
              have HPG := Aside0.mk hpg
              have HCC := Aside0.mk hcc
              have HFZ := Aside0.mk hfz
              have HGB := Aside0.mk hgl
              obtain ⟨tn, htn⟩ : ∃ t, t = (ws.getD n clz).task := ⟨_, rfl⟩
              obtain ⟨en, hen⟩ : ∃ b, b = es.getD n true := ⟨_, rfl⟩
              rw [← htn] at m0
              rw [← hen] at hm1
              have HTN := Aside0.mk htn
              have HEN := Aside0.mk hen
              clear hx4 hx5 hcc hfz hvd hvo hvk hbl hgl hpg htn hen hj0 hz
              by_cases ht : tn = x.a
              · have tt : (tn != x.a) = false := by simpa using ht
                have HTT := Aside0.mk ht
                clear ht
                cases en with
                | true =>
                  go_wp2_with fail
                  go_quiet (fail)
                  go_wp2_with fail
                  go_roundw
                  case rel => exact ⟨n, (n : Int) - 1, by omega, rfl, by go_num, ⟨TJ.out.below (pw_below_drewN (Below.refl _ _) _)⟩, ⟨BJ.out.1, BJ.out.2⟩, ⟨fun i h1 h2 h3 => by
                    by_cases hi : i = n
                    · rw [hi, ← HEN.out]
                    · exact HNO.out i (by omega) h2 h3⟩⟩
                  case measure => simp [intOf] <;> omega
                | false =>
                  have HT1 : Aside0 (∀ m, Three w (wr.drewN m) g mb (fun k => k = p ∨ k = q) (h.add x a) (k + 1) (.slice (some ⟨gl, 0, none⟩) ws.length c4) ws (.slice (some ⟨ge, 0, none⟩) ws.length c5) es) := ⟨fun m => TJ.out.below (pw_below_drewN (Below.refl _ _) m)⟩
                  go_wp2_with fail
                  go_quiet (fail)
                  obtain ⟨W1, hW1⟩ : ∃ W, W = wr.drewN nq := ⟨_, rfl⟩
                  rw [← hW1]
                  have T1 : Aside0 (Three w W1 g mb (fun k => k = p ∨ k = q) (h.add x a) (k + 1) (.slice (some ⟨gl, 0, none⟩) ws.length c4) ws (.slice (some ⟨ge, 0, none⟩) ws.length c5) es) := ⟨by rw [hW1]; exact HT1.out nq⟩
                  have BQ1 : Aside0 (W1.heap[q]? = some (.cells #[.int .i64 a.e, .int .i64 a.task, .bool a.done, .int .i64 a.mark, .slice D a.data.length dc, .slice Ks0 a.keys.length kc] 35 (0, 0))) := ⟨by rw [hW1]; exact BJ.out.2⟩
                  have C1 : Aside0 (∀ i u, (cc (ws.getD n clz) vd vo vk)[i]? = some u → W1.cell? ⟨gl, n * 10 + i, none⟩ = some u) := ⟨fun i u hu => by rw [hW1]; exact pw_cell_below (pw_below_drewN (Below.refl _ _) nq) (HCC.out i u hu)⟩
                  have F1 : Aside0 (∀ i, W1.frozen? ⟨gl, n * 10 + i, none⟩ = false) := ⟨fun i => by rw [hW1]; exact (Below.frozen (p := ⟨gl, n * 10 + i, none⟩) (pw_below_drewN (Below.refl _ _) nq) (TJ.out.nt.lt gl rfl)).trans (HFZ.out i)⟩
                  have c6 : W1.cell? ⟨gl, n * 10 + 6, none⟩ = some _ := C1.out 6 _ rfl
                  have f6 : W1.frozen? ⟨gl, n * 10 + 6, none⟩ = false := F1.out 6
                  have z2 : W1.cell? ⟨q, 2, none⟩ = some (.bool a.done) := (blk_cell BQ1.out 2).trans rfl
                  have z3 : W1.cell? ⟨q, 3, none⟩ = some (.int .i64 a.mark) := (blk_cell BQ1.out 3).trans rfl
                  obtain ⟨c0, hc0⟩ : ∃ c, c = ws.getD n clz := ⟨_, rfl⟩
                  rw [← hc0] at VDw VOw VKw C1 c6
                  have HC0 := Aside0.mk hc0
                  clear hW1 hc0 m0 y1 hm1 hm2
                  by_cases hmk : a.mark = 0
                  · have hm : (a.mark != 0) = false := by simpa using hmk
                    have HF : Aside0 (foundC c0 k a = c0) := ⟨by unfold foundC; rw [if_pos hmk]⟩
                    clear hmk
                    obtain ⟨W2, hW2⟩ : ∃ W2, W2 = W1 := ⟨_, rfl⟩
                    have T2 : Aside0 (Three w W2 g mb (fun k => k = p ∨ k = q) (h.add x a) (k + 1) (.slice (some ⟨gl, 0, none⟩) ws.length c4) (ws.set n c0) (.slice (some ⟨ge, 0, none⟩) ws.length c5) es) := ⟨by rw [HC0.out, set_self, hW2]; exact T1.out⟩
                    have C2 : Aside0 (∀ i u, (cc c0 vd vo vk)[i]? = some u → W2.cell? ⟨gl, n * 10 + i, none⟩ = some u) := ⟨by rw [hW2]; exact C1.out⟩
                    have F2 : Aside0 (∀ i, W2.frozen? ⟨gl, n * 10 + i, none⟩ = false) := ⟨by rw [hW2]; exact F1.out⟩
                    have BQ2 : Aside0 (W2.heap[q]? = some (.cells #[.int .i64 a.e, .int .i64 a.task, .bool a.done, .int .i64 a.mark, .slice D a.data.length dc, .slice Ks0 a.keys.length kc] 35 (0, 0))) := ⟨by rw [hW2]; exact BQ1.out⟩
                    have z2' : W2.cell? ⟨q, 2, none⟩ = some (.bool a.done) := (blk_cell BQ2.out 2).trans rfl
                    obtain ⟨c2, hc2⟩ : ∃ c, c = c0 := ⟨_, rfl⟩
                    rw [← hc2] at T2 C2 HF VDw VOw VKw
                    have HFc : Aside0 (foundC (ws.getD n clz) k a = c2) := ⟨by rw [← HC0.out, ← hc2]; exact HF.out⟩
                    go_upto_region 30 with fail
                    rw [← hW2]
                    clear hW2 hc2 HF
                    cases hdn : a.done with
                    | false =>
                      have HRUN : Aside0 (Jn (h.add x a) (ws.set n c2) es (k + 1)) := ⟨by
                        have := HJ.out.run x a HK2.out n hn (HTN.out.symm.trans HTT.out) HEN.out.symm
                        rw [hdn, if_neg (by decide), if_neg (by decide), HFc.out] at this
                        exact this⟩
                      have z2'' : W2.cell? ⟨q, 2, none⟩ = some (.bool false) := by rw [z2', hdn]
                      clear z2'
                      go_wp2_with fail
                      go_roundw
                      case rel => exact ⟨k + 1, h.add x a, _, _, by omega, by go_num, ⟨T2.out.less (fun _ (e : False) => e.elim)⟩, HRUN⟩
                      case measure => simp [intOf] <;> omega
                    | true =>
                      have HRUN : Aside0 (Jn (h.add x a) (ws.set n (foundD (ws.getD n clz) k a)) (es.set n true) (k + 1)) := ⟨by
                        have := HJ.out.run x a HK2.out n hn (HTN.out.symm.trans HTT.out) HEN.out.symm
                        rw [hdn, if_pos rfl, if_pos rfl] at this
                        exact this⟩
                      have z2'' : W2.cell? ⟨q, 2, none⟩ = some (.bool true) := by rw [z2', hdn]
                      clear z2'
                      have hwr : wrap64 ((k : Int) + 1) = (k : Int) + 1 := w64 _ (by omega) (by omega)
                      have k5 : W2.cell? ⟨gl, n * 10 + 5, none⟩ = some _ := C2.out 5 _ rfl
                      have f5 : W2.frozen? ⟨gl, n * 10 + 5, none⟩ = false := F2.out 5
                      go_upto_region 31 with fail
                      refine start_ (n := 32) (S := fun w' => w'.cell? ⟨q, 0, none⟩ = some (.int .i64 a.e) ∧ w'.cell? ⟨q, 4, none⟩ = some (.slice D a.data.length dc) ∧ w'.cell? ⟨q, 5, none⟩ = some (.slice Ks0 a.keys.length kc)) (ds := [31]) #[false, false, false, false, false, false, false, false, false, false, false, false, false, false, false, false, false, false, false, false, false, false, false, false, false, false, false, false, false, false, false, false] (by kernel_rfl) rfl rfl ⟨((blk_cell BQ2.out 0).trans rfl), ((blk_cell BQ2.out 4).trans rfl), ((blk_cell BQ2.out 5).trans rfl)⟩ (fun hHeld => ?_)
                      refine pure_ (i := 0) (N := some 130) (v := ?_) (a' := ?_) #[true, false, false, false, false, false, false, false, false, false, false, false, false, false, false, false, false, false, false, false, false, false, false, false, false, false, false, false, false, false, false, false] rfl rfl (by kernel_rfl) (fun _ _ _ h => h) (Or.inl ⟨by rfl, ?_⟩) ?_ ?_
                      rotate_left
                      · intro w'
                        go_simp
                        with_reducible rfl
                      rotate_left
                      · simp only [Act.put, List.setIfInBounds_toArray, List.set_cons_zero, List.set_cons_succ, i64_w, i32_w]
                        rfl
                      refine pure_ (i := 1) (N := some 131) (v := ?_) (a' := ?_) #[true, true, false, false, false, false, false, false, false, false, false, false, false, false, false, false, false, false, false, false, false, false, false, false, false, false, false, false, false, false, false, false] rfl rfl (by kernel_rfl) (fun _ _ _ h => h) (Or.inl ⟨by rfl, ?_⟩) ?_ ?_
                      rotate_left
                      · intro w'
                        go_simp
                        with_reducible rfl
                      rotate_left
                      · simp only [Act.put, List.setIfInBounds_toArray, List.set_cons_zero, List.set_cons_succ, i64_w, i32_w]
                        rfl
                      refine pure_ (i := 2) (N := some 132) (v := ?_) (a' := ?_) #[true, true, true, false, false, false, false, false, false, false, false, false, false, false, false, false, false, false, false, false, false, false, false, false, false, false, false, false, false, false, false, false] rfl rfl (by kernel_rfl) (fun _ _ _ h => h) (Or.inl ⟨by rfl, ?_⟩) ?_ ?_
                      rotate_left
                      · intro w'
                        go_simp
                        with_reducible rfl
                      rotate_left
                      · simp only [Act.put, List.setIfInBounds_toArray, List.set_cons_zero, List.set_cons_succ, i64_w, i32_w]
                        rfl
                      refine pure_ (i := 3) (N := some 133) (v := ?_) (a' := ?_) #[true, true, true, true, false, false, false, false, false, false, false, false, false, false, false, false, false, false, false, false, false, false, false, false, false, false, false, false, false, false, false, false] rfl rfl (by kernel_rfl) (fun _ _ _ h => h) (Or.inl ⟨by rfl, ?_⟩) ?_ ?_
                      rotate_left
                      · intro w'
                        go_simp
                        with_reducible rfl
                      rotate_left
                      · simp only [Act.put, List.setIfInBounds_toArray, List.set_cons_zero, List.set_cons_succ, i64_w, i32_w]
                        rfl
                      refine pure_ (i := 4) (N := some 134) (v := ?_) (a' := ?_) #[true, true, true, true, true, false, false, false, false, false, false, false, false, false, false, false, false, false, false, false, false, false, false, false, false, false, false, false, false, false, false, false] rfl rfl (by kernel_rfl) (fun _ _ _ h => h) (Or.inl ⟨by rfl, ?_⟩) ?_ ?_
                      rotate_left
                      · intro w'
                        go_simp
                        with_reducible rfl
                      rotate_left
                      · simp only [Act.put, List.setIfInBounds_toArray, List.set_cons_zero, List.set_cons_succ, i64_w, i32_w]
                        rfl
                      refine pure_ (i := 5) (N := some 135) (v := ?_) (a' := ?_) #[true, true, true, true, true, true, false, false, false, false, false, false, false, false, false, false, false, false, false, false, false, false, false, false, false, false, false, false, false, false, false, false] rfl rfl (by kernel_rfl) (fun _ _ _ h => h) (Or.inl ⟨by rfl, ?_⟩) ?_ ?_
                      rotate_left
                      · intro w'
                        go_simp
                        with_reducible rfl
                      rotate_left
                      · simp only [Act.put, List.setIfInBounds_toArray, List.set_cons_zero, List.set_cons_succ, i64_w, i32_w]
                        rfl
                      refine pure_ (i := 6) (N := some 136) (v := ?_) (a' := ?_) #[true, true, true, true, true, true, true, false, false, false, false, false, false, false, false, false, false, false, false, false, false, false, false, false, false, false, false, false, false, false, false, false] rfl rfl (by kernel_rfl) (fun _ _ _ h => h) (Or.inl ⟨by rfl, ?_⟩) ?_ ?_
                      rotate_left
                      · intro w'
                        go_simp
                        with_reducible rfl
                      rotate_left
                      · simp only [Act.put, List.setIfInBounds_toArray, List.set_cons_zero, List.set_cons_succ, i64_w, i32_w]
                        rfl
                      refine pure_ (i := 7) (N := some 137) (v := ?_) (a' := ?_) #[true, true, true, true, true, true, true, true, false, false, false, false, false, false, false, false, false, false, false, false, false, false, false, false, false, false, false, false, false, false, false, false] rfl rfl (by kernel_rfl) (fun _ _ _ h => h) (Or.inl ⟨by rfl, ?_⟩) ?_ ?_
                      rotate_left
                      · intro w'
                        go_simp
                        with_reducible rfl
                      rotate_left
                      · simp only [Act.put, List.setIfInBounds_toArray, List.set_cons_zero, List.set_cons_succ, i64_w, i32_w]
                        rfl
                      refine pure_ (i := 8) (N := some 138) (v := ?_) (a' := ?_) #[true, true, true, true, true, true, true, true, true, false, false, false, false, false, false, false, false, false, false, false, false, false, false, false, false, false, false, false, false, false, false, false] rfl rfl (by kernel_rfl) (fun _ _ _ h => h) (Or.inl ⟨by rfl, ?_⟩) ?_ ?_
                      rotate_left
                      · intro w'
                        go_simp
                        with_reducible rfl
                      rotate_left
                      · simp only [Act.put, List.setIfInBounds_toArray, List.set_cons_zero, List.set_cons_succ, i64_w, i32_w]
                        rfl
                      refine pure_ (i := 9) (N := some 139) (v := ?_) (a' := ?_) #[true, true, true, true, true, true, true, true, true, true, false, false, false, false, false, false, false, false, false, false, false, false, false, false, false, false, false, false, false, false, false, false] rfl rfl (by kernel_rfl) (fun _ _ _ h => h) (Or.inl ⟨by rfl, ?_⟩) ?_ ?_
                      rotate_left
                      · intro w'
                        go_simp
                        with_reducible rfl
                      rotate_left
                      · simp only [Act.put, List.setIfInBounds_toArray, List.set_cons_zero, List.set_cons_succ, i64_w, i32_w]
                        rfl
                      refine pure_ (i := 10) (N := some 140) (v := ?_) (a' := ?_) #[true, true, true, true, true, true, true, true, true, true, true, false, false, false, false, false, false, false, false, false, false, false, false, false, false, false, false, false, false, false, false, false] rfl rfl (by kernel_rfl) (fun _ _ _ h => h) (Or.inl ⟨by rfl, ?_⟩) ?_ ?_
                      rotate_left
                      · intro w'
                        go_simp
                        with_reducible rfl
                      rotate_left
                      · simp only [Act.put, List.setIfInBounds_toArray, List.set_cons_zero, List.set_cons_succ, i64_w, i32_w]
                        rfl
                      refine pure_ (i := 11) (N := some 141) (v := ?_) (a' := ?_) #[true, true, true, true, true, true, true, true, true, true, true, true, false, false, false, false, false, false, false, false, false, false, false, false, false, false, false, false, false, false, false, false] rfl rfl (by kernel_rfl) (fun _ _ _ h => h) (Or.inl ⟨by rfl, ?_⟩) ?_ ?_
                      rotate_left
                      · intro w'
                        go_simp
                        with_reducible rfl
                      rotate_left
                      · simp only [Act.put, List.setIfInBounds_toArray, List.set_cons_zero, List.set_cons_succ, i64_w, i32_w]
                        rfl
                      refine pure_ (i := 12) (N := some 142) (v := ?_) (a' := ?_) #[true, true, true, true, true, true, true, true, true, true, true, true, true, false, false, false, false, false, false, false, false, false, false, false, false, false, false, false, false, false, false, false] rfl rfl (by kernel_rfl) (fun _ _ _ h => h) (Or.inl ⟨by rfl, ?_⟩) ?_ ?_
                      rotate_left
                      · intro w'
                        go_simp
                        with_reducible rfl
                      rotate_left
                      · simp only [Act.put, List.setIfInBounds_toArray, List.set_cons_zero, List.set_cons_succ, i64_w, i32_w]
                        rfl
                      refine pure_ (i := 14) (N := some 144) (v := ?_) (a' := ?_) #[true, true, true, true, true, true, true, true, true, true, true, true, true, false, true, false, false, false, false, false, false, false, false, false, false, false, false, false, false, false, false, false] rfl rfl (by kernel_rfl) (fun _ _ _ h => h) (Or.inl ⟨by rfl, ?_⟩) ?_ ?_
                      rotate_left
                      · intro w'
                        go_simp
                        with_reducible rfl
                      rotate_left
                      · simp only [Act.put, List.setIfInBounds_toArray, List.set_cons_zero, List.set_cons_succ, i64_w, i32_w]
                        rfl
                      refine pure_ (i := 16) (N := some 146) (v := ?_) (a' := ?_) #[true, true, true, true, true, true, true, true, true, true, true, true, true, false, true, false, true, false, false, false, false, false, false, false, false, false, false, false, false, false, false, false] rfl rfl (by kernel_rfl) (fun _ _ _ h => h) (Or.inl ⟨by rfl, ?_⟩) ?_ ?_
                      rotate_left
                      · intro w'
                        go_simp
                        with_reducible rfl
                      rotate_left
                      · simp only [Act.put, List.setIfInBounds_toArray, List.set_cons_zero, List.set_cons_succ, i64_w, i32_w]
                        rfl
                      refine pure_ (i := 18) (N := some 148) (v := ?_) (a' := ?_) #[true, true, true, true, true, true, true, true, true, true, true, true, true, false, true, false, true, false, true, false, false, false, false, false, false, false, false, false, false, false, false, false] rfl rfl (by kernel_rfl) (fun _ _ _ h => h) (Or.inl ⟨by rfl, ?_⟩) ?_ ?_
                      rotate_left
                      · intro w'
                        go_simp
                        with_reducible rfl
                      rotate_left
                      · simp only [Act.put, List.setIfInBounds_toArray, List.set_cons_zero, List.set_cons_succ, i64_w, i32_w]
                        rfl
                      refine pure_ (i := 19) (N := some 149) (v := ?_) (a' := ?_) #[true, true, true, true, true, true, true, true, true, true, true, true, true, false, true, false, true, false, true, true, false, false, false, false, false, false, false, false, false, false, false, false] rfl rfl (by kernel_rfl) (fun _ _ _ h => h) (Or.inl ⟨by rfl, ?_⟩) ?_ ?_
                      rotate_left
                      · intro w'
                        go_simp
                        with_reducible rfl
                      rotate_left
                      · simp only [Act.put, List.setIfInBounds_toArray, List.set_cons_zero, List.set_cons_succ, i64_w, i32_w]
                        rfl
                      refine take_ (i := 13) (N := some 143) (v := ?_) (a' := ?_) #[true, true, true, true, true, true, true, true, true, true, true, true, true, true, true, false, true, false, true, true, false, false, false, false, false, false, false, false, false, false, false, false] rfl rfl (by kernel_rfl) (fun _ _ _ h => h) (Or.inl ⟨by rfl, ?_⟩) hHeld ?_ ?_
                      rotate_left
                      · rintro w' ⟨s0, s1, s2⟩
                        go_simp
                        with_reducible rfl
                      rotate_left
                      · simp only [Act.put, List.setIfInBounds_toArray, List.set_cons_zero, List.set_cons_succ, i64_w, i32_w]
                        rfl
                      refine take_ (i := 15) (N := some 145) (v := ?_) (a' := ?_) #[true, true, true, true, true, true, true, true, true, true, true, true, true, true, true, true, true, false, true, true, false, false, false, false, false, false, false, false, false, false, false, false] rfl rfl (by kernel_rfl) (fun _ _ _ h => h) (Or.inl ⟨by rfl, ?_⟩) hHeld ?_ ?_
                      rotate_left
                      · rintro w' ⟨s0, s1, s2⟩
                        go_simp
                        with_reducible rfl
                      rotate_left
                      · simp only [Act.put, List.setIfInBounds_toArray, List.set_cons_zero, List.set_cons_succ, i64_w, i32_w]
                        rfl
                      refine take_ (i := 17) (N := some 147) (v := ?_) (a' := ?_) #[true, true, true, true, true, true, true, true, true, true, true, true, true, true, true, true, true, true, true, true, false, false, false, false, false, false, false, false, false, false, false, false] rfl rfl (by kernel_rfl) (fun _ _ _ h => h) (Or.inl ⟨by rfl, ?_⟩) hHeld ?_ ?_
                      rotate_left
                      · rintro w' ⟨s0, s1, s2⟩
                        go_simp
                        with_reducible rfl
                      rotate_left
                      · simp only [Act.put, List.setIfInBounds_toArray, List.set_cons_zero, List.set_cons_succ, i64_w, i32_w]
                        rfl
                      refine one_ (i := 20) (N := none) #[true, true, true, true, true, true, true, true, true, true, true, true, true, true, true, true, true, true, true, true, true, false, false, false, false, false, false, false, false, false, false, false] rfl rfl (by kernel_rfl) (by decide) (fun K hK => ?_)
                      refine skip_ (w1 := ?_) (by rfl) rfl ?_ ?_
                      rotate_left
                      · go_simp
                        rfl
                      obtain ⟨w3, hhw3⟩ : ∃ W, W = (World.setCell W2 ⟨gl, n * 10 + 5, none⟩ (.int .i64 ((k : Int) + 1))).drew := ⟨_, rfl⟩
                      try rw [w64 ((k : Int) + 1) (by omega) (by omega)]
                      rw [← hhw3]
                      have ppw3 := T2.out.put_ n (by rw [List.length_set]; exact hn) (cs := cc c2 vd vo vk) rfl C2.out 5 (by decide) (.int .i64 ((k : Int) + 1)) (c' := { c2 with to_ := (k : Int) + 1 }) (cly_fk (c := { c2 with to_ := (k : Int) + 1 }) (vd := vd) (vo := vo) (vk := vk) (Kd.V_step VDw.out (fun i hi _ => T2.out.bl.block i hi)) (Kd.V_step VOw.out (fun i hi _ => T2.out.bl.block i hi)) (Kd.V_step VKw.out (fun i hi _ => T2.out.bl.block i hi)))
                      rw [List.set_set] at ppw3
                      have Fw3 : Aside0 (∀ i, World.frozen? w3 ⟨gl, n * 10 + i, none⟩ = false) := ⟨fun i => by rw [hhw3]; exact (World.frozen?_setCell _ _ _ _).trans (F2.out i)⟩
                      have Tw3 : Aside0 (Three w w3 g mb (fun k => k = p ∨ k = q) (h.add x a) (k + 1) (.slice (some ⟨gl, 0, none⟩) ws.length c4) (ws.set n { c2 with to_ := (k : Int) + 1 }) (.slice (some ⟨ge, 0, none⟩) ws.length c5) (es)) := ⟨by rw [hhw3]; exact ppw3.1.below (below_drew (Below.refl _ _))⟩
                      have Cw3 : Aside0 (∀ i u, (cc { c2 with to_ := (k : Int) + 1 } vd vo vk)[i]? = some u → World.cell? w3 ⟨gl, n * 10 + i, none⟩ = some u) := ⟨by rw [hhw3]; exact ppw3.2.1⟩
                      have BQw3 : Aside0 (w3.heap[q]? = some (.cells #[.int .i64 a.e, .int .i64 a.task, .bool a.done, .int .i64 a.mark, .slice D a.data.length dc, .slice Ks0 a.keys.length kc] 35 (0, 0))) := ⟨by rw [hhw3]; exact (ppw3.2.2 q HPG.out).trans BQ2.out⟩
                      clear ppw3 hhw3
                      have k7 : w3.cell? ⟨gl, n * 10 + 7, none⟩ = some _ := Cw3.out 7 _ rfl
                      have f7 : w3.frozen? ⟨gl, n * 10 + 7, none⟩ = false := Fw3.out 7
                      refine hK.out _ _ ⟨((blk_cell BQw3.out 0).trans rfl), ((blk_cell BQw3.out 4).trans rfl), ((blk_cell BQw3.out 5).trans rfl)⟩ (fun hHeld => ?_)
                      clear hK K
                      refine pure_ (i := 21) (N := some 150) (v := ?_) (a' := ?_) #[true, true, true, true, true, true, true, true, true, true, true, true, true, true, true, true, true, true, true, true, true, true, false, false, false, false, false, false, false, false, false, false] rfl rfl (by kernel_rfl) (fun _ _ _ h => h) (Or.inl ⟨by rfl, ?_⟩) ?_ ?_
                      rotate_left
                      · intro w'
                        go_simp
                        with_reducible rfl
                      rotate_left
                      · simp only [Act.put, List.setIfInBounds_toArray, List.set_cons_zero, List.set_cons_succ, i64_w, i32_w]
                        rfl
                      refine pure_ (i := 22) (N := some 151) (v := ?_) (a' := ?_) #[true, true, true, true, true, true, true, true, true, true, true, true, true, true, true, true, true, true, true, true, true, true, true, false, false, false, false, false, false, false, false, false] rfl rfl (by kernel_rfl) (fun _ _ _ h => h) (Or.inl ⟨by rfl, ?_⟩) ?_ ?_
                      rotate_left
                      · intro w'
                        go_simp
                        with_reducible rfl
                      rotate_left
                      · simp only [Act.put, List.setIfInBounds_toArray, List.set_cons_zero, List.set_cons_succ, i64_w, i32_w]
                        rfl
                      refine one_ (i := 23) (N := none) #[true, true, true, true, true, true, true, true, true, true, true, true, true, true, true, true, true, true, true, true, true, true, true, true, false, false, false, false, false, false, false, false] rfl rfl (by kernel_rfl) (by decide) (fun K hK => ?_)
                      refine skip_ (w1 := ?_) (by rfl) rfl ?_ ?_
                      rotate_left
                      · go_simp
                        rfl
                      obtain ⟨w4, hhw4⟩ : ∃ W, W = World.setCell w3 ⟨gl, n * 10 + 7, none⟩ (.int .i64 a.e) := ⟨_, rfl⟩
                      rw [← hhw4]
                      have ppw4 := Tw3.out.put_ n (by rw [List.length_set]; exact hn) (cs := cc { c2 with to_ := (k : Int) + 1 } vd vo vk) rfl Cw3.out 7 (by decide) (.int .i64 a.e) (c' := { c2 with to_ := (k : Int) + 1, e := a.e }) (cly_fk (c := { c2 with to_ := (k : Int) + 1, e := a.e }) (vd := vd) (vo := vo) (vk := vk) (Kd.V_step VDw.out (fun i hi _ => Tw3.out.bl.block i hi)) (Kd.V_step VOw.out (fun i hi _ => Tw3.out.bl.block i hi)) (Kd.V_step VKw.out (fun i hi _ => Tw3.out.bl.block i hi)))
                      rw [← hhw4, List.set_set] at ppw4
                      have Fw4 : Aside0 (∀ i, World.frozen? w4 ⟨gl, n * 10 + i, none⟩ = false) := ⟨fun i => by rw [hhw4]; exact (World.frozen?_setCell _ _ _ _).trans (Fw3.out i)⟩
                      have Tw4 : Aside0 (Three w w4 g mb (fun k => k = p ∨ k = q) (h.add x a) (k + 1) (.slice (some ⟨gl, 0, none⟩) ws.length c4) (ws.set n { c2 with to_ := (k : Int) + 1, e := a.e }) (.slice (some ⟨ge, 0, none⟩) ws.length c5) (es)) := ⟨ppw4.1⟩
                      have Cw4 : Aside0 (∀ i u, (cc { c2 with to_ := (k : Int) + 1, e := a.e } vd vo vk)[i]? = some u → World.cell? w4 ⟨gl, n * 10 + i, none⟩ = some u) := ⟨ppw4.2.1⟩
                      have BQw4 : Aside0 (w4.heap[q]? = some (.cells #[.int .i64 a.e, .int .i64 a.task, .bool a.done, .int .i64 a.mark, .slice D a.data.length dc, .slice Ks0 a.keys.length kc] 35 (0, 0))) := ⟨(ppw4.2.2 q HPG.out).trans BQw3.out⟩
                      clear ppw4 hhw4
                      have k8 : w4.cell? ⟨gl, n * 10 + 8, none⟩ = some _ := Cw4.out 8 _ rfl
                      have f8 : w4.frozen? ⟨gl, n * 10 + 8, none⟩ = false := Fw4.out 8
                      refine hK.out _ _ ⟨((blk_cell BQw4.out 0).trans rfl), ((blk_cell BQw4.out 4).trans rfl), ((blk_cell BQw4.out 5).trans rfl)⟩ (fun hHeld => ?_)
                      clear hK K
                      refine pure_ (i := 24) (N := some 152) (v := ?_) (a' := ?_) #[true, true, true, true, true, true, true, true, true, true, true, true, true, true, true, true, true, true, true, true, true, true, true, true, true, false, false, false, false, false, false, false] rfl rfl (by kernel_rfl) (fun _ _ _ h => h) (Or.inl ⟨by rfl, ?_⟩) ?_ ?_
                      rotate_left
                      · intro w'
                        go_simp
                        with_reducible rfl
                      rotate_left
                      · simp only [Act.put, List.setIfInBounds_toArray, List.set_cons_zero, List.set_cons_succ, i64_w, i32_w]
                        rfl
                      refine pure_ (i := 25) (N := some 153) (v := ?_) (a' := ?_) #[true, true, true, true, true, true, true, true, true, true, true, true, true, true, true, true, true, true, true, true, true, true, true, true, true, true, false, false, false, false, false, false] rfl rfl (by kernel_rfl) (fun _ _ _ h => h) (Or.inl ⟨by rfl, ?_⟩) ?_ ?_
                      rotate_left
                      · intro w'
                        go_simp
                        with_reducible rfl
                      rotate_left
                      · simp only [Act.put, List.setIfInBounds_toArray, List.set_cons_zero, List.set_cons_succ, i64_w, i32_w]
                        rfl
                      refine one_ (i := 26) (N := none) #[true, true, true, true, true, true, true, true, true, true, true, true, true, true, true, true, true, true, true, true, true, true, true, true, true, true, true, false, false, false, false, false] rfl rfl (by kernel_rfl) (by decide) (fun K hK => ?_)
                      refine skip_ (w1 := ?_) (by rfl) rfl ?_ ?_
                      rotate_left
                      · go_simp
                        rfl
                      obtain ⟨w5, hhw5⟩ : ∃ W, W = World.setCell w4 ⟨gl, n * 10 + 8, none⟩ (.slice D a.data.length dc) := ⟨_, rfl⟩
                      rw [← hhw5]
                      have ppw5 := Tw4.out.put_ n (by rw [List.length_set]; exact hn) (cs := cc { c2 with to_ := (k : Int) + 1, e := a.e } vd vo vk) rfl Cw4.out 8 (by decide) (.slice D a.data.length dc) (c' := { c2 with to_ := (k : Int) + 1, e := a.e, out := a.data }) (cly_fk (c := { c2 with to_ := (k : Int) + 1, e := a.e, out := a.data }) (vd := vd) (vo := (.slice D a.data.length dc)) (vk := vk) (Kd.V_step VDw.out (fun i hi _ => Tw4.out.bl.block i hi)) (Kd.V_step HVX.out.2.1 (fun i hi _ => Tw4.out.bl.block i hi)) (Kd.V_step VKw.out (fun i hi _ => Tw4.out.bl.block i hi)))
                      rw [← hhw5, List.set_set] at ppw5
                      have Fw5 : Aside0 (∀ i, World.frozen? w5 ⟨gl, n * 10 + i, none⟩ = false) := ⟨fun i => by rw [hhw5]; exact (World.frozen?_setCell _ _ _ _).trans (Fw4.out i)⟩
                      have Tw5 : Aside0 (Three w w5 g mb (fun k => k = p ∨ k = q) (h.add x a) (k + 1) (.slice (some ⟨gl, 0, none⟩) ws.length c4) (ws.set n { c2 with to_ := (k : Int) + 1, e := a.e, out := a.data }) (.slice (some ⟨ge, 0, none⟩) ws.length c5) (es)) := ⟨ppw5.1⟩
                      have Cw5 : Aside0 (∀ i u, (cc { c2 with to_ := (k : Int) + 1, e := a.e, out := a.data } vd (.slice D a.data.length dc) vk)[i]? = some u → World.cell? w5 ⟨gl, n * 10 + i, none⟩ = some u) := ⟨ppw5.2.1⟩
                      have BQw5 : Aside0 (w5.heap[q]? = some (.cells #[.int .i64 a.e, .int .i64 a.task, .bool a.done, .int .i64 a.mark, .slice D a.data.length dc, .slice Ks0 a.keys.length kc] 35 (0, 0))) := ⟨(ppw5.2.2 q HPG.out).trans BQw4.out⟩
                      clear ppw5 hhw5
                      have k9 : w5.cell? ⟨gl, n * 10 + 9, none⟩ = some _ := Cw5.out 9 _ rfl
                      have f9 : w5.frozen? ⟨gl, n * 10 + 9, none⟩ = false := Fw5.out 9
                      refine hK.out _ _ ⟨((blk_cell BQw5.out 0).trans rfl), ((blk_cell BQw5.out 4).trans rfl), ((blk_cell BQw5.out 5).trans rfl)⟩ (fun hHeld => ?_)
                      clear hK K
                      refine pure_ (i := 27) (N := some 154) (v := ?_) (a' := ?_) #[true, true, true, true, true, true, true, true, true, true, true, true, true, true, true, true, true, true, true, true, true, true, true, true, true, true, true, true, false, false, false, false] rfl rfl (by kernel_rfl) (fun _ _ _ h => h) (Or.inl ⟨by rfl, ?_⟩) ?_ ?_
                      rotate_left
                      · intro w'
                        go_simp
                        with_reducible rfl
                      rotate_left
                      · simp only [Act.put, List.setIfInBounds_toArray, List.set_cons_zero, List.set_cons_succ, i64_w, i32_w]
                        rfl
                      refine pure_ (i := 28) (N := some 155) (v := ?_) (a' := ?_) #[true, true, true, true, true, true, true, true, true, true, true, true, true, true, true, true, true, true, true, true, true, true, true, true, true, true, true, true, true, false, false, false] rfl rfl (by kernel_rfl) (fun _ _ _ h => h) (Or.inl ⟨by rfl, ?_⟩) ?_ ?_
                      rotate_left
                      · intro w'
                        go_simp
                        with_reducible rfl
                      rotate_left
                      · simp only [Act.put, List.setIfInBounds_toArray, List.set_cons_zero, List.set_cons_succ, i64_w, i32_w]
                        rfl
                      refine one_ (i := 29) (N := none) #[true, true, true, true, true, true, true, true, true, true, true, true, true, true, true, true, true, true, true, true, true, true, true, true, true, true, true, true, true, true, false, false] rfl rfl (by kernel_rfl) (by decide) (fun K hK => ?_)
                      refine skip_ (w1 := ?_) (by rfl) rfl ?_ ?_
                      rotate_left
                      · go_simp
                        rfl
                      obtain ⟨w6, hhw6⟩ : ∃ W, W = World.setCell w5 ⟨gl, n * 10 + 9, none⟩ (.slice Ks0 a.keys.length kc) := ⟨_, rfl⟩
                      rw [← hhw6]
                      have ppw6 := Tw5.out.put_ n (by rw [List.length_set]; exact hn) (cs := cc { c2 with to_ := (k : Int) + 1, e := a.e, out := a.data } vd (.slice D a.data.length dc) vk) rfl Cw5.out 9 (by decide) (.slice Ks0 a.keys.length kc) (c' := { c2 with to_ := (k : Int) + 1, e := a.e, out := a.data, keys := a.keys }) (cly_fk (c := { c2 with to_ := (k : Int) + 1, e := a.e, out := a.data, keys := a.keys }) (vd := vd) (vo := (.slice D a.data.length dc)) (vk := (.slice Ks0 a.keys.length kc)) (Kd.V_step VDw.out (fun i hi _ => Tw5.out.bl.block i hi)) (Kd.V_step HVX.out.2.1 (fun i hi _ => Tw5.out.bl.block i hi)) (Kd.V_step HVX.out.2.2 (fun i hi _ => Tw5.out.bl.block i hi)))
                      rw [← hhw6, List.set_set] at ppw6
                      have Fw6 : Aside0 (∀ i, World.frozen? w6 ⟨gl, n * 10 + i, none⟩ = false) := ⟨fun i => by rw [hhw6]; exact (World.frozen?_setCell _ _ _ _).trans (Fw5.out i)⟩
                      have Tw6 : Aside0 (Three w w6 g mb (fun k => k = p ∨ k = q) (h.add x a) (k + 1) (.slice (some ⟨gl, 0, none⟩) ws.length c4) (ws.set n { c2 with to_ := (k : Int) + 1, e := a.e, out := a.data, keys := a.keys }) (.slice (some ⟨ge, 0, none⟩) ws.length c5) (es)) := ⟨ppw6.1⟩
                      have Cw6 : Aside0 (∀ i u, (cc { c2 with to_ := (k : Int) + 1, e := a.e, out := a.data, keys := a.keys } vd (.slice D a.data.length dc) (.slice Ks0 a.keys.length kc))[i]? = some u → World.cell? w6 ⟨gl, n * 10 + i, none⟩ = some u) := ⟨ppw6.2.1⟩
                      have BQw6 : Aside0 (w6.heap[q]? = some (.cells #[.int .i64 a.e, .int .i64 a.task, .bool a.done, .int .i64 a.mark, .slice D a.data.length dc, .slice Ks0 a.keys.length kc] 35 (0, 0))) := ⟨(ppw6.2.2 q HPG.out).trans BQw5.out⟩
                      clear ppw6 hhw6
                      obtain ⟨ke, fe⟩ := Tw6.out.end_cell n (by have := HEL.out; omega)
                      refine hK.out _ _ ⟨((blk_cell BQw6.out 0).trans rfl), ((blk_cell BQw6.out 4).trans rfl), ((blk_cell BQw6.out 5).trans rfl)⟩ (fun hHeld => ?_)
                      clear hK K
                      refine pure_ (i := 30) (N := some 156) (v := ?_) (a' := ?_) #[true, true, true, true, true, true, true, true, true, true, true, true, true, true, true, true, true, true, true, true, true, true, true, true, true, true, true, true, true, true, true, false] rfl rfl (by kernel_rfl) (fun _ _ _ h => h) (Or.inl ⟨by rfl, ?_⟩) ?_ ?_
                      rotate_left
                      · intro w'
                        go_simp
                        with_reducible rfl
                      rotate_left
                      · simp only [Act.put, List.setIfInBounds_toArray, List.set_cons_zero, List.set_cons_succ, i64_w, i32_w]
                        rfl
                      refine last_ (i := 31) (N := none) #[true, true, true, true, true, true, true, true, true, true, true, true, true, true, true, true, true, true, true, true, true, true, true, true, true, true, true, true, true, true, true, true] rfl rfl (by kernel_rfl) (by decide) (fun K hK => ?_)
                      refine skip_ (w1 := ?_) (by rfl) rfl ?_ ?_
                      rotate_left
                      · go_simp
                        rfl
                      refine hK.out _ _ ?_
                      clear hK K
                      refine done_ (by kernel_rfl) ?_
                      have TE := Aside0.mk (Tw6.out.end_ n true).1
                      have HFD : Aside0 (foundD (ws.getD n clz) k a = { c2 with to_ := (k : Int) + 1, e := a.e, out := a.data, keys := a.keys }) := ⟨by unfold foundD; rw [HFc.out]⟩
                      go_wp2_with fail
                      go_roundw
                      case rel => exact ⟨k + 1, h.add x a, _, _, by omega, by go_num, ⟨TE.out.less (fun _ (e : False) => e.elim)⟩, ⟨by rw [← HFD.out]; exact HRUN.out⟩⟩
                      case measure => simp [intOf] <;> omega
                  · have hm : (a.mark != 0) = true := by simpa using hmk
                    have HF : Aside0 (foundC c0 k a = { c0 with at_ := (k : Int) + 1 }) := ⟨by unfold foundC; rw [if_neg hmk]⟩
                    clear hmk
                    have hput := T1.out.put_ n hn (cs := cc c0 vd vo vk) rfl C1.out 6 (by decide) (.int .i64 ((k : Int) + 1)) (c' := { c0 with at_ := (k : Int) + 1 }) (cly_fk (Kd.V_step VDw.out (fun i hi _ => T1.out.bl.block i hi)) (Kd.V_step VOw.out (fun i hi _ => T1.out.bl.block i hi)) (Kd.V_step VKw.out (fun i hi _ => T1.out.bl.block i hi)))
                    obtain ⟨W2, hW2⟩ : ∃ W2, W2 = W1.setCell ⟨gl, n * 10 + 6, none⟩ (.int .i64 ((k : Int) + 1)) := ⟨_, rfl⟩
                    rw [← hW2] at hput
                    have F2 : Aside0 (∀ i, W2.frozen? ⟨gl, n * 10 + i, none⟩ = false) := ⟨fun i => by rw [hW2]; exact (World.frozen?_setCell _ _ _ _).trans (F1.out i)⟩
                    have HPUT := Aside0.mk hput
                    have BQ2 : Aside0 (W2.heap[q]? = some (.cells #[.int .i64 a.e, .int .i64 a.task, .bool a.done, .int .i64 a.mark, .slice D a.data.length dc, .slice Ks0 a.keys.length kc] 35 (0, 0))) := ⟨(HPUT.out.2.2 q HPG.out).trans BQ1.out⟩
                    have z2' : W2.cell? ⟨q, 2, none⟩ = some (.bool a.done) := (blk_cell BQ2.out 2).trans rfl
                    obtain ⟨c2, hc2⟩ : ∃ c : Cl, c = { c0 with at_ := (k : Int) + 1 } := ⟨_, rfl⟩
                    have T2 : Aside0 (Three w W2 g mb (fun k => k = p ∨ k = q) (h.add x a) (k + 1) (.slice (some ⟨gl, 0, none⟩) ws.length c4) (ws.set n c2) (.slice (some ⟨ge, 0, none⟩) ws.length c5) es) := ⟨by rw [hc2]; exact HPUT.out.1⟩
                    have C2 : Aside0 (∀ i u, (cc c2 vd vo vk)[i]? = some u → W2.cell? ⟨gl, n * 10 + i, none⟩ = some u) := ⟨by rw [hc2]; exact HPUT.out.2.1⟩
                    have HFc : Aside0 (foundC (ws.getD n clz) k a = c2) := ⟨by rw [← HC0.out, hc2]; exact HF.out⟩
                    have VD2 : Aside0 (Vb w (fun k => k < w.heap.size) vd c2.data) := ⟨by rw [hc2]; exact VDw.out⟩
                    have VO2 : Aside0 (Vb w (fun k => k < w.heap.size) vo c2.out) := ⟨by rw [hc2]; exact VOw.out⟩
                    have VK2 : Aside0 (Vs w (fun k => k < w.heap.size) vk c2.keys) := ⟨by rw [hc2]; exact VKw.out⟩
                    clear VDw VOw VKw
                    have VDw := VD2
                    have VOw := VO2
                    have VKw := VK2
                    clear hput VD2 VO2 VK2
                    go_upto_region 30 with fail
                    rw [← hW2]
                    clear hW2 hc2 HF
                    cases hdn : a.done with
                    | false =>
                      have HRUN : Aside0 (Jn (h.add x a) (ws.set n c2) es (k + 1)) := ⟨by
                        have := HJ.out.run x a HK2.out n hn (HTN.out.symm.trans HTT.out) HEN.out.symm
                        rw [hdn, if_neg (by decide), if_neg (by decide), HFc.out] at this
                        exact this⟩
                      have z2'' : W2.cell? ⟨q, 2, none⟩ = some (.bool false) := by rw [z2', hdn]
                      clear z2'
                      go_wp2_with fail
                      go_roundw
                      case rel => exact ⟨k + 1, h.add x a, _, _, by omega, by go_num, ⟨T2.out.less (fun _ (e : False) => e.elim)⟩, HRUN⟩
                      case measure => simp [intOf] <;> omega
                    | true =>
                      have HRUN : Aside0 (Jn (h.add x a) (ws.set n (foundD (ws.getD n clz) k a)) (es.set n true) (k + 1)) := ⟨by
                        have := HJ.out.run x a HK2.out n hn (HTN.out.symm.trans HTT.out) HEN.out.symm
                        rw [hdn, if_pos rfl, if_pos rfl] at this
                        exact this⟩
                      have z2'' : W2.cell? ⟨q, 2, none⟩ = some (.bool true) := by rw [z2', hdn]
                      clear z2'
                      have T2d : Aside0 (Three w W2.drew g mb (fun k => k = p ∨ k = q) (h.add x a) (k + 1) (.slice (some ⟨gl, 0, none⟩) ws.length c4) (ws.set n c2) (.slice (some ⟨ge, 0, none⟩) ws.length c5) es) := ⟨T2.out.below (below_drew (Below.refl _ _))⟩
                      have C2d : Aside0 (∀ i u, (cc c2 vd vo vk)[i]? = some u → W2.drew.cell? ⟨gl, n * 10 + i, none⟩ = some u) := ⟨C2.out⟩
                      have F2d : Aside0 (∀ i, W2.drew.frozen? ⟨gl, n * 10 + i, none⟩ = false) := ⟨F2.out⟩
                      have BQ2d : Aside0 (W2.drew.heap[q]? = _) := ⟨BQ2.out⟩
                      have k5 : W2.cell? ⟨gl, n * 10 + 5, none⟩ = some _ := C2.out 5 _ rfl
                      have f5 : W2.frozen? ⟨gl, n * 10 + 5, none⟩ = false := F2.out 5
                      go_upto_region 31 with fail
                      refine start_ (n := 32) (S := fun w' => w'.cell? ⟨q, 0, none⟩ = some (.int .i64 a.e) ∧ w'.cell? ⟨q, 4, none⟩ = some (.slice D a.data.length dc) ∧ w'.cell? ⟨q, 5, none⟩ = some (.slice Ks0 a.keys.length kc)) (ds := [31]) #[false, false, false, false, false, false, false, false, false, false, false, false, false, false, false, false, false, false, false, false, false, false, false, false, false, false, false, false, false, false, false, false] (by kernel_rfl) rfl rfl ⟨((blk_cell BQ2.out 0).trans rfl), ((blk_cell BQ2.out 4).trans rfl), ((blk_cell BQ2.out 5).trans rfl)⟩ (fun hHeld => ?_)
                      refine pure_ (i := 0) (N := some 130) (v := ?_) (a' := ?_) #[true, false, false, false, false, false, false, false, false, false, false, false, false, false, false, false, false, false, false, false, false, false, false, false, false, false, false, false, false, false, false, false] rfl rfl (by kernel_rfl) (fun _ _ _ h => h) (Or.inl ⟨by rfl, ?_⟩) ?_ ?_
                      rotate_left
                      · intro w'
                        go_simp
                        with_reducible rfl
                      rotate_left
                      · simp only [Act.put, List.setIfInBounds_toArray, List.set_cons_zero, List.set_cons_succ, i64_w, i32_w]
                        rfl
                      refine pure_ (i := 1) (N := some 131) (v := ?_) (a' := ?_) #[true, true, false, false, false, false, false, false, false, false, false, false, false, false, false, false, false, false, false, false, false, false, false, false, false, false, false, false, false, false, false, false] rfl rfl (by kernel_rfl) (fun _ _ _ h => h) (Or.inl ⟨by rfl, ?_⟩) ?_ ?_
                      rotate_left
                      · intro w'
                        go_simp
                        with_reducible rfl
                      rotate_left
                      · simp only [Act.put, List.setIfInBounds_toArray, List.set_cons_zero, List.set_cons_succ, i64_w, i32_w]
                        rfl
                      refine pure_ (i := 2) (N := some 132) (v := ?_) (a' := ?_) #[true, true, true, false, false, false, false, false, false, false, false, false, false, false, false, false, false, false, false, false, false, false, false, false, false, false, false, false, false, false, false, false] rfl rfl (by kernel_rfl) (fun _ _ _ h => h) (Or.inl ⟨by rfl, ?_⟩) ?_ ?_
                      rotate_left
                      · intro w'
                        go_simp
                        with_reducible rfl
                      rotate_left
                      · simp only [Act.put, List.setIfInBounds_toArray, List.set_cons_zero, List.set_cons_succ, i64_w, i32_w]
                        rfl
                      refine pure_ (i := 3) (N := some 133) (v := ?_) (a' := ?_) #[true, true, true, true, false, false, false, false, false, false, false, false, false, false, false, false, false, false, false, false, false, false, false, false, false, false, false, false, false, false, false, false] rfl rfl (by kernel_rfl) (fun _ _ _ h => h) (Or.inl ⟨by rfl, ?_⟩) ?_ ?_
                      rotate_left
                      · intro w'
                        go_simp
                        with_reducible rfl
                      rotate_left
                      · simp only [Act.put, List.setIfInBounds_toArray, List.set_cons_zero, List.set_cons_succ, i64_w, i32_w]
                        rfl
                      refine pure_ (i := 4) (N := some 134) (v := ?_) (a' := ?_) #[true, true, true, true, true, false, false, false, false, false, false, false, false, false, false, false, false, false, false, false, false, false, false, false, false, false, false, false, false, false, false, false] rfl rfl (by kernel_rfl) (fun _ _ _ h => h) (Or.inl ⟨by rfl, ?_⟩) ?_ ?_
                      rotate_left
                      · intro w'
                        go_simp
                        with_reducible rfl
                      rotate_left
                      · simp only [Act.put, List.setIfInBounds_toArray, List.set_cons_zero, List.set_cons_succ, i64_w, i32_w]
                        rfl
                      refine pure_ (i := 5) (N := some 135) (v := ?_) (a' := ?_) #[true, true, true, true, true, true, false, false, false, false, false, false, false, false, false, false, false, false, false, false, false, false, false, false, false, false, false, false, false, false, false, false] rfl rfl (by kernel_rfl) (fun _ _ _ h => h) (Or.inl ⟨by rfl, ?_⟩) ?_ ?_
                      rotate_left
                      · intro w'
                        go_simp
                        with_reducible rfl
                      rotate_left
                      · simp only [Act.put, List.setIfInBounds_toArray, List.set_cons_zero, List.set_cons_succ, i64_w, i32_w]
                        rfl
                      refine pure_ (i := 6) (N := some 136) (v := ?_) (a' := ?_) #[true, true, true, true, true, true, true, false, false, false, false, false, false, false, false, false, false, false, false, false, false, false, false, false, false, false, false, false, false, false, false, false] rfl rfl (by kernel_rfl) (fun _ _ _ h => h) (Or.inl ⟨by rfl, ?_⟩) ?_ ?_
                      rotate_left
                      · intro w'
                        go_simp
                        with_reducible rfl
                      rotate_left
                      · simp only [Act.put, List.setIfInBounds_toArray, List.set_cons_zero, List.set_cons_succ, i64_w, i32_w]
                        rfl
                      refine pure_ (i := 7) (N := some 137) (v := ?_) (a' := ?_) #[true, true, true, true, true, true, true, true, false, false, false, false, false, false, false, false, false, false, false, false, false, false, false, false, false, false, false, false, false, false, false, false] rfl rfl (by kernel_rfl) (fun _ _ _ h => h) (Or.inl ⟨by rfl, ?_⟩) ?_ ?_
                      rotate_left
                      · intro w'
                        go_simp
                        with_reducible rfl
                      rotate_left
                      · simp only [Act.put, List.setIfInBounds_toArray, List.set_cons_zero, List.set_cons_succ, i64_w, i32_w]
                        rfl
                      refine pure_ (i := 8) (N := some 138) (v := ?_) (a' := ?_) #[true, true, true, true, true, true, true, true, true, false, false, false, false, false, false, false, false, false, false, false, false, false, false, false, false, false, false, false, false, false, false, false] rfl rfl (by kernel_rfl) (fun _ _ _ h => h) (Or.inl ⟨by rfl, ?_⟩) ?_ ?_
                      rotate_left
                      · intro w'
                        go_simp
                        with_reducible rfl
                      rotate_left
                      · simp only [Act.put, List.setIfInBounds_toArray, List.set_cons_zero, List.set_cons_succ, i64_w, i32_w]
                        rfl
                      refine pure_ (i := 9) (N := some 139) (v := ?_) (a' := ?_) #[true, true, true, true, true, true, true, true, true, true, false, false, false, false, false, false, false, false, false, false, false, false, false, false, false, false, false, false, false, false, false, false] rfl rfl (by kernel_rfl) (fun _ _ _ h => h) (Or.inl ⟨by rfl, ?_⟩) ?_ ?_
                      rotate_left
                      · intro w'
                        go_simp
                        with_reducible rfl
                      rotate_left
                      · simp only [Act.put, List.setIfInBounds_toArray, List.set_cons_zero, List.set_cons_succ, i64_w, i32_w]
                        rfl
                      refine pure_ (i := 10) (N := some 140) (v := ?_) (a' := ?_) #[true, true, true, true, true, true, true, true, true, true, true, false, false, false, false, false, false, false, false, false, false, false, false, false, false, false, false, false, false, false, false, false] rfl rfl (by kernel_rfl) (fun _ _ _ h => h) (Or.inl ⟨by rfl, ?_⟩) ?_ ?_
                      rotate_left
                      · intro w'
                        go_simp
                        with_reducible rfl
                      rotate_left
                      · simp only [Act.put, List.setIfInBounds_toArray, List.set_cons_zero, List.set_cons_succ, i64_w, i32_w]
                        rfl
                      refine pure_ (i := 11) (N := some 141) (v := ?_) (a' := ?_) #[true, true, true, true, true, true, true, true, true, true, true, true, false, false, false, false, false, false, false, false, false, false, false, false, false, false, false, false, false, false, false, false] rfl rfl (by kernel_rfl) (fun _ _ _ h => h) (Or.inl ⟨by rfl, ?_⟩) ?_ ?_
                      rotate_left
                      · intro w'
                        go_simp
                        with_reducible rfl
                      rotate_left
                      · simp only [Act.put, List.setIfInBounds_toArray, List.set_cons_zero, List.set_cons_succ, i64_w, i32_w]
                        rfl
                      refine pure_ (i := 12) (N := some 142) (v := ?_) (a' := ?_) #[true, true, true, true, true, true, true, true, true, true, true, true, true, false, false, false, false, false, false, false, false, false, false, false, false, false, false, false, false, false, false, false] rfl rfl (by kernel_rfl) (fun _ _ _ h => h) (Or.inl ⟨by rfl, ?_⟩) ?_ ?_
                      rotate_left
                      · intro w'
                        go_simp
                        with_reducible rfl
                      rotate_left
                      · simp only [Act.put, List.setIfInBounds_toArray, List.set_cons_zero, List.set_cons_succ, i64_w, i32_w]
                        rfl
                      refine pure_ (i := 14) (N := some 144) (v := ?_) (a' := ?_) #[true, true, true, true, true, true, true, true, true, true, true, true, true, false, true, false, false, false, false, false, false, false, false, false, false, false, false, false, false, false, false, false] rfl rfl (by kernel_rfl) (fun _ _ _ h => h) (Or.inl ⟨by rfl, ?_⟩) ?_ ?_
                      rotate_left
                      · intro w'
                        go_simp
                        with_reducible rfl
                      rotate_left
                      · simp only [Act.put, List.setIfInBounds_toArray, List.set_cons_zero, List.set_cons_succ, i64_w, i32_w]
                        rfl
                      refine pure_ (i := 16) (N := some 146) (v := ?_) (a' := ?_) #[true, true, true, true, true, true, true, true, true, true, true, true, true, false, true, false, true, false, false, false, false, false, false, false, false, false, false, false, false, false, false, false] rfl rfl (by kernel_rfl) (fun _ _ _ h => h) (Or.inl ⟨by rfl, ?_⟩) ?_ ?_
                      rotate_left
                      · intro w'
                        go_simp
                        with_reducible rfl
                      rotate_left
                      · simp only [Act.put, List.setIfInBounds_toArray, List.set_cons_zero, List.set_cons_succ, i64_w, i32_w]
                        rfl
                      refine pure_ (i := 18) (N := some 148) (v := ?_) (a' := ?_) #[true, true, true, true, true, true, true, true, true, true, true, true, true, false, true, false, true, false, true, false, false, false, false, false, false, false, false, false, false, false, false, false] rfl rfl (by kernel_rfl) (fun _ _ _ h => h) (Or.inl ⟨by rfl, ?_⟩) ?_ ?_
                      rotate_left
                      · intro w'
                        go_simp
                        with_reducible rfl
                      rotate_left
                      · simp only [Act.put, List.setIfInBounds_toArray, List.set_cons_zero, List.set_cons_succ, i64_w, i32_w]
                        rfl
                      refine pure_ (i := 19) (N := some 149) (v := ?_) (a' := ?_) #[true, true, true, true, true, true, true, true, true, true, true, true, true, false, true, false, true, false, true, true, false, false, false, false, false, false, false, false, false, false, false, false] rfl rfl (by kernel_rfl) (fun _ _ _ h => h) (Or.inl ⟨by rfl, ?_⟩) ?_ ?_
                      rotate_left
                      · intro w'
                        go_simp
                        with_reducible rfl
                      rotate_left
                      · simp only [Act.put, List.setIfInBounds_toArray, List.set_cons_zero, List.set_cons_succ, i64_w, i32_w]
                        rfl
                      refine take_ (i := 13) (N := some 143) (v := ?_) (a' := ?_) #[true, true, true, true, true, true, true, true, true, true, true, true, true, true, true, false, true, false, true, true, false, false, false, false, false, false, false, false, false, false, false, false] rfl rfl (by kernel_rfl) (fun _ _ _ h => h) (Or.inl ⟨by rfl, ?_⟩) hHeld ?_ ?_
                      rotate_left
                      · rintro w' ⟨s0, s1, s2⟩
                        go_simp
                        with_reducible rfl
                      rotate_left
                      · simp only [Act.put, List.setIfInBounds_toArray, List.set_cons_zero, List.set_cons_succ, i64_w, i32_w]
                        rfl
                      refine take_ (i := 15) (N := some 145) (v := ?_) (a' := ?_) #[true, true, true, true, true, true, true, true, true, true, true, true, true, true, true, true, true, false, true, true, false, false, false, false, false, false, false, false, false, false, false, false] rfl rfl (by kernel_rfl) (fun _ _ _ h => h) (Or.inl ⟨by rfl, ?_⟩) hHeld ?_ ?_
                      rotate_left
                      · rintro w' ⟨s0, s1, s2⟩
                        go_simp
                        with_reducible rfl
                      rotate_left
                      · simp only [Act.put, List.setIfInBounds_toArray, List.set_cons_zero, List.set_cons_succ, i64_w, i32_w]
                        rfl
                      refine take_ (i := 17) (N := some 147) (v := ?_) (a' := ?_) #[true, true, true, true, true, true, true, true, true, true, true, true, true, true, true, true, true, true, true, true, false, false, false, false, false, false, false, false, false, false, false, false] rfl rfl (by kernel_rfl) (fun _ _ _ h => h) (Or.inl ⟨by rfl, ?_⟩) hHeld ?_ ?_
                      rotate_left
                      · rintro w' ⟨s0, s1, s2⟩
                        go_simp
                        with_reducible rfl
                      rotate_left
                      · simp only [Act.put, List.setIfInBounds_toArray, List.set_cons_zero, List.set_cons_succ, i64_w, i32_w]
                        rfl
                      refine one_ (i := 20) (N := none) #[true, true, true, true, true, true, true, true, true, true, true, true, true, true, true, true, true, true, true, true, true, false, false, false, false, false, false, false, false, false, false, false] rfl rfl (by kernel_rfl) (by decide) (fun K hK => ?_)
                      refine skip_ (w1 := ?_) (by rfl) rfl ?_ ?_
                      rotate_left
                      · go_simp
                        rfl
                      obtain ⟨w3, hhw3⟩ : ∃ W, W = (World.setCell W2 ⟨gl, n * 10 + 5, none⟩ (.int .i64 ((k : Int) + 1))).drew := ⟨_, rfl⟩
                      try rw [w64 ((k : Int) + 1) (by omega) (by omega)]
                      rw [← hhw3]
                      have ppw3 := T2.out.put_ n (by rw [List.length_set]; exact hn) (cs := cc c2 vd vo vk) rfl C2.out 5 (by decide) (.int .i64 ((k : Int) + 1)) (c' := { c2 with to_ := (k : Int) + 1 }) (cly_fk (c := { c2 with to_ := (k : Int) + 1 }) (vd := vd) (vo := vo) (vk := vk) (Kd.V_step VDw.out (fun i hi _ => T2.out.bl.block i hi)) (Kd.V_step VOw.out (fun i hi _ => T2.out.bl.block i hi)) (Kd.V_step VKw.out (fun i hi _ => T2.out.bl.block i hi)))
                      rw [List.set_set] at ppw3
                      have Fw3 : Aside0 (∀ i, World.frozen? w3 ⟨gl, n * 10 + i, none⟩ = false) := ⟨fun i => by rw [hhw3]; exact (World.frozen?_setCell _ _ _ _).trans (F2.out i)⟩
                      have Tw3 : Aside0 (Three w w3 g mb (fun k => k = p ∨ k = q) (h.add x a) (k + 1) (.slice (some ⟨gl, 0, none⟩) ws.length c4) (ws.set n { c2 with to_ := (k : Int) + 1 }) (.slice (some ⟨ge, 0, none⟩) ws.length c5) (es)) := ⟨by rw [hhw3]; exact ppw3.1.below (below_drew (Below.refl _ _))⟩
                      have Cw3 : Aside0 (∀ i u, (cc { c2 with to_ := (k : Int) + 1 } vd vo vk)[i]? = some u → World.cell? w3 ⟨gl, n * 10 + i, none⟩ = some u) := ⟨by rw [hhw3]; exact ppw3.2.1⟩
                      have BQw3 : Aside0 (w3.heap[q]? = some (.cells #[.int .i64 a.e, .int .i64 a.task, .bool a.done, .int .i64 a.mark, .slice D a.data.length dc, .slice Ks0 a.keys.length kc] 35 (0, 0))) := ⟨by rw [hhw3]; exact (ppw3.2.2 q HPG.out).trans BQ2.out⟩
                      clear ppw3 hhw3
                      have k7 : w3.cell? ⟨gl, n * 10 + 7, none⟩ = some _ := Cw3.out 7 _ rfl
                      have f7 : w3.frozen? ⟨gl, n * 10 + 7, none⟩ = false := Fw3.out 7
                      refine hK.out _ _ ⟨((blk_cell BQw3.out 0).trans rfl), ((blk_cell BQw3.out 4).trans rfl), ((blk_cell BQw3.out 5).trans rfl)⟩ (fun hHeld => ?_)
                      clear hK K
                      refine pure_ (i := 21) (N := some 150) (v := ?_) (a' := ?_) #[true, true, true, true, true, true, true, true, true, true, true, true, true, true, true, true, true, true, true, true, true, true, false, false, false, false, false, false, false, false, false, false] rfl rfl (by kernel_rfl) (fun _ _ _ h => h) (Or.inl ⟨by rfl, ?_⟩) ?_ ?_
                      rotate_left
                      · intro w'
                        go_simp
                        with_reducible rfl
                      rotate_left
                      · simp only [Act.put, List.setIfInBounds_toArray, List.set_cons_zero, List.set_cons_succ, i64_w, i32_w]
                        rfl
                      refine pure_ (i := 22) (N := some 151) (v := ?_) (a' := ?_) #[true, true, true, true, true, true, true, true, true, true, true, true, true, true, true, true, true, true, true, true, true, true, true, false, false, false, false, false, false, false, false, false] rfl rfl (by kernel_rfl) (fun _ _ _ h => h) (Or.inl ⟨by rfl, ?_⟩) ?_ ?_
                      rotate_left
                      · intro w'
                        go_simp
                        with_reducible rfl
                      rotate_left
                      · simp only [Act.put, List.setIfInBounds_toArray, List.set_cons_zero, List.set_cons_succ, i64_w, i32_w]
                        rfl
                      refine one_ (i := 23) (N := none) #[true, true, true, true, true, true, true, true, true, true, true, true, true, true, true, true, true, true, true, true, true, true, true, true, false, false, false, false, false, false, false, false] rfl rfl (by kernel_rfl) (by decide) (fun K hK => ?_)
                      refine skip_ (w1 := ?_) (by rfl) rfl ?_ ?_
                      rotate_left
                      · go_simp
                        rfl
                      obtain ⟨w4, hhw4⟩ : ∃ W, W = World.setCell w3 ⟨gl, n * 10 + 7, none⟩ (.int .i64 a.e) := ⟨_, rfl⟩
                      rw [← hhw4]
                      have ppw4 := Tw3.out.put_ n (by rw [List.length_set]; exact hn) (cs := cc { c2 with to_ := (k : Int) + 1 } vd vo vk) rfl Cw3.out 7 (by decide) (.int .i64 a.e) (c' := { c2 with to_ := (k : Int) + 1, e := a.e }) (cly_fk (c := { c2 with to_ := (k : Int) + 1, e := a.e }) (vd := vd) (vo := vo) (vk := vk) (Kd.V_step VDw.out (fun i hi _ => Tw3.out.bl.block i hi)) (Kd.V_step VOw.out (fun i hi _ => Tw3.out.bl.block i hi)) (Kd.V_step VKw.out (fun i hi _ => Tw3.out.bl.block i hi)))
                      rw [← hhw4, List.set_set] at ppw4
                      have Fw4 : Aside0 (∀ i, World.frozen? w4 ⟨gl, n * 10 + i, none⟩ = false) := ⟨fun i => by rw [hhw4]; exact (World.frozen?_setCell _ _ _ _).trans (Fw3.out i)⟩
                      have Tw4 : Aside0 (Three w w4 g mb (fun k => k = p ∨ k = q) (h.add x a) (k + 1) (.slice (some ⟨gl, 0, none⟩) ws.length c4) (ws.set n { c2 with to_ := (k : Int) + 1, e := a.e }) (.slice (some ⟨ge, 0, none⟩) ws.length c5) (es)) := ⟨ppw4.1⟩
                      have Cw4 : Aside0 (∀ i u, (cc { c2 with to_ := (k : Int) + 1, e := a.e } vd vo vk)[i]? = some u → World.cell? w4 ⟨gl, n * 10 + i, none⟩ = some u) := ⟨ppw4.2.1⟩
                      have BQw4 : Aside0 (w4.heap[q]? = some (.cells #[.int .i64 a.e, .int .i64 a.task, .bool a.done, .int .i64 a.mark, .slice D a.data.length dc, .slice Ks0 a.keys.length kc] 35 (0, 0))) := ⟨(ppw4.2.2 q HPG.out).trans BQw3.out⟩
                      clear ppw4 hhw4
                      have k8 : w4.cell? ⟨gl, n * 10 + 8, none⟩ = some _ := Cw4.out 8 _ rfl
                      have f8 : w4.frozen? ⟨gl, n * 10 + 8, none⟩ = false := Fw4.out 8
                      refine hK.out _ _ ⟨((blk_cell BQw4.out 0).trans rfl), ((blk_cell BQw4.out 4).trans rfl), ((blk_cell BQw4.out 5).trans rfl)⟩ (fun hHeld => ?_)
                      clear hK K
                      refine pure_ (i := 24) (N := some 152) (v := ?_) (a' := ?_) #[true, true, true, true, true, true, true, true, true, true, true, true, true, true, true, true, true, true, true, true, true, true, true, true, true, false, false, false, false, false, false, false] rfl rfl (by kernel_rfl) (fun _ _ _ h => h) (Or.inl ⟨by rfl, ?_⟩) ?_ ?_
                      rotate_left
                      · intro w'
                        go_simp
                        with_reducible rfl
                      rotate_left
                      · simp only [Act.put, List.setIfInBounds_toArray, List.set_cons_zero, List.set_cons_succ, i64_w, i32_w]
                        rfl
                      refine pure_ (i := 25) (N := some 153) (v := ?_) (a' := ?_) #[true, true, true, true, true, true, true, true, true, true, true, true, true, true, true, true, true, true, true, true, true, true, true, true, true, true, false, false, false, false, false, false] rfl rfl (by kernel_rfl) (fun _ _ _ h => h) (Or.inl ⟨by rfl, ?_⟩) ?_ ?_
                      rotate_left
                      · intro w'
                        go_simp
                        with_reducible rfl
                      rotate_left
                      · simp only [Act.put, List.setIfInBounds_toArray, List.set_cons_zero, List.set_cons_succ, i64_w, i32_w]
                        rfl
                      refine one_ (i := 26) (N := none) #[true, true, true, true, true, true, true, true, true, true, true, true, true, true, true, true, true, true, true, true, true, true, true, true, true, true, true, false, false, false, false, false] rfl rfl (by kernel_rfl) (by decide) (fun K hK => ?_)
                      refine skip_ (w1 := ?_) (by rfl) rfl ?_ ?_
                      rotate_left
                      · go_simp
                        rfl
                      obtain ⟨w5, hhw5⟩ : ∃ W, W = World.setCell w4 ⟨gl, n * 10 + 8, none⟩ (.slice D a.data.length dc) := ⟨_, rfl⟩
                      rw [← hhw5]
                      have ppw5 := Tw4.out.put_ n (by rw [List.length_set]; exact hn) (cs := cc { c2 with to_ := (k : Int) + 1, e := a.e } vd vo vk) rfl Cw4.out 8 (by decide) (.slice D a.data.length dc) (c' := { c2 with to_ := (k : Int) + 1, e := a.e, out := a.data }) (cly_fk (c := { c2 with to_ := (k : Int) + 1, e := a.e, out := a.data }) (vd := vd) (vo := (.slice D a.data.length dc)) (vk := vk) (Kd.V_step VDw.out (fun i hi _ => Tw4.out.bl.block i hi)) (Kd.V_step HVX.out.2.1 (fun i hi _ => Tw4.out.bl.block i hi)) (Kd.V_step VKw.out (fun i hi _ => Tw4.out.bl.block i hi)))
                      rw [← hhw5, List.set_set] at ppw5
                      have Fw5 : Aside0 (∀ i, World.frozen? w5 ⟨gl, n * 10 + i, none⟩ = false) := ⟨fun i => by rw [hhw5]; exact (World.frozen?_setCell _ _ _ _).trans (Fw4.out i)⟩
                      have Tw5 : Aside0 (Three w w5 g mb (fun k => k = p ∨ k = q) (h.add x a) (k + 1) (.slice (some ⟨gl, 0, none⟩) ws.length c4) (ws.set n { c2 with to_ := (k : Int) + 1, e := a.e, out := a.data }) (.slice (some ⟨ge, 0, none⟩) ws.length c5) (es)) := ⟨ppw5.1⟩
                      have Cw5 : Aside0 (∀ i u, (cc { c2 with to_ := (k : Int) + 1, e := a.e, out := a.data } vd (.slice D a.data.length dc) vk)[i]? = some u → World.cell? w5 ⟨gl, n * 10 + i, none⟩ = some u) := ⟨ppw5.2.1⟩
                      have BQw5 : Aside0 (w5.heap[q]? = some (.cells #[.int .i64 a.e, .int .i64 a.task, .bool a.done, .int .i64 a.mark, .slice D a.data.length dc, .slice Ks0 a.keys.length kc] 35 (0, 0))) := ⟨(ppw5.2.2 q HPG.out).trans BQw4.out⟩
                      clear ppw5 hhw5
                      have k9 : w5.cell? ⟨gl, n * 10 + 9, none⟩ = some _ := Cw5.out 9 _ rfl
                      have f9 : w5.frozen? ⟨gl, n * 10 + 9, none⟩ = false := Fw5.out 9
                      refine hK.out _ _ ⟨((blk_cell BQw5.out 0).trans rfl), ((blk_cell BQw5.out 4).trans rfl), ((blk_cell BQw5.out 5).trans rfl)⟩ (fun hHeld => ?_)
                      clear hK K
                      refine pure_ (i := 27) (N := some 154) (v := ?_) (a' := ?_) #[true, true, true, true, true, true, true, true, true, true, true, true, true, true, true, true, true, true, true, true, true, true, true, true, true, true, true, true, false, false, false, false] rfl rfl (by kernel_rfl) (fun _ _ _ h => h) (Or.inl ⟨by rfl, ?_⟩) ?_ ?_
                      rotate_left
                      · intro w'
                        go_simp
                        with_reducible rfl
                      rotate_left
                      · simp only [Act.put, List.setIfInBounds_toArray, List.set_cons_zero, List.set_cons_succ, i64_w, i32_w]
                        rfl
                      refine pure_ (i := 28) (N := some 155) (v := ?_) (a' := ?_) #[true, true, true, true, true, true, true, true, true, true, true, true, true, true, true, true, true, true, true, true, true, true, true, true, true, true, true, true, true, false, false, false] rfl rfl (by kernel_rfl) (fun _ _ _ h => h) (Or.inl ⟨by rfl, ?_⟩) ?_ ?_
                      rotate_left
                      · intro w'
                        go_simp
                        with_reducible rfl
                      rotate_left
                      · simp only [Act.put, List.setIfInBounds_toArray, List.set_cons_zero, List.set_cons_succ, i64_w, i32_w]
                        rfl
                      refine one_ (i := 29) (N := none) #[true, true, true, true, true, true, true, true, true, true, true, true, true, true, true, true, true, true, true, true, true, true, true, true, true, true, true, true, true, true, false, false] rfl rfl (by kernel_rfl) (by decide) (fun K hK => ?_)
                      refine skip_ (w1 := ?_) (by rfl) rfl ?_ ?_
                      rotate_left
                      · go_simp
                        rfl
                      obtain ⟨w6, hhw6⟩ : ∃ W, W = World.setCell w5 ⟨gl, n * 10 + 9, none⟩ (.slice Ks0 a.keys.length kc) := ⟨_, rfl⟩
                      rw [← hhw6]
                      have ppw6 := Tw5.out.put_ n (by rw [List.length_set]; exact hn) (cs := cc { c2 with to_ := (k : Int) + 1, e := a.e, out := a.data } vd (.slice D a.data.length dc) vk) rfl Cw5.out 9 (by decide) (.slice Ks0 a.keys.length kc) (c' := { c2 with to_ := (k : Int) + 1, e := a.e, out := a.data, keys := a.keys }) (cly_fk (c := { c2 with to_ := (k : Int) + 1, e := a.e, out := a.data, keys := a.keys }) (vd := vd) (vo := (.slice D a.data.length dc)) (vk := (.slice Ks0 a.keys.length kc)) (Kd.V_step VDw.out (fun i hi _ => Tw5.out.bl.block i hi)) (Kd.V_step HVX.out.2.1 (fun i hi _ => Tw5.out.bl.block i hi)) (Kd.V_step HVX.out.2.2 (fun i hi _ => Tw5.out.bl.block i hi)))
                      rw [← hhw6, List.set_set] at ppw6
                      have Fw6 : Aside0 (∀ i, World.frozen? w6 ⟨gl, n * 10 + i, none⟩ = false) := ⟨fun i => by rw [hhw6]; exact (World.frozen?_setCell _ _ _ _).trans (Fw5.out i)⟩
                      have Tw6 : Aside0 (Three w w6 g mb (fun k => k = p ∨ k = q) (h.add x a) (k + 1) (.slice (some ⟨gl, 0, none⟩) ws.length c4) (ws.set n { c2 with to_ := (k : Int) + 1, e := a.e, out := a.data, keys := a.keys }) (.slice (some ⟨ge, 0, none⟩) ws.length c5) (es)) := ⟨ppw6.1⟩
                      have Cw6 : Aside0 (∀ i u, (cc { c2 with to_ := (k : Int) + 1, e := a.e, out := a.data, keys := a.keys } vd (.slice D a.data.length dc) (.slice Ks0 a.keys.length kc))[i]? = some u → World.cell? w6 ⟨gl, n * 10 + i, none⟩ = some u) := ⟨ppw6.2.1⟩
                      have BQw6 : Aside0 (w6.heap[q]? = some (.cells #[.int .i64 a.e, .int .i64 a.task, .bool a.done, .int .i64 a.mark, .slice D a.data.length dc, .slice Ks0 a.keys.length kc] 35 (0, 0))) := ⟨(ppw6.2.2 q HPG.out).trans BQw5.out⟩
                      clear ppw6 hhw6
                      obtain ⟨ke, fe⟩ := Tw6.out.end_cell n (by have := HEL.out; omega)
                      refine hK.out _ _ ⟨((blk_cell BQw6.out 0).trans rfl), ((blk_cell BQw6.out 4).trans rfl), ((blk_cell BQw6.out 5).trans rfl)⟩ (fun hHeld => ?_)
                      clear hK K
                      refine pure_ (i := 30) (N := some 156) (v := ?_) (a' := ?_) #[true, true, true, true, true, true, true, true, true, true, true, true, true, true, true, true, true, true, true, true, true, true, true, true, true, true, true, true, true, true, true, false] rfl rfl (by kernel_rfl) (fun _ _ _ h => h) (Or.inl ⟨by rfl, ?_⟩) ?_ ?_
                      rotate_left
                      · intro w'
                        go_simp
                        with_reducible rfl
                      rotate_left
                      · simp only [Act.put, List.setIfInBounds_toArray, List.set_cons_zero, List.set_cons_succ, i64_w, i32_w]
                        rfl
                      refine last_ (i := 31) (N := none) #[true, true, true, true, true, true, true, true, true, true, true, true, true, true, true, true, true, true, true, true, true, true, true, true, true, true, true, true, true, true, true, true] rfl rfl (by kernel_rfl) (by decide) (fun K hK => ?_)
                      refine skip_ (w1 := ?_) (by rfl) rfl ?_ ?_
                      rotate_left
                      · go_simp
                        rfl
                      refine hK.out _ _ ?_
                      clear hK K
                      refine done_ (by kernel_rfl) ?_
                      have TE := Aside0.mk (Tw6.out.end_ n true).1
                      have HFD : Aside0 (foundD (ws.getD n clz) k a = { c2 with to_ := (k : Int) + 1, e := a.e, out := a.data, keys := a.keys }) := ⟨by unfold foundD; rw [HFc.out]⟩
                      go_wp2_with fail
                      go_roundw
                      case rel => exact ⟨k + 1, h.add x a, _, _, by omega, by go_num, ⟨TE.out.less (fun _ (e : False) => e.elim)⟩, ⟨by rw [← HFD.out]; exact HRUN.out⟩⟩
                      case measure => simp [intOf] <;> omega
              · have tt : (tn != x.a) = true := by simpa using ht
                have HTT := Aside0.mk ht
                clear ht
                go_wp2_with fail
                go_quiet (fail)
                go_wp2_with fail
                go_roundw
                case rel => exact ⟨n, (n : Int) - 1, by omega, rfl, by go_num, ⟨TJ.out.below (pw_below_drewN (Below.refl _ _) _)⟩, ⟨BJ.out.1, BJ.out.2⟩, ⟨fun i h1 h2 h3 => by
                  by_cases hi : i = n
                  · exact absurd (by rw [HTN.out, ← hi]; exact h3) HTT.out
                  · exact HNO.out i (by omega) h2 h3⟩⟩
                case measure => simp [intOf] <;> omega
        · have t2 : (x.kind == 2) = false := by simpa using h2
          by_cases h8 : x.kind = 8
          · have t8 : (x.kind == 8) = true := by simpa using h8
            have HK8 : Aside0 (x.kind = 8) := ⟨h8⟩
            clear h1 h2 h8
            obtain ⟨wq, hwq⟩ : ∃ wq : World, wq = wr := ⟨_, rfl⟩
            subst hwq
            go_wp2_with fail
            go_loopw [11, 159, 160, 161, 162, 163, 164, 165, 166, 167] (fun x11 x159 x160 x161 x162 x163 x164 x165 x166 x167 wr => ∃ j : Nat, j ≤ ws.length ∧ x11 = .int .i64 j ∧ Aside0 (Three w wr g mb (fun k => k = p ∨ k = q) (h.add x a) (k + 1) (.slice A4 ws.length c4) ws (.slice A5 ws.length c5) (List.replicate j true ++ es.drop j))) (fun x11 _ _ _ _ _ _ _ _ _ _ => ws.length - (intOf x11).toNat)
            case atStart => exact ⟨0, Nat.zero_le _, rfl, T4⟩
            case round =>
              obtain ⟨j, hj, rfl, TJ⟩ := hrel
              have hlen : (List.replicate j true ++ es.drop j).length = ws.length := by
                have := HEL.out
                simp
                omega
              by_cases hjl : j < ws.length
              · obtain ⟨ge, cap5, e5, _, _, _⟩ := Kd.R_form TJ.out.bs (by omega)
                injection e5 with e5 hx5 e5'
                subst e5 e5'
                obtain ⟨hm1, hm2⟩ := TJ.out.end_cell j (by omega)
                have TE := Aside0.mk (TJ.out.end_ j true).1
                have HS : Aside0 ((List.replicate j true ++ es.drop j).set j true = List.replicate (j + 1) true ++ es.drop (j + 1)) := ⟨set_rep es j (by have := HEL.out; omega)⟩
                clear hx5 hlen
                go_wp2_with fail
                go_roundw
                case rel => exact ⟨j + 1, by omega, by go_num, ⟨by rw [← HS.out]; exact TE.out⟩⟩
                case measure => simp [intOf]; omega
              · have hjw : j = ws.length := by omega
                subst hjw
                have HS2 : Aside0 (List.replicate ws.length true ++ es.drop ws.length = List.replicate es.length true) := ⟨by have e := HEL.out; rw [← e, List.drop_length, List.append_nil]⟩
                clear hlen
                go_wp2_with fail
                go_roundw
                case rel => exact ⟨k + 1, h.add x a, ws, _, by omega, by go_num, ⟨TJ.out.less (fun _ (e : False) => e.elim)⟩, ⟨by rw [HS2.out]; exact HJ.out.crash x a HK8.out⟩⟩
                case measure => simp [intOf]; omega
          · have t8 : (x.kind == 8) = false := by simpa using h8
            have NO : Aside0 (¬ (x.kind = 1 ∧ a.e = 0) ∧ x.kind ≠ 2 ∧ x.kind ≠ 8) := ⟨fun e => h1 e.1, h2, h8⟩
            clear h1 h2 h8
            go_wp2_with fail
            go_roundw
            case rel => exact ⟨k + 1, h.add x a, ws, es, by omega, by go_num, ⟨T4.out.less (fun _ (e : False) => e.elim)⟩, ⟨HJ.out.other x a NO.out.1 NO.out.2.1 NO.out.2.2⟩⟩
            case measure => simp [intOf]; omega
    · have hkl : k = l.length := by omega
      subst hkl
      go_wp2_with fail
      refine (answers_calls _).mono ?_
      rintro e w5 ⟨rfl, hb5⟩
      have T5 : Aside0 (Three w w5 g mb (fun _ => False) h l.length u4 ws u5 es) := ⟨HT.out.below hb5⟩
      obtain ⟨okh, hO5, _, _⟩ := T5.out.hist
      have HO5 := Aside0.mk hO5
      clear hb5 hO5
      go_wp2_with fail
      refine (own_calls HO5.out (by omega)).mono ?_
      rintro e w6 ⟨v6, rfl, hN6, hB6, _⟩
      have T6 : Aside0 (Three w w6 g mb (fun _ => False) h l.length u4 ws u5 es) := ⟨T5.out.below hB6⟩
      have HN6 : Aside0 (Kd.N CKy 40 w6 0 (fun k => w5.heap.size ≤ k ∧ k < w6.heap.size) v6 ws) := ⟨by rw [HJ.out.list]; exact Kd.N_lower (n_y hN6) (Nat.zero_le _)⟩
      have HW6 : Aside0 (ws.length < 1000000 ∧ ∀ n, (ws.getD n clz).data.length < 1000000 ∧ (ws.getD n clz).out.length < 1000000 ∧ (ws.getD n clz).keys.length < 1000000) := ⟨by rw [HJ.out.list]; exact ⟨by have := T6.out.fm.len; omega, T6.out.fm.sm⟩⟩
      have HRS : Aside0 SameOk := ⟨fun A0 c0 l A1 c1 w h1 h2 h3 h4 h5 => flittingref01_Same.calls 1000001 A0 c0 l A1 c1 l true w h1 h2 h3 h4 (same_f _ _ (by omega) h5)⟩
      clear hN6 hB6
      go_wp2_with fail
      refine (same_calls v6 u4 ws _ _ w6 HN6.out (Kd.N_lower T6.out.nt (Nat.zero_le _)) HW6.out.1 HRS.out HW6.out.2).mono ?_
      rintro e w7 ⟨rfl, hb7⟩
      have HB7 := Aside0.mk (T6.out.bl.trans (hb7.mono T6.out.bl.size))
      clear hb7
      go_wp2
      go_ret
      exact ⟨rfl, HB7.out⟩

end Go.Proofs.Ytfcfiojkkpnhlaa.PHistAdds
