-- Written by myprint.py (this session's own driver of the kit's print, with contracts of its own handed in).
import Derived.Test.YtemmhjghlmhheaaPDrivePlaysx0
import Derived.Test.YtemmhjghlmhheaaPDrivePlaysx1
namespace Go.Proofs.Ytemmhjghlmhheaa.PDrivePlays
open Go.RowKit Go.Proofs.YtemmhjghlmhheaaW.PrintWords Go.Proofs.YtemmhjghlmhheaaW.PrintLast Go.Proofs.YtemmhjghlmhheaaW.PrintMore
attribute [local go_sem] max2_int min2_int max_two min_two max_three min_three max_four min_four   -- for this text's walks alone
set_option linter.unusedVariables false
set_option linter.unusedSimpArgs false

/-! ### flittinglaw06_DrivePlays: function 5, by hand -/
open Go.Proofs.Ytemmhjghlmhheaa.Dr Go.Proofs.Ytemmhjghlmhheaa.Op
abbrev Ac : Kd (Int × Int × List Int × Int) := Kd.pair (Kd.int .i64) (Kd.pair (Kd.int .i64) (Kd.pair (Kd.slice 5 (Kd.int .u8)) (Kd.int .u64)))
abbrev AcG : Int × Int × List Int × Int → Prop := fun x => (Lit.int .i64 x.1).wf = true ∧ (Lit.int .i64 x.2.1).wf = true ∧ Row 1 (fun n => (Lit.int .u8 n).wf = true) x.2.2.1 ∧ (Lit.int .u64 x.2.2.2).wf = true
theorem u64_wf {n : Int} (h : (Lit.int .u64 n).wf = true) : 0 ≤ n ∧ n < 18446744073709551616 := by
  simp [Lit.wf] at h
  have e1 : IntKind.u64.min = 0 := rfl
  have e2 : IntKind.u64.max = 18446744073709551615 := rfl
  rw [e1, e2] at h
  omega
theorem i64_wf {n : Int} (h : (Lit.int .i64 n).wf = true) : -9223372036854775808 ≤ n ∧ n < 9223372036854775808 := by
  simp [Lit.wf] at h
  have e1 : IntKind.i64.min = -9223372036854775808 := rfl
  have e2 : IntKind.i64.max = 9223372036854775807 := rfl
  (try rw [e1] at h)
  (try rw [e2] at h)
  omega
/-- The k-th act, as its cells. -/
theorem act_at {W : World} {A : Option Addr} {l : List (Int × Int × List Int × Int)} (h : Ac.C W A l.length l) (k : Nat) (hk : k < l.length) :
    ∃ (ad : Addr) (wh si kp : Int) (bs : List Int) (B : Option Addr) (cb : Nat), A = some ad ∧ l.getD k (0, 0, [], 0) = (wh, si, bs, kp) ∧ U8.C W B bs.length bs ∧ bs.length ≤ cb ∧ W.cell? (ad.add (k * 4)) = some (.int .i64 wh) ∧ W.cell? ⟨(ad.add (k * 4)).block, (ad.add (k * 4)).off + 1, none⟩ = some (.int .i64 si) ∧
      W.cell? ⟨(ad.add (k * 4)).block, (ad.add (k * 4)).off + 2, none⟩ = some (.slice B bs.length cb) ∧ W.cell? ⟨(ad.add (k * 4)).block, (ad.add (k * 4)).off + 3, none⟩ = some (.int .u64 kp) := by
  obtain ⟨ad, c, rfl, hcl, hK, hc⟩ := Kd.C_get h (0, 0, [], 0) (k : Int) (by omega) (by omega)
  rw [Int.toNat_natCast] at hK hc
  rcases hx : l.getD k (0, 0, [], 0) with ⟨wh, si, bs, kp⟩
  rw [hx] at hK
  obtain ⟨c0, c1, rfl, h0, c2, c3, rfl, h1, c4, c5, rfl, ⟨B, cb, h2, hl, hC⟩, h3⟩ := hK
  have h0' : c0 = [.int .i64 wh] := h0
  have h1' : c2 = [.int .i64 si] := h1
  have h3' : c5 = [.int .u64 kp] := h3
  have h2' : c4 = [.slice B bs.length cb] := h2
  subst h0' h1' h2' h3'
  have e : ∀ j, (fun m => (ad.add (k * 4 + m))) j = ad.add (k * Ac.sz + j) := fun j => rfl
  refine ⟨ad, wh, si, kp, bs, B, cb, rfl, rfl, hC, hl, hc 0 _ rfl, ?_, ?_, ?_⟩
  · have := hc 1 _ rfl; rwa [← e, show (fun m => (ad.add (k * 4 + m))) 1 = ad.add (k * 4 + 1) from rfl, add_field _ _ _ (by decide)] at this
  · have := hc 2 _ rfl; rwa [← e, show (fun m => (ad.add (k * 4 + m))) 2 = ad.add (k * 4 + 2) from rfl, add_field _ _ _ (by decide)] at this
  · have := hc 3 _ rfl; rwa [← e, show (fun m => (ad.add (k * 4 + m))) 3 = ad.add (k * 4 + 3) from rfl, add_field _ _ _ (by decide)] at this
/-- A drive that is lost has nothing. -/
structure Nice (d : Dr) : Prop where
  fit : d.Fit
  lost : d.lost = true → d.slots = [] ∧ d.loose = []
theorem nice_write {d : Dr} (h : Nice d) (i : Int) (lb : List Int) : Nice (d.write i lb) := by
  refine ⟨fit_write h.fit i lb, fun hl => ?_⟩
  unfold Dr.write at hl ⊢
  by_cases hc : d.check i = 0
  · rw [if_pos hc] at hl ⊢
    by_cases h6 : 64 < lb.length
    · rw [if_pos h6] at hl ⊢
      exact h.lost hl
    · rw [if_neg h6] at hl
      have := (check_ok hc).1
      rw [this] at hl
      cases hl
  · rw [if_neg hc] at hl ⊢
    exact h.lost hl
theorem nice_flush {d : Dr} (h : Nice d) : Nice d.flush := by
  refine ⟨fit_flush h.fit, fun hl => ?_⟩
  unfold Dr.flush at hl ⊢
  by_cases hc : d.lost = true
  · rw [if_pos hc] at hl ⊢
    exact h.lost hc
  · rw [if_neg hc] at hl
    cases hl
theorem nice_crash {d : Dr} (h : Nice d) (keep : Int) : Nice (d.crash keep) := by
  refine ⟨fit_crash h.fit keep, fun hl => ?_⟩
  obtain ⟨h1, h2⟩ := h.lost hl
  unfold Dr.crash
  rw [h1, h2]
  exact ⟨rfl, rfl⟩
theorem nice_lost : Nice ⟨[], [], true⟩ := ⟨fit_lost, fun _ => ⟨rfl, rfl⟩⟩
theorem nice_new (n : Int) : Nice (Dr.new n) := ⟨fit_new n, fun h => by cases h⟩
theorem nice_cap {d : Dr} (h : Nice d) : d.cap = d.slots.length := by
  unfold Dr.cap
  split
  · rename_i hl
    rw [(h.lost hl).1]; rfl
  · rfl
theorem write_len (d : Dr) (i : Int) (lb : List Int) : (d.write i lb).loose.length ≤ d.loose.length + 1 := by
  unfold Dr.write
  split
  · split
    · omega
    · simp
  · omega
theorem getw_len (l : List (Int × List Int)) (hl : ∀ p, p ∈ l → p.2.length ≤ 64) (i : Int) : ∀ b : List Int, b.length ≤ 64 → (getw b l i).length ≤ 64 := by
  induction l with
  | nil => intro b hb; exact hb
  | cons p l ih =>
    intro b hb
    show (getw (if p.1 = i then p.2 else b) l i).length ≤ 64
    refine ih (fun q hq => hl q (List.mem_cons_of_mem _ hq)) _ ?_
    split
    · exact hl p List.mem_cons_self
    · exact hb
theorem get_len {d : Dr} (h : d.Fit) (j : Nat) : (d.get j).length ≤ 64 := getw_len _ h.lo _ _ (fit_slot h j)
theorem check_in {d : Dr} (h : Nice d) (j : Nat) (hj : j < d.slots.length) : d.check j = 0 := by
  unfold Dr.check
  rw [if_neg (fun hl => by rw [(h.lost hl).1] at hj; simp at hj), if_neg (by omega)]
theorem flush_len (d : Dr) : d.flush.loose.length ≤ d.loose.length := by
  unfold Dr.flush
  split
  · exact Nat.le_refl _
  · exact Nat.zero_le _
theorem same_run (d : Nat) : ∀ (k i : Nat) (a : List Int), d + i = a.length → d < k → a.length < 1000000 → flittingref01_Same.l0 k a a (i : Int) = some true := by
  induction d with
  | zero =>
    intro k i a hd hk _
    obtain ⟨k, rfl⟩ : ∃ m, k = m + 1 := ⟨k - 1, by omega⟩
    simp only [flittingref01_Same.l0]
    rw [if_neg (by omega)]
  | succ d ih =>
    intro k i a hd hk hm
    obtain ⟨k, rfl⟩ : ∃ m, k = m + 1 := ⟨k - 1, by omega⟩
    simp only [flittingref01_Same.l0]
    rw [if_pos (by omega), if_pos (by omega), if_pos (by omega), show wrap64 ((i : Int) + 1) = ((i + 1 : Nat) : Int) from by unfold wrap64; omega]
    exact ih k (i + 1) a (by omega) (by omega) hm
theorem same_f (k : Nat) (a : List Int) (hk : a.length < k) (hm : a.length < 1000000) : flittingref01_Same.f k a a = some true := by
  unfold flittingref01_Same.f
  rw [if_pos rfl]
  exact same_run a.length k 0 a (by omega) hk hm
def flittinglaw06_DrivePlays.Pure : Prop := True
set_option maxHeartbeats 4000000 in
set_option maxRecDepth 100000 in
theorem flittinglaw06_DrivePlays.walk (_P : flittinglaw06_DrivePlays.Pure) (a0 : Int) (A1 : Option Addr) (c1 : Nat) (l1 : List (Int × Int × List Int × Int)) (w : World) (w0 : (Lit.int .i64 a0).wf = true) (hl1 : l1.length ≤ c1) (hC1 : Ac.C w A1 l1.length l1) (hG1 : Row 48 AcG l1) :
    Calls Try.prog 5 #[.int .i64 a0, .slice A1 l1.length c1] w fun e w' => e = .returned (.bool true) ∧ Below w.heap.size w w' := by
  obtain ⟨ha0, ha1⟩ := i64_wf w0
  have HC1 := Aside0.mk hC1
  have HG1 := Aside0.mk hG1
  clear hC1 hG1 w0 _P
  by_cases g1 : 100 < l1.length
  · have d1 : decide ((100 : Int) < (l1.length : Int)) = true := decide_eq_true (by omega)
    have d2 : decide (100 < l1.length) = true := decide_eq_true g1
    clear g1
    go_enter Try.func5, Try.ntmps5
    go_wp2_with fail
    refine (answers_calls _).mono ?_
    rintro e w' ⟨rfl, hb⟩
    have HB := Aside0.mk hb
    clear hb
    go_wp2
    go_ret
    exact ⟨rfl, HB.out⟩
  have d1 : decide ((100 : Int) < (l1.length : Int)) = false := decide_eq_false (by omega)
  have d2 : decide (100 < l1.length) = false := decide_eq_false g1
  have hl100 : l1.length ≤ 100 := by omega
  clear g1
  go_enter Try.func5, Try.ntmps5
  go_wp2_with fail
  refine (new_calls a0 w ha0 ha1).mono ?_
  rintro e w1 ⟨g1, rfl, hD1, hB1, hg1⟩
  have HB1 := Aside0.mk hB1
  have HD1 := Aside0.mk hD1
  have HG := Aside0.mk hg1
  clear hD1 hB1 hg1
  go_wp2_with fail
  refine (rnew_calls a0 w1 ha0 ha1).mono ?_
  rintro e w2 ⟨g2, rfl, hD2, hB2, hg2⟩
  have HT0 : Aside0 (Two w w2 g1 g2 (fun _ => False) (Dr.new a0) (Dr.new a0)) := by
    have h1 := HD1.out.lt
    have h2 := HB1.out.size
    have h3 := HG.out
    have h4 := hB2.size
    have h5 := hD2.lt
    exact ⟨⟨HB1.out.trans (hB2.mono h2), h3, by omega, fun _ h => h.elim, fun h => h, fun h => h, fun k => w.heap.size ≤ k ∧ k < g1, fun k => w1.heap.size ≤ k ∧ k < g2, fun k hk => ⟨hk.1, by omega, by omega, fun h => by omega, fun h => h⟩, fun k hk => ⟨by omega, by omega, by omega, fun h => h⟩, by omega, HD1.out.below hB2, hD2⟩⟩
  have HN0 := Aside0.mk (nice_new a0)
  clear hD2 hB2 hg2 HB1 HD1 HG
  go_wp2
  go_loopw [4, 7, 8, 9, 10, 11, 12, 13, 14, 15, 16, 17, 31, 32, 33, 34, 35, 36, 37, 38, 39, 40, 41, 42, 43, 44, 45, 46, 47, 48, 49, 50, 51, 52, 53, 54, 55, 56, 57, 58, 59, 60, 61, 62, 63, 64, 65, 66, 67, 68, 69, 70, 71, 72, 73, 74, 75, 76, 77, 78, 79, 80, 81, 82, 83, 84, 85, 86, 87, 88, 89, 90, 91, 92, 93, 94, 95, 96, 97, 98, 99, 100, 101, 102, 103, 104, 105, 106, 107, 108, 109, 110, 111, 112, 113, 114, 115, 116, 117, 118, 119, 120, 121, 122, 123, 124, 125, 126, 127, 128, 129, 130, 131, 132, 133, 134, 135, 136, 137, 138, 139, 140, 141, 142, 143, 144, 145, 146, 147, 148, 149, 150, 151, 152, 153, 154, 155, 156, 157, 158, 159, 160, 161, 162, 163, 164, 165, 166, 167, 168, 169, 170, 171, 172, 173, 174, 175, 176, 177, 178, 179, 180, 181, 182, 183, 184, 185, 186] (fun x4 x7 x8 x9 x10 x11 x12 x13 x14 x15 x16 x17 x31 x32 x33 x34 x35 x36 x37 x38 x39 x40 x41 x42 x43 x44 x45 x46 x47 x48 x49 x50 x51 x52 x53 x54 x55 x56 x57 x58 x59 x60 x61 x62 x63 x64 x65 x66 x67 x68 x69 x70 x71 x72 x73 x74 x75 x76 x77 x78 x79 x80 x81 x82 x83 x84 x85 x86 x87 x88 x89 x90 x91 x92 x93 x94 x95 x96 x97 x98 x99 x100 x101 x102 x103 x104 x105 x106 x107 x108 x109 x110 x111 x112 x113 x114 x115 x116 x117 x118 x119 x120 x121 x122 x123 x124 x125 x126 x127 x128 x129 x130 x131 x132 x133 x134 x135 x136 x137 x138 x139 x140 x141 x142 x143 x144 x145 x146 x147 x148 x149 x150 x151 x152 x153 x154 x155 x156 x157 x158 x159 x160 x161 x162 x163 x164 x165 x166 x167 x168 x169 x170 x171 x172 x173 x174 x175 x176 x177 x178 x179 x180 x181 x182 x183 x184 x185 x186 wr => ∃ (k : Nat) (d : Dr), k ≤ l1.length ∧ x7 = .int .i64 k ∧ Aside0 (Two w wr g1 g2 (fun _ => False) d d) ∧ Aside0 (Nice d) ∧ Aside0 (d.loose.length ≤ k)) (fun _ x7 _ _ _ _ _ _ _ _ _ _ _ _ _ _ _ _ _ _ _ _ _ _ _ _ _ _ _ _ _ _ _ _ _ _ _ _ _ _ _ _ _ _ _ _ _ _ _ _ _ _ _ _ _ _ _ _ _ _ _ _ _ _ _ _ _ _ _ _ _ _ _ _ _ _ _ _ _ _ _ _ _ _ _ _ _ _ _ _ _ _ _ _ _ _ _ _ _ _ _ _ _ _ _ _ _ _ _ _ _ _ _ _ _ _ _ _ _ _ _ _ _ _ _ _ _ _ _ _ _ _ _ _ _ _ _ _ _ _ _ _ _ _ _ _ _ _ _ _ _ _ _ _ _ _ _ _ _ _ _ _ _ _ _ _ _ _ _ => l1.length - (intOf x7).toNat)
  case atStart => exact ⟨0, _, Nat.zero_le _, rfl, HT0, HN0, ⟨Nat.le_refl _⟩⟩
  case round =>
    obtain ⟨k, d, hk, rfl, HT, HN, HLo⟩ := hrel
    obtain ⟨wq, hwq⟩ : ∃ wq : World, wq = wr := ⟨_, rfl⟩
    subst hwq
    by_cases hlt : k < l1.length
    · obtain ⟨ad, wh, si, kp, bs, B, cb, rfl, hx, hCb, hcb, hq0, hq1, hq2, hq3⟩ := act_at HC1.out k hlt
      replace hq0 := pw_cell_below HT.out.hb hq0
      replace hq1 := pw_cell_below HT.out.hb hq1
      replace hq2 := pw_cell_below HT.out.hb hq2
      replace hq3 := pw_cell_below HT.out.hb hq3
      have HCw := Aside0.mk hCb
      have hmem : l1.getD k (0, 0, [], 0) ∈ l1 := by
        rw [List.getD_eq_getElem?_getD, List.getElem?_eq_getElem hlt]
        exact List.getElem_mem hlt
      have hgx := HG1.out.all _ hmem
      rw [hx] at hgx
      obtain ⟨hkp0, hkp1⟩ := u64_wf hgx.2.2.2
      obtain ⟨hsi0, hsi1⟩ := i64_wf hgx.2.1
      obtain ⟨hwh0, hwh1⟩ := i64_wf hgx.1
      clear hx hmem hgx
      obtain ⟨wo, hwo⟩ : ∃ wo, wo = wq.alloc (.cells #[.int .i64 wh, .int .i64 si, .slice B bs.length cb, .int .u64 kp] 43) := ⟨_, rfl⟩
      have hBo : Below wq.heap.size wq wo := by rw [hwo]; exact (Below.refl _ _).alloc (Nat.le_refl _) _
      have hblk : wo.heap[wq.heap.size]? = some (.cells #[.int .i64 wh, .int .i64 si, .slice B bs.length cb, .int .u64 kp] 43 (0, 0)) := by rw [hwo]; exact heap_alloc_new wq _
      have HBo := Aside0.mk hBo
      have HBlk := Aside0.mk hblk
      have HCb : Aside0 (U8.C wo B bs.length bs) := ⟨Kd.C_below (Kd.C_below hCb HT.out.hb) hBo⟩
      have HWO := Aside0.mk hwo
      by_cases h200 : 200 < bs.length
      · have b1 : decide ((200 : Int) < (bs.length : Int)) = true := decide_eq_true (by omega)
        have b2 : decide (200 < bs.length) = true := decide_eq_true h200
        clear hwo hBo hblk hCb h200
        go_wp2
        go_roundw
        case rel => exact ⟨k + 1, d, by omega, by go_num, ⟨HWO.out ▸ HT.out.below HBo.out⟩, HN, ⟨by have := HLo.out; omega⟩⟩
        case measure => simp [intOf]; omega
      · have b1 : decide ((200 : Int) < (bs.length : Int)) = false := decide_eq_false (by omega)
        have b2 : decide (200 < bs.length) = false := decide_eq_false h200
        have HL200 : Aside0 (bs.length ≤ 200) := ⟨by omega⟩
        clear hBo hblk hCb h200
        have HM : Aside0 (U8.R 5 (wo.alloc (.cells #[] 5)) wo.heap.size (fun _ => True) (.slice (some ⟨wo.heap.size, 0, none⟩) 0 0) []) := ⟨⟨fun _ _ => trivial, [], World.ownsRow_made wo #[] 0 (Nat.le_refl _) (Nat.zero_le _) rfl, Reps.none _ _⟩⟩
        have HBm : Aside0 (Below wo.heap.size wo (wo.alloc (.cells #[] 5))) := ⟨(Below.refl _ _).alloc (Nat.le_refl _) _⟩
        clear hwo
        go_upto_region 10 with fail
        rw [← HWO.out]
        have q2 : wo.cell? ⟨wq.heap.size, 2, none⟩ = some (.slice B bs.length cb) := (blk_cell HBlk.out 2).trans rfl
        have q2a := fun (o : Obj) => pw_cell_below ((Below.refl wo.heap.size wo).alloc (Nat.le_refl _) o) q2
        have q0 : ∀ W', Below wo.heap.size wo W' → W'.cell? ⟨wq.heap.size, 0, none⟩ = some (.int .i64 wh) := fun W' h => pw_cell_below h ((blk_cell HBlk.out 0).trans rfl)
        have Q0 := Aside0.mk q0
        clear q0
        go_upto_block 2 with (at_builtin; refine Kd.R_append_rows U8 (w0 := wo.alloc (.cells #[] 5)) (W := wo.alloc (.cells #[] 5)) (Rr := U8.K (wo.alloc (.cells #[] 5))) wo.heap.size rfl (.tmp 45) (.tmp 47) 22 5 (.int .u8 0) 1 rfl Try.underlying22 info5 rfl (by decide) (by decide) (.slice (some ⟨wo.heap.size, 0, none⟩) 0 0) [] bs B bs.length cb (fun _ => True) (fun _ => False) rfl rfl HM.out (Kd.C_below HCb.out HBm.out) (fun _ _ h => h) (fun _ hk => hk.elim) (fun _ _ => trivial) (Below.refl _ _) HBm.out.size ?aL ?_; (case aL => have := HL200.out; simp only [List.length_nil]; omega); intro v1 w3 ho hb hg hat; have HO : Aside0 (U8.R 5 w3 wo.heap.size (fun _ => True) v1 bs) := ⟨ho⟩; have HB3 : Aside0 (Below wo.heap.size wo w3) := ⟨HBm.out.trans hb⟩; have q0 := Q0.out w3 HB3.out; clear ho hb hg hat HM HBm)
        obtain ⟨Ai, ci, rfl⟩ := Kd.R_slice HO.out
        have HB3' : Aside0 (Below wq.heap.size wq w3) := ⟨HBo.out.trans (HB3.out.mono HBo.out.size)⟩
        have HT3 : Aside0 (Two w w3 g1 g2 (fun k => wq.heap.size ≤ k ∧ k < w3.heap.size) d d) := ⟨HT.out.guard_ HB3'.out (fun k hk => .inr hk)⟩
        have HBlk3 : Aside0 (w3.heap[wq.heap.size]? = some (.cells #[.int .i64 wh, .int .i64 si, .slice B bs.length cb, .int .u64 kp] 43 (0, 0))) := ⟨blk_below HBlk.out HB3.out⟩
        have HP : Aside0 (wq.heap.size < w3.heap.size) := ⟨blk_lt HBlk3.out⟩
        clear q0 q2 q2a hq0 hq1 hq2 hq3
        go_cut [9, 10] from 51 to 93 (fun e f wx => ∃ (n : Int) (d' : Dr), e = .int .i64 n ∧ f = .int .i64 n ∧ Aside0 (Two w wx g1 g2 (fun k => wq.heap.size ≤ k ∧ k < w3.heap.size) d' d') ∧ Aside0 (∀ k, wq.heap.size ≤ k ∧ k < w3.heap.size → wx.heap[k]? = w3.heap[k]?) ∧ Aside0 (Nice d') ∧ Aside0 (d'.loose.length ≤ k + 1))
        case first =>
          by_cases e0 : wh = 0
          · have b0 : (wh == 0) = true := by rw [e0]; rfl
            clear e0
            have q1 : w3.cell? ⟨wq.heap.size, 1, none⟩ = some (.int .i64 si) := (blk_cell HBlk3.out 1).trans rfl
            have q2 : w3.cell? ⟨wq.heap.size, 2, none⟩ = some (.slice B bs.length cb) := (blk_cell HBlk3.out 2).trans rfl
            obtain ⟨ok1, hdp1, hnew1, hnext1⟩ := (HT3.out.below (below_drew (Below.refl _ _))).fst
            have HA : Aside0 _ := ⟨write_calls g1 d si bs Ai bs.length ci ok1 _ w3.drew hdp1 (Kd.F_drew (Kd.R_F HO.out)) hnew1 (by have := HL200.out; omega) (by have := HLo.out; omega)⟩
            have HX1 := Aside0.mk hnext1
            clear hdp1 hnew1 hnext1
            go_wp2_with fail
            refine start_ (n := 13) (S := fun w' => w'.cell? ⟨wq.heap.size, 1, none⟩ = some (.int .i64 si) ∧ w'.cell? ⟨wq.heap.size, 2, none⟩ = some (.slice B bs.length cb)) (ds := []) #[false, false, false, false, false, false, false, false, false, false, false, false, false] (by kernel_rfl) rfl rfl ⟨q1, q2⟩ (fun hHeld => ?_)
            refine pure_ (i := 0) (N := some 53) (v := ?_) (a' := ?_) #[true, false, false, false, false, false, false, false, false, false, false, false, false] rfl rfl (by kernel_rfl) (fun _ _ _ h => h) (Or.inl ⟨by rfl, ?_⟩) ?_ ?_
            rotate_left
            · intro w'
              go_simp
              with_reducible rfl
            rotate_left
            · simp only [Act.put, List.setIfInBounds_toArray, List.set_cons_zero, List.set_cons_succ, i64_w, i32_w]
              rfl
            refine pure_ (i := 1) (N := some 54) (v := ?_) (a' := ?_) #[true, true, false, false, false, false, false, false, false, false, false, false, false] rfl rfl (by kernel_rfl) (fun _ _ _ h => h) (Or.inl ⟨by rfl, ?_⟩) ?_ ?_
            rotate_left
            · intro w'
              go_simp
              with_reducible rfl
            rotate_left
            · simp only [Act.put, List.setIfInBounds_toArray, List.set_cons_zero, List.set_cons_succ, i64_w, i32_w]
              rfl
            refine pure_ (i := 3) (N := some 56) (v := ?_) (a' := ?_) #[true, true, false, true, false, false, false, false, false, false, false, false, false] rfl rfl (by kernel_rfl) (fun _ _ _ h => h) (Or.inl ⟨by rfl, ?_⟩) ?_ ?_
            rotate_left
            · intro w'
              go_simp
              with_reducible rfl
            rotate_left
            · simp only [Act.put, List.setIfInBounds_toArray, List.set_cons_zero, List.set_cons_succ, i64_w, i32_w]
              rfl
            refine pure_ (i := 5) (N := some 58) (v := ?_) (a' := ?_) #[true, true, false, true, false, true, false, false, false, false, false, false, false] rfl rfl (by kernel_rfl) (fun _ _ _ h => h) (Or.inl ⟨by rfl, ?_⟩) ?_ ?_
            rotate_left
            · intro w'
              go_simp
              with_reducible rfl
            rotate_left
            · simp only [Act.put, List.setIfInBounds_toArray, List.set_cons_zero, List.set_cons_succ, i64_w, i32_w]
              rfl
            refine pure_ (i := 6) (N := some 59) (v := ?_) (a' := ?_) #[true, true, false, true, false, true, true, false, false, false, false, false, false] rfl rfl (by kernel_rfl) (fun _ _ _ h => h) (Or.inl ⟨by rfl, ?_⟩) ?_ ?_
            rotate_left
            · intro w'
              go_simp
              with_reducible rfl
            rotate_left
            · simp only [Act.put, List.setIfInBounds_toArray, List.set_cons_zero, List.set_cons_succ, i64_w, i32_w]
              rfl
            refine pure_ (i := 8) (N := some 61) (v := ?_) (a' := ?_) #[true, true, false, true, false, true, true, false, true, false, false, false, false] rfl rfl (by kernel_rfl) (fun _ _ _ h => h) (Or.inl ⟨by rfl, ?_⟩) ?_ ?_
            rotate_left
            · intro w'
              go_simp
              with_reducible rfl
            rotate_left
            · simp only [Act.put, List.setIfInBounds_toArray, List.set_cons_zero, List.set_cons_succ, i64_w, i32_w]
              rfl
            refine take_ (i := 2) (N := some 55) (v := ?_) (a' := ?_) #[true, true, true, true, false, true, true, false, true, false, false, false, false] rfl rfl (by kernel_rfl) (fun _ _ _ h => h) (Or.inl ⟨by rfl, ?_⟩) hHeld ?_ ?_
            rotate_left
            · rintro w' ⟨s0, s1⟩
              go_simp
              with_reducible rfl
            rotate_left
            · simp only [Act.put, List.setIfInBounds_toArray, List.set_cons_zero, List.set_cons_succ, i64_w, i32_w]
              rfl
            refine take_ (i := 7) (N := some 60) (v := ?_) (a' := ?_) #[true, true, true, true, false, true, true, true, true, false, false, false, false] rfl rfl (by kernel_rfl) (fun _ _ _ h => h) (Or.inl ⟨by rfl, ?_⟩) hHeld ?_ ?_
            rotate_left
            · rintro w' ⟨s0, s1⟩
              go_simp
              with_reducible rfl
            rotate_left
            · simp only [Act.put, List.setIfInBounds_toArray, List.set_cons_zero, List.set_cons_succ, i64_w, i32_w]
              rfl
            refine take_ (i := 9) (N := some 62) (v := ?_) (a' := ?_) #[true, true, true, true, false, true, true, true, true, true, false, false, false] rfl rfl (by kernel_rfl) (fun _ _ _ h => h) (Or.inl ⟨by rfl, ?_⟩) hHeld ?_ ?_
            rotate_left
            · rintro w' ⟨s0, s1⟩
              go_simp
              with_reducible rfl
            rotate_left
            · simp only [Act.put, List.setIfInBounds_toArray, List.set_cons_zero, List.set_cons_succ, i64_w, i32_w]
              rfl
            refine one_ (i := 4) (N := some 57) #[true, true, true, true, true, true, true, true, true, true, false, false, false] rfl rfl (by kernel_rfl) (by decide) (fun K hK => ?_)
            refine goes_ Try.func10 (by kernel_rfl) rfl #[.pointer (some ⟨g1, 0, none⟩), .int .i64 si, .slice Ai bs.length ci] (by rfl) rfl rfl (by simp only [List.map_toArray, List.map_cons, List.map_nil]; rfl) ?_
            with_reducible refine (HA.out).mono ?_
            rintro e w4 ⟨rfl, hd4, hk4⟩
            refine ⟨_, rfl, ?_⟩
            obtain ⟨hT4, hkp4⟩ := HX1.out w4 _ hd4 hk4
            have HT4 := Aside0.mk hT4
            have hb4 : w4.heap[wq.heap.size]? = some (.cells #[.int .i64 wh, .int .i64 si, .slice B bs.length cb, .int .u64 kp] 43 (0, 0)) := (hkp4 wq.heap.size ⟨Nat.le_refl _, HP.out⟩).trans HBlk3.out
            have HKP4 : Aside0 (∀ k, wq.heap.size ≤ k ∧ k < w3.heap.size → w4.heap[k]? = w3.heap[k]?) := ⟨fun k hk => hkp4 k hk⟩
            obtain ⟨ok2, hdp2, hnew2, hnext2⟩ := hT4.snd
            have HA2 : Aside0 _ := ⟨rput_calls g2 d si bs B bs.length cb ok2 (fun k => k < w4.heap.size) w4 hdp2 (Kd.C_F (Kd.heap_int _) (Kd.C_below HCw.out hT4.hb)) hnew2 (by have := HL200.out; omega) (by have := HLo.out; omega)⟩
            have HX2 := Aside0.mk hnext2
            have HB4 := Aside0.mk hb4
            clear hT4 hkp4 hd4 hk4 hdp2 hnew2 hnext2 hb4 HA HX1
            refine hK.out _ _ ⟨((blk_cell HB4.out 1).trans rfl), ((blk_cell HB4.out 2).trans rfl)⟩ (fun hHeld => ?_)
            clear hK K
            refine norm_ (a' := ?_) ?_ ?_
            rotate_left
            · show Act.put _ (some 57) _ = _
              simp only [Act.put, List.setIfInBounds_toArray, List.set_cons_zero, List.set_cons_succ, i64_w, i32_w]
              rfl
            refine one_ (i := 10) (N := some 63) #[true, true, true, true, true, true, true, true, true, true, true, false, false] rfl rfl (by kernel_rfl) (by decide) (fun K hK => ?_)
            refine goes_ Try.func18 (by kernel_rfl) rfl #[.pointer (some ⟨g2, 0, none⟩), .int .i64 si, .slice B bs.length cb] (by rfl) rfl rfl (by simp only [List.map_toArray, List.map_cons, List.map_nil]; rfl) ?_
            with_reducible refine (HA2.out).mono ?_
            rintro e w5 ⟨rfl, hd5, hk5⟩
            refine ⟨_, rfl, ?_⟩
            obtain ⟨hT5, hkp5⟩ := HX2.out w5 _ hd5 hk5
            have HT5 := Aside0.mk hT5
            have hb5 : w5.heap[wq.heap.size]? = some (.cells #[.int .i64 wh, .int .i64 si, .slice B bs.length cb, .int .u64 kp] 43 (0, 0)) := (hkp5 wq.heap.size ⟨Nat.le_refl _, HP.out⟩).trans HB4.out
            have HKP5 : Aside0 (∀ k, wq.heap.size ≤ k ∧ k < w3.heap.size → w5.heap[k]? = w3.heap[k]?) := ⟨fun k hk => (hkp5 k hk).trans (HKP4.out k hk)⟩
            have HB5 := Aside0.mk hb5
            clear hT5 hkp5 hd5 hk5 hb5 HA2 HX2
            refine hK.out _ _ ⟨((blk_cell HB5.out 1).trans rfl), ((blk_cell HB5.out 2).trans rfl)⟩ (fun hHeld => ?_)
            clear hK K
            refine norm_ (a' := ?_) ?_ ?_
            rotate_left
            · show Act.put _ (some 63) _ = _
              simp only [Act.put, List.setIfInBounds_toArray, List.set_cons_zero, List.set_cons_succ, i64_w, i32_w]
              rfl
            refine pure_ (i := 11) (N := some 9) (v := ?_) (a' := ?_) #[true, true, true, true, true, true, true, true, true, true, true, true, false] rfl rfl (by kernel_rfl) (fun _ _ _ h => h) (Or.inl ⟨by rfl, ?_⟩) ?_ ?_
            rotate_left
            · intro w'
              go_simp
              with_reducible rfl
            rotate_left
            · simp only [Act.put, List.setIfInBounds_toArray, List.set_cons_zero, List.set_cons_succ, i64_w, i32_w]
              rfl
            refine pure_ (i := 12) (N := some 10) (v := ?_) (a' := ?_) #[true, true, true, true, true, true, true, true, true, true, true, true, true] rfl rfl (by kernel_rfl) (fun _ _ _ h => h) (Or.inl ⟨by rfl, ?_⟩) ?_ ?_
            rotate_left
            · intro w'
              go_simp
              with_reducible rfl
            rotate_left
            · simp only [Act.put, List.setIfInBounds_toArray, List.set_cons_zero, List.set_cons_succ, i64_w, i32_w]
              rfl
            refine done_ (by kernel_rfl) ?_
            clear hHeld
            go_wp2_with fail
            go_meet
            exact ⟨d.writeE si bs.length, d.write si bs, rfl, rfl, HT5, HKP5, ⟨nice_write HN.out si bs⟩, ⟨by have := HLo.out; have := write_len d si bs; omega⟩⟩
          have b0 : (wh == 0) = false := by simpa using e0
          by_cases e1 : wh = 1
          · have b1 : (wh == 1) = true := by rw [e1]; rfl
            clear e1
            obtain ⟨ok1, hdp1, hnew1, hnext1⟩ := HT3.out.fst
            have HA : Aside0 _ := ⟨flush_calls g1 d ok1 w3 hdp1 HN.out.fit.fits hnew1⟩
            have HX1 := Aside0.mk hnext1
            clear hdp1 hnew1 hnext1
            go_wp2_with fail
            refine HA.out.mono ?_
            rintro e w4 ⟨rfl, hd4, hk4⟩
            obtain ⟨hT4, hkp4⟩ := HX1.out w4 _ hd4 hk4
            have HT4 := Aside0.mk hT4
            have hb4 : w4.heap[wq.heap.size]? = some (.cells #[.int .i64 wh, .int .i64 si, .slice B bs.length cb, .int .u64 kp] 43 (0, 0)) := (hkp4 wq.heap.size ⟨Nat.le_refl _, HP.out⟩).trans HBlk3.out
            have q3 : w4.cell? ⟨wq.heap.size, 3, none⟩ = some (.int .u64 kp) := (blk_cell hb4 3).trans rfl
            have HKP4 : Aside0 (∀ k, wq.heap.size ≤ k ∧ k < w3.heap.size → w4.heap[k]? = w3.heap[k]?) := ⟨fun k hk => hkp4 k hk⟩
            obtain ⟨ok2, hdp2, hnew2, hnext2⟩ := hT4.snd
            have HX2 := Aside0.mk hnext2
            have HA2 : Aside0 _ := ⟨rflush_calls g2 d ok2 w4 hdp2 HN.out.fit.fits⟩
            clear hT4 hkp4 hd4 hk4 hdp2 hnew2 hnext2 hb4 HA HX1
            go_wp2_with fail
            refine HA2.out.mono ?_
            rintro e w5 ⟨rfl, hd5, hk5⟩
            obtain ⟨hT5, hkp5⟩ := HX2.out _ _ hd5 hk5
            have HT5 := Aside0.mk hT5
            have HKP5 : Aside0 (∀ k, wq.heap.size ≤ k ∧ k < w3.heap.size → _) := ⟨fun k hk => (hkp5 k hk).trans (HKP4.out k hk)⟩
            clear hT5 hkp5 hd5 hk5
            go_wp2_with fail
            go_meet
            exact ⟨d.flushE, d.flush, rfl, rfl, HT5, HKP5, ⟨nice_flush HN.out⟩, ⟨by have := HLo.out; have := flush_len d; omega⟩⟩
          have b1 : (wh == 1) = false := by simpa using e1
          by_cases e2 : wh = 2
          · have b2 : (wh == 2) = true := by rw [e2]; rfl
            clear e2
            have q3 : w3.cell? ⟨wq.heap.size, 3, none⟩ = some (.int .u64 kp) := (blk_cell HBlk3.out 3).trans rfl
            obtain ⟨ok1, hdp1, hnew1, hnext1⟩ := HT3.out.fst
            have HA : Aside0 _ := ⟨crash_calls g1 d kp ok1 w3 hdp1 HN.out.fit.fits hnew1 hkp0 hkp1⟩
            have HX1 := Aside0.mk hnext1
            clear hdp1 hnew1 hnext1
            go_wp2_with fail
            refine HA.out.mono ?_
            rintro e w4 ⟨rfl, hd4, hk4⟩
            obtain ⟨hT4, hkp4⟩ := HX1.out w4 _ hd4 hk4
            have HT4 := Aside0.mk hT4
            have hb4 : w4.heap[wq.heap.size]? = some (.cells #[.int .i64 wh, .int .i64 si, .slice B bs.length cb, .int .u64 kp] 43 (0, 0)) := (hkp4 wq.heap.size ⟨Nat.le_refl _, HP.out⟩).trans HBlk3.out
            have q3 : w4.cell? ⟨wq.heap.size, 3, none⟩ = some (.int .u64 kp) := (blk_cell hb4 3).trans rfl
            have HKP4 : Aside0 (∀ k, wq.heap.size ≤ k ∧ k < w3.heap.size → w4.heap[k]? = w3.heap[k]?) := ⟨fun k hk => hkp4 k hk⟩
            obtain ⟨ok2, hdp2, hnew2, hnext2⟩ := hT4.snd
            have HX2 := Aside0.mk hnext2
            have HA2 : Aside0 _ := ⟨rcrash_calls g2 d kp ok2 w4 hdp2 HN.out.fit.fits hkp0 hkp1⟩
            clear hT4 hkp4 hd4 hk4 hdp2 hnew2 hnext2 hb4 HA HX1
            go_wp2_with fail
            refine HA2.out.mono ?_
            rintro e w5 ⟨rfl, hd5, hk5⟩
            obtain ⟨hT5, hkp5⟩ := HX2.out _ _ hd5 hk5
            have HT5 := Aside0.mk hT5
            have HKP5 : Aside0 (∀ k, wq.heap.size ≤ k ∧ k < w3.heap.size → _) := ⟨fun k hk => (hkp5 k hk).trans (HKP4.out k hk)⟩
            clear hT5 hkp5 hd5 hk5
            go_wp2_with fail
            go_meet
            exact ⟨0, d.crash kp, rfl, rfl, HT5, HKP5, ⟨nice_crash HN.out kp⟩, ⟨Nat.zero_le _⟩⟩
          have b2 : (wh == 2) = false := by simpa using e2
          by_cases e3 : wh = 3
          · have b3 : (wh == 3) = true := by rw [e3]; rfl
            clear e3
            obtain ⟨ok1, hdp1, hnew1, hnext1⟩ := HT3.out.fst
            have HA : Aside0 _ := ⟨lose_calls g1 d ok1 w3 hdp1⟩
            have HX1 := Aside0.mk hnext1
            clear hdp1 hnew1 hnext1
            go_wp2_with fail
            refine HA.out.mono ?_
            rintro e w4 ⟨rfl, hd4, hk4⟩
            obtain ⟨hT4, hkp4⟩ := HX1.out w4 _ hd4 hk4
            have HT4 := Aside0.mk hT4
            have hb4 : w4.heap[wq.heap.size]? = some (.cells #[.int .i64 wh, .int .i64 si, .slice B bs.length cb, .int .u64 kp] 43 (0, 0)) := (hkp4 wq.heap.size ⟨Nat.le_refl _, HP.out⟩).trans HBlk3.out
            have q3 : w4.cell? ⟨wq.heap.size, 3, none⟩ = some (.int .u64 kp) := (blk_cell hb4 3).trans rfl
            have HKP4 : Aside0 (∀ k, wq.heap.size ≤ k ∧ k < w3.heap.size → w4.heap[k]? = w3.heap[k]?) := ⟨fun k hk => hkp4 k hk⟩
            obtain ⟨ok2, hdp2, hnew2, hnext2⟩ := hT4.snd
            have HX2 := Aside0.mk hnext2
            obtain ⟨v, u, hdv⟩ := hdp2
            obtain ⟨c0, c1, c2, hfz⟩ := dv_cell hdv
            have hd5 : Dp 47 61 (((w4.setCell ⟨g2, 2, none⟩ (.bool true)).setCell ⟨g2, 1, none⟩ (.slice none 0 0)).setCell ⟨g2, 0, none⟩ (.slice none 0 0)) ok2 g2 ⟨[], [], true⟩ := ⟨_, _, dv_empty (blk_set (blk_set (blk_set hdv.blk 2 (.bool true)) 1 (.slice none 0 0)) 0 (.slice none 0 0)) hdv.ng⟩
            have hk5 : Kq w4 (((w4.setCell ⟨g2, 2, none⟩ (.bool true)).setCell ⟨g2, 1, none⟩ (.slice none 0 0)).setCell ⟨g2, 0, none⟩ (.slice none 0 0)) ok2 g2 := (((Kq.refl w4 ok2 g2).set (p := ⟨g2, 2, none⟩) (.inl rfl) _).set (p := ⟨g2, 1, none⟩) (.inl rfl) _).set (p := ⟨g2, 0, none⟩) (.inl rfl) _
            have HD5 := Aside0.mk hd5
            have HK5 := Aside0.mk hk5
            clear hT4 hkp4 hd4 hk4 hdv hnew2 hnext2 hb4 HA HX1 hd5 hk5
            go_wp2_with fail
            have hd5 := HD5.out
            have hk5 := HK5.out
            obtain ⟨hT5, hkp5⟩ := HX2.out _ _ hd5 hk5
            have HT5 := Aside0.mk hT5
            have HKP5 : Aside0 (∀ k, wq.heap.size ≤ k ∧ k < w3.heap.size → _) := ⟨fun k hk => (hkp5 k hk).trans (HKP4.out k hk)⟩
            clear hT5 hkp5 hd5 hk5
            go_meet
            exact ⟨0, ⟨[], [], true⟩, rfl, rfl, HT5, HKP5, ⟨nice_lost⟩, ⟨Nat.zero_le _⟩⟩
          have b3 : (wh == 3) = false := by simpa using e3
          clear e0 e1 e2 e3
          go_wp2_with fail
          go_meet
          exact ⟨0, d, rfl, rfl, HT3, ⟨fun _ _ => rfl⟩, HN, ⟨by have := HLo.out; omega⟩⟩
        case rest =>
          obtain ⟨n, d', rfl, rfl, HTc, HKc, HNc, HLc⟩ := hcut
          have HOc : Aside0 (U8.R 5 wc wo.heap.size (fun k => wq.heap.size ≤ k ∧ k < w3.heap.size) (.slice Ai bs.length ci) bs) := by
            have h1 := HBo.out.size
            have h2 : U8.R 5 w3 wo.heap.size (fun k => wq.heap.size ≤ k ∧ k < w3.heap.size) (.slice Ai bs.length ci) bs := Kd.R_mono (Kd.R_bound HO.out) (fun k hk => ⟨by have := hk.2.1; omega, hk.2.2.1⟩)
            exact ⟨Kd.R_step h2 (fun k hk _ => HKc.out k hk)⟩
          have HBc : Aside0 (wc.heap[wq.heap.size]? = some (.cells #[.int .i64 wh, .int .i64 si, .slice B bs.length cb, .int .u64 kp] 43 (0, 0))) := ⟨(HKc.out _ ⟨Nat.le_refl _, HP.out⟩).trans HBlk3.out⟩
          have HZo : Aside0 (wq.heap.size < wo.heap.size) := ⟨blk_lt HBlk.out⟩
          have hbl : (bs.length : Int) ≤ 200 := by have := HL200.out; omega
          go_wp2
          go_loopw [12, 93, 94, 95, 96, 97, 98, 99, 100, 101, 102, 103, 104] (fun x12 x93 x94 x95 x96 x97 x98 x99 x100 x101 x102 x103 x104 wi => ∃ (i : Nat) (xs : List Int), i ≤ bs.length ∧ x12 = .int .i64 i ∧ Aside0 (xs.length = bs.length) ∧ Aside0 (U8.R 5 wi wo.heap.size (fun k => wq.heap.size ≤ k ∧ k < w3.heap.size) (.slice Ai bs.length ci) xs) ∧ Aside0 (Two w wi g1 g2 (fun k => wq.heap.size ≤ k ∧ k < w3.heap.size) d' d') ∧ Aside0 (wi.heap[wq.heap.size]? = some (.cells #[.int .i64 wh, .int .i64 si, .slice B bs.length cb, .int .u64 kp] 43 (0, 0)))) (fun x12 _ _ _ _ _ _ _ _ _ _ _ _ _ => bs.length - (intOf x12).toNat)
          case atStart => exact ⟨0, bs, Nat.zero_le _, rfl, ⟨rfl⟩, HOc, HTc, HBc⟩
          case round =>
            obtain ⟨i, xs, hi, rfl, HXl, HOi, HTi, HBi⟩ := hrel
            by_cases hil : i < bs.length
            · obtain ⟨gi, cg, he, hgb, hgl, _⟩ := Kd.R_form HOi.out (by have := HXl.out; omega)
              injection he with e1 e2 e3
              subst e1
              have hpr := HOi.out.1 gi (by simp [Value.ownBlock])
              obtain ⟨hcl, hfr⟩ := Kd.R_celln (0 : Int) HOi.out (i : Int) (by omega) (by omega)
              rw [Int.toNat_natCast] at hcl hfr
              have hgne : gi ≠ wq.heap.size := by have := HZo.out; omega
              have HGN := Aside0.mk hgne
              have HPR := Aside0.mk hpr
              clear e2 e3 hpr hgb hgl hgne
              go_wp2
              go_roundw
              case rel =>
                have hR := fun (y : Int) => Kd.R_putn HOi.out (i : Int) y
                simp only [Int.toNat_natCast] at hR
                refine ⟨i + 1, _, by omega, by go_num, ⟨?_⟩, ⟨hR _⟩, ⟨HTi.out.touch (HTi.out.hb.setCell (Nat.le_trans HT.out.hb.size HPR.out.1) _) (by simp [World.setCell]) (fun k _ hk => Below.heap_setCell _ _ _ _ (fun e => hk (by rw [show k = gi from e]; exact HPR.out)))⟩, ⟨(Below.heap_setCell _ _ _ _ (fun e => HGN.out (Eq.symm e))).trans HBi.out⟩⟩
                rw [List.length_set]
                exact HXl.out
              case measure => simp [intOf]; omega
            · obtain rfl : i = bs.length := by omega
              have hdi : decide (bs.length < bs.length) = false := decide_eq_false (Nat.lt_irrefl _)
              obtain ⟨ok1, hdp1⟩ := HTi.out.dp1
              obtain ⟨ok2, v2, u2, hdv⟩ := HTi.out.dp2
              obtain ⟨A2, n2, B2, m2, rfl, rfl, hz1, hz2⟩ := dv_len hdv
              obtain ⟨k0, k1, k2, hfz⟩ := dv_cell hdv
              have HD1 := Aside0.mk hdp1
              have HD1d : Aside0 (Dp 55 58 wr.drew ok1 g1 d') := ⟨hdp1.drewN 1⟩
              have HD2 := Aside0.mk hdv
              have hcap := nice_cap HNc.out
              have HCap := Aside0.mk hcap
              have hne : (n != n) = false := by simp
              clear hi hil hdp1 hdv hcap
              go_wp2_with fail
              refine start_ (n := 32) (S := fun w' => w'.cell? ⟨g2, 0, none⟩ = some (.slice A2 d'.slots.length n2) ∧ w'.cell? ⟨g2, 1, none⟩ = some (.slice B2 d'.loose.length m2) ∧ w'.cell? ⟨g2, 2, none⟩ = some (.bool d'.lost)) (ds := []) #[false, false, false, false, false, false, false, false, false, false, false, false, false, false, false, false, false, false, false, false, false, false, false, false, false, false, false, false, false, false, false, false] (by kernel_rfl) rfl rfl ⟨k0, k1, k2⟩ (fun hHeld => ?_)
              refine pure_ (i := 0) (N := some 105) (v := ?_) (a' := ?_) #[true, false, false, false, false, false, false, false, false, false, false, false, false, false, false, false, false, false, false, false, false, false, false, false, false, false, false, false, false, false, false, false] rfl rfl (by kernel_rfl) (fun _ _ _ h => h) (Or.inl ⟨by rfl, ?_⟩) ?_ ?_
              rotate_left
              · intro w'
                go_simp
                with_reducible rfl
              rotate_left
              · simp only [Act.put, List.setIfInBounds_toArray, List.set_cons_zero, List.set_cons_succ, i64_w, i32_w]
                rfl
              refine pure_ (i := 1) (N := some 106) (v := ?_) (a' := ?_) #[true, true, false, false, false, false, false, false, false, false, false, false, false, false, false, false, false, false, false, false, false, false, false, false, false, false, false, false, false, false, false, false] rfl rfl (by kernel_rfl) (fun _ _ _ h => h) (Or.inl ⟨by rfl, ?_⟩) ?_ ?_
              rotate_left
              · intro w'
                go_simp
                with_reducible rfl
              rotate_left
              · simp only [Act.put, List.setIfInBounds_toArray, List.set_cons_zero, List.set_cons_succ, i64_w, i32_w]
                rfl
              refine pure_ (i := 2) (N := some 107) (v := ?_) (a' := ?_) #[true, true, true, false, false, false, false, false, false, false, false, false, false, false, false, false, false, false, false, false, false, false, false, false, false, false, false, false, false, false, false, false] rfl rfl (by kernel_rfl) (fun _ _ _ h => h) (Or.inl ⟨by rfl, ?_⟩) ?_ ?_
              rotate_left
              · intro w'
                go_simp
                with_reducible rfl
              rotate_left
              · simp only [Act.put, List.setIfInBounds_toArray, List.set_cons_zero, List.set_cons_succ, i64_w, i32_w]
                rfl
              refine pure_ (i := 3) (N := some 108) (v := ?_) (a' := ?_) #[true, true, true, true, false, false, false, false, false, false, false, false, false, false, false, false, false, false, false, false, false, false, false, false, false, false, false, false, false, false, false, false] rfl rfl (by kernel_rfl) (fun _ _ _ h => h) (Or.inl ⟨by rfl, ?_⟩) ?_ ?_
              rotate_left
              · intro w'
                go_simp
                with_reducible rfl
              rotate_left
              · simp only [Act.put, List.setIfInBounds_toArray, List.set_cons_zero, List.set_cons_succ, i64_w, i32_w]
                rfl
              refine pure_ (i := 4) (N := some 109) (v := ?_) (a' := ?_) #[true, true, true, true, true, false, false, false, false, false, false, false, false, false, false, false, false, false, false, false, false, false, false, false, false, false, false, false, false, false, false, false] rfl rfl (by kernel_rfl) (fun _ _ _ h => h) (Or.inl ⟨by rfl, ?_⟩) ?_ ?_
              rotate_left
              · intro w'
                go_simp
                with_reducible rfl
              rotate_left
              · simp only [Act.put, List.setIfInBounds_toArray, List.set_cons_zero, List.set_cons_succ, i64_w, i32_w]
                rfl
              refine pure_ (i := 6) (N := some 111) (v := ?_) (a' := ?_) #[true, true, true, true, true, false, true, false, false, false, false, false, false, false, false, false, false, false, false, false, false, false, false, false, false, false, false, false, false, false, false, false] rfl rfl (by kernel_rfl) (fun _ _ _ h => h) (Or.inl ⟨by rfl, ?_⟩) ?_ ?_
              rotate_left
              · intro w'
                go_simp
                with_reducible rfl
              rotate_left
              · simp only [Act.put, List.setIfInBounds_toArray, List.set_cons_zero, List.set_cons_succ, i64_w, i32_w]
                rfl
              refine pure_ (i := 7) (N := some 112) (v := ?_) (a' := ?_) #[true, true, true, true, true, false, true, true, false, false, false, false, false, false, false, false, false, false, false, false, false, false, false, false, false, false, false, false, false, false, false, false] rfl rfl (by kernel_rfl) (fun _ _ _ h => h) (Or.inl ⟨by rfl, ?_⟩) ?_ ?_
              rotate_left
              · intro w'
                go_simp
                with_reducible rfl
              rotate_left
              · simp only [Act.put, List.setIfInBounds_toArray, List.set_cons_zero, List.set_cons_succ, i64_w, i32_w]
                rfl
              refine pure_ (i := 8) (N := some 113) (v := ?_) (a' := ?_) #[true, true, true, true, true, false, true, true, true, false, false, false, false, false, false, false, false, false, false, false, false, false, false, false, false, false, false, false, false, false, false, false] rfl rfl (by kernel_rfl) (fun _ _ _ h => h) (Or.inl ⟨by rfl, ?_⟩) ?_ ?_
              rotate_left
              · intro w'
                go_simp
                with_reducible rfl
              rotate_left
              · simp only [Act.put, List.setIfInBounds_toArray, List.set_cons_zero, List.set_cons_succ, i64_w, i32_w]
                rfl
              refine take_ (i := 9) (N := some 114) (v := ?_) (a' := ?_) #[true, true, true, true, true, false, true, true, true, true, false, false, false, false, false, false, false, false, false, false, false, false, false, false, false, false, false, false, false, false, false, false] rfl rfl (by kernel_rfl) (fun _ _ _ h => h) (Or.inl ⟨by rfl, ?_⟩) hHeld ?_ ?_
              rotate_left
              · rintro w' ⟨s0, s1, s2⟩
                go_simp
                with_reducible rfl
              rotate_left
              · simp only [Act.put, List.setIfInBounds_toArray, List.set_cons_zero, List.set_cons_succ, i64_w, i32_w]
                rfl
              refine one_ (i := 5) (N := some 110) #[true, true, true, true, true, true, true, true, true, true, false, false, false, false, false, false, false, false, false, false, false, false, false, false, false, false, false, false, false, false, false, false] rfl rfl (by kernel_rfl) (by decide) (fun K hK => ?_)
              refine goes_ Try.func22 (by kernel_rfl) rfl #[.pointer (some ⟨g1, 0, none⟩)] (by rfl) rfl rfl (by simp only [List.map_toArray, List.map_cons, List.map_nil]; rfl) ?_
              with_reducible refine (lost_calls g1 d' ok1 _ HD1d.out).mono ?_
              rintro e w9 ⟨rfl, rfl⟩
              refine ⟨_, rfl, ?_⟩
              refine hK.out _ _ ⟨k0, k1, k2⟩ (fun hHeld => ?_)
              clear hK K
              refine norm_ (a' := ?_) ?_ ?_
              rotate_left
              · show Act.put _ (some 110) _ = _
                simp only [Act.put, List.setIfInBounds_toArray, List.set_cons_zero, List.set_cons_succ, i64_w, i32_w]
                rfl
              refine pure_ (i := 10) (N := some 115) (v := ?_) (a' := ?_) #[true, true, true, true, true, true, true, true, true, true, true, false, false, false, false, false, false, false, false, false, false, false, false, false, false, false, false, false, false, false, false, false] rfl rfl (by kernel_rfl) (fun _ _ _ h => h) (Or.inl ⟨by rfl, ?_⟩) ?_ ?_
              rotate_left
              · intro w'
                go_simp
                with_reducible rfl
              rotate_left
              · simp only [Act.put, List.setIfInBounds_toArray, List.set_cons_zero, List.set_cons_succ, i64_w, i32_w]
                rfl
              refine pure_ (i := 11) (N := some 116) (v := ?_) (a' := ?_) #[true, true, true, true, true, true, true, true, true, true, true, true, false, false, false, false, false, false, false, false, false, false, false, false, false, false, false, false, false, false, false, false] rfl rfl (by kernel_rfl) (fun _ _ _ h => h) (Or.inl ⟨by rfl, ?_⟩) ?_ ?_
              rotate_left
              · intro w'
                go_simp
                with_reducible rfl
              rotate_left
              · simp only [Act.put, List.setIfInBounds_toArray, List.set_cons_zero, List.set_cons_succ, i64_w, i32_w]
                rfl
              refine pure_ (i := 12) (N := some 117) (v := ?_) (a' := ?_) #[true, true, true, true, true, true, true, true, true, true, true, true, true, false, false, false, false, false, false, false, false, false, false, false, false, false, false, false, false, false, false, false] rfl rfl (by kernel_rfl) (fun _ _ _ h => h) (Or.inl ⟨by rfl, ?_⟩) ?_ ?_
              rotate_left
              · intro w'
                go_simp
                with_reducible rfl
              rotate_left
              · simp only [Act.put, List.setIfInBounds_toArray, List.set_cons_zero, List.set_cons_succ, i64_w, i32_w]
                rfl
              refine pure_ (i := 13) (N := some 118) (v := ?_) (a' := ?_) #[true, true, true, true, true, true, true, true, true, true, true, true, true, true, false, false, false, false, false, false, false, false, false, false, false, false, false, false, false, false, false, false] rfl rfl (by kernel_rfl) (fun _ _ _ h => h) (Or.inl ⟨by rfl, ?_⟩) ?_ ?_
              rotate_left
              · intro w'
                go_simp
                with_reducible rfl
              rotate_left
              · simp only [Act.put, List.setIfInBounds_toArray, List.set_cons_zero, List.set_cons_succ, i64_w, i32_w]
                rfl
              refine pure_ (i := 15) (N := some 120) (v := ?_) (a' := ?_) #[true, true, true, true, true, true, true, true, true, true, true, true, true, true, false, true, false, false, false, false, false, false, false, false, false, false, false, false, false, false, false, false] rfl rfl (by kernel_rfl) (fun _ _ _ h => h) (Or.inl ⟨by rfl, ?_⟩) ?_ ?_
              rotate_left
              · intro w'
                go_simp
                with_reducible rfl
              rotate_left
              · simp only [Act.put, List.setIfInBounds_toArray, List.set_cons_zero, List.set_cons_succ, i64_w, i32_w]
                rfl
              refine pure_ (i := 16) (N := some 121) (v := ?_) (a' := ?_) #[true, true, true, true, true, true, true, true, true, true, true, true, true, true, false, true, true, false, false, false, false, false, false, false, false, false, false, false, false, false, false, false] rfl rfl (by kernel_rfl) (fun _ _ _ h => h) (Or.inl ⟨by rfl, ?_⟩) ?_ ?_
              rotate_left
              · intro w'
                go_simp
                with_reducible rfl
              rotate_left
              · simp only [Act.put, List.setIfInBounds_toArray, List.set_cons_zero, List.set_cons_succ, i64_w, i32_w]
                rfl
              refine pure_ (i := 17) (N := some 122) (v := ?_) (a' := ?_) #[true, true, true, true, true, true, true, true, true, true, true, true, true, true, false, true, true, true, false, false, false, false, false, false, false, false, false, false, false, false, false, false] rfl rfl (by kernel_rfl) (fun _ _ _ h => h) (Or.inl ⟨by rfl, ?_⟩) ?_ ?_
              rotate_left
              · intro w'
                go_simp
                with_reducible rfl
              rotate_left
              · simp only [Act.put, List.setIfInBounds_toArray, List.set_cons_zero, List.set_cons_succ, i64_w, i32_w]
                rfl
              refine take_ (i := 18) (N := some 123) (v := ?_) (a' := ?_) #[true, true, true, true, true, true, true, true, true, true, true, true, true, true, false, true, true, true, true, false, false, false, false, false, false, false, false, false, false, false, false, false] rfl rfl (by kernel_rfl) (fun _ _ _ h => h) (Or.inl ⟨by rfl, ?_⟩) hHeld ?_ ?_
              rotate_left
              · rintro w' ⟨s0, s1, s2⟩
                go_simp
                with_reducible rfl
              rotate_left
              · simp only [Act.put, List.setIfInBounds_toArray, List.set_cons_zero, List.set_cons_succ, i64_w, i32_w]
                rfl
              refine pure_ (i := 19) (N := some 124) (v := ?_) (a' := ?_) #[true, true, true, true, true, true, true, true, true, true, true, true, true, true, false, true, true, true, true, true, false, false, false, false, false, false, false, false, false, false, false, false] rfl rfl (by kernel_rfl) (fun _ _ _ h => h) (Or.inl ⟨by rfl, ?_⟩) ?_ ?_
              rotate_left
              · intro w'
                go_simp
                with_reducible rfl
              rotate_left
              · simp only [Act.put, List.setIfInBounds_toArray, List.set_cons_zero, List.set_cons_succ, i64_w, i32_w]
                rfl
              refine one_ (i := 14) (N := some 119) #[true, true, true, true, true, true, true, true, true, true, true, true, true, true, true, true, true, true, true, true, false, false, false, false, false, false, false, false, false, false, false, false] rfl rfl (by kernel_rfl) (by decide) (fun K hK => ?_)
              refine goes_ Try.func11 (by kernel_rfl) rfl #[.pointer (some ⟨g1, 0, none⟩)] (by rfl) rfl rfl (by simp only [List.map_toArray, List.map_cons, List.map_nil]; rfl) ?_
              with_reducible refine (loose_calls g1 d' ok1 _ HD1d.out).mono ?_
              rintro e w9 ⟨rfl, rfl⟩
              refine ⟨_, rfl, ?_⟩
              refine hK.out _ _ ⟨k0, k1, k2⟩ (fun hHeld => ?_)
              clear hK K
              refine norm_ (a' := ?_) ?_ ?_
              rotate_left
              · show Act.put _ (some 119) _ = _
                simp only [Act.put, List.setIfInBounds_toArray, List.set_cons_zero, List.set_cons_succ, i64_w, i32_w]
                rfl
              refine pure_ (i := 20) (N := some 125) (v := ?_) (a' := ?_) #[true, true, true, true, true, true, true, true, true, true, true, true, true, true, true, true, true, true, true, true, true, false, false, false, false, false, false, false, false, false, false, false] rfl rfl (by kernel_rfl) (fun _ _ _ h => h) (Or.inl ⟨by rfl, ?_⟩) ?_ ?_
              rotate_left
              · intro w'
                go_simp
                with_reducible rfl
              rotate_left
              · simp only [Act.put, List.setIfInBounds_toArray, List.set_cons_zero, List.set_cons_succ, i64_w, i32_w]
                rfl
              refine pure_ (i := 21) (N := some 126) (v := ?_) (a' := ?_) #[true, true, true, true, true, true, true, true, true, true, true, true, true, true, true, true, true, true, true, true, true, true, false, false, false, false, false, false, false, false, false, false] rfl rfl (by kernel_rfl) (fun _ _ _ h => h) (Or.inl ⟨by rfl, ?_⟩) ?_ ?_
              rotate_left
              · intro w'
                go_simp
                with_reducible rfl
              rotate_left
              · simp only [Act.put, List.setIfInBounds_toArray, List.set_cons_zero, List.set_cons_succ, i64_w, i32_w]
                rfl
              refine pure_ (i := 22) (N := some 127) (v := ?_) (a' := ?_) #[true, true, true, true, true, true, true, true, true, true, true, true, true, true, true, true, true, true, true, true, true, true, true, false, false, false, false, false, false, false, false, false] rfl rfl (by kernel_rfl) (fun _ _ _ h => h) (Or.inl ⟨by rfl, ?_⟩) ?_ ?_
              rotate_left
              · intro w'
                go_simp
                with_reducible rfl
              rotate_left
              · simp only [Act.put, List.setIfInBounds_toArray, List.set_cons_zero, List.set_cons_succ, i64_w, i32_w]
                rfl
              refine pure_ (i := 23) (N := some 128) (v := ?_) (a' := ?_) #[true, true, true, true, true, true, true, true, true, true, true, true, true, true, true, true, true, true, true, true, true, true, true, true, false, false, false, false, false, false, false, false] rfl rfl (by kernel_rfl) (fun _ _ _ h => h) (Or.inl ⟨by rfl, ?_⟩) ?_ ?_
              rotate_left
              · intro w'
                go_simp
                with_reducible rfl
              rotate_left
              · simp only [Act.put, List.setIfInBounds_toArray, List.set_cons_zero, List.set_cons_succ, i64_w, i32_w]
                rfl
              refine pure_ (i := 25) (N := some 130) (v := ?_) (a' := ?_) #[true, true, true, true, true, true, true, true, true, true, true, true, true, true, true, true, true, true, true, true, true, true, true, true, false, true, false, false, false, false, false, false] rfl rfl (by kernel_rfl) (fun _ _ _ h => h) (Or.inl ⟨by rfl, ?_⟩) ?_ ?_
              rotate_left
              · intro w'
                go_simp
                with_reducible rfl
              rotate_left
              · simp only [Act.put, List.setIfInBounds_toArray, List.set_cons_zero, List.set_cons_succ, i64_w, i32_w]
                rfl
              refine pure_ (i := 26) (N := some 131) (v := ?_) (a' := ?_) #[true, true, true, true, true, true, true, true, true, true, true, true, true, true, true, true, true, true, true, true, true, true, true, true, false, true, true, false, false, false, false, false] rfl rfl (by kernel_rfl) (fun _ _ _ h => h) (Or.inl ⟨by rfl, ?_⟩) ?_ ?_
              rotate_left
              · intro w'
                go_simp
                with_reducible rfl
              rotate_left
              · simp only [Act.put, List.setIfInBounds_toArray, List.set_cons_zero, List.set_cons_succ, i64_w, i32_w]
                rfl
              refine pure_ (i := 27) (N := some 132) (v := ?_) (a' := ?_) #[true, true, true, true, true, true, true, true, true, true, true, true, true, true, true, true, true, true, true, true, true, true, true, true, false, true, true, true, false, false, false, false] rfl rfl (by kernel_rfl) (fun _ _ _ h => h) (Or.inl ⟨by rfl, ?_⟩) ?_ ?_
              rotate_left
              · intro w'
                go_simp
                with_reducible rfl
              rotate_left
              · simp only [Act.put, List.setIfInBounds_toArray, List.set_cons_zero, List.set_cons_succ, i64_w, i32_w]
                rfl
              refine take_ (i := 28) (N := some 133) (v := ?_) (a' := ?_) #[true, true, true, true, true, true, true, true, true, true, true, true, true, true, true, true, true, true, true, true, true, true, true, true, false, true, true, true, true, false, false, false] rfl rfl (by kernel_rfl) (fun _ _ _ h => h) (Or.inl ⟨by rfl, ?_⟩) hHeld ?_ ?_
              rotate_left
              · rintro w' ⟨s0, s1, s2⟩
                go_simp
                with_reducible rfl
              rotate_left
              · simp only [Act.put, List.setIfInBounds_toArray, List.set_cons_zero, List.set_cons_succ, i64_w, i32_w]
                rfl
              refine pure_ (i := 29) (N := some 134) (v := ?_) (a' := ?_) #[true, true, true, true, true, true, true, true, true, true, true, true, true, true, true, true, true, true, true, true, true, true, true, true, false, true, true, true, true, true, false, false] rfl rfl (by kernel_rfl) (fun _ _ _ h => h) (Or.inl ⟨by rfl, ?_⟩) ?_ ?_
              rotate_left
              · intro w'
                go_simp
                with_reducible rfl
              rotate_left
              · simp only [Act.put, List.setIfInBounds_toArray, List.set_cons_zero, List.set_cons_succ, i64_w, i32_w]
                rfl
              refine one_ (i := 24) (N := some 129) #[true, true, true, true, true, true, true, true, true, true, true, true, true, true, true, true, true, true, true, true, true, true, true, true, true, true, true, true, true, true, false, false] rfl rfl (by kernel_rfl) (by decide) (fun K hK => ?_)
              refine goes_ Try.func23 (by kernel_rfl) rfl #[.pointer (some ⟨g1, 0, none⟩)] (by rfl) rfl rfl (by simp only [List.map_toArray, List.map_cons, List.map_nil]; rfl) ?_
              with_reducible refine (cap_calls g1 d' ok1 _ HD1d.out).mono ?_
              rintro e w9 ⟨rfl, rfl⟩
              refine ⟨_, rfl, ?_⟩
              rw [HCap.out]
              refine hK.out _ _ ⟨k0, k1, k2⟩ (fun hHeld => ?_)
              clear hK K
              refine norm_ (a' := ?_) ?_ ?_
              rotate_left
              · show Act.put _ (some 129) _ = _
                simp only [Act.put, List.setIfInBounds_toArray, List.set_cons_zero, List.set_cons_succ, i64_w, i32_w]
                rfl
              refine pure_ (i := 30) (N := some 135) (v := ?_) (a' := ?_) #[true, true, true, true, true, true, true, true, true, true, true, true, true, true, true, true, true, true, true, true, true, true, true, true, true, true, true, true, true, true, true, false] rfl rfl (by kernel_rfl) (fun _ _ _ h => h) (Or.inl ⟨by rfl, ?_⟩) ?_ ?_
              rotate_left
              · intro w'
                go_simp
                with_reducible rfl
              rotate_left
              · simp only [Act.put, List.setIfInBounds_toArray, List.set_cons_zero, List.set_cons_succ, i64_w, i32_w]
                rfl
              refine pure_ (i := 31) (N := some 136) (v := ?_) (a' := ?_) #[true, true, true, true, true, true, true, true, true, true, true, true, true, true, true, true, true, true, true, true, true, true, true, true, true, true, true, true, true, true, true, true] rfl rfl (by kernel_rfl) (fun _ _ _ h => h) (Or.inl ⟨by rfl, ?_⟩) ?_ ?_
              rotate_left
              · intro w'
                go_simp
                with_reducible rfl
              rotate_left
              · simp only [Act.put, List.setIfInBounds_toArray, List.set_cons_zero, List.set_cons_succ, i64_w, i32_w]
                rfl
              refine done_ (by kernel_rfl) ?_
              clear hHeld
              have HT6 : Aside0 (Two w wr.drew g1 g2 (fun k => wq.heap.size ≤ k ∧ k < w3.heap.size) d' d') := ⟨HTi.out.below (below_drew (Below.refl _ _))⟩
              have HD2d : Aside0 (Dv 47 61 wr.drew ok2 g2 (.slice A2 d'.slots.length n2) (.slice B2 d'.loose.length m2) d') := ⟨HD2.out.step (fun _ _ _ => rfl) rfl⟩
              have q1 : wr.drew.cell? ⟨wq.heap.size, 1, none⟩ = some (.int .i64 si) := (blk_cell HBi.out 1).trans rfl
              clear HD1 HD2 HTi HOi HBi HTc HKc HOc HBc k0 k1 k2 hfz HXl
              generalize wr.drew = w6 at *
              by_cases hc : d'.check si = 0
              · obtain ⟨_, j, rfl, hj⟩ := check_ok hc
                have HA7 : Aside0 _ := ⟨read_ok g1 d' j ok1 w6 HD1d.out HNc.out.fit hc hj⟩
                have HBl6 : Aside0 (w6.cell? ⟨wq.heap.size, 1, none⟩ = some (.int .i64 (j : Int))) := ⟨q1⟩
                go_wp2_with fail
                refine HA7.out.mono ?_
                rintro e w7 ⟨v7, rfl, ho7, hb7⟩
                obtain ⟨A7, c7, e7, hl7, hF7⟩ := Kd.R_V (base' := 0) ho7
                subst e7
                have HF7 := Aside0.mk hF7
                have HL7 := Aside0.mk hl7
                have HB7 := Aside0.mk hb7
                have q7 := pw_cell_below hb7 q1
                have HA8 : Aside0 _ := ⟨lasts_ok g1 d' j ok1 w7 (HD1d.out.below hb7) HNc.out.fit hc hj⟩
                clear ho7 hb7 hl7 hF7 HA7
                go_wp2_with fail
                refine HA8.out.mono ?_
                rintro e w8 ⟨v8, rfl, ho8, hb8⟩
                obtain ⟨A8, c8, e8, hl8, hF8⟩ := Kd.R_V (base' := 0) ho8
                subst e8
                have HF8 := Aside0.mk hF8
                have HL8 := Aside0.mk hl8
                have HB8 : Aside0 (Below w6.heap.size w6 w8) := ⟨HB7.out.trans (hb8.mono HB7.out.size)⟩
                have HF78 := Aside0.mk (Kd.F_below HF7.out hb8)
                have q8 := pw_cell_below HB8.out q1
                have HT8 := Aside0.mk (HT6.out.below HB8.out)
                have hdv8 := HD2d.out.below HB8.out
                have HA9 : Aside0 _ := ⟨rcheck_calls g2 d' j ok2 w8 ⟨_, _, hdv8⟩⟩
                rw [hc] at HA9
                obtain ⟨k0, k1, k2, hfz⟩ := dv_cell hdv8
                obtain ⟨gv, cv, y, hv, hy1, hy2, hyV⟩ := dv_slotN hdv8 j hj
                injection hv with e1 e2 e3
                subst e1
                obtain ⟨v9, hv9, hget⟩ := rget_val g2 d' j ok2 w8 ⟨_, _, hdv8⟩ hj
                obtain ⟨A9, c9, e9, hl9, hF9⟩ := hv9
                subst e9
                obtain ⟨Ay, cy, ey, hly, hFy⟩ := hyV
                subst ey
                have HF9 := Aside0.mk hF9
                have HL9 := Aside0.mk hl9
                have HFy := Aside0.mk hFy
                have HLy := Aside0.mk hly
                have HGet : Aside0 (Calls Try.prog 25 #[.pointer (some ⟨g2, 0, none⟩), .int .i64 (j : Int)] w8.drew fun e w' => e = .returned (.slice A9 (d'.get j).length c9) ∧ w' = w8.drew) := ⟨hget 1⟩
                have hgl := get_len HNc.out.fit j
                have hsl := fit_slot HNc.out.fit j
                have HS1 : Aside0 (flittingref01_Same.f 2000 (d'.get j) (d'.get j) = some true) := ⟨same_f _ _ (by omega) (by omega)⟩
                have HS2 : Aside0 (flittingref01_Same.f 2000 (d'.slots.getD j []) (d'.slots.getD j []) = some true) := ⟨same_f _ _ (by omega) (by omega)⟩
                have hjl : (j : Int) < (d'.slots.length : Int) := by omega
                obtain ⟨bg, hbg⟩ : ∃ bg, bg = d'.get j := ⟨_, rfl⟩
                obtain ⟨bl, hbl2⟩ : ∃ bl, bl = d'.slots.getD j [] := ⟨_, rfl⟩
                rw [← hbg] at HF7 HF78 HL7 HF9 HL9 HGet HS1
                rw [← hbl2] at HF8 HL8 HFy HLy HS2
                simp only [← hbg, ← hbl2] at hy1
                simp only [← hbg, ← hbl2]
                clear hb8 ho8 hl8 hF8 e2 e3 hF9 hl9 hFy hly hget hdv8 HA8 hbg hbl2 hgl hsl hj hc hy2 q7
                go_wp2_with fail
                refine HA9.out.mono ?_
                rintro e w9 ⟨rfl, rfl⟩
                go_wp2_with fail
                refine start_ (n := 24) (S := fun w' => w'.cell? ⟨g2, 0, none⟩ = some (.slice (some ⟨gv, 0, none⟩) d'.slots.length n2) ∧ w'.cell? ⟨wq.heap.size, 1, none⟩ = some (.int .i64 (j : Int)) ∧ w'.cell? ⟨gv, j, none⟩ = some (.slice Ay bl.length cy)) (ds := []) #[false, false, false, false, false, false, false, false, false, false, false, false, false, false, false, false, false, false, false, false, false, false, false, false] (by kernel_rfl) rfl rfl ⟨k0, q8, hy1⟩ (fun hHeld => ?_)
                refine pure_ (i := 0) (N := some 163) (v := ?_) (a' := ?_) #[true, false, false, false, false, false, false, false, false, false, false, false, false, false, false, false, false, false, false, false, false, false, false, false] rfl rfl (by kernel_rfl) (fun _ _ _ h => h) (Or.inl ⟨by rfl, ?_⟩) ?_ ?_
                rotate_left
                · intro w'
                  go_simp
                  with_reducible rfl
                rotate_left
                · simp only [Act.put, List.setIfInBounds_toArray, List.set_cons_zero, List.set_cons_succ, i64_w, i32_w]
                  rfl
                refine pure_ (i := 1) (N := some 164) (v := ?_) (a' := ?_) #[true, true, false, false, false, false, false, false, false, false, false, false, false, false, false, false, false, false, false, false, false, false, false, false] rfl rfl (by kernel_rfl) (fun _ _ _ h => h) (Or.inl ⟨by rfl, ?_⟩) ?_ ?_
                rotate_left
                · intro w'
                  go_simp
                  with_reducible rfl
                rotate_left
                · simp only [Act.put, List.setIfInBounds_toArray, List.set_cons_zero, List.set_cons_succ, i64_w, i32_w]
                  rfl
                refine pure_ (i := 2) (N := some 165) (v := ?_) (a' := ?_) #[true, true, true, false, false, false, false, false, false, false, false, false, false, false, false, false, false, false, false, false, false, false, false, false] rfl rfl (by kernel_rfl) (fun _ _ _ h => h) (Or.inl ⟨by rfl, ?_⟩) ?_ ?_
                rotate_left
                · intro w'
                  go_simp
                  with_reducible rfl
                rotate_left
                · simp only [Act.put, List.setIfInBounds_toArray, List.set_cons_zero, List.set_cons_succ, i64_w, i32_w]
                  rfl
                refine pure_ (i := 3) (N := some 166) (v := ?_) (a' := ?_) #[true, true, true, true, false, false, false, false, false, false, false, false, false, false, false, false, false, false, false, false, false, false, false, false] rfl rfl (by kernel_rfl) (fun _ _ _ h => h) (Or.inl ⟨by rfl, ?_⟩) ?_ ?_
                rotate_left
                · intro w'
                  go_simp
                  with_reducible rfl
                rotate_left
                · simp only [Act.put, List.setIfInBounds_toArray, List.set_cons_zero, List.set_cons_succ, i64_w, i32_w]
                  rfl
                refine pure_ (i := 4) (N := some 167) (v := ?_) (a' := ?_) #[true, true, true, true, true, false, false, false, false, false, false, false, false, false, false, false, false, false, false, false, false, false, false, false] rfl rfl (by kernel_rfl) (fun _ _ _ h => h) (Or.inl ⟨by rfl, ?_⟩) ?_ ?_
                rotate_left
                · intro w'
                  go_simp
                  with_reducible rfl
                rotate_left
                · simp only [Act.put, List.setIfInBounds_toArray, List.set_cons_zero, List.set_cons_succ, i64_w, i32_w]
                  rfl
                refine pure_ (i := 5) (N := some 168) (v := ?_) (a' := ?_) #[true, true, true, true, true, true, false, false, false, false, false, false, false, false, false, false, false, false, false, false, false, false, false, false] rfl rfl (by kernel_rfl) (fun _ _ _ h => h) (Or.inl ⟨by rfl, ?_⟩) ?_ ?_
                rotate_left
                · intro w'
                  go_simp
                  with_reducible rfl
                rotate_left
                · simp only [Act.put, List.setIfInBounds_toArray, List.set_cons_zero, List.set_cons_succ, i64_w, i32_w]
                  rfl
                refine take_ (i := 6) (N := some 169) (v := ?_) (a' := ?_) #[true, true, true, true, true, true, true, false, false, false, false, false, false, false, false, false, false, false, false, false, false, false, false, false] rfl rfl (by kernel_rfl) (fun _ _ _ h => h) (Or.inl ⟨by rfl, ?_⟩) hHeld ?_ ?_
                rotate_left
                · rintro w' ⟨s0, s1, s2⟩
                  go_simp
                  with_reducible rfl
                rotate_left
                · simp only [Act.put, List.setIfInBounds_toArray, List.set_cons_zero, List.set_cons_succ, i64_w, i32_w]
                  rfl
                refine one_ (i := 7) (N := some 170) #[true, true, true, true, true, true, true, true, false, false, false, false, false, false, false, false, false, false, false, false, false, false, false, false] rfl rfl (by kernel_rfl) (by decide) (fun K hK => ?_)
                refine goes_ Try.func25 (by kernel_rfl) rfl #[.pointer (some ⟨g2, 0, none⟩), .int .i64 (j : Int)] (by rfl) rfl rfl (by simp only [List.map_toArray, List.map_cons, List.map_nil]; rfl) ?_
                with_reducible refine (HGet.out).mono ?_
                rintro e wx ⟨rfl, rfl⟩
                refine ⟨_, rfl, ?_⟩
                refine hK.out _ _ ⟨k0, q8, hy1⟩ (fun hHeld => ?_)
                clear hK K
                refine norm_ (a' := ?_) ?_ ?_
                rotate_left
                · show Act.put _ (some 170) _ = _
                  simp only [Act.put, List.setIfInBounds_toArray, List.set_cons_zero, List.set_cons_succ, i64_w, i32_w]
                  rfl
                refine one_ (i := 8) (N := some 171) #[true, true, true, true, true, true, true, true, true, false, false, false, false, false, false, false, false, false, false, false, false, false, false, false] rfl rfl (by kernel_rfl) (by decide) (fun K hK => ?_)
                refine goes_ Try.func16 (by kernel_rfl) rfl #[.slice A7 bg.length c7, .slice A9 bg.length c9] (by rfl) rfl rfl (by simp only [List.map_toArray, List.map_cons, List.map_nil]; rfl) ?_
                with_reducible refine (flittingref01_Same.calls 2000 A7 c7 bg A9 c9 bg true _ (Kd.C_drew (Kd.F_now HF78.out)) HL7.out (Kd.C_drew (Kd.F_now HF9.out)) HL9.out HS1.out).mono ?_
                rintro e wx ⟨rfl, ⟨nd1, rfl⟩⟩
                refine ⟨_, rfl, ?_⟩
                refine hK.out _ _ ⟨k0, q8, hy1⟩ (fun hHeld => ?_)
                clear hK K
                refine norm_ (a' := ?_) ?_ ?_
                rotate_left
                · show Act.put _ (some 171) _ = _
                  simp only [Act.put, List.setIfInBounds_toArray, List.set_cons_zero, List.set_cons_succ, i64_w, i32_w]
                  rfl
                refine pure_ (i := 9) (N := some 172) (v := ?_) (a' := ?_) #[true, true, true, true, true, true, true, true, true, true, false, false, false, false, false, false, false, false, false, false, false, false, false, false] rfl rfl (by kernel_rfl) (fun _ _ _ h => h) (Or.inl ⟨by rfl, ?_⟩) ?_ ?_
                rotate_left
                · intro w'
                  go_simp
                  with_reducible rfl
                rotate_left
                · simp only [Act.put, List.setIfInBounds_toArray, List.set_cons_zero, List.set_cons_succ, i64_w, i32_w]
                  rfl
                refine pure_ (i := 10) (N := some 173) (v := ?_) (a' := ?_) #[true, true, true, true, true, true, true, true, true, true, true, false, false, false, false, false, false, false, false, false, false, false, false, false] rfl rfl (by kernel_rfl) (fun _ _ _ h => h) (Or.inl ⟨by rfl, ?_⟩) ?_ ?_
                rotate_left
                · intro w'
                  go_simp
                  with_reducible rfl
                rotate_left
                · simp only [Act.put, List.setIfInBounds_toArray, List.set_cons_zero, List.set_cons_succ, i64_w, i32_w]
                  rfl
                refine pure_ (i := 11) (N := some 174) (v := ?_) (a' := ?_) #[true, true, true, true, true, true, true, true, true, true, true, true, false, false, false, false, false, false, false, false, false, false, false, false] rfl rfl (by kernel_rfl) (fun _ _ _ h => h) (Or.inl ⟨by rfl, ?_⟩) ?_ ?_
                rotate_left
                · intro w'
                  go_simp
                  with_reducible rfl
                rotate_left
                · simp only [Act.put, List.setIfInBounds_toArray, List.set_cons_zero, List.set_cons_succ, i64_w, i32_w]
                  rfl
                refine pure_ (i := 12) (N := some 175) (v := ?_) (a' := ?_) #[true, true, true, true, true, true, true, true, true, true, true, true, true, false, false, false, false, false, false, false, false, false, false, false] rfl rfl (by kernel_rfl) (fun _ _ _ h => h) (Or.inl ⟨by rfl, ?_⟩) ?_ ?_
                rotate_left
                · intro w'
                  go_simp
                  with_reducible rfl
                rotate_left
                · simp only [Act.put, List.setIfInBounds_toArray, List.set_cons_zero, List.set_cons_succ, i64_w, i32_w]
                  rfl
                refine pure_ (i := 13) (N := some 176) (v := ?_) (a' := ?_) #[true, true, true, true, true, true, true, true, true, true, true, true, true, true, false, false, false, false, false, false, false, false, false, false] rfl rfl (by kernel_rfl) (fun _ _ _ h => h) (Or.inl ⟨by rfl, ?_⟩) ?_ ?_
                rotate_left
                · intro w'
                  go_simp
                  with_reducible rfl
                rotate_left
                · simp only [Act.put, List.setIfInBounds_toArray, List.set_cons_zero, List.set_cons_succ, i64_w, i32_w]
                  rfl
                refine pure_ (i := 14) (N := some 177) (v := ?_) (a' := ?_) #[true, true, true, true, true, true, true, true, true, true, true, true, true, true, true, false, false, false, false, false, false, false, false, false] rfl rfl (by kernel_rfl) (fun _ _ _ h => h) (Or.inl ⟨by rfl, ?_⟩) ?_ ?_
                rotate_left
                · intro w'
                  go_simp
                  with_reducible rfl
                rotate_left
                · simp only [Act.put, List.setIfInBounds_toArray, List.set_cons_zero, List.set_cons_succ, i64_w, i32_w]
                  rfl
                refine pure_ (i := 16) (N := some 179) (v := ?_) (a' := ?_) #[true, true, true, true, true, true, true, true, true, true, true, true, true, true, true, false, true, false, false, false, false, false, false, false] rfl rfl (by kernel_rfl) (fun _ _ _ h => h) (Or.inl ⟨by rfl, ?_⟩) ?_ ?_
                rotate_left
                · intro w'
                  go_simp
                  with_reducible rfl
                rotate_left
                · simp only [Act.put, List.setIfInBounds_toArray, List.set_cons_zero, List.set_cons_succ, i64_w, i32_w]
                  rfl
                refine take_ (i := 15) (N := some 178) (v := ?_) (a' := ?_) #[true, true, true, true, true, true, true, true, true, true, true, true, true, true, true, true, true, false, false, false, false, false, false, false] rfl rfl (by kernel_rfl) (fun _ _ _ h => h) (Or.inl ⟨by rfl, ?_⟩) hHeld ?_ ?_
                rotate_left
                · rintro w' ⟨s0, s1, s2⟩
                  go_simp
                  with_reducible rfl
                rotate_left
                · simp only [Act.put, List.setIfInBounds_toArray, List.set_cons_zero, List.set_cons_succ, i64_w, i32_w]
                  rfl
                refine take_ (i := 17) (N := some 180) (v := ?_) (a' := ?_) #[true, true, true, true, true, true, true, true, true, true, true, true, true, true, true, true, true, true, false, false, false, false, false, false] rfl rfl (by kernel_rfl) (fun _ _ _ h => h) (Or.inl ⟨by rfl, ?_⟩) hHeld ?_ ?_
                rotate_left
                · rintro w' ⟨s0, s1, s2⟩
                  go_simp
                  with_reducible rfl
                rotate_left
                · simp only [Act.put, List.setIfInBounds_toArray, List.set_cons_zero, List.set_cons_succ, i64_w, i32_w]
                  rfl
                refine pure_ (i := 18) (N := some 181) (v := ?_) (a' := ?_) #[true, true, true, true, true, true, true, true, true, true, true, true, true, true, true, true, true, true, true, false, false, false, false, false] rfl rfl (by kernel_rfl) (fun _ _ _ h => h) (Or.inl ⟨by rfl, ?_⟩) ?_ ?_
                rotate_left
                · intro w'
                  go_simp
                  with_reducible rfl
                rotate_left
                · simp only [Act.put, List.setIfInBounds_toArray, List.set_cons_zero, List.set_cons_succ, i64_w, i32_w]
                  rfl
                refine take_ (i := 19) (N := some 182) (v := ?_) (a' := ?_) #[true, true, true, true, true, true, true, true, true, true, true, true, true, true, true, true, true, true, true, true, false, false, false, false] rfl rfl (by kernel_rfl) (fun _ _ _ h => h) (Or.inl ⟨by rfl, ?_⟩) hHeld ?_ ?_
                rotate_left
                · rintro w' ⟨s0, s1, s2⟩
                  go_simp
                  with_reducible rfl
                rotate_left
                · simp only [Act.put, List.setIfInBounds_toArray, List.set_cons_zero, List.set_cons_succ, i64_w, i32_w]
                  rfl
                refine one_ (i := 20) (N := some 183) #[true, true, true, true, true, true, true, true, true, true, true, true, true, true, true, true, true, true, true, true, true, false, false, false] rfl rfl (by kernel_rfl) (by decide) (fun K hK => ?_)
                refine goes_ Try.func16 (by kernel_rfl) rfl #[.slice A8 bl.length c8, .slice Ay bl.length cy] (by rfl) rfl rfl (by simp only [List.map_toArray, List.map_cons, List.map_nil]; rfl) ?_
                with_reducible refine (flittingref01_Same.calls 2000 A8 c8 bl Ay cy bl true _ (Kd.C_drewN (Kd.C_drew (Kd.F_now HF8.out)) _) HL8.out (Kd.C_drewN (Kd.C_drew (Kd.F_now HFy.out)) _) HLy.out HS2.out).mono ?_
                rintro e wx ⟨rfl, ⟨nd2, rfl⟩⟩
                refine ⟨_, rfl, ?_⟩
                refine hK.out _ _ ⟨k0, q8, hy1⟩ (fun hHeld => ?_)
                clear hK K
                refine norm_ (a' := ?_) ?_ ?_
                rotate_left
                · show Act.put _ (some 183) _ = _
                  simp only [Act.put, List.setIfInBounds_toArray, List.set_cons_zero, List.set_cons_succ, i64_w, i32_w]
                  rfl
                refine pure_ (i := 21) (N := some 184) (v := ?_) (a' := ?_) #[true, true, true, true, true, true, true, true, true, true, true, true, true, true, true, true, true, true, true, true, true, true, false, false] rfl rfl (by kernel_rfl) (fun _ _ _ h => h) (Or.inl ⟨by rfl, ?_⟩) ?_ ?_
                rotate_left
                · intro w'
                  go_simp
                  with_reducible rfl
                rotate_left
                · simp only [Act.put, List.setIfInBounds_toArray, List.set_cons_zero, List.set_cons_succ, i64_w, i32_w]
                  rfl
                refine pure_ (i := 22) (N := some 185) (v := ?_) (a' := ?_) #[true, true, true, true, true, true, true, true, true, true, true, true, true, true, true, true, true, true, true, true, true, true, true, false] rfl rfl (by kernel_rfl) (fun _ _ _ h => h) (Or.inl ⟨by rfl, ?_⟩) ?_ ?_
                rotate_left
                · intro w'
                  go_simp
                  with_reducible rfl
                rotate_left
                · simp only [Act.put, List.setIfInBounds_toArray, List.set_cons_zero, List.set_cons_succ, i64_w, i32_w]
                  rfl
                refine pure_ (i := 23) (N := some 186) (v := ?_) (a' := ?_) #[true, true, true, true, true, true, true, true, true, true, true, true, true, true, true, true, true, true, true, true, true, true, true, true] rfl rfl (by kernel_rfl) (fun _ _ _ h => h) (Or.inl ⟨by rfl, ?_⟩) ?_ ?_
                rotate_left
                · intro w'
                  go_simp
                  with_reducible rfl
                rotate_left
                · simp only [Act.put, List.setIfInBounds_toArray, List.set_cons_zero, List.set_cons_succ, i64_w, i32_w]
                  rfl
                refine done_ (by kernel_rfl) ?_
                clear hHeld
                go_wp2
                go_roundw
                case rel => exact ⟨k + 1, d', by omega, by go_num, ⟨by first | exact (HT8.out.below (by repeat (first | exact Below.refl _ _ | apply below_drew | apply pw_below_drewN))).less (fun _ h => h.elim)⟩, HNc, HLc⟩
                case measure => simp [intOf]; omega
              · have HA7 : Aside0 _ := ⟨read_bad g1 d' si ok1 w6 HD1d.out hc⟩
                have HA8 : Aside0 _ := ⟨lasts_bad g1 d' si ok1 w6 HD1d.out hc⟩
                have HA9 : Aside0 _ := ⟨rcheck_calls g2 d' si ok2 w6 ⟨_, _, HD2d.out⟩⟩
                have hx1 : (d'.check si == 0) = false := by simpa using hc
                obtain ⟨x, hx⟩ : ∃ x, x = d'.check si := ⟨_, rfl⟩
                rw [← hx] at HA7 HA8 HA9 hx1
                clear hx hc
                go_wp2_with fail
                refine HA7.out.mono ?_
                rintro e w7 ⟨rfl, rfl⟩
                go_wp2_with fail
                refine HA8.out.mono ?_
                rintro e w8 ⟨rfl, rfl⟩
                go_wp2_with fail
                refine HA9.out.mono ?_
                rintro e w9 ⟨rfl, rfl⟩
                go_wp2_with fail
                go_quiet (fail)
                go_wp2
                go_roundw
                case rel => exact ⟨k + 1, d', by omega, by go_num, ⟨(HT6.out.below (by repeat (first | exact Below.refl _ _ | apply below_drew | apply pw_below_drewN))).less (fun _ h => h.elim)⟩, HNc, HLc⟩
                case measure => simp [intOf]; omega
    · obtain rfl : k = l1.length := by omega
      have hd : decide (l1.length < l1.length) = false := decide_eq_false (Nat.lt_irrefl _)
      clear hk hlt
      go_wp2
      go_loopw [18, 19, 20, 21, 22, 187, 188, 189, 190, 191, 192, 193, 194, 195, 196, 197, 198, 199, 200, 201, 202, 203, 204, 205, 206, 207, 208, 209, 210, 211, 212, 213, 214, 215, 216, 217, 218, 219, 220, 221, 222, 223, 224, 225] (fun x18 x19 x20 x21 x22 x187 x188 x189 x190 x191 x192 x193 x194 x195 x196 x197 x198 x199 x200 x201 x202 x203 x204 x205 x206 x207 x208 x209 x210 x211 x212 x213 x214 x215 x216 x217 x218 x219 x220 x221 x222 x223 x224 x225 wi => ∃ i : Nat, i ≤ d.slots.length ∧ x18 = .int .i64 i ∧ Aside0 (Two w wi g1 g2 (fun _ => False) d d)) (fun x18 _ _ _ _ _ _ _ _ _ _ _ _ _ _ _ _ _ _ _ _ _ _ _ _ _ _ _ _ _ _ _ _ _ _ _ _ _ _ _ _ _ _ _ _ => d.slots.length - (intOf x18).toNat)
      case atStart => exact ⟨0, Nat.zero_le _, rfl, HT⟩
      case round =>
        obtain ⟨i, hi, rfl, HTi⟩ := hrel
        obtain ⟨ok1, hdp1⟩ := HTi.out.dp1
        obtain ⟨ok2, v2, u2, hdv⟩ := HTi.out.dp2
        obtain ⟨A2, n2, B2, m2, rfl, rfl, hz1, hz2⟩ := dv_len hdv
        obtain ⟨k0, k1, k2, hfz⟩ := dv_cell hdv
        have HD1 := Aside0.mk hdp1
        have HD2 := Aside0.mk hdv
        clear hdp1 hdv
        by_cases hil : i < d.slots.length
        · have hc := check_in HN.out i hil
          have HA7 : Aside0 _ := ⟨read_ok g1 d i ok1 wr HD1.out HN.out.fit hc hil⟩
          go_wp2_with fail
          refine HA7.out.mono ?_
          rintro e w7 ⟨v7, rfl, ho7, hb7⟩
          obtain ⟨A7, c7, e7, hl7, hF7⟩ := Kd.R_V (base' := 0) ho7
          subst e7
          have HF7 := Aside0.mk hF7
          have HL7 := Aside0.mk hl7
          have HB7 := Aside0.mk hb7
          have HA8 : Aside0 _ := ⟨lasts_ok g1 d i ok1 w7 (HD1.out.below hb7) HN.out.fit hc hil⟩
          clear ho7 hb7 hl7 hF7 HA7
          go_wp2_with fail
          refine HA8.out.mono ?_
          rintro e w8 ⟨v8, rfl, ho8, hb8⟩
          obtain ⟨A8, c8, e8, hl8, hF8⟩ := Kd.R_V (base' := 0) ho8
          subst e8
          have HF8 := Aside0.mk hF8
          have HL8 := Aside0.mk hl8
          have HB8 : Aside0 (Below wr.heap.size wr w8) := ⟨HB7.out.trans (hb8.mono HB7.out.size)⟩
          have HF78 := Aside0.mk (Kd.F_below HF7.out hb8)
          have HT8 := Aside0.mk (HTi.out.below HB8.out)
          have hdv8 := HD2.out.below HB8.out
          clear k0 k1 k2 hfz
          obtain ⟨k0, k1, k2, hfz⟩ := dv_cell hdv8
          obtain ⟨gv, cv, y, hv, hy1, hy2, hyV⟩ := dv_slotN hdv8 i hil
          injection hv with e1 e2 e3
          subst e1
          obtain ⟨v9, hv9, hget⟩ := rget_val g2 d i ok2 w8 ⟨_, _, hdv8⟩ hil
          obtain ⟨A9, c9, e9, hl9, hF9⟩ := hv9
          subst e9
          obtain ⟨Ay, cy, ey, hly, hFy⟩ := hyV
          subst ey
          have HF9 := Aside0.mk hF9
          have HL9 := Aside0.mk hl9
          have HFy := Aside0.mk hFy
          have HLy := Aside0.mk hly
          have HGet : Aside0 (Calls Try.prog 25 #[.pointer (some ⟨g2, 0, none⟩), .int .i64 (i : Int)] w8 fun e w' => e = .returned (.slice A9 (d.get i).length c9) ∧ w' = w8) := ⟨hget 0⟩
          have hgl := get_len HN.out.fit i
          have hsl := fit_slot HN.out.fit i
          have HS1 : Aside0 (flittingref01_Same.f 2000 (d.get i) (d.get i) = some true) := ⟨same_f _ _ (by omega) (by omega)⟩
          have HS2 : Aside0 (flittingref01_Same.f 2000 (d.slots.getD i []) (d.slots.getD i []) = some true) := ⟨same_f _ _ (by omega) (by omega)⟩
          have hjl : (i : Int) < (d.slots.length : Int) := by omega
          obtain ⟨bg, hbg⟩ : ∃ bg, bg = d.get i := ⟨_, rfl⟩
          obtain ⟨bl, hbl2⟩ : ∃ bl, bl = d.slots.getD i [] := ⟨_, rfl⟩
          rw [← hbg] at HF7 HF78 HL7 HF9 HL9 HGet HS1
          rw [← hbl2] at HF8 HL8 HFy HLy HS2
          simp only [← hbg, ← hbl2] at hy1
          simp only [← hbg, ← hbl2]
          clear hb8 ho8 hl8 hF8 e2 e3 hF9 hl9 hFy hly hget hdv8 HA8 hbg hbl2 hgl hsl hc hy2
          go_wp2_with fail
          refine HGet.out.mono ?_
          rintro e w9 ⟨rfl, rfl⟩
          go_wp2_with fail
          refine (flittingref01_Same.calls 2000 A7 c7 bg A9 c9 bg true _ (Kd.F_now HF78.out) HL7.out (Kd.F_now HF9.out) HL9.out HS1.out).mono ?_
          rintro e w10 ⟨rfl, ⟨nd1, rfl⟩⟩
          go_wp2_with fail
          refine (flittingref01_Same.calls 2000 A8 c8 bl Ay cy bl true _ (Kd.C_drewN (Kd.F_now HF8.out) _) HL8.out (Kd.C_drewN (Kd.F_now HFy.out) _) HLy.out HS2.out).mono ?_
          rintro e w11 ⟨rfl, ⟨nd2, rfl⟩⟩
          go_wp2
          go_roundw
          case rel => exact ⟨i + 1, by omega, by go_num, ⟨HT8.out.below (by repeat (first | exact Below.refl _ _ | apply below_drew | apply pw_below_drewN))⟩⟩
          case measure => simp [intOf]; omega
        · obtain rfl : i = d.slots.length := by omega
          have hdi : decide (d.slots.length < d.slots.length) = false := decide_eq_false (Nat.lt_irrefl _)
          clear hi hil
          go_wp2_with fail
          refine (answers_calls wr).mono ?_
          rintro e w7 ⟨rfl, hb7⟩
          have HT7 := Aside0.mk (HTi.out.below hb7)
          clear hb7
          go_wp2
          go_ret
          exact ⟨rfl, HT7.out.hb⟩

end Go.Proofs.Ytemmhjghlmhheaa.PDrivePlays
