-- Written by myprint.py (this session's own driver of the kit's print, with contracts of its own handed in).
import Derived.Test.YtfjjfoijjlpcjaaPTapePlaysx0
import Derived.Test.YtfjjfoijjlpcjaaPTapePlaysx1
namespace Go.Proofs.Ytfjjfoijjlpcjaa.PTapePlays
open Go.RowKit Go.Proofs.YtfjjfoijjlpcjaaW.PrintWords Go.Proofs.YtfjjfoijjlpcjaaW.PrintLast Go.Proofs.YtfjjfoijjlpcjaaW.PrintMore
attribute [local go_sem] max2_int min2_int max_two min_two max_three min_three max_four min_four   -- for this text's walks alone
set_option linter.unusedVariables false
set_option linter.unusedSimpArgs false

/-! ### flittinglaw10_TapePlays: function 5, by hand -/
open Go.Proofs.Ytfjjfoijjlpcjaa.Tp Go.Proofs.Ytfjjfoijjlpcjaa.Op
abbrev Ac : Kd (Int × Int × List Int) := Kd.pair (Kd.int .i64) (Kd.pair (Kd.int .i64) (Kd.slice 5 (Kd.int .u8)))
abbrev AcG : Int × Int × List Int → Prop := fun x => (Lit.int .i64 x.1).wf = true ∧ (Lit.int .i64 x.2.1).wf = true ∧ Row 1 (fun n => (Lit.int .u8 n).wf = true) x.2.2
theorem i64_wf {n : Int} (h : (Lit.int .i64 n).wf = true) : -9223372036854775808 ≤ n ∧ n < 9223372036854775808 := by
  simp [Lit.wf] at h
  have e1 : IntKind.i64.min = -9223372036854775808 := rfl
  have e2 : IntKind.i64.max = 9223372036854775807 := rfl
  (try rw [e1] at h)
  (try rw [e2] at h)
  omega
/-- The k-th act, as its cells. -/
theorem act_at {W : World} {A : Option Addr} {l : List (Int × Int × List Int)} (h : Ac.C W A l.length l) (k : Nat) (hk : k < l.length) :
    ∃ (ad : Addr) (wh si : Int) (bs : List Int) (B : Option Addr) (cb : Nat), A = some ad ∧ l.getD k (0, 0, []) = (wh, si, bs) ∧ U8.C W B bs.length bs ∧ bs.length ≤ cb ∧ W.cell? (ad.add (k * 3)) = some (.int .i64 wh) ∧ W.cell? ⟨(ad.add (k * 3)).block, (ad.add (k * 3)).off + 1, none⟩ = some (.int .i64 si) ∧
      W.cell? ⟨(ad.add (k * 3)).block, (ad.add (k * 3)).off + 2, none⟩ = some (.slice B bs.length cb) := by
  obtain ⟨ad, c, rfl, hcl, hK, hc⟩ := Kd.C_get h (0, 0, []) (k : Int) (by omega) (by omega)
  rw [Int.toNat_natCast] at hK hc
  rcases hx : l.getD k (0, 0, []) with ⟨wh, si, bs⟩
  rw [hx] at hK
  obtain ⟨c0, c1, rfl, h0, c2, c3, rfl, h1, B, cb, h2, hl, hC⟩ := hK
  have h0' : c0 = [.int .i64 wh] := h0
  have h1' : c2 = [.int .i64 si] := h1
  have h2' : c3 = [.slice B bs.length cb] := h2
  subst h0' h1' h2'
  have e : ∀ j, (fun m => (ad.add (k * 3 + m))) j = ad.add (k * Ac.sz + j) := fun j => rfl
  refine ⟨ad, wh, si, bs, B, cb, rfl, rfl, hC, hl, hc 0 _ rfl, ?_, ?_⟩
  · have := hc 1 _ rfl; rwa [← e, show (fun m => (ad.add (k * 3 + m))) 1 = ad.add (k * 3 + 1) from rfl, add_field _ _ _ (by decide)] at this
  · have := hc 2 _ rfl; rwa [← e, show (fun m => (ad.add (k * 3 + m))) 2 = ad.add (k * 3 + 2) from rfl, add_field _ _ _ (by decide)] at this
theorem same_run (d : Nat) : ∀ (k i : Nat) (a : List Int), d + i = a.length → d < k → a.length < 1000000 → flittingref01_Same.l0 k a a (i : Int) = some true := by
  induction d with
  | zero =>
    intro k i a hd hk _
    obtain ⟨k, rfl⟩ : ∃ m, k = m + 1 := ⟨k - 1, by omega⟩
    simp only [flittingref01_Same.l0]
    rw [if_neg (by omega)]
  | succ d ih =>
    intro k i a hd hk hm
    obtain ⟨k, rfl⟩ : ∃ m, k = m + 1 := ⟨k - 1, by omega⟩
    simp only [flittingref01_Same.l0]
    rw [if_pos (by omega), if_pos (by omega), if_pos (by omega), show wrap64 ((i : Int) + 1) = ((i + 1 : Nat) : Int) from by unfold wrap64; omega]
    exact ih k (i + 1) a (by omega) (by omega) hm
theorem same_f (k : Nat) (a : List Int) (hk : a.length < k) (hm : a.length < 1000000) : flittingref01_Same.f k a a = some true := by
  unfold flittingref01_Same.f
  rw [if_pos rfl]
  exact same_run a.length k 0 a (by omega) hk hm
def flittinglaw10_TapePlays.Pure : Prop := True
set_option maxHeartbeats 8000000 in
set_option maxRecDepth 100000 in
theorem flittinglaw10_TapePlays.walk (_P : flittinglaw10_TapePlays.Pure) (A0 : Option Addr) (c0 : Nat) (l0 : List (Int × Int × List Int)) (w : World) (hl0 : l0.length ≤ c0) (hC0 : Ac.C w A0 l0.length l0) (hG0 : Row 40 AcG l0) :
    Calls Try.prog 5 #[.slice A0 l0.length c0] w fun e w' => e = .returned (.bool true) ∧ Below w.heap.size w w' := by
  have HC1 := Aside0.mk hC0
  have HG1 := Aside0.mk hG0
  clear hC0 hG0 _P
  by_cases g1 : 100 < l0.length
  · have d1 : decide ((100 : Int) < (l0.length : Int)) = true := decide_eq_true (by omega)
    have d2 : decide (100 < l0.length) = true := decide_eq_true g1
    clear g1
    go_enter Try.func5, Try.ntmps5
    go_wp2_with fail
    refine (answers_calls _).mono ?_
    rintro e w' ⟨rfl, hb⟩
    have HB := Aside0.mk hb
    clear hb
    go_wp2
    go_ret
    exact ⟨rfl, HB.out⟩
  have d1 : decide ((100 : Int) < (l0.length : Int)) = false := decide_eq_false (by omega)
  have d2 : decide (100 < l0.length) = false := decide_eq_false g1
  have hl100 : l0.length ≤ 100 := by omega
  clear g1
  go_enter Try.func5, Try.ntmps5
  go_wp2_with fail
  refine (new_calls (Ok2 w.heap.size w.heap.size (fun _ => False)) w).mono ?_
  rintro e w1 ⟨rfl, hT1, hB1⟩
  have HT1 := Aside0.mk hT1
  have HB1 := Aside0.mk hB1
  clear hT1 hB1
  go_upto_region 4 with fail
  obtain ⟨w2, hw2⟩ : ∃ w2, w2 = w1.alloc (.cells #[.slice none 0 0, .slice none 0 0, .bool false, .bool false, .bool false, .slice none 0 0, .slice none 0 0, .bool false, .bool false, .bool false, .int .i64 (-1), .bool false] 40) := ⟨_, rfl⟩
  rw [← hw2]
  have HT0 : Aside0 (Two w w2 w.heap.size w1.heap.size (fun _ => False) ⟨⟨[], [], false, false, false⟩, ⟨[], [], false, false, false⟩, -1, false⟩ ⟨⟨[], [], false, false, false⟩, ⟨[], [], false, false, false⟩, -1, false⟩) := by
    have hb : Below w1.heap.size w1 w2 := by rw [hw2]; exact (Below.refl _ _).alloc (Nat.le_refl _) _
    have hlt := tp_lt HT1.out
    have hnil : ∀ ok, Vb w2 ok (.slice none 0 0) [] := fun ok => Kd.V_nil _ _ _ _ _
    exact ⟨⟨HB1.out.trans (hb.mono HB1.out.size), Nat.le_refl _, HB1.out.size, by omega, fun _ h => h.elim, fun h => h, fun h => h, tp_below (tp_mono HT1.out (fun k hk hl => ⟨hk.1, by omega, fun h => h⟩)) hb, ⟨_, _, _, _, by rw [hw2]; exact heap_alloc_new w1 _, hnil _, hnil _, hnil _, hnil _⟩⟩⟩
  have HS0 : Aside0 (Sim ⟨⟨[], [], false, false, false⟩, ⟨[], [], false, false, false⟩, -1, false⟩ ⟨⟨[], [], false, false, false⟩, ⟨[], [], false, false, false⟩, -1, false⟩) := ⟨⟨Sim1.refl _, Sim1.refl _, rfl, rfl⟩⟩
  have HF0 : Aside0 (Few ⟨⟨[], [], false, false, false⟩, ⟨[], [], false, false, false⟩, -1, false⟩ 0) := ⟨⟨by decide, by decide, by decide, by decide⟩⟩
  have HG12 : Aside0 (w.heap.size < w1.heap.size) := ⟨tp_lt HT1.out⟩
  clear hw2 HT1 HB1
  go_wp2
  go_loopw [5, 6, 7, 8, 9, 10, 11, 12, 13, 21, 22, 23, 24, 25, 26, 27, 28, 29, 30, 31, 32, 33, 34, 35, 36, 37, 38, 39, 40, 41, 42, 43, 44, 45, 46, 47, 48, 49, 50, 51, 52, 53, 54, 55, 56, 57, 58, 59, 60, 61, 62, 63, 64, 65, 66, 67, 68, 69, 70, 71, 72, 73, 74, 75, 76, 77, 78, 79, 80, 81, 82, 83, 84, 85, 86, 87, 88, 89, 90, 91, 92, 93, 94, 95, 96, 97, 98, 99, 100, 101, 102, 103, 104, 105, 106, 107, 108, 109, 110, 111, 112, 113, 114, 115, 116, 117, 118, 119, 120, 121, 122, 123, 124, 125, 126, 127, 128, 129, 130, 131, 132, 133, 134, 135, 136, 137, 138, 139, 140, 141, 142, 143, 144, 145, 146, 147, 148, 149, 150, 151, 152, 153, 154, 155, 156, 157, 158, 159, 160, 161, 162, 163, 164, 165, 166, 167, 168, 169, 170, 171, 172, 173, 174, 175, 176, 177, 178, 179, 180, 181, 182, 183, 184, 185, 186, 187, 188, 189, 190, 191, 192, 193, 194, 195, 196, 197, 198, 199, 200, 201, 202] (fun x5 x6 x7 x8 x9 x10 x11 x12 x13 x21 x22 x23 x24 x25 x26 x27 x28 x29 x30 x31 x32 x33 x34 x35 x36 x37 x38 x39 x40 x41 x42 x43 x44 x45 x46 x47 x48 x49 x50 x51 x52 x53 x54 x55 x56 x57 x58 x59 x60 x61 x62 x63 x64 x65 x66 x67 x68 x69 x70 x71 x72 x73 x74 x75 x76 x77 x78 x79 x80 x81 x82 x83 x84 x85 x86 x87 x88 x89 x90 x91 x92 x93 x94 x95 x96 x97 x98 x99 x100 x101 x102 x103 x104 x105 x106 x107 x108 x109 x110 x111 x112 x113 x114 x115 x116 x117 x118 x119 x120 x121 x122 x123 x124 x125 x126 x127 x128 x129 x130 x131 x132 x133 x134 x135 x136 x137 x138 x139 x140 x141 x142 x143 x144 x145 x146 x147 x148 x149 x150 x151 x152 x153 x154 x155 x156 x157 x158 x159 x160 x161 x162 x163 x164 x165 x166 x167 x168 x169 x170 x171 x172 x173 x174 x175 x176 x177 x178 x179 x180 x181 x182 x183 x184 x185 x186 x187 x188 x189 x190 x191 x192 x193 x194 x195 x196 x197 x198 x199 x200 x201 x202 wr => ∃ (k : Nat) (t u : Ta), k ≤ l0.length ∧ x5 = .int .i64 k ∧ Aside0 (Two w wr w.heap.size w1.heap.size (fun _ => False) t u) ∧ Aside0 (Sim t u) ∧ Aside0 (Few t (300 * k))) (fun x5 _ _ _ _ _ _ _ _ _ _ _ _ _ _ _ _ _ _ _ _ _ _ _ _ _ _ _ _ _ _ _ _ _ _ _ _ _ _ _ _ _ _ _ _ _ _ _ _ _ _ _ _ _ _ _ _ _ _ _ _ _ _ _ _ _ _ _ _ _ _ _ _ _ _ _ _ _ _ _ _ _ _ _ _ _ _ _ _ _ _ _ _ _ _ _ _ _ _ _ _ _ _ _ _ _ _ _ _ _ _ _ _ _ _ _ _ _ _ _ _ _ _ _ _ _ _ _ _ _ _ _ _ _ _ _ _ _ _ _ _ _ _ _ _ _ _ _ _ _ _ _ _ _ _ _ _ _ _ _ _ _ _ _ _ _ _ _ _ _ _ _ _ _ _ _ _ _ _ _ _ _ _ _ _ _ _ _ _ _ _ _ => l0.length - (intOf x5).toNat)
  case atStart => exact ⟨0, _, _, Nat.zero_le _, rfl, HT0, HS0, HF0⟩
  case round =>
    obtain ⟨k, t, u, hk, rfl, HT, HS, HF⟩ := hrel
    obtain ⟨wq, hwq⟩ : ∃ wq : World, wq = wr := ⟨_, rfl⟩
    subst hwq
    by_cases hlt : k < l0.length
    · obtain ⟨ad, wh, si, bs, B, cb, rfl, hx, hCb, hcb, hq0, hq1, hq2⟩ := act_at HC1.out k hlt
      replace hq0 := pw_cell_below HT.out.hb hq0
      replace hq1 := pw_cell_below HT.out.hb hq1
      replace hq2 := pw_cell_below HT.out.hb hq2
      have HCw := Aside0.mk hCb
      have hmem : l0.getD k (0, 0, []) ∈ l0 := by
        rw [List.getD_eq_getElem?_getD, List.getElem?_eq_getElem hlt]
        exact List.getElem_mem hlt
      have hgx := HG1.out.all _ hmem
      rw [hx] at hgx
      obtain ⟨hsi0, hsi1⟩ := i64_wf hgx.2.1
      obtain ⟨hwh0, hwh1⟩ := i64_wf hgx.1
      clear hx hmem hgx
      obtain ⟨wo, hwo⟩ : ∃ wo, wo = wq.alloc (.cells #[.int .i64 wh, .int .i64 si, .slice B bs.length cb] 42) := ⟨_, rfl⟩
      have hBo : Below wq.heap.size wq wo := by rw [hwo]; exact (Below.refl _ _).alloc (Nat.le_refl _) _
      have hblk : wo.heap[wq.heap.size]? = some (.cells #[.int .i64 wh, .int .i64 si, .slice B bs.length cb] 42 (0, 0)) := by rw [hwo]; exact heap_alloc_new wq _
      have HBo := Aside0.mk hBo
      have HBlk := Aside0.mk hblk
      have HCb : Aside0 (U8.C wo B bs.length bs) := ⟨Kd.C_below (Kd.C_below hCb HT.out.hb) hBo⟩
      have HWO := Aside0.mk hwo
      by_cases h300 : 300 < bs.length
      · have b1 : decide ((300 : Int) < (bs.length : Int)) = true := decide_eq_true (by omega)
        have b2 : decide (300 < bs.length) = true := decide_eq_true h300
        clear hwo hBo hblk hCb h300
        go_wp2
        go_roundw
        case rel => exact ⟨k + 1, t, u, by omega, by go_num, ⟨HWO.out ▸ HT.out.below HBo.out⟩, HS, ⟨HF.out.mono (by omega)⟩⟩
        case measure => simp [intOf]; omega
      · have b1 : decide ((300 : Int) < (bs.length : Int)) = false := decide_eq_false (by omega)
        have b2 : decide (300 < bs.length) = false := decide_eq_false h300
        have HL300 : Aside0 (bs.length ≤ 300) := ⟨by omega⟩
        have HK100 : Aside0 (300 * k ≤ 30000) := ⟨by omega⟩
        clear hBo hblk hCb h300
        have HM : Aside0 (U8.R 5 (wo.alloc (.cells #[] 5)) wo.heap.size (fun _ => True) (.slice (some ⟨wo.heap.size, 0, none⟩) 0 0) []) := ⟨⟨fun _ _ => trivial, [], World.ownsRow_made wo #[] 0 (Nat.le_refl _) (Nat.zero_le _) rfl, Reps.none _ _⟩⟩
        have HBm : Aside0 (Below wo.heap.size wo (wo.alloc (.cells #[] 5))) := ⟨(Below.refl _ _).alloc (Nat.le_refl _) _⟩
        clear hwo
        go_upto_region 9 with fail
        rw [← HWO.out]
        have q2 : wo.cell? ⟨wq.heap.size, 2, none⟩ = some (.slice B bs.length cb) := (blk_cell HBlk.out 2).trans rfl
        have q2a := fun (o : Obj) => pw_cell_below ((Below.refl wo.heap.size wo).alloc (Nat.le_refl _) o) q2
        have q0 : ∀ W', Below wo.heap.size wo W' → W'.cell? ⟨wq.heap.size, 0, none⟩ = some (.int .i64 wh) := fun W' h => pw_cell_below h ((blk_cell HBlk.out 0).trans rfl)
        have Q0 := Aside0.mk q0
        clear q0
        go_upto_block 2 with (at_builtin; refine Kd.R_append_rows U8 (w0 := wo.alloc (.cells #[] 5)) (W := wo.alloc (.cells #[] 5)) (Rr := U8.K (wo.alloc (.cells #[] 5))) wo.heap.size rfl (.tmp 35) (.tmp 37) 22 5 (.int .u8 0) 1 rfl Try.underlying22 info5 rfl (by decide) (by decide) (.slice (some ⟨wo.heap.size, 0, none⟩) 0 0) [] bs B bs.length cb (fun _ => True) (fun _ => False) rfl rfl HM.out (Kd.C_below HCb.out HBm.out) (fun _ _ h => h) (fun _ hk => hk.elim) (fun _ _ => trivial) (Below.refl _ _) HBm.out.size ?aL ?_; (case aL => have := HL300.out; simp only [List.length_nil]; omega); intro v1 w3 ho hb hg hat; have HO : Aside0 (U8.R 5 w3 wo.heap.size (fun _ => True) v1 bs) := ⟨ho⟩; have HB3 : Aside0 (Below wo.heap.size wo w3) := ⟨HBm.out.trans hb⟩; have q0 := Q0.out w3 HB3.out; clear ho hb hg hat HM HBm)
        obtain ⟨Ai, ci, rfl⟩ := Kd.R_slice HO.out
        have HB3' : Aside0 (Below wq.heap.size wq w3) := ⟨HBo.out.trans (HB3.out.mono HBo.out.size)⟩
        have HT3 : Aside0 (Two w w3 w.heap.size w1.heap.size (fun k => wq.heap.size ≤ k ∧ k < w3.heap.size) t u) := ⟨HT.out.guard_ HB3'.out (fun k hk => .inr hk)⟩
        have HBlk3 : Aside0 (w3.heap[wq.heap.size]? = some (.cells #[.int .i64 wh, .int .i64 si, .slice B bs.length cb] 42 (0, 0))) := ⟨blk_below HBlk.out HB3.out⟩
        have HP : Aside0 (wq.heap.size < w3.heap.size) := ⟨blk_lt HBlk3.out⟩
        have HVi : Aside0 (Vb w3 (fun k => wo.heap.size ≤ k) (.slice Ai bs.length ci) bs) := ⟨vb_new HO.out (fun _ h => h)⟩
        have HFi : Aside0 (Kd.F U8 w3 (fun k => wo.heap.size ≤ k) Ai bs.length bs) := ⟨Kd.V_F (e := 5) (base := 0) HVi.out⟩
        have HFb : Aside0 (Kd.F U8 w (fun k => k < w.heap.size) B bs.length bs) := ⟨Kd.C_F (Kd.heap_int _) HCw.out⟩
        have HO1 : Aside0 (∀ k, wo.heap.size ≤ k → k ≠ w.heap.size) := ⟨fun k hk => by have := tp_lt HT.out.T; have := HBo.out.size; omega⟩
        have HO2 : Aside0 (∀ k, k < w.heap.size → k ≠ w1.heap.size) := ⟨fun k hk => by have := HT.out.h2; omega⟩
        clear q0 q2 q2a hq0 hq1 hq2
        have q0 : w3.cell? ⟨wq.heap.size, 0, none⟩ = some (.int .i64 wh) := (blk_cell HBlk3.out 0).trans rfl
        go_cut [7, 8] from 41 to 141 (fun e f wx => ∃ (n : Int) (t' u' : Ta), e = .int .i64 n ∧ f = .int .i64 n ∧ Aside0 (Two w wx w.heap.size w1.heap.size (fun k => wq.heap.size ≤ k ∧ k < w3.heap.size) t' u') ∧ Aside0 (∀ k, wq.heap.size ≤ k ∧ k < w3.heap.size → wx.heap[k]? = w3.heap[k]?) ∧ Aside0 (Sim t' u') ∧ Aside0 (Few t' (300 * (k + 1))))
        case first =>
          by_cases e0 : wh = 0
          · have b0 : (wh == 0) = true := by rw [e0]; rfl
            clear e0
            as_aux_lemma =>
              have HFu : Aside0 (Few u (300 * k)) := ⟨⟨by rw [HS.out.fuse]; exact HF.out.f0, by rw [HS.out.fuse]; exact HF.out.f1, by rw [HS.out.s0.b, HS.out.s0.l]; exact HF.out.l0, by rw [HS.out.s1.b, HS.out.s1.l]; exact HF.out.l1⟩⟩
              have q1 : w3.cell? ⟨wq.heap.size, 1, none⟩ = some (.int .i64 si) := (blk_cell HBlk3.out 1).trans rfl
              have q2 : w3.cell? ⟨wq.heap.size, 2, none⟩ = some (.slice B bs.length cb) := (blk_cell HBlk3.out 2).trans rfl
              have HTd : Aside0 (Two w w3.drew w.heap.size w1.heap.size (fun k => wq.heap.size ≤ k ∧ k < w3.heap.size) t u) := ⟨HT3.out.below (below_drew (Below.refl _ _))⟩
              have HA : Aside0 _ := ⟨append_calls w.heap.size t bs Ai bs.length ci (Ok2 w.heap.size w1.heap.size (fun k => wq.heap.size ≤ k ∧ k < w3.heap.size)) (fun k => wo.heap.size ≤ k) w3.drew HTd.out.T (Kd.F_drew HFi.out) (fun _ h => h.1) HO1.out HTd.out.new (HF.out.fit (by have := HK100.out; omega) _ (by have := HL300.out; omega))⟩
              go_wp2_with fail
              refine start_ (n := 9) (S := fun w' => w'.cell? ⟨wq.heap.size, 1, none⟩ = some (.int .i64 si) ∧ w'.cell? ⟨wq.heap.size, 2, none⟩ = some (.slice B bs.length cb)) (ds := []) #[false, false, false, false, false, false, false, false, false] (by kernel_rfl) rfl rfl ⟨q1, q2⟩ (fun hHeld => ?_)
              refine pure_ (i := 0) (N := some 43) (v := ?_) (a' := ?_) #[true, false, false, false, false, false, false, false, false] rfl rfl (by kernel_rfl) (fun _ _ _ h => h) (Or.inl ⟨by rfl, ?_⟩) ?_ ?_
              rotate_left
              · intro w'
                go_simp
                with_reducible rfl
              rotate_left
              · simp only [Act.put, List.setIfInBounds_toArray, List.set_cons_zero, List.set_cons_succ, i64_w, i32_w]
                rfl
              refine pure_ (i := 1) (N := some 44) (v := ?_) (a' := ?_) #[true, true, false, false, false, false, false, false, false] rfl rfl (by kernel_rfl) (fun _ _ _ h => h) (Or.inl ⟨by rfl, ?_⟩) ?_ ?_
              rotate_left
              · intro w'
                go_simp
                with_reducible rfl
              rotate_left
              · simp only [Act.put, List.setIfInBounds_toArray, List.set_cons_zero, List.set_cons_succ, i64_w, i32_w]
                rfl
              refine pure_ (i := 3) (N := some 46) (v := ?_) (a' := ?_) #[true, true, false, true, false, false, false, false, false] rfl rfl (by kernel_rfl) (fun _ _ _ h => h) (Or.inl ⟨by rfl, ?_⟩) ?_ ?_
              rotate_left
              · intro w'
                go_simp
                with_reducible rfl
              rotate_left
              · simp only [Act.put, List.setIfInBounds_toArray, List.set_cons_zero, List.set_cons_succ, i64_w, i32_w]
                rfl
              refine pure_ (i := 4) (N := some 47) (v := ?_) (a' := ?_) #[true, true, false, true, true, false, false, false, false] rfl rfl (by kernel_rfl) (fun _ _ _ h => h) (Or.inl ⟨by rfl, ?_⟩) ?_ ?_
              rotate_left
              · intro w'
                go_simp
                with_reducible rfl
              rotate_left
              · simp only [Act.put, List.setIfInBounds_toArray, List.set_cons_zero, List.set_cons_succ, i64_w, i32_w]
                rfl
              refine take_ (i := 5) (N := some 48) (v := ?_) (a' := ?_) #[true, true, false, true, true, true, false, false, false] rfl rfl (by kernel_rfl) (fun _ _ _ h => h) (Or.inl ⟨by rfl, ?_⟩) hHeld ?_ ?_
              rotate_left
              · rintro w' ⟨s0, s1⟩
                go_simp
                with_reducible rfl
              rotate_left
              · simp only [Act.put, List.setIfInBounds_toArray, List.set_cons_zero, List.set_cons_succ, i64_w, i32_w]
                rfl
              refine one_ (i := 2) (N := some 45) #[true, true, true, true, true, true, false, false, false] rfl rfl (by kernel_rfl) (by decide) (fun K hK => ?_)
              refine goes_ Try.func9 (by kernel_rfl) rfl #[.pointer (some ⟨w.heap.size, 0, none⟩), .slice Ai bs.length ci] (by rfl) rfl rfl (by simp only [List.map_toArray, List.map_cons, List.map_nil]; rfl) ?_
              with_reducible refine (HA.out).mono ?_
              rintro e w4 ⟨rfl, hd4, hk4⟩
              refine ⟨_, rfl, ?_⟩
              obtain ⟨hT4, hkp4⟩ := HTd.out.fst hd4 hk4
              have HT4 := Aside0.mk hT4
              have hb4 : w4.heap[wq.heap.size]? = some (.cells #[.int .i64 wh, .int .i64 si, .slice B bs.length cb] 42 (0, 0)) := (hkp4 wq.heap.size ⟨Nat.le_refl _, HP.out⟩).trans HBlk3.out
              have HKP4 : Aside0 (∀ k, wq.heap.size ≤ k ∧ k < w3.heap.size → w4.heap[k]? = w3.heap[k]?) := ⟨fun k hk => hkp4 k hk⟩
              have HA2 : Aside0 _ := ⟨rwrite_calls w1.heap.size u bs B bs.length cb false (Ok2 w.heap.size w1.heap.size (fun k => wq.heap.size ≤ k ∧ k < w3.heap.size)) (fun k => k < w.heap.size) w4 HT4.out.R (Kd.F_below HFb.out HT4.out.hb) (fun _ h => h.2.1) HO2.out HT4.out.new (HFu.out.fit (by have := HK100.out; omega) _ (by have := HL300.out; omega))⟩
              have HB4 := Aside0.mk hb4
              clear hT4 hkp4 hd4 hk4 hb4 HA
              refine hK.out _ _ ⟨((blk_cell HB4.out 1).trans rfl), ((blk_cell HB4.out 2).trans rfl)⟩ (fun hHeld => ?_)
              clear hK K
              refine norm_ (a' := ?_) ?_ ?_
              rotate_left
              · show Act.put _ (some 45) _ = _
                simp only [Act.put, List.setIfInBounds_toArray, List.set_cons_zero, List.set_cons_succ, i64_w, i32_w]
                rfl
              refine one_ (i := 6) (N := some 49) #[true, true, true, true, true, true, true, false, false] rfl rfl (by kernel_rfl) (by decide) (fun K hK => ?_)
              refine goes_ Try.func15 (by kernel_rfl) rfl #[.pointer (some ⟨w1.heap.size, 0, none⟩), .slice B bs.length cb, .bool false] (by rfl) rfl rfl (by simp only [List.map_toArray, List.map_cons, List.map_nil]; rfl) ?_
              with_reducible refine (HA2.out).mono ?_
              rintro e w5 ⟨rfl, hd5, hk5⟩
              refine ⟨_, rfl, ?_⟩
              obtain ⟨hT5, hkp5⟩ := HT4.out.snd hd5 hk5
              have HT5 := Aside0.mk hT5
              have HKP5 : Aside0 (∀ k, wq.heap.size ≤ k ∧ k < w3.heap.size → w5.heap[k]? = w3.heap[k]?) := ⟨fun k hk => (hkp5 k hk).trans (HKP4.out k hk)⟩
              have HB5 : Aside0 (w5.heap[wq.heap.size]? = some (.cells #[.int .i64 wh, .int .i64 si, .slice B bs.length cb] 42 (0, 0))) := ⟨(HKP5.out wq.heap.size ⟨Nat.le_refl _, HP.out⟩).trans HBlk3.out⟩
              clear hT5 hkp5 hd5 hk5 HA2
              refine hK.out _ _ ⟨((blk_cell HB5.out 1).trans rfl), ((blk_cell HB5.out 2).trans rfl)⟩ (fun hHeld => ?_)
              clear hK K
              refine norm_ (a' := ?_) ?_ ?_
              rotate_left
              · show Act.put _ (some 49) _ = _
                simp only [Act.put, List.setIfInBounds_toArray, List.set_cons_zero, List.set_cons_succ, i64_w, i32_w]
                rfl
              refine pure_ (i := 7) (N := some 7) (v := ?_) (a' := ?_) #[true, true, true, true, true, true, true, true, false] rfl rfl (by kernel_rfl) (fun _ _ _ h => h) (Or.inl ⟨by rfl, ?_⟩) ?_ ?_
              rotate_left
              · intro w'
                go_simp
                with_reducible rfl
              rotate_left
              · simp only [Act.put, List.setIfInBounds_toArray, List.set_cons_zero, List.set_cons_succ, i64_w, i32_w]
                rfl
              refine pure_ (i := 8) (N := some 8) (v := ?_) (a' := ?_) #[true, true, true, true, true, true, true, true, true] rfl rfl (by kernel_rfl) (fun _ _ _ h => h) (Or.inl ⟨by rfl, ?_⟩) ?_ ?_
              rotate_left
              · intro w'
                go_simp
                with_reducible rfl
              rotate_left
              · simp only [Act.put, List.setIfInBounds_toArray, List.set_cons_zero, List.set_cons_succ, i64_w, i32_w]
                rfl
              refine done_ (by kernel_rfl) ?_
              clear hHeld
              have HSW := Aside0.mk (HS.out.write bs false)
              rw [HSW.out.1]
              go_wp2_with fail
              go_meet
              exact ⟨(t.write bs false).2, (t.write bs false).1, (u.write bs false).1, rfl, rfl, HT5, HKP5, ⟨HSW.out.2⟩, ⟨(HF.out.write bs false 300 HL300.out).mono (by omega)⟩⟩
          have b0 : (wh == 0) = false := by simpa using e0
          by_cases e1 : wh = 1
          · have b1 : (wh == 1) = true := by rw [e1]; rfl
            clear e1
            as_aux_lemma =>
              have HFu : Aside0 (Few u (300 * k)) := ⟨⟨by rw [HS.out.fuse]; exact HF.out.f0, by rw [HS.out.fuse]; exact HF.out.f1, by rw [HS.out.s0.b, HS.out.s0.l]; exact HF.out.l0, by rw [HS.out.s1.b, HS.out.s1.l]; exact HF.out.l1⟩⟩
              have q1 : w3.cell? ⟨wq.heap.size, 1, none⟩ = some (.int .i64 si) := (blk_cell HBlk3.out 1).trans rfl
              have q2 : w3.cell? ⟨wq.heap.size, 2, none⟩ = some (.slice B bs.length cb) := (blk_cell HBlk3.out 2).trans rfl
              have HTd : Aside0 (Two w w3.drew w.heap.size w1.heap.size (fun k => wq.heap.size ≤ k ∧ k < w3.heap.size) t u) := ⟨HT3.out.below (below_drew (Below.refl _ _))⟩
              have HA : Aside0 _ := ⟨replace_calls w.heap.size t bs Ai bs.length ci (Ok2 w.heap.size w1.heap.size (fun k => wq.heap.size ≤ k ∧ k < w3.heap.size)) (fun k => wo.heap.size ≤ k) w3.drew HTd.out.T (Kd.F_drew HFi.out) (fun _ h => h.1) HO1.out HTd.out.new (HF.out.fit (by have := HK100.out; omega) _ (by have := HL300.out; omega))⟩
              go_wp2_with fail
              refine start_ (n := 9) (S := fun w' => w'.cell? ⟨wq.heap.size, 1, none⟩ = some (.int .i64 si) ∧ w'.cell? ⟨wq.heap.size, 2, none⟩ = some (.slice B bs.length cb)) (ds := []) #[false, false, false, false, false, false, false, false, false] (by kernel_rfl) rfl rfl ⟨q1, q2⟩ (fun hHeld => ?_)
              refine pure_ (i := 0) (N := some 52) (v := ?_) (a' := ?_) #[true, false, false, false, false, false, false, false, false] rfl rfl (by kernel_rfl) (fun _ _ _ h => h) (Or.inl ⟨by rfl, ?_⟩) ?_ ?_
              rotate_left
              · intro w'
                go_simp
                with_reducible rfl
              rotate_left
              · simp only [Act.put, List.setIfInBounds_toArray, List.set_cons_zero, List.set_cons_succ, i64_w, i32_w]
                rfl
              refine pure_ (i := 1) (N := some 53) (v := ?_) (a' := ?_) #[true, true, false, false, false, false, false, false, false] rfl rfl (by kernel_rfl) (fun _ _ _ h => h) (Or.inl ⟨by rfl, ?_⟩) ?_ ?_
              rotate_left
              · intro w'
                go_simp
                with_reducible rfl
              rotate_left
              · simp only [Act.put, List.setIfInBounds_toArray, List.set_cons_zero, List.set_cons_succ, i64_w, i32_w]
                rfl
              refine pure_ (i := 3) (N := some 55) (v := ?_) (a' := ?_) #[true, true, false, true, false, false, false, false, false] rfl rfl (by kernel_rfl) (fun _ _ _ h => h) (Or.inl ⟨by rfl, ?_⟩) ?_ ?_
              rotate_left
              · intro w'
                go_simp
                with_reducible rfl
              rotate_left
              · simp only [Act.put, List.setIfInBounds_toArray, List.set_cons_zero, List.set_cons_succ, i64_w, i32_w]
                rfl
              refine pure_ (i := 4) (N := some 56) (v := ?_) (a' := ?_) #[true, true, false, true, true, false, false, false, false] rfl rfl (by kernel_rfl) (fun _ _ _ h => h) (Or.inl ⟨by rfl, ?_⟩) ?_ ?_
              rotate_left
              · intro w'
                go_simp
                with_reducible rfl
              rotate_left
              · simp only [Act.put, List.setIfInBounds_toArray, List.set_cons_zero, List.set_cons_succ, i64_w, i32_w]
                rfl
              refine take_ (i := 5) (N := some 57) (v := ?_) (a' := ?_) #[true, true, false, true, true, true, false, false, false] rfl rfl (by kernel_rfl) (fun _ _ _ h => h) (Or.inl ⟨by rfl, ?_⟩) hHeld ?_ ?_
              rotate_left
              · rintro w' ⟨s0, s1⟩
                go_simp
                with_reducible rfl
              rotate_left
              · simp only [Act.put, List.setIfInBounds_toArray, List.set_cons_zero, List.set_cons_succ, i64_w, i32_w]
                rfl
              refine one_ (i := 2) (N := some 54) #[true, true, true, true, true, true, false, false, false] rfl rfl (by kernel_rfl) (by decide) (fun K hK => ?_)
              refine goes_ Try.func14 (by kernel_rfl) rfl #[.pointer (some ⟨w.heap.size, 0, none⟩), .slice Ai bs.length ci] (by rfl) rfl rfl (by simp only [List.map_toArray, List.map_cons, List.map_nil]; rfl) ?_
              with_reducible refine (HA.out).mono ?_
              rintro e w4 ⟨rfl, hd4, hk4⟩
              refine ⟨_, rfl, ?_⟩
              obtain ⟨hT4, hkp4⟩ := HTd.out.fst hd4 hk4
              have HT4 := Aside0.mk hT4
              have hb4 : w4.heap[wq.heap.size]? = some (.cells #[.int .i64 wh, .int .i64 si, .slice B bs.length cb] 42 (0, 0)) := (hkp4 wq.heap.size ⟨Nat.le_refl _, HP.out⟩).trans HBlk3.out
              have HKP4 : Aside0 (∀ k, wq.heap.size ≤ k ∧ k < w3.heap.size → w4.heap[k]? = w3.heap[k]?) := ⟨fun k hk => hkp4 k hk⟩
              have HA2 : Aside0 _ := ⟨rwrite_calls w1.heap.size u bs B bs.length cb true (Ok2 w.heap.size w1.heap.size (fun k => wq.heap.size ≤ k ∧ k < w3.heap.size)) (fun k => k < w.heap.size) w4 HT4.out.R (Kd.F_below HFb.out HT4.out.hb) (fun _ h => h.2.1) HO2.out HT4.out.new (HFu.out.fit (by have := HK100.out; omega) _ (by have := HL300.out; omega))⟩
              have HB4 := Aside0.mk hb4
              clear hT4 hkp4 hd4 hk4 hb4 HA
              refine hK.out _ _ ⟨((blk_cell HB4.out 1).trans rfl), ((blk_cell HB4.out 2).trans rfl)⟩ (fun hHeld => ?_)
              clear hK K
              refine norm_ (a' := ?_) ?_ ?_
              rotate_left
              · show Act.put _ (some 54) _ = _
                simp only [Act.put, List.setIfInBounds_toArray, List.set_cons_zero, List.set_cons_succ, i64_w, i32_w]
                rfl
              refine one_ (i := 6) (N := some 58) #[true, true, true, true, true, true, true, false, false] rfl rfl (by kernel_rfl) (by decide) (fun K hK => ?_)
              refine goes_ Try.func15 (by kernel_rfl) rfl #[.pointer (some ⟨w1.heap.size, 0, none⟩), .slice B bs.length cb, .bool true] (by rfl) rfl rfl (by simp only [List.map_toArray, List.map_cons, List.map_nil]; rfl) ?_
              with_reducible refine (HA2.out).mono ?_
              rintro e w5 ⟨rfl, hd5, hk5⟩
              refine ⟨_, rfl, ?_⟩
              obtain ⟨hT5, hkp5⟩ := HT4.out.snd hd5 hk5
              have HT5 := Aside0.mk hT5
              have HKP5 : Aside0 (∀ k, wq.heap.size ≤ k ∧ k < w3.heap.size → w5.heap[k]? = w3.heap[k]?) := ⟨fun k hk => (hkp5 k hk).trans (HKP4.out k hk)⟩
              have HB5 : Aside0 (w5.heap[wq.heap.size]? = some (.cells #[.int .i64 wh, .int .i64 si, .slice B bs.length cb] 42 (0, 0))) := ⟨(HKP5.out wq.heap.size ⟨Nat.le_refl _, HP.out⟩).trans HBlk3.out⟩
              clear hT5 hkp5 hd5 hk5 HA2
              refine hK.out _ _ ⟨((blk_cell HB5.out 1).trans rfl), ((blk_cell HB5.out 2).trans rfl)⟩ (fun hHeld => ?_)
              clear hK K
              refine norm_ (a' := ?_) ?_ ?_
              rotate_left
              · show Act.put _ (some 58) _ = _
                simp only [Act.put, List.setIfInBounds_toArray, List.set_cons_zero, List.set_cons_succ, i64_w, i32_w]
                rfl
              refine pure_ (i := 7) (N := some 7) (v := ?_) (a' := ?_) #[true, true, true, true, true, true, true, true, false] rfl rfl (by kernel_rfl) (fun _ _ _ h => h) (Or.inl ⟨by rfl, ?_⟩) ?_ ?_
              rotate_left
              · intro w'
                go_simp
                with_reducible rfl
              rotate_left
              · simp only [Act.put, List.setIfInBounds_toArray, List.set_cons_zero, List.set_cons_succ, i64_w, i32_w]
                rfl
              refine pure_ (i := 8) (N := some 8) (v := ?_) (a' := ?_) #[true, true, true, true, true, true, true, true, true] rfl rfl (by kernel_rfl) (fun _ _ _ h => h) (Or.inl ⟨by rfl, ?_⟩) ?_ ?_
              rotate_left
              · intro w'
                go_simp
                with_reducible rfl
              rotate_left
              · simp only [Act.put, List.setIfInBounds_toArray, List.set_cons_zero, List.set_cons_succ, i64_w, i32_w]
                rfl
              refine done_ (by kernel_rfl) ?_
              clear hHeld
              have HSW := Aside0.mk (HS.out.write bs true)
              rw [HSW.out.1]
              go_wp2_with fail
              go_meet
              exact ⟨(t.write bs true).2, (t.write bs true).1, (u.write bs true).1, rfl, rfl, HT5, HKP5, ⟨HSW.out.2⟩, ⟨(HF.out.write bs true 300 HL300.out).mono (by omega)⟩⟩
          have b1 : (wh == 1) = false := by simpa using e1
          by_cases e2 : wh = 2
          · have b2 : (wh == 2) = true := by rw [e2]; rfl
            clear e2
            as_aux_lemma =>
              by_cases hs : si < 0
              · skip
                have hf : (if si < 0 then (0 : Int) else si) = (0 : Int) := by rw [if_pos hs]
                have hs1 : decide (si < 0) = true := decide_eq_true hs
                have q1 : w3.cell? ⟨wq.heap.size, 1, none⟩ = some (.int .i64 si) := (blk_cell HBlk3.out 1).trans rfl
                have q2 : w3.cell? ⟨wq.heap.size, 2, none⟩ = some (.slice B bs.length cb) := (blk_cell HBlk3.out 2).trans rfl
                have HA : Aside0 _ := ⟨fuse_calls w.heap.size t si (Ok2 w.heap.size w1.heap.size (fun k => wq.heap.size ≤ k ∧ k < w3.heap.size)) w3 HT3.out.T (fun _ h => h.1)⟩
                go_wp2_with fail
                refine HA.out.mono ?_
                rintro e w4 ⟨rfl, hd4, hk4⟩
                obtain ⟨hT4, hkp4⟩ := HT3.out.fst hd4 hk4
                have HT4 := Aside0.mk hT4
                have HKP4 : Aside0 (∀ k, wq.heap.size ≤ k ∧ k < w3.heap.size → w4.heap[k]? = w3.heap[k]?) := ⟨fun k hk => hkp4 k hk⟩
                have HB4 : Aside0 (w4.heap[wq.heap.size]? = some (.cells #[.int .i64 wh, .int .i64 si, .slice B bs.length cb] 42 (0, 0))) := ⟨(hkp4 wq.heap.size ⟨Nat.le_refl _, HP.out⟩).trans HBlk3.out⟩
                clear q0 q1 q2
                have q1 : w4.cell? ⟨wq.heap.size, 1, none⟩ = some (.int .i64 si) := (blk_cell HB4.out 1).trans rfl
                have q2 : w4.cell? ⟨wq.heap.size, 2, none⟩ = some (.slice B bs.length cb) := (blk_cell HB4.out 2).trans rfl
                clear hT4 hkp4 hd4 hk4 HA
                rw [hf] at HT4
                have HSF := Aside0.mk (show -1 ≤ (0 : Int) ∧ (0 : Int) < 9223372036854775808 by omega)
                obtain ⟨v0, u0, v1, u1, hR⟩ := HT4.out.R
                have HR := Aside0.mk hR
                have c10 : w4.cell? ⟨w1.heap.size, 10, none⟩ = some (.int .i64 u.fuse) := (blk_cell hR.blk 10).trans rfl
                have hfz : ∀ j, w4.frozen? ⟨w1.heap.size, j, none⟩ = false := fun j => blk_frozen hR.blk j
                have hlt2 : wq.heap.size ≠ w1.heap.size := fun e => by have := rp_lt HT.out.R; omega
                have hlt3 : w1.heap.size ≠ wq.heap.size := Ne.symm hlt2
                clear hR hf hs
                go_wp2_with fail
                go_meet
                have K : Kp w4 ((w4.setCell ⟨w1.heap.size, 10, none⟩ (.int .i64 si)).setCell ⟨w1.heap.size, 10, none⟩ (.int .i64 0)) w1.heap.size := ((Kp.refl w4 _).set 10 _).set 10 _
                have hR5 : Rp ((w4.setCell ⟨w1.heap.size, 10, none⟩ (.int .i64 si)).setCell ⟨w1.heap.size, 10, none⟩ (.int .i64 0)) (Ok2 w.heap.size w1.heap.size (fun k => wq.heap.size ≤ k ∧ k < w3.heap.size)) w1.heap.size { u with fuse := (0 : Int) } := ⟨_, _, _, _, rv_kp HR.out K (fun _ h => h.2.1) (blk_set (blk_set HR.out.blk 10 _) 10 _) rfl rfl rfl rfl⟩
                obtain ⟨hT5, hkp5⟩ := HT4.out.snd hR5 K
                exact ⟨0, { t with fuse := (0 : Int) }, { u with fuse := (0 : Int) }, rfl, rfl, ⟨hT5⟩, ⟨fun k hk => (hkp5 k hk).trans (HKP4.out k hk)⟩, ⟨HS.out.setF _⟩, ⟨(HF.out.setF HSF.out.1 HSF.out.2).mono (by omega)⟩⟩
              · skip
                have hf : (if si < 0 then (0 : Int) else si) = si := by rw [if_neg hs]
                have hs1 : decide (si < 0) = false := decide_eq_false hs
                have q1 : w3.cell? ⟨wq.heap.size, 1, none⟩ = some (.int .i64 si) := (blk_cell HBlk3.out 1).trans rfl
                have q2 : w3.cell? ⟨wq.heap.size, 2, none⟩ = some (.slice B bs.length cb) := (blk_cell HBlk3.out 2).trans rfl
                have HA : Aside0 _ := ⟨fuse_calls w.heap.size t si (Ok2 w.heap.size w1.heap.size (fun k => wq.heap.size ≤ k ∧ k < w3.heap.size)) w3 HT3.out.T (fun _ h => h.1)⟩
                go_wp2_with fail
                refine HA.out.mono ?_
                rintro e w4 ⟨rfl, hd4, hk4⟩
                obtain ⟨hT4, hkp4⟩ := HT3.out.fst hd4 hk4
                have HT4 := Aside0.mk hT4
                have HKP4 : Aside0 (∀ k, wq.heap.size ≤ k ∧ k < w3.heap.size → w4.heap[k]? = w3.heap[k]?) := ⟨fun k hk => hkp4 k hk⟩
                have HB4 : Aside0 (w4.heap[wq.heap.size]? = some (.cells #[.int .i64 wh, .int .i64 si, .slice B bs.length cb] 42 (0, 0))) := ⟨(hkp4 wq.heap.size ⟨Nat.le_refl _, HP.out⟩).trans HBlk3.out⟩
                clear q0 q1 q2
                have q1 : w4.cell? ⟨wq.heap.size, 1, none⟩ = some (.int .i64 si) := (blk_cell HB4.out 1).trans rfl
                have q2 : w4.cell? ⟨wq.heap.size, 2, none⟩ = some (.slice B bs.length cb) := (blk_cell HB4.out 2).trans rfl
                clear hT4 hkp4 hd4 hk4 HA
                rw [hf] at HT4
                have HSF := Aside0.mk (show -1 ≤ si ∧ si < 9223372036854775808 by omega)
                obtain ⟨v0, u0, v1, u1, hR⟩ := HT4.out.R
                have HR := Aside0.mk hR
                have c10 : w4.cell? ⟨w1.heap.size, 10, none⟩ = some (.int .i64 u.fuse) := (blk_cell hR.blk 10).trans rfl
                have hfz : ∀ j, w4.frozen? ⟨w1.heap.size, j, none⟩ = false := fun j => blk_frozen hR.blk j
                have hlt2 : wq.heap.size ≠ w1.heap.size := fun e => by have := rp_lt HT.out.R; omega
                have hlt3 : w1.heap.size ≠ wq.heap.size := Ne.symm hlt2
                clear hR hf hs
                go_wp2_with fail
                go_meet
                have K : Kp w4 (w4.setCell ⟨w1.heap.size, 10, none⟩ (.int .i64 si)) w1.heap.size := (Kp.refl w4 _).set 10 _
                have hR5 : Rp (w4.setCell ⟨w1.heap.size, 10, none⟩ (.int .i64 si)) (Ok2 w.heap.size w1.heap.size (fun k => wq.heap.size ≤ k ∧ k < w3.heap.size)) w1.heap.size { u with fuse := si } := ⟨_, _, _, _, rv_kp HR.out K (fun _ h => h.2.1) (blk_set HR.out.blk 10 _) rfl rfl rfl rfl⟩
                obtain ⟨hT5, hkp5⟩ := HT4.out.snd hR5 K
                exact ⟨0, { t with fuse := si }, { u with fuse := si }, rfl, rfl, ⟨hT5⟩, ⟨fun k hk => (hkp5 k hk).trans (HKP4.out k hk)⟩, ⟨HS.out.setF _⟩, ⟨(HF.out.setF HSF.out.1 HSF.out.2).mono (by omega)⟩⟩
          have b2 : (wh == 2) = false := by simpa using e2
          by_cases e3 : wh = 3
          · have b3 : (wh == 3) = true := by rw [e3]; rfl
            clear e3
            as_aux_lemma =>
              have q1 : w3.cell? ⟨wq.heap.size, 1, none⟩ = some (.int .i64 si) := (blk_cell HBlk3.out 1).trans rfl
              have q2 : w3.cell? ⟨wq.heap.size, 2, none⟩ = some (.slice B bs.length cb) := (blk_cell HBlk3.out 2).trans rfl
              have HA : Aside0 _ := ⟨crash_calls w.heap.size t si (Ok2 w.heap.size w1.heap.size (fun k => wq.heap.size ≤ k ∧ k < w3.heap.size)) w3 HT3.out.T (fun _ h => h.1) HT3.out.new (by have := HF.out.l0; have := HK100.out; omega) (by have := HF.out.l1; have := HK100.out; omega)⟩
              go_wp2_with fail
              refine HA.out.mono ?_
              rintro e w4 ⟨rfl, hd4, hk4⟩
              obtain ⟨hT4, hkp4⟩ := HT3.out.fst hd4 hk4
              have HT4 := Aside0.mk hT4
              have HKP4 : Aside0 (∀ k, wq.heap.size ≤ k ∧ k < w3.heap.size → w4.heap[k]? = w3.heap[k]?) := ⟨fun k hk => hkp4 k hk⟩
              have HB4 : Aside0 (w4.heap[wq.heap.size]? = some (.cells #[.int .i64 wh, .int .i64 si, .slice B bs.length cb] 42 (0, 0))) := ⟨(hkp4 wq.heap.size ⟨Nat.le_refl _, HP.out⟩).trans HBlk3.out⟩
              clear q0 q1 q2
              have q1 : w4.cell? ⟨wq.heap.size, 1, none⟩ = some (.int .i64 si) := (blk_cell HB4.out 1).trans rfl
              have q2 : w4.cell? ⟨wq.heap.size, 2, none⟩ = some (.slice B bs.length cb) := (blk_cell HB4.out 2).trans rfl
              clear hT4 hkp4 hd4 hk4 HA
              have HA2 : Aside0 _ := ⟨rcrash_calls w1.heap.size u si (Ok2 w.heap.size w1.heap.size (fun k => wq.heap.size ≤ k ∧ k < w3.heap.size)) w4 HT4.out.R (fun _ h => h.2.1) HT4.out.new (by rw [HS.out.s0.b, HS.out.s0.l]; have := HF.out.l0; have := HK100.out; omega) (by rw [HS.out.s1.b, HS.out.s1.l]; have := HF.out.l1; have := HK100.out; omega)⟩
              go_wp2_with fail
              refine HA2.out.mono ?_
              rintro e w5 ⟨rfl, hd5, hk5⟩
              obtain ⟨hT5, hkp5⟩ := HT4.out.snd hd5 hk5
              have HT5 := Aside0.mk hT5
              have HKP5 : Aside0 (∀ k, wq.heap.size ≤ k ∧ k < w3.heap.size → w5.heap[k]? = w3.heap[k]?) := ⟨fun k hk => (hkp5 k hk).trans (HKP4.out k hk)⟩
              clear hT5 hkp5 hd5 hk5
              go_wp2_with fail
              go_meet
              exact ⟨0, _, _, rfl, rfl, HT5, HKP5, ⟨HS.out.crash si⟩, ⟨(HF.out.crash si).mono (by omega)⟩⟩
          have b3 : (wh == 3) = false := by simpa using e3
          by_cases e4 : wh = 4
          · have b4 : (wh == 4) = true := by rw [e4]; rfl
            clear e4
            as_aux_lemma =>
              by_cases hs : si = 0
              · skip
                subst hs
                have q1 : w3.cell? ⟨wq.heap.size, 1, none⟩ = some (.int .i64 0) := (blk_cell HBlk3.out 1).trans rfl
                have q2 : w3.cell? ⟨wq.heap.size, 2, none⟩ = some (.slice B bs.length cb) := (blk_cell HBlk3.out 2).trans rfl
                have HA : Aside0 _ := ⟨lose0_calls w.heap.size t (Ok2 w.heap.size w1.heap.size (fun k => wq.heap.size ≤ k ∧ k < w3.heap.size)) w3 HT3.out.T (fun _ h => h.1)⟩
                go_wp2_with fail
                refine HA.out.mono ?_
                rintro e w4 ⟨rfl, hd4, hk4⟩
                obtain ⟨hT4, hkp4⟩ := HT3.out.fst hd4 hk4
                have HT4 := Aside0.mk hT4
                have HKP4 : Aside0 (∀ k, wq.heap.size ≤ k ∧ k < w3.heap.size → w4.heap[k]? = w3.heap[k]?) := ⟨fun k hk => hkp4 k hk⟩
                have HB4 : Aside0 (w4.heap[wq.heap.size]? = some (.cells #[.int .i64 wh, .int .i64 0, .slice B bs.length cb] 42 (0, 0))) := ⟨(hkp4 wq.heap.size ⟨Nat.le_refl _, HP.out⟩).trans HBlk3.out⟩
                clear q0 q1 q2
                have q1 : w4.cell? ⟨wq.heap.size, 1, none⟩ = some (.int .i64 0) := (blk_cell HB4.out 1).trans rfl
                have q2 : w4.cell? ⟨wq.heap.size, 2, none⟩ = some (.slice B bs.length cb) := (blk_cell HB4.out 2).trans rfl
                clear hT4 hkp4 hd4 hk4 HA
                obtain ⟨v0, u0, v1, u1, hR⟩ := HT4.out.R
                have HR := Aside0.mk hR
                obtain ⟨r0, r1, r2, r3, r4, r5, r6, r7, r8, r9, r10, r11, hfz⟩ := rc_cell hR.blk
                have hlt2 : wq.heap.size ≠ w1.heap.size := fun e => by have := rp_lt HT.out.R; omega
                have hlt3 : w1.heap.size ≠ wq.heap.size := Ne.symm hlt2
                clear hR
                go_wp2_with fail
                go_still_tail 7, (by kernel_rfl)
                go_wp2_with fail
                go_meet
                have K0 : Kp w4 (((((w4.setCell ⟨w1.heap.size, 0, none⟩ (.slice none 0 0)).setCell ⟨w1.heap.size, 1, none⟩ (.slice none 0 0)).setCell ⟨w1.heap.size, 2, none⟩ (.bool false)).setCell ⟨w1.heap.size, 3, none⟩ (.bool false)).setCell ⟨w1.heap.size, 4, none⟩ (.bool true)) w1.heap.size := (((((Kp.refl w4 _).set 0 (.slice none 0 0)).set 1 (.slice none 0 0)).set 2 (.bool false)).set 3 (.bool false)).set 4 (.bool true)
                have K : Kp w4 (((((w4.setCell ⟨w1.heap.size, 0, none⟩ (.slice none 0 0)).setCell ⟨w1.heap.size, 1, none⟩ (.slice none 0 0)).setCell ⟨w1.heap.size, 2, none⟩ (.bool false)).setCell ⟨w1.heap.size, 3, none⟩ (.bool false)).setCell ⟨w1.heap.size, 4, none⟩ (.bool true)).drew w1.heap.size := K0.drewN 1
                have hB5 : (((((w4.setCell ⟨w1.heap.size, 0, none⟩ (.slice none 0 0)).setCell ⟨w1.heap.size, 1, none⟩ (.slice none 0 0)).setCell ⟨w1.heap.size, 2, none⟩ (.bool false)).setCell ⟨w1.heap.size, 3, none⟩ (.bool false)).setCell ⟨w1.heap.size, 4, none⟩ (.bool true)).heap[w1.heap.size]? = some (.cells (Rc (.slice none 0 0) (.slice none 0 0) v1 u1 { u with s0 := ⟨[], [], false, false, true⟩ }) 40 (0, 0)) := (blk_set (blk_set (blk_set (blk_set (blk_set HR.out.blk 0 (.slice none 0 0)) 1 (.slice none 0 0)) 2 (.bool false)) 3 (.bool false)) 4 (.bool true))
                have hR5 : Rp (((((w4.setCell ⟨w1.heap.size, 0, none⟩ (.slice none 0 0)).setCell ⟨w1.heap.size, 1, none⟩ (.slice none 0 0)).setCell ⟨w1.heap.size, 2, none⟩ (.bool false)).setCell ⟨w1.heap.size, 3, none⟩ (.bool false)).setCell ⟨w1.heap.size, 4, none⟩ (.bool true)).drew (Ok2 w.heap.size w1.heap.size (fun k => wq.heap.size ≤ k ∧ k < w3.heap.size)) w1.heap.size { u with s0 := ⟨[], [], false, false, true⟩ } := ⟨(.slice none 0 0), (.slice none 0 0), v1, u1, hB5, Kd.V_nil _ _ _ _ _, Kd.V_nil _ _ _ _ _, vb_kp HR.out.a2 K (fun _ h => h.2.1), vb_kp HR.out.a3 K (fun _ h => h.2.1)⟩
                obtain ⟨hT5, hkp5⟩ := HT4.out.snd hR5 K
                exact ⟨0, _, _, rfl, rfl, ⟨hT5⟩, ⟨fun k hk => (hkp5 k hk).trans (HKP4.out k hk)⟩, ⟨HS.out.set0 (Sim1.refl _)⟩, ⟨(HF.out.set0 (by simp)).mono (by omega)⟩⟩
              have hs0 := hs
              clear hs
              by_cases hs : si = 1
              · skip
                subst hs
                have q1 : w3.cell? ⟨wq.heap.size, 1, none⟩ = some (.int .i64 1) := (blk_cell HBlk3.out 1).trans rfl
                have q2 : w3.cell? ⟨wq.heap.size, 2, none⟩ = some (.slice B bs.length cb) := (blk_cell HBlk3.out 2).trans rfl
                have HA : Aside0 _ := ⟨lose1_calls w.heap.size t (Ok2 w.heap.size w1.heap.size (fun k => wq.heap.size ≤ k ∧ k < w3.heap.size)) w3 HT3.out.T (fun _ h => h.1)⟩
                go_wp2_with fail
                refine HA.out.mono ?_
                rintro e w4 ⟨rfl, hd4, hk4⟩
                obtain ⟨hT4, hkp4⟩ := HT3.out.fst hd4 hk4
                have HT4 := Aside0.mk hT4
                have HKP4 : Aside0 (∀ k, wq.heap.size ≤ k ∧ k < w3.heap.size → w4.heap[k]? = w3.heap[k]?) := ⟨fun k hk => hkp4 k hk⟩
                have HB4 : Aside0 (w4.heap[wq.heap.size]? = some (.cells #[.int .i64 wh, .int .i64 1, .slice B bs.length cb] 42 (0, 0))) := ⟨(hkp4 wq.heap.size ⟨Nat.le_refl _, HP.out⟩).trans HBlk3.out⟩
                clear q0 q1 q2
                have q1 : w4.cell? ⟨wq.heap.size, 1, none⟩ = some (.int .i64 1) := (blk_cell HB4.out 1).trans rfl
                have q2 : w4.cell? ⟨wq.heap.size, 2, none⟩ = some (.slice B bs.length cb) := (blk_cell HB4.out 2).trans rfl
                clear hT4 hkp4 hd4 hk4 HA
                obtain ⟨v0, u0, v1, u1, hR⟩ := HT4.out.R
                have HR := Aside0.mk hR
                obtain ⟨r0, r1, r2, r3, r4, r5, r6, r7, r8, r9, r10, r11, hfz⟩ := rc_cell hR.blk
                have hlt2 : wq.heap.size ≠ w1.heap.size := fun e => by have := rp_lt HT.out.R; omega
                have hlt3 : w1.heap.size ≠ wq.heap.size := Ne.symm hlt2
                clear hR
                go_wp2_with fail
                go_still_tail 7, (by kernel_rfl)
                go_wp2_with fail
                go_meet
                have K0 : Kp w4 (((((w4.setCell ⟨w1.heap.size, 5, none⟩ (.slice none 0 0)).setCell ⟨w1.heap.size, 6, none⟩ (.slice none 0 0)).setCell ⟨w1.heap.size, 7, none⟩ (.bool false)).setCell ⟨w1.heap.size, 8, none⟩ (.bool false)).setCell ⟨w1.heap.size, 9, none⟩ (.bool true)) w1.heap.size := (((((Kp.refl w4 _).set 5 (.slice none 0 0)).set 6 (.slice none 0 0)).set 7 (.bool false)).set 8 (.bool false)).set 9 (.bool true)
                have K : Kp w4 (((((w4.setCell ⟨w1.heap.size, 5, none⟩ (.slice none 0 0)).setCell ⟨w1.heap.size, 6, none⟩ (.slice none 0 0)).setCell ⟨w1.heap.size, 7, none⟩ (.bool false)).setCell ⟨w1.heap.size, 8, none⟩ (.bool false)).setCell ⟨w1.heap.size, 9, none⟩ (.bool true)).drew w1.heap.size := K0.drewN 1
                have hB5 : (((((w4.setCell ⟨w1.heap.size, 5, none⟩ (.slice none 0 0)).setCell ⟨w1.heap.size, 6, none⟩ (.slice none 0 0)).setCell ⟨w1.heap.size, 7, none⟩ (.bool false)).setCell ⟨w1.heap.size, 8, none⟩ (.bool false)).setCell ⟨w1.heap.size, 9, none⟩ (.bool true)).heap[w1.heap.size]? = some (.cells (Rc v0 u0 (.slice none 0 0) (.slice none 0 0) { u with s1 := ⟨[], [], false, false, true⟩ }) 40 (0, 0)) := (blk_set (blk_set (blk_set (blk_set (blk_set HR.out.blk 5 (.slice none 0 0)) 6 (.slice none 0 0)) 7 (.bool false)) 8 (.bool false)) 9 (.bool true))
                have hR5 : Rp (((((w4.setCell ⟨w1.heap.size, 5, none⟩ (.slice none 0 0)).setCell ⟨w1.heap.size, 6, none⟩ (.slice none 0 0)).setCell ⟨w1.heap.size, 7, none⟩ (.bool false)).setCell ⟨w1.heap.size, 8, none⟩ (.bool false)).setCell ⟨w1.heap.size, 9, none⟩ (.bool true)).drew (Ok2 w.heap.size w1.heap.size (fun k => wq.heap.size ≤ k ∧ k < w3.heap.size)) w1.heap.size { u with s1 := ⟨[], [], false, false, true⟩ } := ⟨v0, u0, (.slice none 0 0), (.slice none 0 0), hB5, vb_kp HR.out.a0 K (fun _ h => h.2.1), vb_kp HR.out.a1 K (fun _ h => h.2.1), Kd.V_nil _ _ _ _ _, Kd.V_nil _ _ _ _ _⟩
                obtain ⟨hT5, hkp5⟩ := HT4.out.snd hR5 K
                exact ⟨0, _, _, rfl, rfl, ⟨hT5⟩, ⟨fun k hk => (hkp5 k hk).trans (HKP4.out k hk)⟩, ⟨HS.out.set1 (Sim1.refl _)⟩, ⟨(HF.out.set1 (by simp)).mono (by omega)⟩⟩
              have hs1 := hs
              clear hs
              have hs2 : (si == 0) = false := by simpa using hs0
              have hs3 : (si == 1) = false := by simpa using hs1
              have hout : (some w.heap.size : Option Nat) = none ∨ si < 0 ∨ 2 ≤ si := by omega
              have q1 : w3.cell? ⟨wq.heap.size, 1, none⟩ = some (.int .i64 si) := (blk_cell HBlk3.out 1).trans rfl
              have q2 : w3.cell? ⟨wq.heap.size, 2, none⟩ = some (.slice B bs.length cb) := (blk_cell HBlk3.out 2).trans rfl
              have HA : Aside0 _ := ⟨lose_out (some w.heap.size) si hout w3⟩
              clear hout hs0 hs1
              go_wp2_with fail
              refine HA.out.mono ?_
              rintro e w4 ⟨rfl, rfl⟩
              go_wp2_with (go_quiet (fail))
              trace_state
              go_meet
              exact ⟨0, t, u, rfl, rfl, ⟨HT3.out.below (by repeat (first | exact Below.refl _ _ | apply below_drew | apply pw_below_drewN))⟩, ⟨fun _ _ => rfl⟩, HS, ⟨HF.out.mono (by omega)⟩⟩
          have b4 : (wh == 4) = false := by simpa using e4
          by_cases e5 : wh = 5
          · have b5 : (wh == 5) = true := by rw [e5]; rfl
            clear e5
            as_aux_lemma =>
              by_cases hs : si = 0
              · skip
                subst hs
                have q1 : w3.cell? ⟨wq.heap.size, 1, none⟩ = some (.int .i64 0) := (blk_cell HBlk3.out 1).trans rfl
                have q2 : w3.cell? ⟨wq.heap.size, 2, none⟩ = some (.slice B bs.length cb) := (blk_cell HBlk3.out 2).trans rfl
                have HA : Aside0 _ := ⟨spoil0_calls w.heap.size t bs Ai bs.length ci (Ok2 w.heap.size w1.heap.size (fun k => wq.heap.size ≤ k ∧ k < w3.heap.size)) w3 HT3.out.T (Kd.F_now HFi.out) (by have := HL300.out; omega) (fun _ h => h.1) HT3.out.new⟩
                go_wp2_with fail
                refine HA.out.mono ?_
                rintro e w4 ⟨rfl, hd4, hk4⟩
                obtain ⟨hT4, hkp4⟩ := HT3.out.fst hd4 hk4
                have HT4 := Aside0.mk hT4
                have HKP4 : Aside0 (∀ k, wq.heap.size ≤ k ∧ k < w3.heap.size → w4.heap[k]? = w3.heap[k]?) := ⟨fun k hk => hkp4 k hk⟩
                have HB4 : Aside0 (w4.heap[wq.heap.size]? = some (.cells #[.int .i64 wh, .int .i64 0, .slice B bs.length cb] 42 (0, 0))) := ⟨(hkp4 wq.heap.size ⟨Nat.le_refl _, HP.out⟩).trans HBlk3.out⟩
                clear q0 q1 q2
                have q1 : w4.cell? ⟨wq.heap.size, 1, none⟩ = some (.int .i64 0) := (blk_cell HB4.out 1).trans rfl
                have q2 : w4.cell? ⟨wq.heap.size, 2, none⟩ = some (.slice B bs.length cb) := (blk_cell HB4.out 2).trans rfl
                clear hT4 hkp4 hd4 hk4 HA
                obtain ⟨v0, u0, v1, u1, hR⟩ := HT4.out.R
                have HR := Aside0.mk hR
                obtain ⟨r0, r1, r2, r3, r4, r5, r6, r7, r8, r9, r10, r11, hfz⟩ := rc_cell hR.blk
                have hlt2 : wq.heap.size ≠ w1.heap.size := fun e => by have := rp_lt HT.out.R; omega
                have hlt3 : w1.heap.size ≠ wq.heap.size := Ne.symm hlt2
                clear hR
                have HM : Aside0 (U8.R 5 (w4.drew.alloc (.cells #[] 5)) w4.heap.size (fun _ => True) (.slice (some ⟨w4.heap.size, 0, none⟩) 0 0) []) := ⟨⟨fun _ _ => trivial, [], World.ownsRow_made w4.drew #[] 0 (Nat.le_refl _) (Nat.zero_le _) rfl, Reps.none _ _⟩⟩
                have HBm : Aside0 (Below w4.heap.size w4 (w4.drew.alloc (.cells #[] 5))) := ⟨((Below.refl _ _).drew).alloc (Nat.le_refl _) _⟩
                go_wp2_with fail
                refine start_ (n := 20) (S := fun w' => w'.cell? ⟨wq.heap.size, 1, none⟩ = some (.int .i64 0) ∧ w'.cell? ⟨wq.heap.size, 2, none⟩ = some (.slice B bs.length cb) ∧ w'.cell? ⟨w1.heap.size, 4, none⟩ = some (.bool u.s0.lost)) (ds := [19]) #[false, false, false, false, false, false, false, false, false, false, false, false, false, false, false, false, false, false, false, false] (by kernel_rfl) rfl rfl ⟨q1, q2, r4⟩ (fun hHeld => ?_)
                refine pure_ (i := 0) (N := some 122) (v := ?_) (a' := ?_) #[true, false, false, false, false, false, false, false, false, false, false, false, false, false, false, false, false, false, false, false] rfl rfl (by kernel_rfl) (fun _ _ _ h => h) (Or.inl ⟨by rfl, ?_⟩) ?_ ?_
                rotate_left
                · intro w'
                  go_simp
                  with_reducible rfl
                rotate_left
                · simp only [Act.put, List.setIfInBounds_toArray, List.set_cons_zero, List.set_cons_succ, i64_w, i32_w]
                  rfl
                refine pure_ (i := 1) (N := some 123) (v := ?_) (a' := ?_) #[true, true, false, false, false, false, false, false, false, false, false, false, false, false, false, false, false, false, false, false] rfl rfl (by kernel_rfl) (fun _ _ _ h => h) (Or.inl ⟨by rfl, ?_⟩) ?_ ?_
                rotate_left
                · intro w'
                  go_simp
                  with_reducible rfl
                rotate_left
                · simp only [Act.put, List.setIfInBounds_toArray, List.set_cons_zero, List.set_cons_succ, i64_w, i32_w]
                  rfl
                refine pure_ (i := 3) (N := some 125) (v := ?_) (a' := ?_) #[true, true, false, true, false, false, false, false, false, false, false, false, false, false, false, false, false, false, false, false] rfl rfl (by kernel_rfl) (fun _ _ _ h => h) (Or.inl ⟨by rfl, ?_⟩) ?_ ?_
                rotate_left
                · intro w'
                  go_simp
                  with_reducible rfl
                rotate_left
                · simp only [Act.put, List.setIfInBounds_toArray, List.set_cons_zero, List.set_cons_succ, i64_w, i32_w]
                  rfl
                refine pure_ (i := 4) (N := some 126) (v := ?_) (a' := ?_) #[true, true, false, true, true, false, false, false, false, false, false, false, false, false, false, false, false, false, false, false] rfl rfl (by kernel_rfl) (fun _ _ _ h => h) (Or.inl ⟨by rfl, ?_⟩) ?_ ?_
                rotate_left
                · intro w'
                  go_simp
                  with_reducible rfl
                rotate_left
                · simp only [Act.put, List.setIfInBounds_toArray, List.set_cons_zero, List.set_cons_succ, i64_w, i32_w]
                  rfl
                refine pure_ (i := 6) (N := some 128) (v := ?_) (a' := ?_) #[true, true, false, true, true, false, true, false, false, false, false, false, false, false, false, false, false, false, false, false] rfl rfl (by kernel_rfl) (fun _ _ _ h => h) (Or.inl ⟨by rfl, ?_⟩) ?_ ?_
                rotate_left
                · intro w'
                  go_simp
                  with_reducible rfl
                rotate_left
                · simp only [Act.put, List.setIfInBounds_toArray, List.set_cons_zero, List.set_cons_succ, i64_w, i32_w]
                  rfl
                refine pure_ (i := 7) (N := some 129) (v := ?_) (a' := ?_) #[true, true, false, true, true, false, true, true, false, false, false, false, false, false, false, false, false, false, false, false] rfl rfl (by kernel_rfl) (fun _ _ _ h => h) (Or.inl ⟨by rfl, ?_⟩) ?_ ?_
                rotate_left
                · intro w'
                  go_simp
                  with_reducible rfl
                rotate_left
                · simp only [Act.put, List.setIfInBounds_toArray, List.set_cons_zero, List.set_cons_succ, i64_w, i32_w]
                  rfl
                refine pure_ (i := 12) (N := some 134) (v := ?_) (a' := ?_) #[true, true, false, true, true, false, true, true, false, false, false, false, true, false, false, false, false, false, false, false] rfl rfl (by kernel_rfl) (fun _ _ _ h => h) (Or.inl ⟨by rfl, ?_⟩) ?_ ?_
                rotate_left
                · intro w'
                  go_simp
                  with_reducible rfl
                rotate_left
                · simp only [Act.put, List.setIfInBounds_toArray, List.set_cons_zero, List.set_cons_succ, i64_w, i32_w]
                  rfl
                refine pure_ (i := 16) (N := some 138) (v := ?_) (a' := ?_) #[true, true, false, true, true, false, true, true, false, false, false, false, true, false, false, false, true, false, false, false] rfl rfl (by kernel_rfl) (fun _ _ _ h => h) (Or.inl ⟨by rfl, ?_⟩) ?_ ?_
                rotate_left
                · intro w'
                  go_simp
                  with_reducible rfl
                rotate_left
                · simp only [Act.put, List.setIfInBounds_toArray, List.set_cons_zero, List.set_cons_succ, i64_w, i32_w]
                  rfl
                refine pure_ (i := 17) (N := some 139) (v := ?_) (a' := ?_) #[true, true, false, true, true, false, true, true, false, false, false, false, true, false, false, false, true, true, false, false] rfl rfl (by kernel_rfl) (fun _ _ _ h => h) (Or.inl ⟨by rfl, ?_⟩) ?_ ?_
                rotate_left
                · intro w'
                  go_simp
                  with_reducible rfl
                rotate_left
                · simp only [Act.put, List.setIfInBounds_toArray, List.set_cons_zero, List.set_cons_succ, i64_w, i32_w]
                  rfl
                refine take_ (i := 2) (N := some 124) (v := ?_) (a' := ?_) #[true, true, true, true, true, false, true, true, false, false, false, false, true, false, false, false, true, true, false, false] rfl rfl (by kernel_rfl) (fun _ _ _ h => h) (Or.inl ⟨by rfl, ?_⟩) hHeld ?_ ?_
                rotate_left
                · rintro w' ⟨s0, s1, s2⟩
                  go_simp
                  with_reducible rfl
                rotate_left
                · simp only [Act.put, List.setIfInBounds_toArray, List.set_cons_zero, List.set_cons_succ, i64_w, i32_w]
                  rfl
                refine take_ (i := 5) (N := some 127) (v := ?_) (a' := ?_) #[true, true, true, true, true, true, true, true, false, false, false, false, true, false, false, false, true, true, false, false] rfl rfl (by kernel_rfl) (fun _ _ _ h => h) (Or.inl ⟨by rfl, ?_⟩) hHeld ?_ ?_
                rotate_left
                · rintro w' ⟨s0, s1, s2⟩
                  go_simp
                  with_reducible rfl
                rotate_left
                · simp only [Act.put, List.setIfInBounds_toArray, List.set_cons_zero, List.set_cons_succ, i64_w, i32_w]
                  rfl
                refine pure_ (i := 8) (N := some 130) (v := ?_) (a' := ?_) #[true, true, true, true, true, true, true, true, true, false, false, false, true, false, false, false, true, true, false, false] rfl rfl (by kernel_rfl) (fun _ _ _ h => h) (Or.inl ⟨by rfl, ?_⟩) ?_ ?_
                rotate_left
                · intro w'
                  go_simp
                  with_reducible rfl
                rotate_left
                · simp only [Act.put, List.setIfInBounds_toArray, List.set_cons_zero, List.set_cons_succ, i64_w, i32_w]
                  rfl
                refine pure_ (i := 9) (N := some 131) (v := ?_) (a' := ?_) #[true, true, true, true, true, true, true, true, true, true, false, false, true, false, false, false, true, true, false, false] rfl rfl (by kernel_rfl) (fun _ _ _ h => h) (Or.inl ⟨by rfl, ?_⟩) ?_ ?_
                rotate_left
                · intro w'
                  go_simp
                  with_reducible rfl
                rotate_left
                · simp only [Act.put, List.setIfInBounds_toArray, List.set_cons_zero, List.set_cons_succ, i64_w, i32_w]
                  rfl
                refine take_ (i := 10) (N := some 132) (v := ?_) (a' := ?_) #[true, true, true, true, true, true, true, true, true, true, true, false, true, false, false, false, true, true, false, false] rfl rfl (by kernel_rfl) (fun _ _ _ h => h) (Or.inl ⟨by rfl, ?_⟩) hHeld ?_ ?_
                rotate_left
                · rintro w' ⟨s0, s1, s2⟩
                  go_simp
                  with_reducible rfl
                rotate_left
                · simp only [Act.put, List.setIfInBounds_toArray, List.set_cons_zero, List.set_cons_succ, i64_w, i32_w]
                  rfl
                refine take_ (i := 13) (N := some 135) (v := ?_) (a' := ?_) #[true, true, true, true, true, true, true, true, true, true, true, false, true, true, false, false, true, true, false, false] rfl rfl (by kernel_rfl) (fun _ _ _ h => h) (Or.inl ⟨by rfl, ?_⟩) hHeld ?_ ?_
                rotate_left
                · rintro w' ⟨s0, s1, s2⟩
                  go_simp
                  with_reducible rfl
                rotate_left
                · simp only [Act.put, List.setIfInBounds_toArray, List.set_cons_zero, List.set_cons_succ, i64_w, i32_w]
                  rfl
                refine one_ (i := 11) (N := some 133) #[true, true, true, true, true, true, true, true, true, true, true, true, true, true, false, false, true, true, false, false] rfl rfl (by kernel_rfl) (by decide) (fun K hK => ?_)
                refine value_ (w1 := ?_) (v := ?_) (by rfl) rfl ?_ ?_
                rotate_left 2
                · go_simp
                  constructor
                  · rfl
                  · rfl
                refine hK.out _ _ ⟨(pw_cell_below ((Below.refl _ _).alloc (Nat.le_refl _) _) q1), (pw_cell_below ((Below.refl _ _).alloc (Nat.le_refl _) _) q2), (pw_cell_below ((Below.refl _ _).alloc (Nat.le_refl _) _) r4)⟩ (fun hHeld => ?_)
                clear hK K
                refine norm_ (a' := ?_) ?_ ?_
                rotate_left
                · show Act.put _ (some 133) _ = _
                  simp only [Act.put, List.setIfInBounds_toArray, List.set_cons_zero, List.set_cons_succ, i64_w, i32_w]
                  rfl
                refine one_ (i := 14) (N := some 136) #[true, true, true, true, true, true, true, true, true, true, true, true, true, true, true, false, true, true, false, false] rfl rfl (by kernel_rfl) (by decide) (fun K hK => ?_)
                refine Kd.R_append_rows_step U8 (w0 := w4.drew.alloc (.cells #[] 5)) (Rr := U8.K w4) w4.heap.size (by rfl) (.tmp 133) (.tmp 135) 22 5 (.int .u8 0) 1 rfl Try.underlying22 info5 rfl (by decide) (by decide) (.slice (some ⟨w4.heap.size, 0, none⟩) 0 0) [] bs B bs.length cb (fun _ => True) (fun _ => False) (by rfl) (by rfl) HM.out (Kd.C_below (Kd.C_below HCw.out HT4.out.hb) HBm.out) (fun _ _ h => h) (fun _ h => h.elim) (fun _ _ => trivial) (Below.refl _ _) (by simp) (by have := HL300.out; simp only [List.length_nil]; omega) ?_
                intro v2 w5 ho hb hg hat
                have HV2 : Aside0 (Vb w5 (Ok2 w.heap.size w1.heap.size (fun k => wq.heap.size ≤ k ∧ k < w3.heap.size)) v2 bs) := ⟨vb_new ho HT4.out.new⟩
                have HB5 : Aside0 (Below w4.heap.size w4 w5) := ⟨HBm.out.trans hb⟩
                obtain ⟨A5, n5, rfl⟩ := Kd.V_slice HV2.out
                have hbk := Aside0.mk (blk_below HR.out.blk HB5.out)
                have hfz5 := fun j => blk_frozen hbk.out j
                have t0 : w5.cell? ⟨w1.heap.size, 0, none⟩ = some (v0) := (blk_cell hbk.out 0).trans rfl
                have t1 : w5.cell? ⟨w1.heap.size, 1, none⟩ = some (u0) := (blk_cell hbk.out 1).trans rfl
                have t2 : w5.cell? ⟨w1.heap.size, 2, none⟩ = some (.bool u.s0.wet) := (blk_cell hbk.out 2).trans rfl
                have t3 : w5.cell? ⟨w1.heap.size, 3, none⟩ = some (.bool u.s0.sw) := (blk_cell hbk.out 3).trans rfl
                have t4 : w5.cell? ⟨w1.heap.size, 4, none⟩ = some (.bool u.s0.lost) := (blk_cell hbk.out 4).trans rfl
                clear ho hb hg hat
                refine hK.out _ _ ⟨(pw_cell_below HB5.out q1), (pw_cell_below HB5.out q2), (pw_cell_below HB5.out r4)⟩ (fun hHeld => ?_)
                clear hK K
                refine norm_ (a' := ?_) ?_ ?_
                rotate_left
                · show Act.put _ (some 136) _ = _
                  simp only [Act.put, List.setIfInBounds_toArray, List.set_cons_zero, List.set_cons_succ, i64_w, i32_w]
                  rfl
                refine pure_ (i := 15) (N := some 137) (v := ?_) (a' := ?_) #[true, true, true, true, true, true, true, true, true, true, true, true, true, true, true, true, true, true, false, false] rfl rfl (by kernel_rfl) (fun _ _ _ h => h) (Or.inl ⟨by rfl, ?_⟩) ?_ ?_
                rotate_left
                · intro w'
                  go_simp
                  with_reducible rfl
                rotate_left
                · simp only [Act.put, List.setIfInBounds_toArray, List.set_cons_zero, List.set_cons_succ, i64_w, i32_w]
                  rfl
                refine pure_ (i := 18) (N := some 140) (v := ?_) (a' := ?_) #[true, true, true, true, true, true, true, true, true, true, true, true, true, true, true, true, true, true, true, false] rfl rfl (by kernel_rfl) (fun _ _ _ h => h) (Or.inl ⟨by rfl, ?_⟩) ?_ ?_
                rotate_left
                · intro w'
                  go_simp
                  with_reducible rfl
                rotate_left
                · simp only [Act.put, List.setIfInBounds_toArray, List.set_cons_zero, List.set_cons_succ, i64_w, i32_w]
                  rfl
                refine last_ (i := 19) (N := none) #[true, true, true, true, true, true, true, true, true, true, true, true, true, true, true, true, true, true, true, true] rfl rfl (by kernel_rfl) (by decide) (fun K hK => ?_)
                refine skip_ (w1 := ?_) (by rfl) rfl ?_ ?_
                rotate_left
                · go_simp
                  rfl
                refine hK.out _ _ ?_
                clear hK K
                refine done_ (by kernel_rfl) ?_
                clear hHeld
                go_wp2_with fail
                go_meet
                have K : Kp w4 (((((w5.setCell ⟨w1.heap.size, 0, none⟩ (.slice A5 bs.length n5)).setCell ⟨w1.heap.size, 1, none⟩ (.slice none 0 0)).setCell ⟨w1.heap.size, 2, none⟩ (.bool false)).setCell ⟨w1.heap.size, 3, none⟩ (.bool false)).setCell ⟨w1.heap.size, 4, none⟩ (.bool u.s0.lost)) w1.heap.size := (((((Kp.of_below HB5.out _).set 0 (.slice A5 bs.length n5)).set 1 (.slice none 0 0)).set 2 (.bool false)).set 3 (.bool false)).set 4 (.bool u.s0.lost)
                have K1 : Kp w5 (((((w5.setCell ⟨w1.heap.size, 0, none⟩ (.slice A5 bs.length n5)).setCell ⟨w1.heap.size, 1, none⟩ (.slice none 0 0)).setCell ⟨w1.heap.size, 2, none⟩ (.bool false)).setCell ⟨w1.heap.size, 3, none⟩ (.bool false)).setCell ⟨w1.heap.size, 4, none⟩ (.bool u.s0.lost)) w1.heap.size := (((((Kp.refl w5 _).set 0 (.slice A5 bs.length n5)).set 1 (.slice none 0 0)).set 2 (.bool false)).set 3 (.bool false)).set 4 (.bool u.s0.lost)
                have hB5 : (((((w5.setCell ⟨w1.heap.size, 0, none⟩ (.slice A5 bs.length n5)).setCell ⟨w1.heap.size, 1, none⟩ (.slice none 0 0)).setCell ⟨w1.heap.size, 2, none⟩ (.bool false)).setCell ⟨w1.heap.size, 3, none⟩ (.bool false)).setCell ⟨w1.heap.size, 4, none⟩ (.bool u.s0.lost)).heap[w1.heap.size]? = some (.cells (Rc (.slice A5 bs.length n5) (.slice none 0 0) v1 u1 { u with s0 := ⟨bs, [], false, false, u.s0.lost⟩ }) 40 (0, 0)) := (blk_set (blk_set (blk_set (blk_set (blk_set hbk.out 0 (.slice A5 bs.length n5)) 1 (.slice none 0 0)) 2 (.bool false)) 3 (.bool false)) 4 (.bool u.s0.lost))
                have hR5 : Rp (((((w5.setCell ⟨w1.heap.size, 0, none⟩ (.slice A5 bs.length n5)).setCell ⟨w1.heap.size, 1, none⟩ (.slice none 0 0)).setCell ⟨w1.heap.size, 2, none⟩ (.bool false)).setCell ⟨w1.heap.size, 3, none⟩ (.bool false)).setCell ⟨w1.heap.size, 4, none⟩ (.bool u.s0.lost)) (Ok2 w.heap.size w1.heap.size (fun k => wq.heap.size ≤ k ∧ k < w3.heap.size)) w1.heap.size { u with s0 := ⟨bs, [], false, false, u.s0.lost⟩ } := ⟨(.slice A5 bs.length n5), (.slice none 0 0), v1, u1, hB5, vb_kp HV2.out K1 (fun _ h => h.2.1), Kd.V_nil _ _ _ _ _, vb_kp HR.out.a2 K (fun _ h => h.2.1), vb_kp HR.out.a3 K (fun _ h => h.2.1)⟩
                obtain ⟨hT5, hkp5⟩ := HT4.out.snd hR5 K
                exact ⟨0, _, _, rfl, rfl, ⟨hT5⟩, ⟨fun k hk => (hkp5 k hk).trans (HKP4.out k hk)⟩, ⟨HS.out.set0 ⟨rfl, rfl, rfl, HS.out.s0.lost, fun h => by cases h⟩⟩, ⟨(HF.out.mono (n := 300 * (k + 1)) (by omega)).set0 (by have := HL300.out; simp; omega)⟩⟩
              have hs0 := hs
              clear hs
              by_cases hs : si = 1
              · skip
                subst hs
                have q1 : w3.cell? ⟨wq.heap.size, 1, none⟩ = some (.int .i64 1) := (blk_cell HBlk3.out 1).trans rfl
                have q2 : w3.cell? ⟨wq.heap.size, 2, none⟩ = some (.slice B bs.length cb) := (blk_cell HBlk3.out 2).trans rfl
                have HA : Aside0 _ := ⟨spoil1_calls w.heap.size t bs Ai bs.length ci (Ok2 w.heap.size w1.heap.size (fun k => wq.heap.size ≤ k ∧ k < w3.heap.size)) w3 HT3.out.T (Kd.F_now HFi.out) (by have := HL300.out; omega) (fun _ h => h.1) HT3.out.new⟩
                go_wp2_with fail
                refine HA.out.mono ?_
                rintro e w4 ⟨rfl, hd4, hk4⟩
                obtain ⟨hT4, hkp4⟩ := HT3.out.fst hd4 hk4
                have HT4 := Aside0.mk hT4
                have HKP4 : Aside0 (∀ k, wq.heap.size ≤ k ∧ k < w3.heap.size → w4.heap[k]? = w3.heap[k]?) := ⟨fun k hk => hkp4 k hk⟩
                have HB4 : Aside0 (w4.heap[wq.heap.size]? = some (.cells #[.int .i64 wh, .int .i64 1, .slice B bs.length cb] 42 (0, 0))) := ⟨(hkp4 wq.heap.size ⟨Nat.le_refl _, HP.out⟩).trans HBlk3.out⟩
                clear q0 q1 q2
                have q1 : w4.cell? ⟨wq.heap.size, 1, none⟩ = some (.int .i64 1) := (blk_cell HB4.out 1).trans rfl
                have q2 : w4.cell? ⟨wq.heap.size, 2, none⟩ = some (.slice B bs.length cb) := (blk_cell HB4.out 2).trans rfl
                clear hT4 hkp4 hd4 hk4 HA
                obtain ⟨v0, u0, v1, u1, hR⟩ := HT4.out.R
                have HR := Aside0.mk hR
                obtain ⟨r0, r1, r2, r3, r4, r5, r6, r7, r8, r9, r10, r11, hfz⟩ := rc_cell hR.blk
                have hlt2 : wq.heap.size ≠ w1.heap.size := fun e => by have := rp_lt HT.out.R; omega
                have hlt3 : w1.heap.size ≠ wq.heap.size := Ne.symm hlt2
                clear hR
                have HM : Aside0 (U8.R 5 (w4.drew.alloc (.cells #[] 5)) w4.heap.size (fun _ => True) (.slice (some ⟨w4.heap.size, 0, none⟩) 0 0) []) := ⟨⟨fun _ _ => trivial, [], World.ownsRow_made w4.drew #[] 0 (Nat.le_refl _) (Nat.zero_le _) rfl, Reps.none _ _⟩⟩
                have HBm : Aside0 (Below w4.heap.size w4 (w4.drew.alloc (.cells #[] 5))) := ⟨((Below.refl _ _).drew).alloc (Nat.le_refl _) _⟩
                go_wp2_with fail
                refine start_ (n := 20) (S := fun w' => w'.cell? ⟨wq.heap.size, 1, none⟩ = some (.int .i64 1) ∧ w'.cell? ⟨wq.heap.size, 2, none⟩ = some (.slice B bs.length cb) ∧ w'.cell? ⟨w1.heap.size, 9, none⟩ = some (.bool u.s1.lost)) (ds := [19]) #[false, false, false, false, false, false, false, false, false, false, false, false, false, false, false, false, false, false, false, false] (by kernel_rfl) rfl rfl ⟨q1, q2, r9⟩ (fun hHeld => ?_)
                refine pure_ (i := 0) (N := some 122) (v := ?_) (a' := ?_) #[true, false, false, false, false, false, false, false, false, false, false, false, false, false, false, false, false, false, false, false] rfl rfl (by kernel_rfl) (fun _ _ _ h => h) (Or.inl ⟨by rfl, ?_⟩) ?_ ?_
                rotate_left
                · intro w'
                  go_simp
                  with_reducible rfl
                rotate_left
                · simp only [Act.put, List.setIfInBounds_toArray, List.set_cons_zero, List.set_cons_succ, i64_w, i32_w]
                  rfl
                refine pure_ (i := 1) (N := some 123) (v := ?_) (a' := ?_) #[true, true, false, false, false, false, false, false, false, false, false, false, false, false, false, false, false, false, false, false] rfl rfl (by kernel_rfl) (fun _ _ _ h => h) (Or.inl ⟨by rfl, ?_⟩) ?_ ?_
                rotate_left
                · intro w'
                  go_simp
                  with_reducible rfl
                rotate_left
                · simp only [Act.put, List.setIfInBounds_toArray, List.set_cons_zero, List.set_cons_succ, i64_w, i32_w]
                  rfl
                refine pure_ (i := 3) (N := some 125) (v := ?_) (a' := ?_) #[true, true, false, true, false, false, false, false, false, false, false, false, false, false, false, false, false, false, false, false] rfl rfl (by kernel_rfl) (fun _ _ _ h => h) (Or.inl ⟨by rfl, ?_⟩) ?_ ?_
                rotate_left
                · intro w'
                  go_simp
                  with_reducible rfl
                rotate_left
                · simp only [Act.put, List.setIfInBounds_toArray, List.set_cons_zero, List.set_cons_succ, i64_w, i32_w]
                  rfl
                refine pure_ (i := 4) (N := some 126) (v := ?_) (a' := ?_) #[true, true, false, true, true, false, false, false, false, false, false, false, false, false, false, false, false, false, false, false] rfl rfl (by kernel_rfl) (fun _ _ _ h => h) (Or.inl ⟨by rfl, ?_⟩) ?_ ?_
                rotate_left
                · intro w'
                  go_simp
                  with_reducible rfl
                rotate_left
                · simp only [Act.put, List.setIfInBounds_toArray, List.set_cons_zero, List.set_cons_succ, i64_w, i32_w]
                  rfl
                refine pure_ (i := 6) (N := some 128) (v := ?_) (a' := ?_) #[true, true, false, true, true, false, true, false, false, false, false, false, false, false, false, false, false, false, false, false] rfl rfl (by kernel_rfl) (fun _ _ _ h => h) (Or.inl ⟨by rfl, ?_⟩) ?_ ?_
                rotate_left
                · intro w'
                  go_simp
                  with_reducible rfl
                rotate_left
                · simp only [Act.put, List.setIfInBounds_toArray, List.set_cons_zero, List.set_cons_succ, i64_w, i32_w]
                  rfl
                refine pure_ (i := 7) (N := some 129) (v := ?_) (a' := ?_) #[true, true, false, true, true, false, true, true, false, false, false, false, false, false, false, false, false, false, false, false] rfl rfl (by kernel_rfl) (fun _ _ _ h => h) (Or.inl ⟨by rfl, ?_⟩) ?_ ?_
                rotate_left
                · intro w'
                  go_simp
                  with_reducible rfl
                rotate_left
                · simp only [Act.put, List.setIfInBounds_toArray, List.set_cons_zero, List.set_cons_succ, i64_w, i32_w]
                  rfl
                refine pure_ (i := 12) (N := some 134) (v := ?_) (a' := ?_) #[true, true, false, true, true, false, true, true, false, false, false, false, true, false, false, false, false, false, false, false] rfl rfl (by kernel_rfl) (fun _ _ _ h => h) (Or.inl ⟨by rfl, ?_⟩) ?_ ?_
                rotate_left
                · intro w'
                  go_simp
                  with_reducible rfl
                rotate_left
                · simp only [Act.put, List.setIfInBounds_toArray, List.set_cons_zero, List.set_cons_succ, i64_w, i32_w]
                  rfl
                refine pure_ (i := 16) (N := some 138) (v := ?_) (a' := ?_) #[true, true, false, true, true, false, true, true, false, false, false, false, true, false, false, false, true, false, false, false] rfl rfl (by kernel_rfl) (fun _ _ _ h => h) (Or.inl ⟨by rfl, ?_⟩) ?_ ?_
                rotate_left
                · intro w'
                  go_simp
                  with_reducible rfl
                rotate_left
                · simp only [Act.put, List.setIfInBounds_toArray, List.set_cons_zero, List.set_cons_succ, i64_w, i32_w]
                  rfl
                refine pure_ (i := 17) (N := some 139) (v := ?_) (a' := ?_) #[true, true, false, true, true, false, true, true, false, false, false, false, true, false, false, false, true, true, false, false] rfl rfl (by kernel_rfl) (fun _ _ _ h => h) (Or.inl ⟨by rfl, ?_⟩) ?_ ?_
                rotate_left
                · intro w'
                  go_simp
                  with_reducible rfl
                rotate_left
                · simp only [Act.put, List.setIfInBounds_toArray, List.set_cons_zero, List.set_cons_succ, i64_w, i32_w]
                  rfl
                refine take_ (i := 2) (N := some 124) (v := ?_) (a' := ?_) #[true, true, true, true, true, false, true, true, false, false, false, false, true, false, false, false, true, true, false, false] rfl rfl (by kernel_rfl) (fun _ _ _ h => h) (Or.inl ⟨by rfl, ?_⟩) hHeld ?_ ?_
                rotate_left
                · rintro w' ⟨s0, s1, s2⟩
                  go_simp
                  with_reducible rfl
                rotate_left
                · simp only [Act.put, List.setIfInBounds_toArray, List.set_cons_zero, List.set_cons_succ, i64_w, i32_w]
                  rfl
                refine take_ (i := 5) (N := some 127) (v := ?_) (a' := ?_) #[true, true, true, true, true, true, true, true, false, false, false, false, true, false, false, false, true, true, false, false] rfl rfl (by kernel_rfl) (fun _ _ _ h => h) (Or.inl ⟨by rfl, ?_⟩) hHeld ?_ ?_
                rotate_left
                · rintro w' ⟨s0, s1, s2⟩
                  go_simp
                  with_reducible rfl
                rotate_left
                · simp only [Act.put, List.setIfInBounds_toArray, List.set_cons_zero, List.set_cons_succ, i64_w, i32_w]
                  rfl
                refine pure_ (i := 8) (N := some 130) (v := ?_) (a' := ?_) #[true, true, true, true, true, true, true, true, true, false, false, false, true, false, false, false, true, true, false, false] rfl rfl (by kernel_rfl) (fun _ _ _ h => h) (Or.inl ⟨by rfl, ?_⟩) ?_ ?_
                rotate_left
                · intro w'
                  go_simp
                  with_reducible rfl
                rotate_left
                · simp only [Act.put, List.setIfInBounds_toArray, List.set_cons_zero, List.set_cons_succ, i64_w, i32_w]
                  rfl
                refine pure_ (i := 9) (N := some 131) (v := ?_) (a' := ?_) #[true, true, true, true, true, true, true, true, true, true, false, false, true, false, false, false, true, true, false, false] rfl rfl (by kernel_rfl) (fun _ _ _ h => h) (Or.inl ⟨by rfl, ?_⟩) ?_ ?_
                rotate_left
                · intro w'
                  go_simp
                  with_reducible rfl
                rotate_left
                · simp only [Act.put, List.setIfInBounds_toArray, List.set_cons_zero, List.set_cons_succ, i64_w, i32_w]
                  rfl
                refine take_ (i := 10) (N := some 132) (v := ?_) (a' := ?_) #[true, true, true, true, true, true, true, true, true, true, true, false, true, false, false, false, true, true, false, false] rfl rfl (by kernel_rfl) (fun _ _ _ h => h) (Or.inl ⟨by rfl, ?_⟩) hHeld ?_ ?_
                rotate_left
                · rintro w' ⟨s0, s1, s2⟩
                  go_simp
                  with_reducible rfl
                rotate_left
                · simp only [Act.put, List.setIfInBounds_toArray, List.set_cons_zero, List.set_cons_succ, i64_w, i32_w]
                  rfl
                refine take_ (i := 13) (N := some 135) (v := ?_) (a' := ?_) #[true, true, true, true, true, true, true, true, true, true, true, false, true, true, false, false, true, true, false, false] rfl rfl (by kernel_rfl) (fun _ _ _ h => h) (Or.inl ⟨by rfl, ?_⟩) hHeld ?_ ?_
                rotate_left
                · rintro w' ⟨s0, s1, s2⟩
                  go_simp
                  with_reducible rfl
                rotate_left
                · simp only [Act.put, List.setIfInBounds_toArray, List.set_cons_zero, List.set_cons_succ, i64_w, i32_w]
                  rfl
                refine one_ (i := 11) (N := some 133) #[true, true, true, true, true, true, true, true, true, true, true, true, true, true, false, false, true, true, false, false] rfl rfl (by kernel_rfl) (by decide) (fun K hK => ?_)
                refine value_ (w1 := ?_) (v := ?_) (by rfl) rfl ?_ ?_
                rotate_left 2
                · go_simp
                  constructor
                  · rfl
                  · rfl
                refine hK.out _ _ ⟨(pw_cell_below ((Below.refl _ _).alloc (Nat.le_refl _) _) q1), (pw_cell_below ((Below.refl _ _).alloc (Nat.le_refl _) _) q2), (pw_cell_below ((Below.refl _ _).alloc (Nat.le_refl _) _) r9)⟩ (fun hHeld => ?_)
                clear hK K
                refine norm_ (a' := ?_) ?_ ?_
                rotate_left
                · show Act.put _ (some 133) _ = _
                  simp only [Act.put, List.setIfInBounds_toArray, List.set_cons_zero, List.set_cons_succ, i64_w, i32_w]
                  rfl
                refine one_ (i := 14) (N := some 136) #[true, true, true, true, true, true, true, true, true, true, true, true, true, true, true, false, true, true, false, false] rfl rfl (by kernel_rfl) (by decide) (fun K hK => ?_)
                refine Kd.R_append_rows_step U8 (w0 := w4.drew.alloc (.cells #[] 5)) (Rr := U8.K w4) w4.heap.size (by rfl) (.tmp 133) (.tmp 135) 22 5 (.int .u8 0) 1 rfl Try.underlying22 info5 rfl (by decide) (by decide) (.slice (some ⟨w4.heap.size, 0, none⟩) 0 0) [] bs B bs.length cb (fun _ => True) (fun _ => False) (by rfl) (by rfl) HM.out (Kd.C_below (Kd.C_below HCw.out HT4.out.hb) HBm.out) (fun _ _ h => h) (fun _ h => h.elim) (fun _ _ => trivial) (Below.refl _ _) (by simp) (by have := HL300.out; simp only [List.length_nil]; omega) ?_
                intro v2 w5 ho hb hg hat
                have HV2 : Aside0 (Vb w5 (Ok2 w.heap.size w1.heap.size (fun k => wq.heap.size ≤ k ∧ k < w3.heap.size)) v2 bs) := ⟨vb_new ho HT4.out.new⟩
                have HB5 : Aside0 (Below w4.heap.size w4 w5) := ⟨HBm.out.trans hb⟩
                obtain ⟨A5, n5, rfl⟩ := Kd.V_slice HV2.out
                have hbk := Aside0.mk (blk_below HR.out.blk HB5.out)
                have hfz5 := fun j => blk_frozen hbk.out j
                have t5 : w5.cell? ⟨w1.heap.size, 5, none⟩ = some (v1) := (blk_cell hbk.out 5).trans rfl
                have t6 : w5.cell? ⟨w1.heap.size, 6, none⟩ = some (u1) := (blk_cell hbk.out 6).trans rfl
                have t7 : w5.cell? ⟨w1.heap.size, 7, none⟩ = some (.bool u.s1.wet) := (blk_cell hbk.out 7).trans rfl
                have t8 : w5.cell? ⟨w1.heap.size, 8, none⟩ = some (.bool u.s1.sw) := (blk_cell hbk.out 8).trans rfl
                have t9 : w5.cell? ⟨w1.heap.size, 9, none⟩ = some (.bool u.s1.lost) := (blk_cell hbk.out 9).trans rfl
                clear ho hb hg hat
                refine hK.out _ _ ⟨(pw_cell_below HB5.out q1), (pw_cell_below HB5.out q2), (pw_cell_below HB5.out r9)⟩ (fun hHeld => ?_)
                clear hK K
                refine norm_ (a' := ?_) ?_ ?_
                rotate_left
                · show Act.put _ (some 136) _ = _
                  simp only [Act.put, List.setIfInBounds_toArray, List.set_cons_zero, List.set_cons_succ, i64_w, i32_w]
                  rfl
                refine pure_ (i := 15) (N := some 137) (v := ?_) (a' := ?_) #[true, true, true, true, true, true, true, true, true, true, true, true, true, true, true, true, true, true, false, false] rfl rfl (by kernel_rfl) (fun _ _ _ h => h) (Or.inl ⟨by rfl, ?_⟩) ?_ ?_
                rotate_left
                · intro w'
                  go_simp
                  with_reducible rfl
                rotate_left
                · simp only [Act.put, List.setIfInBounds_toArray, List.set_cons_zero, List.set_cons_succ, i64_w, i32_w]
                  rfl
                refine pure_ (i := 18) (N := some 140) (v := ?_) (a' := ?_) #[true, true, true, true, true, true, true, true, true, true, true, true, true, true, true, true, true, true, true, false] rfl rfl (by kernel_rfl) (fun _ _ _ h => h) (Or.inl ⟨by rfl, ?_⟩) ?_ ?_
                rotate_left
                · intro w'
                  go_simp
                  with_reducible rfl
                rotate_left
                · simp only [Act.put, List.setIfInBounds_toArray, List.set_cons_zero, List.set_cons_succ, i64_w, i32_w]
                  rfl
                refine last_ (i := 19) (N := none) #[true, true, true, true, true, true, true, true, true, true, true, true, true, true, true, true, true, true, true, true] rfl rfl (by kernel_rfl) (by decide) (fun K hK => ?_)
                refine skip_ (w1 := ?_) (by rfl) rfl ?_ ?_
                rotate_left
                · go_simp
                  rfl
                refine hK.out _ _ ?_
                clear hK K
                refine done_ (by kernel_rfl) ?_
                clear hHeld
                go_wp2_with fail
                go_meet
                have K : Kp w4 (((((w5.setCell ⟨w1.heap.size, 5, none⟩ (.slice A5 bs.length n5)).setCell ⟨w1.heap.size, 6, none⟩ (.slice none 0 0)).setCell ⟨w1.heap.size, 7, none⟩ (.bool false)).setCell ⟨w1.heap.size, 8, none⟩ (.bool false)).setCell ⟨w1.heap.size, 9, none⟩ (.bool u.s1.lost)) w1.heap.size := (((((Kp.of_below HB5.out _).set 5 (.slice A5 bs.length n5)).set 6 (.slice none 0 0)).set 7 (.bool false)).set 8 (.bool false)).set 9 (.bool u.s1.lost)
                have K1 : Kp w5 (((((w5.setCell ⟨w1.heap.size, 5, none⟩ (.slice A5 bs.length n5)).setCell ⟨w1.heap.size, 6, none⟩ (.slice none 0 0)).setCell ⟨w1.heap.size, 7, none⟩ (.bool false)).setCell ⟨w1.heap.size, 8, none⟩ (.bool false)).setCell ⟨w1.heap.size, 9, none⟩ (.bool u.s1.lost)) w1.heap.size := (((((Kp.refl w5 _).set 5 (.slice A5 bs.length n5)).set 6 (.slice none 0 0)).set 7 (.bool false)).set 8 (.bool false)).set 9 (.bool u.s1.lost)
                have hB5 : (((((w5.setCell ⟨w1.heap.size, 5, none⟩ (.slice A5 bs.length n5)).setCell ⟨w1.heap.size, 6, none⟩ (.slice none 0 0)).setCell ⟨w1.heap.size, 7, none⟩ (.bool false)).setCell ⟨w1.heap.size, 8, none⟩ (.bool false)).setCell ⟨w1.heap.size, 9, none⟩ (.bool u.s1.lost)).heap[w1.heap.size]? = some (.cells (Rc v0 u0 (.slice A5 bs.length n5) (.slice none 0 0) { u with s1 := ⟨bs, [], false, false, u.s1.lost⟩ }) 40 (0, 0)) := (blk_set (blk_set (blk_set (blk_set (blk_set hbk.out 5 (.slice A5 bs.length n5)) 6 (.slice none 0 0)) 7 (.bool false)) 8 (.bool false)) 9 (.bool u.s1.lost))
                have hR5 : Rp (((((w5.setCell ⟨w1.heap.size, 5, none⟩ (.slice A5 bs.length n5)).setCell ⟨w1.heap.size, 6, none⟩ (.slice none 0 0)).setCell ⟨w1.heap.size, 7, none⟩ (.bool false)).setCell ⟨w1.heap.size, 8, none⟩ (.bool false)).setCell ⟨w1.heap.size, 9, none⟩ (.bool u.s1.lost)) (Ok2 w.heap.size w1.heap.size (fun k => wq.heap.size ≤ k ∧ k < w3.heap.size)) w1.heap.size { u with s1 := ⟨bs, [], false, false, u.s1.lost⟩ } := ⟨v0, u0, (.slice A5 bs.length n5), (.slice none 0 0), hB5, vb_kp HR.out.a0 K (fun _ h => h.2.1), vb_kp HR.out.a1 K (fun _ h => h.2.1), vb_kp HV2.out K1 (fun _ h => h.2.1), Kd.V_nil _ _ _ _ _⟩
                obtain ⟨hT5, hkp5⟩ := HT4.out.snd hR5 K
                exact ⟨0, _, _, rfl, rfl, ⟨hT5⟩, ⟨fun k hk => (hkp5 k hk).trans (HKP4.out k hk)⟩, ⟨HS.out.set1 ⟨rfl, rfl, rfl, HS.out.s1.lost, fun h => by cases h⟩⟩, ⟨(HF.out.mono (n := 300 * (k + 1)) (by omega)).set1 (by have := HL300.out; simp; omega)⟩⟩
              have hs1 := hs
              clear hs
              have hs2 : (si == 0) = false := by simpa using hs0
              have hs3 : (si == 1) = false := by simpa using hs1
              have hout : (some w.heap.size : Option Nat) = none ∨ si < 0 ∨ 2 ≤ si := by omega
              have q1 : w3.cell? ⟨wq.heap.size, 1, none⟩ = some (.int .i64 si) := (blk_cell HBlk3.out 1).trans rfl
              have q2 : w3.cell? ⟨wq.heap.size, 2, none⟩ = some (.slice B bs.length cb) := (blk_cell HBlk3.out 2).trans rfl
              have HA : Aside0 _ := ⟨spoil_out (some w.heap.size) si hout Ai bs.length ci w3⟩
              clear hout hs0 hs1
              go_wp2_with fail
              refine HA.out.mono ?_
              rintro e w4 ⟨rfl, rfl⟩
              go_wp2_with (go_quiet (fail))
              trace_state
              go_meet
              exact ⟨0, t, u, rfl, rfl, ⟨HT3.out.below (by repeat (first | exact Below.refl _ _ | apply below_drew | apply pw_below_drewN))⟩, ⟨fun _ _ => rfl⟩, HS, ⟨HF.out.mono (by omega)⟩⟩
          have b5 : (wh == 5) = false := by simpa using e5
          clear e0 e1 e2 e3 e4 e5
          go_wp2_with fail
          go_meet
          exact ⟨0, t, u, rfl, rfl, HT3, ⟨fun _ _ => rfl⟩, HS, ⟨HF.out.mono (by omega)⟩⟩
        case rest =>
          obtain ⟨n, t', u', rfl, rfl, HTc, HKc, HSc, HFc⟩ := hcut
          have HOc : Aside0 (U8.R 5 wc wo.heap.size (fun k => wq.heap.size ≤ k ∧ k < w3.heap.size) (.slice Ai bs.length ci) bs) := by
            have h1 := HBo.out.size
            have h2 : U8.R 5 w3 wo.heap.size (fun k => wq.heap.size ≤ k ∧ k < w3.heap.size) (.slice Ai bs.length ci) bs := Kd.R_mono (Kd.R_bound HO.out) (fun k hk => ⟨by have := hk.2.1; omega, hk.2.2.1⟩)
            exact ⟨Kd.R_step h2 (fun k hk _ => HKc.out k hk)⟩
          have HZo : Aside0 (wq.heap.size < wo.heap.size) := ⟨blk_lt HBlk.out⟩
          have hbl : (bs.length : Int) ≤ 300 := by have := HL300.out; omega
          have hne : (n != n) = false := by simp
          go_wp2
          go_loopw [10, 141, 142, 143, 144, 145, 146, 147, 148, 149, 150, 151, 152] (fun x10 x141 x142 x143 x144 x145 x146 x147 x148 x149 x150 x151 x152 wi => ∃ (i : Nat) (xs : List Int), i ≤ bs.length ∧ x10 = .int .i64 i ∧ Aside0 (xs.length = bs.length) ∧ Aside0 (U8.R 5 wi wo.heap.size (fun k => wq.heap.size ≤ k ∧ k < w3.heap.size) (.slice Ai bs.length ci) xs) ∧ Aside0 (Two w wi w.heap.size w1.heap.size (fun k => wq.heap.size ≤ k ∧ k < w3.heap.size) t' u')) (fun x10 _ _ _ _ _ _ _ _ _ _ _ _ _ => bs.length - (intOf x10).toNat)
          case atStart => exact ⟨0, bs, Nat.zero_le _, rfl, ⟨rfl⟩, HOc, HTc⟩
          case round =>
            obtain ⟨i, xs, hi, rfl, HXl, HOi, HTi⟩ := hrel
            by_cases hil : i < bs.length
            · obtain ⟨gi, cg, he, hgb, hgl, _⟩ := Kd.R_form HOi.out (by have := HXl.out; omega)
              injection he with e1 e2 e3
              subst e1
              have hpr := HOi.out.1 gi (by simp [Value.ownBlock])
              obtain ⟨hcl, hfr⟩ := Kd.R_celln (0 : Int) HOi.out (i : Int) (by omega) (by omega)
              rw [Int.toNat_natCast] at hcl hfr
              have HPR := Aside0.mk hpr
              clear e2 e3 hpr hgb hgl
              go_wp2
              go_roundw
              case rel =>
                have hR := fun (y : Int) => Kd.R_putn HOi.out (i : Int) y
                simp only [Int.toNat_natCast] at hR
                refine ⟨i + 1, _, by omega, by go_num, ⟨?_⟩, ⟨hR _⟩, ⟨HTi.out.touch (HTi.out.hb.setCell (Nat.le_trans HT.out.hb.size HPR.out.1) _) (by simp [World.setCell]) (fun k _ hk => Below.heap_setCell _ _ _ _ (fun e => hk (by rw [show k = gi from e]; exact HPR.out)))⟩⟩
                rw [List.length_set]
                exact HXl.out
              case measure => simp [intOf]; omega
            · obtain rfl : i = bs.length := by omega
              have hdi : decide (bs.length < bs.length) = false := decide_eq_false (Nat.lt_irrefl _)
              have HTn : Aside0 (Two w wr w.heap.size w1.heap.size (fun _ => False) t' u') := ⟨HTi.out.less (fun _ h => h.elim)⟩
              obtain ⟨wv, hwv⟩ : ∃ wv : World, wv = wr := ⟨_, rfl⟩
              subst hwv
              obtain ⟨t, ht⟩ : ∃ t, t = t' := ⟨_, rfl⟩
              subst ht
              obtain ⟨u, hu⟩ : ∃ u, u = u' := ⟨_, rfl⟩
              subst hu
              have HS := HSc
              have HF := HFc
              have HK2 : Aside0 (300 * (k + 1) ≤ 30300) := ⟨by have := HK100.out; omega⟩
              clear hi hil HTi HOi HXl HTc HKc HOc HT3 HBlk3 HVi HFi q0
              go_wp2
              go_loopw [11, 12, 13, 156, 157, 158, 159, 160, 161, 162, 163, 164, 165, 166, 167, 168, 169, 170, 171, 172, 173, 174, 175, 176, 177, 178, 179, 180, 181, 182, 183, 184, 185, 186, 187, 188, 189, 190, 191, 192, 193, 194, 195, 196, 197, 198, 199, 200, 201, 202] (fun x11 x12 x13 x156 x157 x158 x159 x160 x161 x162 x163 x164 x165 x166 x167 x168 x169 x170 x171 x172 x173 x174 x175 x176 x177 x178 x179 x180 x181 x182 x183 x184 x185 x186 x187 x188 x189 x190 x191 x192 x193 x194 x195 x196 x197 x198 x199 x200 x201 x202 wr => ∃ j : Nat, j ≤ 2 ∧ x11 = .int .i64 j ∧ Aside0 (Two w wr w.heap.size w1.heap.size (fun _ => False) t u)) (fun x11 _ _ _ _ _ _ _ _ _ _ _ _ _ _ _ _ _ _ _ _ _ _ _ _ _ _ _ _ _ _ _ _ _ _ _ _ _ _ _ _ _ _ _ _ _ _ _ _ _ _ => 2 - (intOf x11).toNat)
              case atStart => exact ⟨0, by omega, rfl, HTn⟩
              case round =>
                obtain ⟨j, hj, rfl, HTi⟩ := hrel
                clear HTn
                obtain rfl | rfl | rfl : j = 0 ∨ j = 1 ∨ j = 2 := by omega
                · as_aux_lemma =>
                    have hsl := HS.out.s0.lost
                    by_cases hlo : t.s0.lost = true
                    · have hlu : u.s0.lost = true := hsl.trans hlo
                      obtain ⟨v0, u0, v1, u1, hR⟩ := HTi.out.R
                      have HR := Aside0.mk hR
                      obtain ⟨r0, r1, r2, r3, r4, r5, r6, r7, r8, r9, r10, r11, hfz⟩ := rc_cell hR.blk
                      rw [hlu] at r4
                      have HA : Aside0 _ := ⟨read0_lost w.heap.size t _ wr HTi.out.T hlo⟩
                      clear hsl hlo hlu hR
                      go_wp2_with fail
                      refine HA.out.mono ?_
                      rintro e w4 ⟨rfl, rfl⟩
                      have HTe := HTi
                      go_wp2
                      go_roundw
                      case rel => exact ⟨1, by omega, by go_num, ⟨HTe.out.below (by repeat (first | exact Below.refl _ _ | apply below_drew | apply pw_below_drewN))⟩⟩
                      case measure => simp [intOf]
                    · have hlf : t.s0.lost = false := by simpa using hlo
                      have hlu : u.s0.lost = false := hsl.trans hlf
                      have HA : Aside0 _ := ⟨read0_calls w.heap.size t _ wr HTi.out.T hlf (by have := HF.out.l0; have := HK2.out; omega)⟩
                      clear hsl hlo
                      go_wp2_with fail
                      refine HA.out.mono ?_
                      rintro e w4 ⟨v4, rfl, ho4, hb4⟩
                      obtain ⟨X, hX⟩ : ∃ X, X = t.s0.all := ⟨_, rfl⟩
                      rw [← hX] at ho4
                      obtain ⟨A4, n4, e4, hl4, hF4⟩ := Kd.R_V (base' := 0) ho4
                      subst e4
                      have HF4 := Aside0.mk hF4
                      have HL4 := Aside0.mk hl4
                      have HT4 := Aside0.mk (HTi.out.below hb4)
                      have HT4d : Aside0 (Two w w4.drew w.heap.size w1.heap.size (fun _ => False) t u) := ⟨HT4.out.below (below_drew (Below.refl _ _))⟩
                      have HF4d := Aside0.mk (Kd.F_drew HF4.out)
                      obtain ⟨v0, u0, v1, u1, hR⟩ := HT4.out.R
                      obtain ⟨Ab, cb2, eb⟩ := Kd.V_slice hR.a0
                      obtain ⟨Al, cl2, el⟩ := Kd.V_slice hR.a1
                      subst eb el
                      have HR := Aside0.mk hR
                      obtain ⟨r0, r1, r2, r3, r4, r5, r6, r7, r8, r9, r10, r11, hfz⟩ := rc_cell hR.blk
                      rw [hlu] at r4
                      have hfewl : u.s0.l.length ≤ 40000 := by rw [HS.out.s0.l]; have := HF.out.l0; have := HK2.out; omega
                      have hfewb : u.s0.b.length ≤ 40000 := by rw [HS.out.s0.b]; have := HF.out.l0; have := HK2.out; omega
                      obtain ⟨m, hm, hm1, hm2⟩ := or1 u.s0.l.length (by omega)
                      have HX : Aside0 (X = u.s0.crB (m : Int)) := ⟨by rw [hX, HS.out.s0.crB, crB_all _ _ m rfl (by rw [← HS.out.s0.l]; exact hm1) hm2]⟩
                      have hXl : X.length ≤ 80000 := by rw [hX]; have := all_len t.s0; have := HF.out.l0; have := HK2.out; omega
                      have HSame : Aside0 (flittingref01_Same.f 400000 X X = some true) := ⟨same_f _ _ (by omega) (by omega)⟩
                      have HA2 : Aside0 _ := ⟨all_calls u.s0 (.slice Ab u.s0.b.length cb2) (.slice Al u.s0.l.length cl2) (m : Int) (Ok2 w.heap.size w1.heap.size (fun _ => False)) w4.drew (Kd.V_step HR.out.a0 (fun _ _ _ => rfl)) (Kd.V_step HR.out.a1 (fun _ _ _ => rfl)) HT4d.out.new (by omega)⟩
                      rw [hlu] at HA2
                      clear ho4 hb4 hl4 hF4 hR hX hm1 hm2 hXl hfewl hfewb HA hlf
                      go_wp2_with fail
                      refine start_ (n := 23) (S := fun w' => w'.cell? ⟨w1.heap.size, 0, none⟩ = some (.slice Ab u.s0.b.length cb2) ∧ w'.cell? ⟨w1.heap.size, 1, none⟩ = some (.slice Al u.s0.l.length cl2) ∧ w'.cell? ⟨w1.heap.size, 2, none⟩ = some (.bool u.s0.wet) ∧ w'.cell? ⟨w1.heap.size, 3, none⟩ = some (.bool u.s0.sw) ∧ w'.cell? ⟨w1.heap.size, 4, none⟩ = some (.bool false)) (ds := []) #[false, false, false, false, false, false, false, false, false, false, false, false, false, false, false, false, false, false, false, false, false, false, false] (by kernel_rfl) rfl rfl ⟨r0, r1, r2, r3, r4⟩ (fun hHeld => ?_)
                      refine pure_ (i := 0) (N := some 180) (v := ?_) (a' := ?_) #[true, false, false, false, false, false, false, false, false, false, false, false, false, false, false, false, false, false, false, false, false, false, false] rfl rfl (by kernel_rfl) (fun _ _ _ h => h) (Or.inl ⟨by rfl, ?_⟩) ?_ ?_
                      rotate_left
                      · intro w'
                        go_simp
                        with_reducible rfl
                      rotate_left
                      · simp only [Act.put, List.setIfInBounds_toArray, List.set_cons_zero, List.set_cons_succ, i64_w, i32_w]
                        rfl
                      refine pure_ (i := 1) (N := some 181) (v := ?_) (a' := ?_) #[true, true, false, false, false, false, false, false, false, false, false, false, false, false, false, false, false, false, false, false, false, false, false] rfl rfl (by kernel_rfl) (fun _ _ _ h => h) (Or.inl ⟨by rfl, ?_⟩) ?_ ?_
                      rotate_left
                      · intro w'
                        go_simp
                        with_reducible rfl
                      rotate_left
                      · simp only [Act.put, List.setIfInBounds_toArray, List.set_cons_zero, List.set_cons_succ, i64_w, i32_w]
                        rfl
                      refine pure_ (i := 2) (N := some 182) (v := ?_) (a' := ?_) #[true, true, true, false, false, false, false, false, false, false, false, false, false, false, false, false, false, false, false, false, false, false, false] rfl rfl (by kernel_rfl) (fun _ _ _ h => h) (Or.inl ⟨by rfl, ?_⟩) ?_ ?_
                      rotate_left
                      · intro w'
                        go_simp
                        with_reducible rfl
                      rotate_left
                      · simp only [Act.put, List.setIfInBounds_toArray, List.set_cons_zero, List.set_cons_succ, i64_w, i32_w]
                        rfl
                      refine pure_ (i := 3) (N := some 183) (v := ?_) (a' := ?_) #[true, true, true, true, false, false, false, false, false, false, false, false, false, false, false, false, false, false, false, false, false, false, false] rfl rfl (by kernel_rfl) (fun _ _ _ h => h) (Or.inl ⟨by rfl, ?_⟩) ?_ ?_
                      rotate_left
                      · intro w'
                        go_simp
                        with_reducible rfl
                      rotate_left
                      · simp only [Act.put, List.setIfInBounds_toArray, List.set_cons_zero, List.set_cons_succ, i64_w, i32_w]
                        rfl
                      refine pure_ (i := 4) (N := some 184) (v := ?_) (a' := ?_) #[true, true, true, true, true, false, false, false, false, false, false, false, false, false, false, false, false, false, false, false, false, false, false] rfl rfl (by kernel_rfl) (fun _ _ _ h => h) (Or.inl ⟨by rfl, ?_⟩) ?_ ?_
                      rotate_left
                      · intro w'
                        go_simp
                        with_reducible rfl
                      rotate_left
                      · simp only [Act.put, List.setIfInBounds_toArray, List.set_cons_zero, List.set_cons_succ, i64_w, i32_w]
                        rfl
                      refine pure_ (i := 5) (N := some 185) (v := ?_) (a' := ?_) #[true, true, true, true, true, true, false, false, false, false, false, false, false, false, false, false, false, false, false, false, false, false, false] rfl rfl (by kernel_rfl) (fun _ _ _ h => h) (Or.inl ⟨by rfl, ?_⟩) ?_ ?_
                      rotate_left
                      · intro w'
                        go_simp
                        with_reducible rfl
                      rotate_left
                      · simp only [Act.put, List.setIfInBounds_toArray, List.set_cons_zero, List.set_cons_succ, i64_w, i32_w]
                        rfl
                      refine pure_ (i := 6) (N := some 186) (v := ?_) (a' := ?_) #[true, true, true, true, true, true, true, false, false, false, false, false, false, false, false, false, false, false, false, false, false, false, false] rfl rfl (by kernel_rfl) (fun _ _ _ h => h) (Or.inl ⟨by rfl, ?_⟩) ?_ ?_
                      rotate_left
                      · intro w'
                        go_simp
                        with_reducible rfl
                      rotate_left
                      · simp only [Act.put, List.setIfInBounds_toArray, List.set_cons_zero, List.set_cons_succ, i64_w, i32_w]
                        rfl
                      refine pure_ (i := 7) (N := some 187) (v := ?_) (a' := ?_) #[true, true, true, true, true, true, true, true, false, false, false, false, false, false, false, false, false, false, false, false, false, false, false] rfl rfl (by kernel_rfl) (fun _ _ _ h => h) (Or.inl ⟨by rfl, ?_⟩) ?_ ?_
                      rotate_left
                      · intro w'
                        go_simp
                        with_reducible rfl
                      rotate_left
                      · simp only [Act.put, List.setIfInBounds_toArray, List.set_cons_zero, List.set_cons_succ, i64_w, i32_w]
                        rfl
                      refine pure_ (i := 8) (N := some 188) (v := ?_) (a' := ?_) #[true, true, true, true, true, true, true, true, true, false, false, false, false, false, false, false, false, false, false, false, false, false, false] rfl rfl (by kernel_rfl) (fun _ _ _ h => h) (Or.inl ⟨by rfl, ?_⟩) ?_ ?_
                      rotate_left
                      · intro w'
                        go_simp
                        with_reducible rfl
                      rotate_left
                      · simp only [Act.put, List.setIfInBounds_toArray, List.set_cons_zero, List.set_cons_succ, i64_w, i32_w]
                        rfl
                      refine pure_ (i := 10) (N := some 190) (v := ?_) (a' := ?_) #[true, true, true, true, true, true, true, true, true, false, true, false, false, false, false, false, false, false, false, false, false, false, false] rfl rfl (by kernel_rfl) (fun _ _ _ h => h) (Or.inl ⟨by rfl, ?_⟩) ?_ ?_
                      rotate_left
                      · intro w'
                        go_simp
                        with_reducible rfl
                      rotate_left
                      · simp only [Act.put, List.setIfInBounds_toArray, List.set_cons_zero, List.set_cons_succ, i64_w, i32_w]
                        rfl
                      refine pure_ (i := 11) (N := some 191) (v := ?_) (a' := ?_) #[true, true, true, true, true, true, true, true, true, false, true, true, false, false, false, false, false, false, false, false, false, false, false] rfl rfl (by kernel_rfl) (fun _ _ _ h => h) (Or.inl ⟨by rfl, ?_⟩) ?_ ?_
                      rotate_left
                      · intro w'
                        go_simp
                        with_reducible rfl
                      rotate_left
                      · simp only [Act.put, List.setIfInBounds_toArray, List.set_cons_zero, List.set_cons_succ, i64_w, i32_w]
                        rfl
                      refine pure_ (i := 12) (N := some 192) (v := ?_) (a' := ?_) #[true, true, true, true, true, true, true, true, true, false, true, true, true, false, false, false, false, false, false, false, false, false, false] rfl rfl (by kernel_rfl) (fun _ _ _ h => h) (Or.inl ⟨by rfl, ?_⟩) ?_ ?_
                      rotate_left
                      · intro w'
                        go_simp
                        with_reducible rfl
                      rotate_left
                      · simp only [Act.put, List.setIfInBounds_toArray, List.set_cons_zero, List.set_cons_succ, i64_w, i32_w]
                        rfl
                      refine pure_ (i := 13) (N := some 193) (v := ?_) (a' := ?_) #[true, true, true, true, true, true, true, true, true, false, true, true, true, true, false, false, false, false, false, false, false, false, false] rfl rfl (by kernel_rfl) (fun _ _ _ h => h) (Or.inl ⟨by rfl, ?_⟩) ?_ ?_
                      rotate_left
                      · intro w'
                        go_simp
                        with_reducible rfl
                      rotate_left
                      · simp only [Act.put, List.setIfInBounds_toArray, List.set_cons_zero, List.set_cons_succ, i64_w, i32_w]
                        rfl
                      refine pure_ (i := 14) (N := some 194) (v := ?_) (a' := ?_) #[true, true, true, true, true, true, true, true, true, false, true, true, true, true, true, false, false, false, false, false, false, false, false] rfl rfl (by kernel_rfl) (fun _ _ _ h => h) (Or.inl ⟨by rfl, ?_⟩) ?_ ?_
                      rotate_left
                      · intro w'
                        go_simp
                        with_reducible rfl
                      rotate_left
                      · simp only [Act.put, List.setIfInBounds_toArray, List.set_cons_zero, List.set_cons_succ, i64_w, i32_w]
                        rfl
                      refine pure_ (i := 15) (N := some 195) (v := ?_) (a' := ?_) #[true, true, true, true, true, true, true, true, true, false, true, true, true, true, true, true, false, false, false, false, false, false, false] rfl rfl (by kernel_rfl) (fun _ _ _ h => h) (Or.inl ⟨by rfl, ?_⟩) ?_ ?_
                      rotate_left
                      · intro w'
                        go_simp
                        with_reducible rfl
                      rotate_left
                      · simp only [Act.put, List.setIfInBounds_toArray, List.set_cons_zero, List.set_cons_succ, i64_w, i32_w]
                        rfl
                      refine take_ (i := 9) (N := some 189) (v := ?_) (a' := ?_) #[true, true, true, true, true, true, true, true, true, true, true, true, true, true, true, true, false, false, false, false, false, false, false] rfl rfl (by kernel_rfl) (fun _ _ _ h => h) (Or.inl ⟨by rfl, ?_⟩) hHeld ?_ ?_
                      rotate_left
                      · rintro w' ⟨s0, s1, s2, s3, s4⟩
                        go_simp
                        with_reducible rfl
                      rotate_left
                      · simp only [Act.put, List.setIfInBounds_toArray, List.set_cons_zero, List.set_cons_succ, i64_w, i32_w]
                        rfl
                      refine take_ (i := 16) (N := some 196) (v := ?_) (a' := ?_) #[true, true, true, true, true, true, true, true, true, true, true, true, true, true, true, true, true, false, false, false, false, false, false] rfl rfl (by kernel_rfl) (fun _ _ _ h => h) (Or.inl ⟨by rfl, ?_⟩) hHeld ?_ ?_
                      rotate_left
                      · rintro w' ⟨s0, s1, s2, s3, s4⟩
                        go_simp
                        with_reducible rfl
                      rotate_left
                      · simp only [Act.put, List.setIfInBounds_toArray, List.set_cons_zero, List.set_cons_succ, i64_w, i32_w]
                        rfl
                      refine pure_ (i := 17) (N := some 197) (v := ?_) (a' := ?_) #[true, true, true, true, true, true, true, true, true, true, true, true, true, true, true, true, true, true, false, false, false, false, false] rfl rfl (by kernel_rfl) (fun _ _ _ h => h) (Or.inl ⟨by rfl, ?_⟩) ?_ ?_
                      rotate_left
                      · intro w'
                        go_simp
                        with_reducible rfl
                      rotate_left
                      · simp only [Act.put, List.setIfInBounds_toArray, List.set_cons_zero, List.set_cons_succ, i64_w, i32_w]
                        rfl
                      refine pure_ (i := 18) (N := some 198) (v := ?_) (a' := ?_) #[true, true, true, true, true, true, true, true, true, true, true, true, true, true, true, true, true, true, true, false, false, false, false] rfl rfl (by kernel_rfl) (fun _ _ _ h => h) (Or.inl ⟨by rfl, ?_⟩) ?_ ?_
                      rotate_left
                      · intro w'
                        go_simp
                        with_reducible rfl
                      rotate_left
                      · simp only [Act.put, List.setIfInBounds_toArray, List.set_cons_zero, List.set_cons_succ, i64_w, i32_w]
                        rfl
                      refine one_ (i := 19) (N := some 199) #[true, true, true, true, true, true, true, true, true, true, true, true, true, true, true, true, true, true, true, true, false, false, false] rfl rfl (by kernel_rfl) (by decide) (fun K hK => ?_)
                      refine goes_ Try.func19 (by kernel_rfl) rfl #[.agg #[(.slice Ab u.s0.b.length cb2), (.slice Al u.s0.l.length cl2), (.bool u.s0.wet), (.bool u.s0.sw), (.bool false)], .int .i64 (m : Int)] (by rfl) rfl rfl (by simp only [List.map_toArray, List.map_cons, List.map_nil]; rfl) ?_
                      with_reducible refine (HA2.out).mono ?_
                      rintro e w5 ⟨v5, rfl, hv5, hb5⟩
                      refine ⟨_, rfl, ?_⟩
                      obtain ⟨A5, n5, e5, hl5, hF5⟩ := hv5
                      subst e5
                      have HF5 : Aside0 (Kd.F U8 w5 (Ok2 w.heap.size w1.heap.size (fun _ => False)) A5 X.length X) := ⟨by rw [HX.out]; exact hF5⟩
                      have HL5 : Aside0 (X.length ≤ n5) := ⟨by rw [HX.out]; exact hl5⟩
                      rw [← HX.out]
                      have HTe : Aside0 _ := ⟨HT4d.out.below hb5⟩
                      have HFr := Aside0.mk (Kd.F_below HF4d.out hb5)
                      have hR5 := Aside0.mk (blk_below (show w4.drew.heap[w1.heap.size]? = _ from HR.out.blk) hb5)
                      clear hl5 hF5 hb5
                      refine hK.out _ _ ⟨((blk_cell hR5.out 0).trans rfl), ((blk_cell hR5.out 1).trans rfl), ((blk_cell hR5.out 2).trans rfl), ((blk_cell hR5.out 3).trans rfl), ((blk_cell hR5.out 4).trans (congrArg (fun b => some (Value.bool b)) hlu))⟩ (fun hHeld => ?_)
                      clear hK K
                      refine norm_ (a' := ?_) ?_ ?_
                      rotate_left
                      · show Act.put _ (some 199) _ = _
                        simp only [Act.put, List.setIfInBounds_toArray, List.set_cons_zero, List.set_cons_succ, i64_w, i32_w]
                        rfl
                      refine one_ (i := 20) (N := some 200) #[true, true, true, true, true, true, true, true, true, true, true, true, true, true, true, true, true, true, true, true, true, false, false] rfl rfl (by kernel_rfl) (by decide) (fun K hK => ?_)
                      refine goes_ Try.func13 (by kernel_rfl) rfl #[.slice A4 X.length n4, .slice A5 X.length n5] (by rfl) rfl rfl (by simp only [List.map_toArray, List.map_cons, List.map_nil]; rfl) ?_
                      with_reducible refine (flittingref01_Same.calls 400000 A4 n4 X A5 n5 X true _ (Kd.F_now HFr.out) HL4.out (Kd.F_now HF5.out) HL5.out HSame.out).mono ?_
                      rintro e w6 ⟨rfl, ⟨nd1, rfl⟩⟩
                      refine ⟨_, rfl, ?_⟩
                      refine hK.out _ _ ⟨((blk_cell hR5.out 0).trans rfl), ((blk_cell hR5.out 1).trans rfl), ((blk_cell hR5.out 2).trans rfl), ((blk_cell hR5.out 3).trans rfl), ((blk_cell hR5.out 4).trans (congrArg (fun b => some (Value.bool b)) hlu))⟩ (fun hHeld => ?_)
                      clear hK K
                      refine norm_ (a' := ?_) ?_ ?_
                      rotate_left
                      · show Act.put _ (some 200) _ = _
                        simp only [Act.put, List.setIfInBounds_toArray, List.set_cons_zero, List.set_cons_succ, i64_w, i32_w]
                        rfl
                      refine pure_ (i := 21) (N := some 201) (v := ?_) (a' := ?_) #[true, true, true, true, true, true, true, true, true, true, true, true, true, true, true, true, true, true, true, true, true, true, false] rfl rfl (by kernel_rfl) (fun _ _ _ h => h) (Or.inl ⟨by rfl, ?_⟩) ?_ ?_
                      rotate_left
                      · intro w'
                        go_simp
                        with_reducible rfl
                      rotate_left
                      · simp only [Act.put, List.setIfInBounds_toArray, List.set_cons_zero, List.set_cons_succ, i64_w, i32_w]
                        rfl
                      refine pure_ (i := 22) (N := some 202) (v := ?_) (a' := ?_) #[true, true, true, true, true, true, true, true, true, true, true, true, true, true, true, true, true, true, true, true, true, true, true] rfl rfl (by kernel_rfl) (fun _ _ _ h => h) (Or.inl ⟨by rfl, ?_⟩) ?_ ?_
                      rotate_left
                      · intro w'
                        go_simp
                        with_reducible rfl
                      rotate_left
                      · simp only [Act.put, List.setIfInBounds_toArray, List.set_cons_zero, List.set_cons_succ, i64_w, i32_w]
                        rfl
                      refine done_ (by kernel_rfl) ?_
                      clear hHeld
                      go_wp2
                      go_roundw
                      case rel => exact ⟨1, by omega, by go_num, ⟨HTe.out.below (by repeat (first | exact Below.refl _ _ | apply below_drew | apply pw_below_drewN))⟩⟩
                      case measure => simp [intOf]
                · as_aux_lemma =>
                    have hsl := HS.out.s1.lost
                    by_cases hlo : t.s1.lost = true
                    · have hlu : u.s1.lost = true := hsl.trans hlo
                      obtain ⟨v0, u0, v1, u1, hR⟩ := HTi.out.R
                      have HR := Aside0.mk hR
                      obtain ⟨r0, r1, r2, r3, r4, r5, r6, r7, r8, r9, r10, r11, hfz⟩ := rc_cell hR.blk
                      rw [hlu] at r9
                      have HA : Aside0 _ := ⟨read1_lost w.heap.size t _ wr HTi.out.T hlo⟩
                      clear hsl hlo hlu hR
                      go_wp2_with fail
                      refine HA.out.mono ?_
                      rintro e w4 ⟨rfl, rfl⟩
                      have HTe := HTi
                      go_wp2
                      go_roundw
                      case rel => exact ⟨2, by omega, by go_num, ⟨HTe.out.below (by repeat (first | exact Below.refl _ _ | apply below_drew | apply pw_below_drewN))⟩⟩
                      case measure => simp [intOf]
                    · have hlf : t.s1.lost = false := by simpa using hlo
                      have hlu : u.s1.lost = false := hsl.trans hlf
                      have HA : Aside0 _ := ⟨read1_calls w.heap.size t _ wr HTi.out.T hlf (by have := HF.out.l1; have := HK2.out; omega)⟩
                      clear hsl hlo
                      go_wp2_with fail
                      refine HA.out.mono ?_
                      rintro e w4 ⟨v4, rfl, ho4, hb4⟩
                      obtain ⟨X, hX⟩ : ∃ X, X = t.s1.all := ⟨_, rfl⟩
                      rw [← hX] at ho4
                      obtain ⟨A4, n4, e4, hl4, hF4⟩ := Kd.R_V (base' := 0) ho4
                      subst e4
                      have HF4 := Aside0.mk hF4
                      have HL4 := Aside0.mk hl4
                      have HT4 := Aside0.mk (HTi.out.below hb4)
                      have HT4d : Aside0 (Two w w4.drew w.heap.size w1.heap.size (fun _ => False) t u) := ⟨HT4.out.below (below_drew (Below.refl _ _))⟩
                      have HF4d := Aside0.mk (Kd.F_drew HF4.out)
                      obtain ⟨v0, u0, v1, u1, hR⟩ := HT4.out.R
                      obtain ⟨Ab, cb2, eb⟩ := Kd.V_slice hR.a2
                      obtain ⟨Al, cl2, el⟩ := Kd.V_slice hR.a3
                      subst eb el
                      have HR := Aside0.mk hR
                      obtain ⟨r0, r1, r2, r3, r4, r5, r6, r7, r8, r9, r10, r11, hfz⟩ := rc_cell hR.blk
                      rw [hlu] at r9
                      have hfewl : u.s1.l.length ≤ 40000 := by rw [HS.out.s1.l]; have := HF.out.l1; have := HK2.out; omega
                      have hfewb : u.s1.b.length ≤ 40000 := by rw [HS.out.s1.b]; have := HF.out.l1; have := HK2.out; omega
                      obtain ⟨m, hm, hm1, hm2⟩ := or1 u.s1.l.length (by omega)
                      have HX : Aside0 (X = u.s1.crB (m : Int)) := ⟨by rw [hX, HS.out.s1.crB, crB_all _ _ m rfl (by rw [← HS.out.s1.l]; exact hm1) hm2]⟩
                      have hXl : X.length ≤ 80000 := by rw [hX]; have := all_len t.s1; have := HF.out.l1; have := HK2.out; omega
                      have HSame : Aside0 (flittingref01_Same.f 400000 X X = some true) := ⟨same_f _ _ (by omega) (by omega)⟩
                      have HA2 : Aside0 _ := ⟨all_calls u.s1 (.slice Ab u.s1.b.length cb2) (.slice Al u.s1.l.length cl2) (m : Int) (Ok2 w.heap.size w1.heap.size (fun _ => False)) w4.drew (Kd.V_step HR.out.a2 (fun _ _ _ => rfl)) (Kd.V_step HR.out.a3 (fun _ _ _ => rfl)) HT4d.out.new (by omega)⟩
                      rw [hlu] at HA2
                      clear ho4 hb4 hl4 hF4 hR hX hm1 hm2 hXl hfewl hfewb HA hlf
                      go_wp2_with fail
                      refine start_ (n := 23) (S := fun w' => w'.cell? ⟨w1.heap.size, 5, none⟩ = some (.slice Ab u.s1.b.length cb2) ∧ w'.cell? ⟨w1.heap.size, 6, none⟩ = some (.slice Al u.s1.l.length cl2) ∧ w'.cell? ⟨w1.heap.size, 7, none⟩ = some (.bool u.s1.wet) ∧ w'.cell? ⟨w1.heap.size, 8, none⟩ = some (.bool u.s1.sw) ∧ w'.cell? ⟨w1.heap.size, 9, none⟩ = some (.bool false)) (ds := []) #[false, false, false, false, false, false, false, false, false, false, false, false, false, false, false, false, false, false, false, false, false, false, false] (by kernel_rfl) rfl rfl ⟨r5, r6, r7, r8, r9⟩ (fun hHeld => ?_)
                      refine pure_ (i := 0) (N := some 180) (v := ?_) (a' := ?_) #[true, false, false, false, false, false, false, false, false, false, false, false, false, false, false, false, false, false, false, false, false, false, false] rfl rfl (by kernel_rfl) (fun _ _ _ h => h) (Or.inl ⟨by rfl, ?_⟩) ?_ ?_
                      rotate_left
                      · intro w'
                        go_simp
                        with_reducible rfl
                      rotate_left
                      · simp only [Act.put, List.setIfInBounds_toArray, List.set_cons_zero, List.set_cons_succ, i64_w, i32_w]
                        rfl
                      refine pure_ (i := 1) (N := some 181) (v := ?_) (a' := ?_) #[true, true, false, false, false, false, false, false, false, false, false, false, false, false, false, false, false, false, false, false, false, false, false] rfl rfl (by kernel_rfl) (fun _ _ _ h => h) (Or.inl ⟨by rfl, ?_⟩) ?_ ?_
                      rotate_left
                      · intro w'
                        go_simp
                        with_reducible rfl
                      rotate_left
                      · simp only [Act.put, List.setIfInBounds_toArray, List.set_cons_zero, List.set_cons_succ, i64_w, i32_w]
                        rfl
                      refine pure_ (i := 2) (N := some 182) (v := ?_) (a' := ?_) #[true, true, true, false, false, false, false, false, false, false, false, false, false, false, false, false, false, false, false, false, false, false, false] rfl rfl (by kernel_rfl) (fun _ _ _ h => h) (Or.inl ⟨by rfl, ?_⟩) ?_ ?_
                      rotate_left
                      · intro w'
                        go_simp
                        with_reducible rfl
                      rotate_left
                      · simp only [Act.put, List.setIfInBounds_toArray, List.set_cons_zero, List.set_cons_succ, i64_w, i32_w]
                        rfl
                      refine pure_ (i := 3) (N := some 183) (v := ?_) (a' := ?_) #[true, true, true, true, false, false, false, false, false, false, false, false, false, false, false, false, false, false, false, false, false, false, false] rfl rfl (by kernel_rfl) (fun _ _ _ h => h) (Or.inl ⟨by rfl, ?_⟩) ?_ ?_
                      rotate_left
                      · intro w'
                        go_simp
                        with_reducible rfl
                      rotate_left
                      · simp only [Act.put, List.setIfInBounds_toArray, List.set_cons_zero, List.set_cons_succ, i64_w, i32_w]
                        rfl
                      refine pure_ (i := 4) (N := some 184) (v := ?_) (a' := ?_) #[true, true, true, true, true, false, false, false, false, false, false, false, false, false, false, false, false, false, false, false, false, false, false] rfl rfl (by kernel_rfl) (fun _ _ _ h => h) (Or.inl ⟨by rfl, ?_⟩) ?_ ?_
                      rotate_left
                      · intro w'
                        go_simp
                        with_reducible rfl
                      rotate_left
                      · simp only [Act.put, List.setIfInBounds_toArray, List.set_cons_zero, List.set_cons_succ, i64_w, i32_w]
                        rfl
                      refine pure_ (i := 5) (N := some 185) (v := ?_) (a' := ?_) #[true, true, true, true, true, true, false, false, false, false, false, false, false, false, false, false, false, false, false, false, false, false, false] rfl rfl (by kernel_rfl) (fun _ _ _ h => h) (Or.inl ⟨by rfl, ?_⟩) ?_ ?_
                      rotate_left
                      · intro w'
                        go_simp
                        with_reducible rfl
                      rotate_left
                      · simp only [Act.put, List.setIfInBounds_toArray, List.set_cons_zero, List.set_cons_succ, i64_w, i32_w]
                        rfl
                      refine pure_ (i := 6) (N := some 186) (v := ?_) (a' := ?_) #[true, true, true, true, true, true, true, false, false, false, false, false, false, false, false, false, false, false, false, false, false, false, false] rfl rfl (by kernel_rfl) (fun _ _ _ h => h) (Or.inl ⟨by rfl, ?_⟩) ?_ ?_
                      rotate_left
                      · intro w'
                        go_simp
                        with_reducible rfl
                      rotate_left
                      · simp only [Act.put, List.setIfInBounds_toArray, List.set_cons_zero, List.set_cons_succ, i64_w, i32_w]
                        rfl
                      refine pure_ (i := 7) (N := some 187) (v := ?_) (a' := ?_) #[true, true, true, true, true, true, true, true, false, false, false, false, false, false, false, false, false, false, false, false, false, false, false] rfl rfl (by kernel_rfl) (fun _ _ _ h => h) (Or.inl ⟨by rfl, ?_⟩) ?_ ?_
                      rotate_left
                      · intro w'
                        go_simp
                        with_reducible rfl
                      rotate_left
                      · simp only [Act.put, List.setIfInBounds_toArray, List.set_cons_zero, List.set_cons_succ, i64_w, i32_w]
                        rfl
                      refine pure_ (i := 8) (N := some 188) (v := ?_) (a' := ?_) #[true, true, true, true, true, true, true, true, true, false, false, false, false, false, false, false, false, false, false, false, false, false, false] rfl rfl (by kernel_rfl) (fun _ _ _ h => h) (Or.inl ⟨by rfl, ?_⟩) ?_ ?_
                      rotate_left
                      · intro w'
                        go_simp
                        with_reducible rfl
                      rotate_left
                      · simp only [Act.put, List.setIfInBounds_toArray, List.set_cons_zero, List.set_cons_succ, i64_w, i32_w]
                        rfl
                      refine pure_ (i := 10) (N := some 190) (v := ?_) (a' := ?_) #[true, true, true, true, true, true, true, true, true, false, true, false, false, false, false, false, false, false, false, false, false, false, false] rfl rfl (by kernel_rfl) (fun _ _ _ h => h) (Or.inl ⟨by rfl, ?_⟩) ?_ ?_
                      rotate_left
                      · intro w'
                        go_simp
                        with_reducible rfl
                      rotate_left
                      · simp only [Act.put, List.setIfInBounds_toArray, List.set_cons_zero, List.set_cons_succ, i64_w, i32_w]
                        rfl
                      refine pure_ (i := 11) (N := some 191) (v := ?_) (a' := ?_) #[true, true, true, true, true, true, true, true, true, false, true, true, false, false, false, false, false, false, false, false, false, false, false] rfl rfl (by kernel_rfl) (fun _ _ _ h => h) (Or.inl ⟨by rfl, ?_⟩) ?_ ?_
                      rotate_left
                      · intro w'
                        go_simp
                        with_reducible rfl
                      rotate_left
                      · simp only [Act.put, List.setIfInBounds_toArray, List.set_cons_zero, List.set_cons_succ, i64_w, i32_w]
                        rfl
                      refine pure_ (i := 12) (N := some 192) (v := ?_) (a' := ?_) #[true, true, true, true, true, true, true, true, true, false, true, true, true, false, false, false, false, false, false, false, false, false, false] rfl rfl (by kernel_rfl) (fun _ _ _ h => h) (Or.inl ⟨by rfl, ?_⟩) ?_ ?_
                      rotate_left
                      · intro w'
                        go_simp
                        with_reducible rfl
                      rotate_left
                      · simp only [Act.put, List.setIfInBounds_toArray, List.set_cons_zero, List.set_cons_succ, i64_w, i32_w]
                        rfl
                      refine pure_ (i := 13) (N := some 193) (v := ?_) (a' := ?_) #[true, true, true, true, true, true, true, true, true, false, true, true, true, true, false, false, false, false, false, false, false, false, false] rfl rfl (by kernel_rfl) (fun _ _ _ h => h) (Or.inl ⟨by rfl, ?_⟩) ?_ ?_
                      rotate_left
                      · intro w'
                        go_simp
                        with_reducible rfl
                      rotate_left
                      · simp only [Act.put, List.setIfInBounds_toArray, List.set_cons_zero, List.set_cons_succ, i64_w, i32_w]
                        rfl
                      refine pure_ (i := 14) (N := some 194) (v := ?_) (a' := ?_) #[true, true, true, true, true, true, true, true, true, false, true, true, true, true, true, false, false, false, false, false, false, false, false] rfl rfl (by kernel_rfl) (fun _ _ _ h => h) (Or.inl ⟨by rfl, ?_⟩) ?_ ?_
                      rotate_left
                      · intro w'
                        go_simp
                        with_reducible rfl
                      rotate_left
                      · simp only [Act.put, List.setIfInBounds_toArray, List.set_cons_zero, List.set_cons_succ, i64_w, i32_w]
                        rfl
                      refine pure_ (i := 15) (N := some 195) (v := ?_) (a' := ?_) #[true, true, true, true, true, true, true, true, true, false, true, true, true, true, true, true, false, false, false, false, false, false, false] rfl rfl (by kernel_rfl) (fun _ _ _ h => h) (Or.inl ⟨by rfl, ?_⟩) ?_ ?_
                      rotate_left
                      · intro w'
                        go_simp
                        with_reducible rfl
                      rotate_left
                      · simp only [Act.put, List.setIfInBounds_toArray, List.set_cons_zero, List.set_cons_succ, i64_w, i32_w]
                        rfl
                      refine take_ (i := 9) (N := some 189) (v := ?_) (a' := ?_) #[true, true, true, true, true, true, true, true, true, true, true, true, true, true, true, true, false, false, false, false, false, false, false] rfl rfl (by kernel_rfl) (fun _ _ _ h => h) (Or.inl ⟨by rfl, ?_⟩) hHeld ?_ ?_
                      rotate_left
                      · rintro w' ⟨s0, s1, s2, s3, s4⟩
                        go_simp
                        with_reducible rfl
                      rotate_left
                      · simp only [Act.put, List.setIfInBounds_toArray, List.set_cons_zero, List.set_cons_succ, i64_w, i32_w]
                        rfl
                      refine take_ (i := 16) (N := some 196) (v := ?_) (a' := ?_) #[true, true, true, true, true, true, true, true, true, true, true, true, true, true, true, true, true, false, false, false, false, false, false] rfl rfl (by kernel_rfl) (fun _ _ _ h => h) (Or.inl ⟨by rfl, ?_⟩) hHeld ?_ ?_
                      rotate_left
                      · rintro w' ⟨s0, s1, s2, s3, s4⟩
                        go_simp
                        with_reducible rfl
                      rotate_left
                      · simp only [Act.put, List.setIfInBounds_toArray, List.set_cons_zero, List.set_cons_succ, i64_w, i32_w]
                        rfl
                      refine pure_ (i := 17) (N := some 197) (v := ?_) (a' := ?_) #[true, true, true, true, true, true, true, true, true, true, true, true, true, true, true, true, true, true, false, false, false, false, false] rfl rfl (by kernel_rfl) (fun _ _ _ h => h) (Or.inl ⟨by rfl, ?_⟩) ?_ ?_
                      rotate_left
                      · intro w'
                        go_simp
                        with_reducible rfl
                      rotate_left
                      · simp only [Act.put, List.setIfInBounds_toArray, List.set_cons_zero, List.set_cons_succ, i64_w, i32_w]
                        rfl
                      refine pure_ (i := 18) (N := some 198) (v := ?_) (a' := ?_) #[true, true, true, true, true, true, true, true, true, true, true, true, true, true, true, true, true, true, true, false, false, false, false] rfl rfl (by kernel_rfl) (fun _ _ _ h => h) (Or.inl ⟨by rfl, ?_⟩) ?_ ?_
                      rotate_left
                      · intro w'
                        go_simp
                        with_reducible rfl
                      rotate_left
                      · simp only [Act.put, List.setIfInBounds_toArray, List.set_cons_zero, List.set_cons_succ, i64_w, i32_w]
                        rfl
                      refine one_ (i := 19) (N := some 199) #[true, true, true, true, true, true, true, true, true, true, true, true, true, true, true, true, true, true, true, true, false, false, false] rfl rfl (by kernel_rfl) (by decide) (fun K hK => ?_)
                      refine goes_ Try.func19 (by kernel_rfl) rfl #[.agg #[(.slice Ab u.s1.b.length cb2), (.slice Al u.s1.l.length cl2), (.bool u.s1.wet), (.bool u.s1.sw), (.bool false)], .int .i64 (m : Int)] (by rfl) rfl rfl (by simp only [List.map_toArray, List.map_cons, List.map_nil]; rfl) ?_
                      with_reducible refine (HA2.out).mono ?_
                      rintro e w5 ⟨v5, rfl, hv5, hb5⟩
                      refine ⟨_, rfl, ?_⟩
                      obtain ⟨A5, n5, e5, hl5, hF5⟩ := hv5
                      subst e5
                      have HF5 : Aside0 (Kd.F U8 w5 (Ok2 w.heap.size w1.heap.size (fun _ => False)) A5 X.length X) := ⟨by rw [HX.out]; exact hF5⟩
                      have HL5 : Aside0 (X.length ≤ n5) := ⟨by rw [HX.out]; exact hl5⟩
                      rw [← HX.out]
                      have HTe : Aside0 _ := ⟨HT4d.out.below hb5⟩
                      have HFr := Aside0.mk (Kd.F_below HF4d.out hb5)
                      have hR5 := Aside0.mk (blk_below (show w4.drew.heap[w1.heap.size]? = _ from HR.out.blk) hb5)
                      clear hl5 hF5 hb5
                      refine hK.out _ _ ⟨((blk_cell hR5.out 5).trans rfl), ((blk_cell hR5.out 6).trans rfl), ((blk_cell hR5.out 7).trans rfl), ((blk_cell hR5.out 8).trans rfl), ((blk_cell hR5.out 9).trans (congrArg (fun b => some (Value.bool b)) hlu))⟩ (fun hHeld => ?_)
                      clear hK K
                      refine norm_ (a' := ?_) ?_ ?_
                      rotate_left
                      · show Act.put _ (some 199) _ = _
                        simp only [Act.put, List.setIfInBounds_toArray, List.set_cons_zero, List.set_cons_succ, i64_w, i32_w]
                        rfl
                      refine one_ (i := 20) (N := some 200) #[true, true, true, true, true, true, true, true, true, true, true, true, true, true, true, true, true, true, true, true, true, false, false] rfl rfl (by kernel_rfl) (by decide) (fun K hK => ?_)
                      refine goes_ Try.func13 (by kernel_rfl) rfl #[.slice A4 X.length n4, .slice A5 X.length n5] (by rfl) rfl rfl (by simp only [List.map_toArray, List.map_cons, List.map_nil]; rfl) ?_
                      with_reducible refine (flittingref01_Same.calls 400000 A4 n4 X A5 n5 X true _ (Kd.F_now HFr.out) HL4.out (Kd.F_now HF5.out) HL5.out HSame.out).mono ?_
                      rintro e w6 ⟨rfl, ⟨nd1, rfl⟩⟩
                      refine ⟨_, rfl, ?_⟩
                      refine hK.out _ _ ⟨((blk_cell hR5.out 5).trans rfl), ((blk_cell hR5.out 6).trans rfl), ((blk_cell hR5.out 7).trans rfl), ((blk_cell hR5.out 8).trans rfl), ((blk_cell hR5.out 9).trans (congrArg (fun b => some (Value.bool b)) hlu))⟩ (fun hHeld => ?_)
                      clear hK K
                      refine norm_ (a' := ?_) ?_ ?_
                      rotate_left
                      · show Act.put _ (some 200) _ = _
                        simp only [Act.put, List.setIfInBounds_toArray, List.set_cons_zero, List.set_cons_succ, i64_w, i32_w]
                        rfl
                      refine pure_ (i := 21) (N := some 201) (v := ?_) (a' := ?_) #[true, true, true, true, true, true, true, true, true, true, true, true, true, true, true, true, true, true, true, true, true, true, false] rfl rfl (by kernel_rfl) (fun _ _ _ h => h) (Or.inl ⟨by rfl, ?_⟩) ?_ ?_
                      rotate_left
                      · intro w'
                        go_simp
                        with_reducible rfl
                      rotate_left
                      · simp only [Act.put, List.setIfInBounds_toArray, List.set_cons_zero, List.set_cons_succ, i64_w, i32_w]
                        rfl
                      refine pure_ (i := 22) (N := some 202) (v := ?_) (a' := ?_) #[true, true, true, true, true, true, true, true, true, true, true, true, true, true, true, true, true, true, true, true, true, true, true] rfl rfl (by kernel_rfl) (fun _ _ _ h => h) (Or.inl ⟨by rfl, ?_⟩) ?_ ?_
                      rotate_left
                      · intro w'
                        go_simp
                        with_reducible rfl
                      rotate_left
                      · simp only [Act.put, List.setIfInBounds_toArray, List.set_cons_zero, List.set_cons_succ, i64_w, i32_w]
                        rfl
                      refine done_ (by kernel_rfl) ?_
                      clear hHeld
                      go_wp2
                      go_roundw
                      case rel => exact ⟨2, by omega, by go_num, ⟨HTe.out.below (by repeat (first | exact Below.refl _ _ | apply below_drew | apply pw_below_drewN))⟩⟩
                      case measure => simp [intOf]
                · go_wp2
                  go_roundw
                  case rel => exact ⟨k + 1, t, u, by omega, by go_num, HTi, HS, HF⟩
                  case measure => simp [intOf]; omega
    · obtain rfl : k = l0.length := by omega
      have hd : decide (l0.length < l0.length) = false := decide_eq_false (Nat.lt_irrefl _)
      clear hk hlt
      go_wp2_with fail
      refine (answers_calls wq).mono ?_
      rintro e w7 ⟨rfl, hb7⟩
      have HT7 := Aside0.mk (HT.out.below hb7)
      clear hb7
      go_wp2
      go_ret
      exact ⟨rfl, HT7.out.hb⟩

end Go.Proofs.Ytfjjfoijjlpcjaa.PTapePlays
