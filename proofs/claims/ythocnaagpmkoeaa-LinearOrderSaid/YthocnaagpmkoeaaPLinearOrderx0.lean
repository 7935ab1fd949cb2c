/- LinearOrder: the walk. -/
import Derived.Test.YthocnaagpmkoeaaLn11
namespace Go.Proofs.Ythocnaagpmkoeaa.PLinearOrder
open Go.RowKit Go.Proofs.YthocnaagpmkoeaaW.PrintWords Go.Proofs.YthocnaagpmkoeaaW.PrintLast Go.Proofs.YthocnaagpmkoeaaW.PrintMore
attribute [local go_sem] max2_int min2_int max_two min_two max_three min_three max_four min_four
set_option linter.unusedVariables false
set_option linter.unusedSimpArgs false
open Go.Proofs.Ythocnaagpmkoeaa.Ln Go.Proofs.Ythocnaagpmkoeaa.Op Go.Proofs.Ythocnaagpmkoeaa.Mp
def flittinglaw22_LinearOrder.Pure : Prop := True
set_option maxHeartbeats 4000000 in
set_option maxRecDepth 100000 in
theorem flittinglaw22_LinearOrder.walk (_P : flittinglaw22_LinearOrder.Pure) (A0 : Option Addr) (c0 : Nat) (l0 : List Int) (a1 a2 : Int) (w : World) (hl0 : l0.length ≤ c0) (hC0 : U8.C w A0 l0.length l0) (hG0 : Row 1 (fun n => (Lit.int .u8 n).wf = true) l0) (w1 : (Lit.int .u8 a1).wf = true) (w2 : (Lit.int .u8 a2).wf = true) :
    Calls Try.prog 3 #[.slice A0 l0.length c0, .int .u8 a1, .int .u8 a2] w fun e w' => e = .returned (.bool true) ∧ Below w.heap.size w w' := by
  have hb : ∀ n, (Lit.int .u8 n).wf = true → 0 ≤ n ∧ n < 256 := fun n h => by
    have h2 : (decide (IntKind.u8.min ≤ n) && decide (n ≤ IntKind.u8.max)) = true := h
    simp only [Bool.and_eq_true, decide_eq_true_eq] at h2
    have e1 : IntKind.u8.min = 0 := by decide
    have e2 : IntKind.u8.max = 255 := by decide
    omega
  have HY0 : Aside0 (Byt l0) := ⟨fun x hx => hb x (hG0.all x hx)⟩
  obtain ⟨p1, q1⟩ := hb a1 w1
  obtain ⟨p2, q2⟩ := hb a2 w2
  have HR := Aside0.mk (Kd.reads_of_C (enc := Value.int .u8) (d := (0 : Int)) (h1 := fun _ => rfl) hC0)
  generalize hn : l0.length = n at *
  have HN := Aside0.mk hn
  clear hl0 hC0 hG0 w1 w2 hb _P hn
  have hmm := @run_makeMap Try.prog
  by_cases t0 : n = 0
  · subst t0
    go_enter Try.func3, Try.ntmps3
    go_wp2_with fail
    refine (answers_calls _).mono ?_
    rintro e w2 ⟨rfl, hb2⟩
    go_wp2_with fail
    go_ret
    exact ⟨rfl, hb2⟩
  · have d0 : ((n : Int) == 0) = false := by simpa using t0
    by_cases t1 : 20 < n
    · have d1 : decide ((20 : Int) < (n : Int)) = true := decide_eq_true (by omega)
      go_enter Try.func3, Try.ntmps3
      go_wp2_with fail
      refine (answers_calls _).mono ?_
      rintro e w2 ⟨rfl, hb2⟩
      go_wp2_with fail
      go_ret
      exact ⟨rfl, hb2⟩
    · have d1 : decide ((20 : Int) < (n : Int)) = false := decide_eq_false (by omega)
      have hn20 : n ≤ 20 := by omega
      have hn1 : 1 ≤ n := by omega
      clear t0 t1
      obtain ⟨ad0, hA0, hkey⟩ := HR.out.2.2 hn1
      subst hA0
      have HKEY := Aside0.mk hkey
      clear hkey HR
      have HM0 : Aside0 (IsM Try.prog 9 (w.alloc (.map #[] 0)) w.heap.size (lastOf (fun _ => none))) := ⟨by
        have h := IsM.made w Try.prog 9
        have e : lastOf (fun _ => none) = fun _ => none := by funext v; unfold lastOf; split <;> rfl
        rw [e]
        exact h⟩
      have HB0 : Aside0 (Below w.heap.size w (w.alloc (.map #[] 0))) := ⟨(Below.refl _ _).alloc (Nat.le_refl _) _⟩
      go_enter Try.func3, Try.ntmps3
      go_wp2
      generalize hmb : w.heap.size = mb at HM0 ⊢
      have HMB := Aside0.mk hmb
      clear hmb
      go_loopw [7, 9] (fun v i wr => ∃ (q : Nat) (A1 : Option Addr) (c1 : Nat) (fs : List Fc) (last : ByteArray → Option (List Int)), q ≤ n ∧ i = .int .i64 q ∧ v = .slice A1 q c1 ∧ Aside0 (Rd5 w wr mb q A1 c1 fs last)) (fun _ i _ => n - (intOf i).toNat)
      case atStart => exact ⟨0, none, 0, [], _, Nat.zero_le _, rfl, rfl, ⟨⟨rfl, own_nil _ _ _ _, Inv.nil, HM0.out, (fun k l h => by simp at h), (fun f h => by cases h), (by rw [← HMB.out]; exact HB0.out)⟩⟩⟩
      case round =>
        obtain ⟨q, A1, c1, fs, last, hq, rfl, rfl, HJ⟩ := hrel
        by_cases hlt : q < n
        · have hd : decide (q < n) = true := decide_eq_true hlt
          have hBw : Below w.heap.size w wr := by rw [HMB.out]; exact HJ.out.below
          have hc0 := pw_cell_below hBw (HKEY.out q hlt)
          have HC0 := Aside0.mk hc0
          clear hBw
          have hxr : 0 ≤ l0.getD q 0 ∧ l0.getD q 0 < 256 := by
            have h : q < l0.length := by rw [HN.out]; exact hlt
            have := HY0.out (l0.getD q 0) (by simp [h])
            exact this
          generalize l0.getD q 0 = x at *
          obtain ⟨hx0, hx1⟩ := hxr
          have hcv8 := conv_one wr (97 + x % 3) wr.heap.size rfl
          have hcv9 := conv_one (wr.alloc (.cells #[.int .u8 (97 + x % 3)] 5)) (48 + (q : Int)) (wr.heap.size + 1) (by simp)
          go_upto_region 10 with fail
          clear hcv8 hcv9
          have HB2 : Aside0 (Below wr.heap.size wr ((wr.alloc (.cells #[.int .u8 (97 + x % 3)] 5)).alloc (.cells #[.int .u8 (48 + (q : Int))] 5))) := ⟨((Below.refl _ _).alloc (Nat.le_refl _) _).alloc (by simp) _⟩
          generalize (wr.alloc (.cells #[.int .u8 (97 + x % 3)] 5)).alloc (.cells #[.int .u8 (48 + (q : Int))] 5) = W2 at HB2 ⊢
          obtain ⟨ks, hks⟩ : ∃ ks, ks = strOfNums [97 + x % 3] := ⟨_, rfl⟩
          obtain ⟨vs, hvs⟩ : ∃ vs, vs = strOfNums (vB q) := ⟨_, rfl⟩
          have HKS : Aside0 (ks.size ≤ 1000) := ⟨by rw [hks]; show (1 : Nat) ≤ 1000; decide⟩
          have HVS := Aside0.mk hvs
          have hvz : vs.size = 1 := by rw [hvs]; rfl
          rw [show strOfNums [97 + x % 3] = ks from hks.symm, show strOfNums [48 + (q : Int)] = vs from hvs.symm]
          have hby : Byt (vB q) := fun y hy => by
            have : y = 48 + (q : Int) := by simpa [vB] using hy
            omega
          have HVB : Aside0 (Byt (vB q)) := ⟨hby⟩
          obtain ⟨Wb, hWb⟩ : ∃ Wb, Wb = Lib.bytesWorld W2 5 vs := ⟨_, rfl⟩
          have HDK : Aside0 (Dk Wb ⟨some ⟨W2.heap.size, 0, none⟩, grownCap W2 1 0 5, vB q⟩) := ⟨by rw [hWb, hvs]; exact dk_bytes W2 (vB q) hby (by show (1 : Nat) ≤ 1000; decide)⟩
          have HBb : Aside0 (Below wr.heap.size wr Wb) := ⟨by rw [hWb]; exact HB2.out.trans ((below_bytes W2 vs).mono HB2.out.size)⟩
          have HSb : Aside0 (W2.heap.size < Wb.heap.size) := ⟨by rw [hWb, Lib.bytesWorld_size]; omega⟩
          have hcb := print_bytes (P := Try.prog) 9 22 5 Try.underlying9 Try.underlying22 Try.underlying5 vs W2
          rw [hvz, ← hWb] at hcb
          have HCP : Aside0 (1 ≤ grownCap W2 1 0 5) := ⟨grownCap_ge W2 1 0 5⟩
          generalize grownCap W2 1 0 5 = cp at *
          generalize hg2 : W2.heap.size = g2 at *
          clear hks hvs hby hWb HB2
          go_upto_region 11 with fail
          obtain ⟨W3, hW3⟩ : ∃ W3, Wb.alloc (.cells #[.int .i64 0, .int .i64 1, .string ks, .slice (some ⟨g2, 0, none⟩) 1 cp, .int .i64 (3 * (q : Int) + 1), .int .i64 (3 * (q : Int) + 3), .int .i64 (3 * (q : Int) + 2), .int .i64 0, .slice none 0 0, .slice none 0 0] 29) = W3 := ⟨_, rfl⟩
          rw [hW3]
          have b3 : W3.heap[Wb.heap.size]? = some (.cells #[.int .i64 0, .int .i64 1, .string ks, .slice (some ⟨g2, 0, none⟩) 1 cp, .int .i64 (3 * (q : Int) + 1), .int .i64 (3 * (q : Int) + 3), .int .i64 (3 * (q : Int) + 2), .int .i64 0, .slice none 0 0, .slice none 0 0] 29 (0, 0)) := by rw [← hW3]; exact heap_alloc_new _ _
          have HBa : Aside0 (Below Wb.heap.size Wb W3) := ⟨by rw [← hW3]; exact (Below.refl _ _).alloc (Nat.le_refl _) _⟩
          have HB3 : Aside0 (Below wr.heap.size wr W3) := ⟨HBb.out.trans (HBa.out.mono HBb.out.size)⟩
          have HJ3 : Aside0 (Rd5 w W3 mb q A1 c1 fs last) := ⟨HJ.out.step HB3.out⟩
          have HD3 : Aside0 (Dk W3 ⟨some ⟨g2, 0, none⟩, cp, vB q⟩) := ⟨HDK.out.step (keep_below HBa.out)⟩
          have HPP : Aside0 (mb < Wb.heap.size ∧ (Value.slice A1 q c1).ownBlock ≠ some Wb.heap.size ∧ Wb.heap.size < W3.heap.size) := ⟨by
            have h1 := HJ.out.map.lt
            have h2 := HBb.out.size
            refine ⟨by omega, fun e => ?_, blk_lt b3⟩
            have := (HJ.out.own.lt _ e).2
            omega⟩
          have HC3 : Aside0 (W3.cell? (ad0.add q) = some (.int .u8 x)) := ⟨pw_cell_below HB3.out HC0.out⟩
          have HBK3 := Aside0.mk b3
          clear hW3 HDK hcb
          generalize Wb.heap.size = p at *
          have HFZ : Aside0 (∀ j, W3.frozen? ⟨p, j, none⟩ = false) := ⟨fun j => blk_frozen HBK3.out j⟩
          clear b3 hc0
          have hc0 := HC3.out
          have hmp : mb < p := HPP.out.1
          by_cases h2 : x % 2 = 0
          · have d2 : (x % 2 == 0) = true := by simpa using h2
            clear h2
            cases hlk : last ks with
            | some l =>
              have hlb := HJ.out.byt ks l hlk
              obtain ⟨ws, hws⟩ : ∃ ws, ws = strOfNums l := ⟨_, rfl⟩
              have hwz : ws.size = 1 := by rw [hws]; show (l.map _).toArray.size = 1; simp [hlb.2]
              have HF : Aside0 (lastOf last (.string ks) = some (.string ws)) := ⟨by simp [lastOf, hlk, hws]⟩
              have hby : Byt l := hlb.1
              have hln : l.length = 1 := hlb.2
              obtain ⟨We, hWe⟩ : ∃ We, We = Lib.bytesWorld W3 5 ws := ⟨_, rfl⟩
              have hdk2 : Dk We ⟨some ⟨W3.heap.size, 0, none⟩, grownCap W3 1 0 5, l⟩ := by
                have h := dk_bytes W3 l hby (by rw [hln]; decide)
                rw [hln] at h
                rw [hWe, hws]
                exact h
              have hbe : Below W3.heap.size W3 We := by rw [hWe]; exact below_bytes W3 ws
              have hcb2 := print_bytes (P := Try.prog) 9 22 5 Try.underlying9 Try.underlying22 Try.underlying5 ws W3
              rw [hwz, ← hWe] at hcb2
              have HCP2 : Aside0 (1 ≤ grownCap W3 1 0 5) := ⟨grownCap_ge W3 1 0 5⟩
              have HDK2 := Aside0.mk hdk2
              have HBE := Aside0.mk hbe
              have HLB : Aside0 (Byt l ∧ l.length = 1) := ⟨hby, hln⟩
              have bE : We.heap[p]? = some (.cells #[.int .i64 0, .int .i64 1, .string ks, .slice (some ⟨g2, 0, none⟩) 1 cp, .int .i64 (3 * (q : Int) + 1), .int .i64 (3 * (q : Int) + 3), .int .i64 (3 * (q : Int) + 2), .int .i64 0, .slice none 0 0, .slice none 0 0] 29 (0, 0)) := blk_below HBK3.out hbe
              have HBKE := Aside0.mk bE
              generalize grownCap W3 1 0 5 = cp2 at *
              have HG3 : Aside0 (W3.heap.size ≠ p) := ⟨by have := HPP.out.2.2; omega⟩
              generalize hg3 : W3.heap.size = g3 at HDK2 hcb2 HG3
              clear hws hwz hdk2 hbe hWe hby hln hg3 hlb
              have z0 : We.cell? ⟨p, 0, none⟩ = some (.int .i64 0) := (blk_cell bE 0).trans rfl
              have z1 : We.cell? ⟨p, 1, none⟩ = some (.int .i64 1) := (blk_cell bE 1).trans rfl
              have z2 : We.cell? ⟨p, 2, none⟩ = some (.string ks) := (blk_cell bE 2).trans rfl
              have z3 : We.cell? ⟨p, 3, none⟩ = some (.slice (some ⟨g2, 0, none⟩) 1 cp) := (blk_cell bE 3).trans rfl
              have z4 : We.cell? ⟨p, 4, none⟩ = some (.int .i64 (3 * (q : Int) + 1)) := (blk_cell bE 4).trans rfl
              have z5 : We.cell? ⟨p, 5, none⟩ = some (.int .i64 (3 * (q : Int) + 3)) := (blk_cell bE 5).trans rfl
              have z6 : We.cell? ⟨p, 6, none⟩ = some (.int .i64 (3 * (q : Int) + 2)) := (blk_cell bE 6).trans rfl
              have z7 : We.cell? ⟨p, 7, none⟩ = some (.int .i64 0) := (blk_cell bE 7).trans rfl
              have z8 : We.cell? ⟨p, 8, none⟩ = some (.slice none 0 0) := (blk_cell bE 8).trans rfl
              have z9 : We.cell? ⟨p, 9, none⟩ = some (.slice none 0 0) := (blk_cell bE 9).trans rfl
              have fp : ∀ j, We.frozen? ⟨p, j, none⟩ = false := fun j => blk_frozen HBKE.out j
              clear bE
              go_upto_region 14 with (at_lookup; refine wpList_look_m rfl (.tmp 68) (.tmp 69) 25 true rfl keyed9 Try.underlying25 (zero9 _) rfl HJ3.out.map (.string ks) rfl (key9 ks HKS.out) ?_; rw [HF.out]; simp only [Option.getD_some, Option.isSome_some, if_true])
              obtain ⟨Wd, hhd, hbd, hmd, hld⟩ := fill_all We p [.int .i64 0, .int .i64 1, .string ks, .slice (some ⟨g2, 0, none⟩) 1 cp, .int .i64 (3 * (q : Int) + 1), .int .i64 (3 * (q : Int) + 3), .int .i64 (3 * (q : Int) + 2), .int .i64 0, .slice none 0 0, .slice none 0 0] [.int .i64 0, .int .i64 2, .string ks, .slice none 0 0, .int .i64 (3 * (q : Int) + 1), .int .i64 (3 * (q : Int) + 3), .int .i64 (3 * (q : Int) + 2), .int .i64 0, .slice (some ⟨g3, 0, none⟩) 1 cp2, .slice none 0 0] 29 HBKE.out rfl
              have hcd : ((((((((((We.setCell ⟨p, 0, none⟩ (.int .i64 0)).setCell ⟨p, 1, none⟩ (.int .i64 2)).setCell ⟨p, 2, none⟩ (.string ks)).setCell ⟨p, 3, none⟩ (.slice none 0 0)).setCell ⟨p, 4, none⟩ (.int .i64 (3 * (q : Int) + 1))).setCell ⟨p, 5, none⟩ (.int .i64 (3 * (q : Int) + 3))).setCell ⟨p, 6, none⟩ (.int .i64 (3 * (q : Int) + 2))).setCell ⟨p, 7, none⟩ (.int .i64 0)).setCell ⟨p, 8, none⟩ (.slice (some ⟨g3, 0, none⟩) 1 cp2)).setCell ⟨p, 9, none⟩ (.slice none 0 0)) = Wd := hhd
              rw [hcd]
              have HBKD : Aside0 (Wd.heap[p]? = some (.cells #[.int .i64 0, .int .i64 2, .string ks, .slice none 0 0, .int .i64 (3 * (q : Int) + 1), .int .i64 (3 * (q : Int) + 3), .int .i64 (3 * (q : Int) + 2), .int .i64 0, .slice (some ⟨g3, 0, none⟩) 1 cp2, .slice none 0 0] 29 (0, 0))) := ⟨hbd⟩
              have HMD := Aside0.mk hmd
              have HLD := Aside0.mk hld
              have HJD : Aside0 (Rd5 w Wd mb q A1 c1 fs last) := ⟨(HJ3.out.step HBE.out).touch HPP.out.1 HPP.out.2.1 (fun cs fr h => by rw [HBKE.out] at h; injection h with h; injection h with _ h; exact absurd h (by decide)) HMD.out HLD.out⟩
              have HDD : Aside0 (Dk Wd ⟨some ⟨g3, 0, none⟩, cp2, l⟩) := ⟨HDK2.out.step (fun b cs fr h => HMD.out b (by
                rintro rfl
                rw [HBKE.out] at h
                injection h with h
                injection h with _ h
                exact absurd h (by decide)))⟩
              clear hhd hcd hbd hmd hld z0 z1 z2 z3 z4 z5 z6 z7 z8 z9 fp hcb2
              have y0 : Wd.cell? ⟨p, 0, none⟩ = some (.int .i64 0) := (blk_cell HBKD.out 0).trans rfl
              have y1 : Wd.cell? ⟨p, 1, none⟩ = some (.int .i64 2) := (blk_cell HBKD.out 1).trans rfl
              have y2 : Wd.cell? ⟨p, 2, none⟩ = some (.string ks) := (blk_cell HBKD.out 2).trans rfl
              have y3 : Wd.cell? ⟨p, 3, none⟩ = some (.slice none 0 0) := (blk_cell HBKD.out 3).trans rfl
              have y4 : Wd.cell? ⟨p, 4, none⟩ = some (.int .i64 (3 * (q : Int) + 1)) := (blk_cell HBKD.out 4).trans rfl
              have y5 : Wd.cell? ⟨p, 5, none⟩ = some (.int .i64 (3 * (q : Int) + 3)) := (blk_cell HBKD.out 5).trans rfl
              have y6 : Wd.cell? ⟨p, 6, none⟩ = some (.int .i64 (3 * (q : Int) + 2)) := (blk_cell HBKD.out 6).trans rfl
              have y7 : Wd.cell? ⟨p, 7, none⟩ = some (.int .i64 0) := (blk_cell HBKD.out 7).trans rfl
              have y8 : Wd.cell? ⟨p, 8, none⟩ = some (.slice (some ⟨g3, 0, none⟩) 1 cp2) := (blk_cell HBKD.out 8).trans rfl
              have y9 : Wd.cell? ⟨p, 9, none⟩ = some (.slice none 0 0) := (blk_cell HBKD.out 9).trans rfl
              go_upto_region 17 with fail
              have HO := Aside0.mk HJD.out.own
              have HMM := Aside0.mk HJD.out.map
              have HFS := Aside0.mk HJD.out.fk
              have HBM := Aside0.mk HJD.out.below
              have HINV := Aside0.mk (HJ.out.inv.got ks HKS.out ⟨none, 0, []⟩ q HJ.out.len ⟨some ⟨g3, 0, none⟩, cp2, l⟩ none 0 0 hlk)
              have HBYT := Aside0.mk HJ.out.byt
              have HFN : Aside0 (Fk Wd (⟨0, 2, ks, ⟨none, 0, []⟩, 3 * (q : Int) + 1, 3 * (q : Int) + 3, 3 * (q : Int) + 2, 0, ⟨some ⟨g3, 0, none⟩, cp2, l⟩, none, 0, 0⟩ : Fc)) := ⟨⟨⟨.inl ⟨rfl, rfl⟩, Nat.le_refl _⟩, HDD.out, by show l.length ≤ cp2; rw [HLB.out.2]; exact HCP2.out⟩⟩
              have HMS : Aside0 (mb + 1 ≤ Wd.heap.size) := ⟨HMM.out.lt⟩
              have HE1 : Aside0 (∀ u ∈ ([.int .i64 0, .int .i64 2, .string ks, .slice none 0 0, .int .i64 (3 * (q : Int) + 1), .int .i64 (3 * (q : Int) + 3), .int .i64 (3 * (q : Int) + 2), .int .i64 0, .slice (some ⟨g3, 0, none⟩) 1 cp2, .slice none 0 0] : List Value), u.oneCell' = true) := ⟨by
                have h := encF_one (⟨0, 2, ks, ⟨none, 0, []⟩, 3 * (q : Int) + 1, 3 * (q : Int) + 3, 3 * (q : Int) + 2, 0, ⟨some ⟨g3, 0, none⟩, cp2, l⟩, none, 0, 0⟩ : Fc)
                simp only [encF, Ds.v, HLB.out.2] at h
                exact h⟩
              go_wp2_with ((with_reducible refine gate_builtin (b := .append) (xs := #[.tmp 92, .tmp 94]) rfl ?_); at_builtin; refine print_append_cells (mb + 1) rfl (.tmp 92) (.tmp 94) 24 29 zcall 10 136 rfl Try.underlying24 info29 rfl (by decide) (by decide) (.slice A1 q c1) q (fs.flatMap encF) [.int .i64 0, .int .i64 2, .string ks, .slice none 0 0, .int .i64 (3 * (q : Int) + 1), .int .i64 (3 * (q : Int) + 3), .int .i64 (3 * (q : Int) + 2), .int .i64 0, .slice (some ⟨g3, 0, none⟩) 1 cp2, .slice none 0 0] rfl rfl rfl HE1.out HO.out (Below.refl (mb + 1) Wd) HMS.out (by omega) ?_; intro v5 w5 ho5 hb5 hg5 _; obtain ⟨A5, c5, e5⟩ := own_slice ho5; subst e5; have HO5 := Aside0.mk ho5; have HB5 := Aside0.mk hb5; have HG5 := Aside0.mk hg5; clear ho5 hb5 hg5)
              go_roundw
              case rel => exact ⟨q + 1, A5, c5, fs ++ [(⟨0, 2, ks, ⟨none, 0, []⟩, 3 * (q : Int) + 1, 3 * (q : Int) + 3, 3 * (q : Int) + 2, 0, ⟨some ⟨g3, 0, none⟩, cp2, l⟩, none, 0, 0⟩ : Fc)], last, by omega, by go_num, rfl, ⟨Rd5.app HJ.out.len HO.out HINV.out HMM.out HBYT.out HFS.out HFN.out HBM.out (by have h := HO5.out; simp only [encF, Ds.v, HLB.out.2]; exact h) HB5.out HG5.out⟩⟩
              case measure => simp [intOf]; omega
            | none =>
              obtain ⟨l, hl0⟩ : ∃ l : List Int, l = [] := ⟨_, rfl⟩
              obtain ⟨ws, hws⟩ : ∃ ws, ws = strOfNums l := ⟨_, rfl⟩
              have hwe : ws = ⟨#[]⟩ := by rw [hws, hl0]; rfl
              have hwz : ws.size = 0 := by rw [hwe]; rfl
              have HF : Aside0 (lastOf last (.string ks) = none) := ⟨by simp [lastOf, hlk]⟩
              have hby : Byt l := by rw [hl0]; intro x hx; cases hx
              have hln : l.length = 0 := by rw [hl0]; rfl
              obtain ⟨We, hWe⟩ : ∃ We, We = Lib.bytesWorld W3 5 ws := ⟨_, rfl⟩
              have hdk2 : Dk We ⟨some ⟨W3.heap.size, 0, none⟩, grownCap W3 0 0 5, l⟩ := by
                have h := dk_bytes W3 l hby (by rw [hln]; decide)
                rw [hln] at h
                rw [hWe, hws]
                exact h
              have hbe : Below W3.heap.size W3 We := by rw [hWe]; exact below_bytes W3 ws
              have hcb2 := print_bytes (P := Try.prog) 9 22 5 Try.underlying9 Try.underlying22 Try.underlying5 ws W3
              rw [hwz, ← hWe] at hcb2
              have HCP2 : Aside0 (0 ≤ grownCap W3 0 0 5) := ⟨grownCap_ge W3 0 0 5⟩
              rw [hwe] at hcb2
              have HDK2 := Aside0.mk hdk2
              have HBE := Aside0.mk hbe
              have HLB : Aside0 (Byt l ∧ l.length = 0) := ⟨hby, hln⟩
              have bE : We.heap[p]? = some (.cells #[.int .i64 0, .int .i64 1, .string ks, .slice (some ⟨g2, 0, none⟩) 1 cp, .int .i64 (3 * (q : Int) + 1), .int .i64 (3 * (q : Int) + 3), .int .i64 (3 * (q : Int) + 2), .int .i64 0, .slice none 0 0, .slice none 0 0] 29 (0, 0)) := blk_below HBK3.out hbe
              have HBKE := Aside0.mk bE
              generalize grownCap W3 0 0 5 = cp2 at *
              have HG3 : Aside0 (W3.heap.size ≠ p) := ⟨by have := HPP.out.2.2; omega⟩
              generalize hg3 : W3.heap.size = g3 at HDK2 hcb2 HG3
              clear hws hwz hdk2 hbe hWe hby hln hg3 hwe
              have z0 : We.cell? ⟨p, 0, none⟩ = some (.int .i64 0) := (blk_cell bE 0).trans rfl
              have z1 : We.cell? ⟨p, 1, none⟩ = some (.int .i64 1) := (blk_cell bE 1).trans rfl
              have z2 : We.cell? ⟨p, 2, none⟩ = some (.string ks) := (blk_cell bE 2).trans rfl
              have z3 : We.cell? ⟨p, 3, none⟩ = some (.slice (some ⟨g2, 0, none⟩) 1 cp) := (blk_cell bE 3).trans rfl
              have z4 : We.cell? ⟨p, 4, none⟩ = some (.int .i64 (3 * (q : Int) + 1)) := (blk_cell bE 4).trans rfl
              have z5 : We.cell? ⟨p, 5, none⟩ = some (.int .i64 (3 * (q : Int) + 3)) := (blk_cell bE 5).trans rfl
              have z6 : We.cell? ⟨p, 6, none⟩ = some (.int .i64 (3 * (q : Int) + 2)) := (blk_cell bE 6).trans rfl
              have z7 : We.cell? ⟨p, 7, none⟩ = some (.int .i64 0) := (blk_cell bE 7).trans rfl
              have z8 : We.cell? ⟨p, 8, none⟩ = some (.slice none 0 0) := (blk_cell bE 8).trans rfl
              have z9 : We.cell? ⟨p, 9, none⟩ = some (.slice none 0 0) := (blk_cell bE 9).trans rfl
              have fp : ∀ j, We.frozen? ⟨p, j, none⟩ = false := fun j => blk_frozen HBKE.out j
              clear bE
              go_upto_region 14 with (at_lookup; refine wpList_look_m rfl (.tmp 68) (.tmp 69) 25 true rfl keyed9 Try.underlying25 (zero9 _) rfl HJ3.out.map (.string ks) rfl (key9 ks HKS.out) ?_; rw [HF.out]; simp only [Option.getD_none, Option.isSome_none, if_true])
              obtain ⟨Wd, hhd, hbd, hmd, hld⟩ := fill_all We p [.int .i64 0, .int .i64 1, .string ks, .slice (some ⟨g2, 0, none⟩) 1 cp, .int .i64 (3 * (q : Int) + 1), .int .i64 (3 * (q : Int) + 3), .int .i64 (3 * (q : Int) + 2), .int .i64 0, .slice none 0 0, .slice none 0 0] [.int .i64 0, .int .i64 2, .string ks, .slice none 0 0, .int .i64 (3 * (q : Int) + 1), .int .i64 (3 * (q : Int) + 3), .int .i64 (3 * (q : Int) + 2), .int .i64 0, .slice (some ⟨g3, 0, none⟩) 0 cp2, .slice none 0 0] 29 HBKE.out rfl
              have hcd : ((((((((((We.setCell ⟨p, 0, none⟩ (.int .i64 0)).setCell ⟨p, 1, none⟩ (.int .i64 2)).setCell ⟨p, 2, none⟩ (.string ks)).setCell ⟨p, 3, none⟩ (.slice none 0 0)).setCell ⟨p, 4, none⟩ (.int .i64 (3 * (q : Int) + 1))).setCell ⟨p, 5, none⟩ (.int .i64 (3 * (q : Int) + 3))).setCell ⟨p, 6, none⟩ (.int .i64 (3 * (q : Int) + 2))).setCell ⟨p, 7, none⟩ (.int .i64 0)).setCell ⟨p, 8, none⟩ (.slice (some ⟨g3, 0, none⟩) 0 cp2)).setCell ⟨p, 9, none⟩ (.slice none 0 0)) = Wd := hhd
              rw [hcd]
              have HBKD : Aside0 (Wd.heap[p]? = some (.cells #[.int .i64 0, .int .i64 2, .string ks, .slice none 0 0, .int .i64 (3 * (q : Int) + 1), .int .i64 (3 * (q : Int) + 3), .int .i64 (3 * (q : Int) + 2), .int .i64 0, .slice (some ⟨g3, 0, none⟩) 0 cp2, .slice none 0 0] 29 (0, 0))) := ⟨hbd⟩
              have HMD := Aside0.mk hmd
              have HLD := Aside0.mk hld
              have HJD : Aside0 (Rd5 w Wd mb q A1 c1 fs last) := ⟨(HJ3.out.step HBE.out).touch HPP.out.1 HPP.out.2.1 (fun cs fr h => by rw [HBKE.out] at h; injection h with h; injection h with _ h; exact absurd h (by decide)) HMD.out HLD.out⟩
              have HDD : Aside0 (Dk Wd ⟨some ⟨g3, 0, none⟩, cp2, l⟩) := ⟨HDK2.out.step (fun b cs fr h => HMD.out b (by
                rintro rfl
                rw [HBKE.out] at h
                injection h with h
                injection h with _ h
                exact absurd h (by decide)))⟩
              clear hhd hcd hbd hmd hld z0 z1 z2 z3 z4 z5 z6 z7 z8 z9 fp hcb2
              have y0 : Wd.cell? ⟨p, 0, none⟩ = some (.int .i64 0) := (blk_cell HBKD.out 0).trans rfl
              have y1 : Wd.cell? ⟨p, 1, none⟩ = some (.int .i64 2) := (blk_cell HBKD.out 1).trans rfl
              have y2 : Wd.cell? ⟨p, 2, none⟩ = some (.string ks) := (blk_cell HBKD.out 2).trans rfl
              have y3 : Wd.cell? ⟨p, 3, none⟩ = some (.slice none 0 0) := (blk_cell HBKD.out 3).trans rfl
              have y4 : Wd.cell? ⟨p, 4, none⟩ = some (.int .i64 (3 * (q : Int) + 1)) := (blk_cell HBKD.out 4).trans rfl
              have y5 : Wd.cell? ⟨p, 5, none⟩ = some (.int .i64 (3 * (q : Int) + 3)) := (blk_cell HBKD.out 5).trans rfl
              have y6 : Wd.cell? ⟨p, 6, none⟩ = some (.int .i64 (3 * (q : Int) + 2)) := (blk_cell HBKD.out 6).trans rfl
              have y7 : Wd.cell? ⟨p, 7, none⟩ = some (.int .i64 0) := (blk_cell HBKD.out 7).trans rfl
              have y8 : Wd.cell? ⟨p, 8, none⟩ = some (.slice (some ⟨g3, 0, none⟩) 0 cp2) := (blk_cell HBKD.out 8).trans rfl
              have y9 : Wd.cell? ⟨p, 9, none⟩ = some (.slice none 0 0) := (blk_cell HBKD.out 9).trans rfl
              have fy : ∀ j, Wd.frozen? ⟨p, j, none⟩ = false := fun j => blk_frozen HBKD.out j
              go_upto_region 17 with fail
              obtain ⟨Wf, hWf⟩ : ∃ Wf, Wd.setCell ⟨p, 7, none⟩ (.int .i64 7) = Wf := ⟨_, rfl⟩
              rw [hWf]
              have HBKF : Aside0 (Wf.heap[p]? = some (.cells #[.int .i64 0, .int .i64 2, .string ks, .slice none 0 0, .int .i64 (3 * (q : Int) + 1), .int .i64 (3 * (q : Int) + 3), .int .i64 (3 * (q : Int) + 2), .int .i64 7, .slice (some ⟨g3, 0, none⟩) 0 cp2, .slice none 0 0] 29 (0, 0))) := ⟨by rw [← hWf]; exact blk_set HBKD.out 7 _⟩
              have HMF : Aside0 (∀ k, k ≠ p → Wf.heap[k]? = Wd.heap[k]?) := ⟨fun k hk => by rw [← hWf]; exact Below.heap_setCell _ _ _ _ hk⟩
              have HLF : Aside0 (Below p Wd Wf) := ⟨by rw [← hWf]; exact (Below.refl _ _).setCell (p := ⟨p, 7, none⟩) (Nat.le_refl _) _⟩
              have HJF : Aside0 (Rd5 w Wf mb q A1 c1 fs last) := ⟨HJD.out.touch HPP.out.1 HPP.out.2.1 (fun cs fr h => by rw [HBKD.out] at h; injection h with h; injection h with _ h; exact absurd h (by decide)) HMF.out HLF.out⟩
              have HDF : Aside0 (Dk Wf ⟨some ⟨g3, 0, none⟩, cp2, l⟩) := ⟨HDD.out.step (fun b cs fr h => HMF.out b (by
                rintro rfl
                rw [HBKD.out] at h
                injection h with h
                injection h with _ h
                exact absurd h (by decide)))⟩
              clear y0 y1 y2 y3 y4 y5 y6 y7 y8 y9 fy hWf
              have x0 : Wf.cell? ⟨p, 0, none⟩ = some (.int .i64 0) := (blk_cell HBKF.out 0).trans rfl
              have x1 : Wf.cell? ⟨p, 1, none⟩ = some (.int .i64 2) := (blk_cell HBKF.out 1).trans rfl
              have x2 : Wf.cell? ⟨p, 2, none⟩ = some (.string ks) := (blk_cell HBKF.out 2).trans rfl
              have x3 : Wf.cell? ⟨p, 3, none⟩ = some (.slice none 0 0) := (blk_cell HBKF.out 3).trans rfl
              have x4 : Wf.cell? ⟨p, 4, none⟩ = some (.int .i64 (3 * (q : Int) + 1)) := (blk_cell HBKF.out 4).trans rfl
              have x5 : Wf.cell? ⟨p, 5, none⟩ = some (.int .i64 (3 * (q : Int) + 3)) := (blk_cell HBKF.out 5).trans rfl
              have x6 : Wf.cell? ⟨p, 6, none⟩ = some (.int .i64 (3 * (q : Int) + 2)) := (blk_cell HBKF.out 6).trans rfl
              have x7 : Wf.cell? ⟨p, 7, none⟩ = some (.int .i64 7) := (blk_cell HBKF.out 7).trans rfl
              have x8 : Wf.cell? ⟨p, 8, none⟩ = some (.slice (some ⟨g3, 0, none⟩) 0 cp2) := (blk_cell HBKF.out 8).trans rfl
              have x9 : Wf.cell? ⟨p, 9, none⟩ = some (.slice none 0 0) := (blk_cell HBKF.out 9).trans rfl
              subst hl0
              have HO := Aside0.mk HJF.out.own
              have HMM := Aside0.mk HJF.out.map
              have HFS := Aside0.mk HJF.out.fk
              have HBM := Aside0.mk HJF.out.below
              have HINV := Aside0.mk (HJ.out.inv.miss ks HKS.out ⟨none, 0, []⟩ q HJ.out.len ⟨some ⟨g3, 0, none⟩, cp2, []⟩ none 0 0 hlk)
              have HBYT := Aside0.mk HJ.out.byt
              have HFN : Aside0 (Fk Wf (⟨0, 2, ks, ⟨none, 0, []⟩, 3 * (q : Int) + 1, 3 * (q : Int) + 3, 3 * (q : Int) + 2, 7, ⟨some ⟨g3, 0, none⟩, cp2, []⟩, none, 0, 0⟩ : Fc)) := ⟨⟨⟨.inl ⟨rfl, rfl⟩, Nat.le_refl _⟩, HDF.out, by show ([] : List Int).length ≤ cp2; rw [HLB.out.2]; exact HCP2.out⟩⟩
              have HMS : Aside0 (mb + 1 ≤ Wf.heap.size) := ⟨HMM.out.lt⟩
              have HE1 : Aside0 (∀ u ∈ ([.int .i64 0, .int .i64 2, .string ks, .slice none 0 0, .int .i64 (3 * (q : Int) + 1), .int .i64 (3 * (q : Int) + 3), .int .i64 (3 * (q : Int) + 2), .int .i64 7, .slice (some ⟨g3, 0, none⟩) 0 cp2, .slice none 0 0] : List Value), u.oneCell' = true) := ⟨by
                have h := encF_one (⟨0, 2, ks, ⟨none, 0, []⟩, 3 * (q : Int) + 1, 3 * (q : Int) + 3, 3 * (q : Int) + 2, 7, ⟨some ⟨g3, 0, none⟩, cp2, []⟩, none, 0, 0⟩ : Fc)
                simp only [encF, Ds.v, HLB.out.2] at h
                exact h⟩
              go_wp2_with ((with_reducible refine gate_builtin (b := .append) (xs := #[.tmp 92, .tmp 94]) rfl ?_); at_builtin; refine print_append_cells (mb + 1) rfl (.tmp 92) (.tmp 94) 24 29 zcall 10 136 rfl Try.underlying24 info29 rfl (by decide) (by decide) (.slice A1 q c1) q (fs.flatMap encF) [.int .i64 0, .int .i64 2, .string ks, .slice none 0 0, .int .i64 (3 * (q : Int) + 1), .int .i64 (3 * (q : Int) + 3), .int .i64 (3 * (q : Int) + 2), .int .i64 7, .slice (some ⟨g3, 0, none⟩) 0 cp2, .slice none 0 0] rfl rfl rfl HE1.out HO.out (Below.refl (mb + 1) Wf) HMS.out (by omega) ?_; intro v5 w5 ho5 hb5 hg5 _; obtain ⟨A5, c5, e5⟩ := own_slice ho5; subst e5; have HO5 := Aside0.mk ho5; have HB5 := Aside0.mk hb5; have HG5 := Aside0.mk hg5; clear ho5 hb5 hg5)
              go_roundw
              case rel => exact ⟨q + 1, A5, c5, fs ++ [(⟨0, 2, ks, ⟨none, 0, []⟩, 3 * (q : Int) + 1, 3 * (q : Int) + 3, 3 * (q : Int) + 2, 7, ⟨some ⟨g3, 0, none⟩, cp2, []⟩, none, 0, 0⟩ : Fc)], last, by omega, by go_num, rfl, ⟨Rd5.app HJ.out.len HO.out HINV.out HMM.out HBYT.out HFS.out HFN.out HBM.out (by have h := HO5.out; simp only [encF, Ds.v, HLB.out.2]; exact h) HB5.out HG5.out⟩⟩
              case measure => simp [intOf]; omega
          · have d2 : (x % 2 == 0) = false := by simpa using h2
            clear h2
            go_upto_region 17 with (at_mapUpdate; refine wpList_put_m rfl (.tmp 89) (.tmp 90) (.tmp 91) 25 rfl keyed9 Try.underlying25 (lastOf (updL last ks (vB q))) rfl HJ3.out.map (.string ks) rfl (key9 ks HKS.out) (.string vs) rfl (by rw [HVS.out]; exact lastOf_at _ _ _) (fun q_ hq_ => lastOf_ne _ _ _ q_ hq_) ?_; intro w4 hT hM4; have HT := Aside0.mk hT; have HMM := Aside0.mk hM4; clear hT hM4; have b4 : w4.heap[p]? = some (.cells #[.int .i64 0, .int .i64 1, .string ks, .slice (some ⟨g2, 0, none⟩) 1 cp, .int .i64 (3 * (q : Int) + 1), .int .i64 (3 * (q : Int) + 3), .int .i64 (3 * (q : Int) + 2), .int .i64 0, .slice none 0 0, .slice none 0 0] 29 (0, 0)) := (HT.out.block p (by omega)).trans HBK3.out; have z0 : w4.cell? ⟨p, 0, none⟩ = some (.int .i64 0) := (blk_cell b4 0).trans rfl; have z1 : w4.cell? ⟨p, 1, none⟩ = some (.int .i64 1) := (blk_cell b4 1).trans rfl; have z2 : w4.cell? ⟨p, 2, none⟩ = some (.string ks) := (blk_cell b4 2).trans rfl; have z3 : w4.cell? ⟨p, 3, none⟩ = some (.slice (some ⟨g2, 0, none⟩) 1 cp) := (blk_cell b4 3).trans rfl; have z4 : w4.cell? ⟨p, 4, none⟩ = some (.int .i64 (3 * (q : Int) + 1)) := (blk_cell b4 4).trans rfl; have z5 : w4.cell? ⟨p, 5, none⟩ = some (.int .i64 (3 * (q : Int) + 3)) := (blk_cell b4 5).trans rfl; have z6 : w4.cell? ⟨p, 6, none⟩ = some (.int .i64 (3 * (q : Int) + 2)) := (blk_cell b4 6).trans rfl; have z7 : w4.cell? ⟨p, 7, none⟩ = some (.int .i64 0) := (blk_cell b4 7).trans rfl; have z8 : w4.cell? ⟨p, 8, none⟩ = some (.slice none 0 0) := (blk_cell b4 8).trans rfl; have z9 : w4.cell? ⟨p, 9, none⟩ = some (.slice none 0 0) := (blk_cell b4 9).trans rfl; clear b4)
            have HOFB := HJ3.out.put HT.out HMM.out
            have HO := Aside0.mk HOFB.1
            have HFS := Aside0.mk HOFB.2.1
            have HBM := Aside0.mk HOFB.2.2
            have HINV := Aside0.mk (HJ.out.inv.put ks HKS.out ⟨some ⟨g2, 0, none⟩, cp, vB q⟩ q HJ.out.len ⟨none, 0, []⟩ none 0 0)
            have HBYT : Aside0 (∀ k l, updL last ks (vB q) k = some l → Byt l ∧ l.length = 1) := ⟨fun k l h => by
              unfold updL at h
              split at h
              · injection h with h; subst h; exact ⟨HVB.out, rfl⟩
              · exact HJ.out.byt k l h⟩
            have HFN : Aside0 (Fk w4 (⟨0, 1, ks, ⟨some ⟨g2, 0, none⟩, cp, vB q⟩, 3 * (q : Int) + 1, 3 * (q : Int) + 3, 3 * (q : Int) + 2, 0, ⟨none, 0, []⟩, none, 0, 0⟩ : Fc)) := ⟨⟨⟨HD3.out.step (keep_map HJ3.out.map HT.out), HCP.out⟩, .inl ⟨rfl, rfl⟩, Nat.le_refl _⟩⟩
            have HMS : Aside0 (mb + 1 ≤ w4.heap.size) := ⟨HMM.out.lt⟩
            have HE1 : Aside0 (∀ u ∈ ([.int .i64 0, .int .i64 1, .string ks, .slice (some ⟨g2, 0, none⟩) 1 cp, .int .i64 (3 * (q : Int) + 1), .int .i64 (3 * (q : Int) + 3), .int .i64 (3 * (q : Int) + 2), .int .i64 0, .slice none 0 0, .slice none 0 0] : List Value), u.oneCell' = true) := ⟨encF_one (⟨0, 1, ks, ⟨some ⟨g2, 0, none⟩, cp, vB q⟩, 3 * (q : Int) + 1, 3 * (q : Int) + 3, 3 * (q : Int) + 2, 0, ⟨none, 0, []⟩, none, 0, 0⟩ : Fc)⟩
            clear HOFB
            go_wp2_with ((with_reducible refine gate_builtin (b := .append) (xs := #[.tmp 92, .tmp 94]) rfl ?_); at_builtin; refine print_append_cells (mb + 1) rfl (.tmp 92) (.tmp 94) 24 29 zcall 10 136 rfl Try.underlying24 info29 rfl (by decide) (by decide) (.slice A1 q c1) q (fs.flatMap encF) [.int .i64 0, .int .i64 1, .string ks, .slice (some ⟨g2, 0, none⟩) 1 cp, .int .i64 (3 * (q : Int) + 1), .int .i64 (3 * (q : Int) + 3), .int .i64 (3 * (q : Int) + 2), .int .i64 0, .slice none 0 0, .slice none 0 0] rfl rfl rfl HE1.out HO.out (Below.refl (mb + 1) w4) HMS.out (by omega) ?_; intro v5 w5 ho5 hb5 hg5 _; obtain ⟨A5, c5, e5⟩ := own_slice ho5; subst e5; have HO5 := Aside0.mk ho5; have HB5 := Aside0.mk hb5; have HG5 := Aside0.mk hg5; clear ho5 hb5 hg5)
            go_roundw
            case rel => exact ⟨q + 1, A5, c5, fs ++ [(⟨0, 1, ks, ⟨some ⟨g2, 0, none⟩, cp, vB q⟩, 3 * (q : Int) + 1, 3 * (q : Int) + 3, 3 * (q : Int) + 2, 0, ⟨none, 0, []⟩, none, 0, 0⟩ : Fc)], updL last ks (vB q), by omega, by go_num, rfl, ⟨Rd5.app HJ.out.len HO.out HINV.out HMM.out HBYT.out HFS.out HFN.out HBM.out HO5.out HB5.out HG5.out⟩⟩
            case measure => simp [intOf]; omega
        · obtain rfl : q = n := by omega
          have hd : decide (q < q) = false := decide_eq_false (Nat.lt_irrefl q)
          obtain ⟨g, cg, hAg, hBg, hglt, hcg, hH⟩ := holdsF (by rw [HJ.out.len]; omega) (by have h := HJ.out.own; rw [← HJ.out.len] at h; exact h)
          rw [HJ.out.len] at hAg hcg
          injection hAg with e1 _ e3
          subst e1 e3
          have HH := Aside0.mk hH
          have HG := Aside0.mk (And.intro hBg hglt)
          have HCG := Aside0.mk hcg
          have HBr : Aside0 (Below w.heap.size w wr) := ⟨by rw [HMB.out]; exact HJ.out.below⟩
          clear hH hBg hglt hcg hq hlt
          have htr : 0 ≤ a1 % (q : Int) ∧ a1 % (q : Int) < q := ⟨Int.emod_nonneg _ (by omega), Int.emod_lt_of_pos _ (by omega)⟩
          obtain ⟨t, ht⟩ : ∃ t : Nat, a1 % (q : Int) = (t : Int) := ⟨(a1 % (q : Int)).toNat, by omega⟩
          have htq : t < q := by omega
          go_upto_region 19 with fail
          rw [ht]
          clear ht htr
          have t1 : (0 : Int) ≤ (t : Int) := by omega
          have t2 : t ≤ q := by omega
          have t3 : q ≤ c1 := HCG.out
          have t4 : t ≤ c1 := by omega
          have t5 : ¬ c1 = t := by omega
          refine start_ (n := 10) (S := fun w' => True) (ds := []) #[false, false, false, false, false, false, false, false, false, false] (by kernel_rfl) rfl rfl trivial (fun hHeld => ?_)
          refine pure_ (i := 1) (N := some 102) (v := ?_) (a' := ?_) #[false, true, false, false, false, false, false, false, false, false] rfl rfl (by kernel_rfl) (fun _ _ _ h => h) (Or.inl ⟨by rfl, ?_⟩) ?_ ?_
          rotate_left
          · intro w'
            go_simp
            with_reducible rfl
          rotate_left
          · simp only [Act.put, List.setIfInBounds_toArray, List.set_cons_zero, List.set_cons_succ, i64_w, i32_w]
            rfl
          refine pure_ (i := 2) (N := some 103) (v := ?_) (a' := ?_) #[false, true, true, false, false, false, false, false, false, false] rfl rfl (by kernel_rfl) (fun _ _ _ h => h) (Or.inl ⟨by rfl, ?_⟩) ?_ ?_
          rotate_left
          · intro w'
            go_simp
            with_reducible rfl
          rotate_left
          · simp only [Act.put, List.setIfInBounds_toArray, List.set_cons_zero, List.set_cons_succ, i64_w, i32_w]
            rfl
          refine pure_ (i := 3) (N := some 104) (v := ?_) (a' := ?_) #[false, true, true, true, false, false, false, false, false, false] rfl rfl (by kernel_rfl) (fun _ _ _ h => h) (Or.inl ⟨by rfl, ?_⟩) ?_ ?_
          rotate_left
          · intro w'
            go_simp
            with_reducible rfl
          rotate_left
          · simp only [Act.put, List.setIfInBounds_toArray, List.set_cons_zero, List.set_cons_succ, i64_w, i32_w]
            rfl
          refine pure_ (i := 5) (N := some 106) (v := ?_) (a' := ?_) #[false, true, true, true, false, true, false, false, false, false] rfl rfl (by kernel_rfl) (fun _ _ _ h => h) (Or.inl ⟨by rfl, ?_⟩) ?_ ?_
          rotate_left
          · intro w'
            go_simp
            with_reducible rfl
          rotate_left
          · simp only [Act.put, List.setIfInBounds_toArray, List.set_cons_zero, List.set_cons_succ, i64_w, i32_w]
            rfl
          refine pure_ (i := 6) (N := some 107) (v := ?_) (a' := ?_) #[false, true, true, true, false, true, true, false, false, false] rfl rfl (by kernel_rfl) (fun _ _ _ h => h) (Or.inl ⟨by rfl, ?_⟩) ?_ ?_
          rotate_left
          · intro w'
            go_simp
            with_reducible rfl
          rotate_left
          · simp only [Act.put, List.setIfInBounds_toArray, List.set_cons_zero, List.set_cons_succ, i64_w, i32_w]
            rfl
          refine pure_ (i := 7) (N := some 108) (v := ?_) (a' := ?_) #[false, true, true, true, false, true, true, true, false, false] rfl rfl (by kernel_rfl) (fun _ _ _ h => h) (Or.inl ⟨by rfl, ?_⟩) ?_ ?_
          rotate_left
          · intro w'
            go_simp
            with_reducible rfl
          rotate_left
          · simp only [Act.put, List.setIfInBounds_toArray, List.set_cons_zero, List.set_cons_succ, i64_w, i32_w]
            rfl
          refine one_ (i := 0) (N := some 101) #[true, true, true, true, false, true, true, true, false, false] rfl rfl (by kernel_rfl) (by decide) (fun K hK => ?_)
          refine value_ (w1 := ?_) (v := ?_) (by rfl) rfl ?_ ?_
          rotate_left 2
          · go_simp
            constructor
            · rfl
            · rfl
          have HV1 : Aside0 (Below wr.heap.size wr (wr.alloc (.cells #[] 29)).drew) := ⟨((Below.refl _ _).alloc (Nat.le_refl _) _).drew⟩
          have HM1 : Aside0 ((wr.alloc (.cells #[] 29)).drew.ownsRow wr.heap.size 29 10 (.slice (some ⟨wr.heap.size, 0, none⟩) 0 0) 0 []) := ⟨World.ownsRow_made wr #[] 0 (Nat.le_refl _) (by decide) rfl⟩
          generalize (wr.alloc (.cells #[] 29)).drew = V1 at HV1 HM1 ⊢
          refine hK.out _ _ trivial (fun hHeld => ?_)
          clear hK K
          refine norm_ (a' := ?_) ?_ ?_
          rotate_left
          · show Act.put _ (some 101) _ = _
            simp only [Act.put, List.setIfInBounds_toArray, List.set_cons_zero, List.set_cons_succ, i64_w, i32_w]
            rfl
          refine one_ (i := 4) (N := some 105) #[true, true, true, true, true, true, true, true, false, false] rfl rfl (by kernel_rfl) (by decide) (fun K hK => ?_)
          have HL1 : Aside0 (((fs.drop t).flatMap encF).length = (q - t) * 10) := ⟨by rw [flat_len, List.length_drop, HJ.out.len]⟩
          have HC1 : Aside0 (∀ j u, ((fs.drop t).flatMap encF)[j]? = some u → V1.cell? ((⟨g, t * 10, none⟩ : Addr).add j) = some u) := ⟨fun j u h => pw_cell_below HV1.out (src_drop HH.out t j u h)⟩
          refine app_step ?hg (.tmp 101) (.tmp 104) 24 rfl wr.heap.size 29 zcall 10 136 Try.underlying24 info29 rfl (by decide) (.slice (some ⟨wr.heap.size, 0, none⟩) 0 0) 0 [] rfl HM1.out ⟨g, t * 10, none⟩ (q - t) (c1 - t) ((fs.drop t).flatMap encF) rfl HL1.out HC1.out (flat_one _) (by unfold maxLen; omega) (by omega) HV1.out.size ?_
          case hg => rfl
          intro v2 V2 ho2 hg2 _
          rw [Nat.zero_add, List.nil_append] at ho2
          obtain ⟨A2, c2, e2⟩ := own_slice ho2
          subst e2
          have HO2 := Aside0.mk ho2
          have HV2 : Aside0 (Below wr.heap.size wr V2) := ⟨HV1.out.grown hg2 HV1.out.size (fun k hk => (HM1.out.lt k hk).1)⟩
          clear ho2 hg2
          refine hK.out _ _ trivial (fun hHeld => ?_)
          clear hK K
          refine norm_ (a' := ?_) ?_ ?_
          rotate_left
          · show Act.put _ (some 105) _ = _
            simp only [Act.put, List.setIfInBounds_toArray, List.set_cons_zero, List.set_cons_succ, i64_w, i32_w]
            rfl
          refine one_ (i := 8) (N := some 109) #[true, true, true, true, true, true, true, true, true, false] rfl rfl (by kernel_rfl) (by decide) (fun K hK => ?_)
          have HL2 : Aside0 (((fs.take t).flatMap encF).length = t * 10) := ⟨by rw [flat_len, List.length_take, HJ.out.len, Nat.min_eq_left (by omega)]⟩
          have HC2 : Aside0 (∀ j u, ((fs.take t).flatMap encF)[j]? = some u → V2.cell? ((⟨g, 0, none⟩ : Addr).add j) = some u) := ⟨fun j u h => pw_cell_below HV2.out (src_take HH.out t j u h)⟩
          refine app_step ?hg (.tmp 105) (.tmp 108) 24 rfl wr.heap.size 29 zcall 10 136 Try.underlying24 info29 rfl (by decide) (.slice A2 (q - t) c2) (q - t) ((fs.drop t).flatMap encF) rfl HO2.out ⟨g, 0, none⟩ t c1 ((fs.take t).flatMap encF) rfl HL2.out HC2.out (flat_one _) (by unfold maxLen; omega) (by omega) HV2.out.size ?_
          case hg => rfl
          intro v3 V3 ho3 hg3 _
          rw [show q - t + t = q by omega, ← List.flatMap_append] at ho3
          obtain ⟨A3, c3, e3⟩ := own_slice ho3
          subst e3
          have HO3 := Aside0.mk ho3
          have HV3 : Aside0 (Below wr.heap.size wr V3) := ⟨HV2.out.grown hg3 HV2.out.size (fun k hk => (HO2.out.lt k hk).1)⟩
          clear ho3 hg3
          refine hK.out _ _ trivial (fun hHeld => ?_)
          clear hK K
          refine norm_ (a' := ?_) ?_ ?_
          rotate_left
          · show Act.put _ (some 109) _ = _
            simp only [Act.put, List.setIfInBounds_toArray, List.set_cons_zero, List.set_cons_succ, i64_w, i32_w]
            rfl
          refine pure_ (i := 9) (N := some 16) (v := ?_) (a' := ?_) #[true, true, true, true, true, true, true, true, true, true] rfl rfl (by kernel_rfl) (fun _ _ _ h => h) (Or.inl ⟨by rfl, ?_⟩) ?_ ?_
          rotate_left
          · intro w'
            go_simp
            with_reducible rfl
          rotate_left
          · simp only [Act.put, List.setIfInBounds_toArray, List.set_cons_zero, List.set_cons_succ, i64_w, i32_w]
            rfl
          refine done_ (by kernel_rfl) ?_
          have hjr : 0 ≤ a2 % (q : Int) ∧ a2 % (q : Int) < q := ⟨Int.emod_nonneg _ (by omega), Int.emod_lt_of_pos _ (by omega)⟩
          obtain ⟨j, hj⟩ : ∃ j : Nat, a2 % (q : Int) = (j : Int) := ⟨(a2 % (q : Int)).toNat, by omega⟩
          have hjq : j < q := by omega
          have HM4 : Aside0 ((V3.alloc (.cells #[] 29)).ownsRow V3.heap.size 29 10 (.slice (some ⟨V3.heap.size, 0, none⟩) 0 0) 0 []) := ⟨World.ownsRow_made V3 #[] 0 (Nat.le_refl _) (by decide) rfl⟩
          have HV4 : Aside0 (Below V3.heap.size V3 (V3.alloc (.cells #[] 29))) := ⟨(Below.refl _ _).alloc (Nat.le_refl _) _⟩
          have HL4 : Aside0 ((fs.flatMap encF).length = q * 10) := ⟨by rw [flat_len, HJ.out.len]⟩
          have HC4 : Aside0 (∀ j u, (fs.flatMap encF)[j]? = some u → (V3.alloc (.cells #[] 29)).cell? ((⟨g, 0, none⟩ : Addr).add j) = some u) := ⟨fun j u h => by
            rw [add_plain]
            exact pw_cell_below HV4.out (pw_cell_below HV3.out (src_all HH.out j u h))⟩
          obtain ⟨i0, hi, hz0, hz1, hz2⟩ := info_parts info29
          go_upto_region 21 with fail
          rw [hj]
          clear hj hjr
          go_upto_region 22 with ((with_reducible refine gate_builtin (b := .append) (xs := #[.tmp 115, .tmp 116]) rfl ?_); at_builtin; refine wpList_append_own_at _ rfl (.tmp 115) (.tmp 116) 24 rfl V3.heap.size 29 i0 zcall 10 136 Try.underlying24 hi hz0 hz1 hz2 rfl (by decide) (.slice (some ⟨V3.heap.size, 0, none⟩) 0 0) 0 [] rfl HM4.out ⟨g, 0, none⟩ q c1 (fs.flatMap encF) rfl HL4.out HC4.out (flat_one _) (by unfold maxLen; omega) (by omega) HV4.out.size ?_; intro v5 w5 ho5 hg5 _ _; rw [Nat.zero_add] at ho5; obtain ⟨A5, c5, e5⟩ := own_slice ho5; subst e5; have HO5 := Aside0.mk ho5; have HG5 := Aside0.mk hg5; clear ho5 hg5)
          clear hi hz0 hz1 hz2
          have HV5 : Aside0 (Below V3.heap.size V3 w5) := ⟨HV4.out.grown HG5.out HV4.out.size (fun k hk => (HM4.out.lt k hk).1)⟩
          have hr5 := rw_of_own HJ.out.len HO5.out
          obtain ⟨g6, rfl, hB6, hc6⟩ := hr5 j (by rw [HJ.out.len]; exact hjq)
          have hat : (fs.getD j default).at_ = 3 * (j : Int) + 2 := (HJ.out.inv.sp j _ (by rw [List.getD_eq_getElem?_getD, List.getElem?_eq_getElem (by rw [HJ.out.len]; exact hjq)]; rfl)).at_
          have hnx := rw_odd (by rw [HJ.out.len]; exact hjq) hr5
          rw [hat] at hnx
          have HNX := Aside0.mk hnx
          obtain ⟨k4, f4⟩ := hc6 4 (by decide)
          have k6 := (hc6 6 (by decide)).1
          have k6' : w5.cell? ⟨g6, j * 10 + 6, none⟩ = some (.int .i64 (3 * (j : Int) + 2)) := by
            rw [k6, ← hat]
            rfl
          have HV7 : Aside0 (Below V3.heap.size V3 (w5.setCell ⟨g6, j * 10 + 4, none⟩ (.int .i64 (3 * (j : Int) + 2 + 1)))) := ⟨HV5.out.setCell hB6 _⟩
          have hj20 : (j : Int) < 20 := by omega
          clear hr5 hc6 hat hnx k6
          go_upto_region 23 with fail
          generalize w5.setCell ⟨g6, j * 10 + 4, none⟩ (.int .i64 (3 * (j : Int) + 2 + 1)) = w7 at HNX HV7 ⊢
          clear k4 f4 k6'
          have HW7 : Aside0 (Below wr.heap.size wr w7) := ⟨HV3.out.trans (HV7.out.mono HV3.out.size)⟩
          have HK1 : Aside0 (∀ W', Below w7.heap.size w7 W' → Calls Try.prog 7 #[.slice (some ⟨g, 0, none⟩) q c1] W' fun e w' => e = .returned (.bool true) ∧ Below W'.heap.size W' w') := ⟨fun W' h => by
            have hb := HW7.out.trans (h.mono HW7.out.size)
            exact check_row _ c1 q fs W' true HJ.out.len ((rd_of_holds HH.out).below hb) hn20 HJ.out.inv.list (fun x hx => ⟨(HJ.out.oks x hx).1.below hb, (HJ.out.oks x hx).2⟩)⟩
          have HK2 : Aside0 (∀ W', Below w7.heap.size w7 W' → Calls Try.prog 7 #[.slice A3 q c3] W' fun e w' => e = .returned (.bool true) ∧ Below W'.heap.size W' w') := ⟨fun W' h => by
            have hb := HW7.out.trans (h.mono HW7.out.size)
            have hb3 := HV7.out.trans (h.mono HV7.out.size)
            have hln : (fs.drop t ++ fs.take t).length = q := by rw [List.length_append, List.length_drop, List.length_take, HJ.out.len]; omega
            refine check_row _ c3 q (fs.drop t ++ fs.take t) W' true hln (Rd.below (rd_of_own (c := c3) (by rw [hln]; exact HO3.out)) hb3) hn20 (HJ.out.inv.round t) (fun x hx => ?_)
            have hx2 : x ∈ fs := by
              rcases List.mem_append.1 hx with h | h
              · exact List.mem_of_mem_drop h
              · exact List.mem_of_mem_take h
            exact ⟨(HJ.out.oks x hx2).1.below hb, (HJ.out.oks x hx2).2⟩⟩
          have HK3 : Aside0 (∀ W', Below w7.heap.size w7 W' → Calls Try.prog 7 #[.slice (some ⟨g6, 0, none⟩) q c5] W' fun e w' => e = .returned (.bool false) ∧ Below W'.heap.size W' w') := ⟨fun W' h => by
            have hb := HW7.out.trans (h.mono HW7.out.size)
            have hjl : j < fs.length := by rw [HJ.out.len]; exact hjq
            have hln : (odd4 fs j).length = q := by rw [odd4, List.length_set, HJ.out.len]
            refine check_row _ c5 q (odd4 fs j) W' false hln (HNX.out.rd.below h) hn20 (HJ.out.inv.odd j hjl) ?_
            exact oks_odd (fun x hx => ⟨(HJ.out.oks x hx).1.below hb, (HJ.out.oks x hx).2⟩) j hjl⟩
          go_wp2_with fail
          refine (answers_calls _).mono ?_
          rintro e x1 ⟨rfl, hx1⟩
          have HX1 := Aside0.mk hx1
          clear hx1
          go_wp2_with fail
          refine (HK1.out _ HX1.out).mono ?_
          rintro e x2 ⟨rfl, hx2⟩
          have HX2 := Aside0.mk (HX1.out.trans (hx2.mono HX1.out.size))
          clear hx2
          go_wp2_with fail
          refine (HK2.out _ HX2.out).mono ?_
          rintro e x3 ⟨rfl, hx3⟩
          have HX3 := Aside0.mk (HX2.out.trans (hx3.mono HX2.out.size))
          clear hx3
          go_wp2_with fail
          refine (HK3.out _ HX3.out).mono ?_
          rintro e x4 ⟨rfl, hx4⟩
          have HX4 := Aside0.mk (HX3.out.trans (hx4.mono HX3.out.size))
          clear hx4
          go_wp2_with fail
          go_ret
          exact ⟨rfl, HBr.out.trans ((HW7.out.trans (HX4.out.mono HW7.out.size)).mono HBr.out.size)⟩
end Go.Proofs.Ythocnaagpmkoeaa.PLinearOrder
