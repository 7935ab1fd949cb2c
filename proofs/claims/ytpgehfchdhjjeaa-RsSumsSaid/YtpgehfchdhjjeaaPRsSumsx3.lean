-- Written by myprint.py (this session's own driver of the kit's print, with contracts of its own handed in).
import Derived.Test.YtpgehfchdhjjeaaPRsSumsx0
import Derived.Test.YtpgehfchdhjjeaaPRsSumsx1
import Derived.Test.YtpgehfchdhjjeaaPRsSumsx2
import Derived.Test.YtpgehfchdhjjeaaPRsSumsx4
namespace Go.Proofs.Ytpgehfchdhjjeaa.PRsSums
open Go.RowKit Go.Proofs.YtpgehfchdhjjeaaW.PrintWords Go.Proofs.YtpgehfchdhjjeaaW.PrintLast Go.Proofs.YtpgehfchdhjjeaaW.PrintMore
attribute [local go_sem] max2_int min2_int max_two min_two max_three min_three max_four min_four   -- for this text's walks alone
set_option linter.unusedVariables false
set_option linter.unusedSimpArgs false

/-! ### rs_Encode: function 10, by hand -/
attribute [local go_sem] Oper.semAt_some
/-- Chunk i of what lies at ad, p bytes each. -/
def chE (ad : Addr) (p : Nat) (i : Nat) : Value := .slice (some (ad.add (p * i))) p p
/-- Two cells hold what they held. -/
def KeepC (p q : Addr) (A B : World) : Prop := B.cell? p = A.cell? p ∧ B.cell? q = A.cell? q
theorem KeepC.refl (p q : Addr) (A : World) : KeepC p q A A := ⟨rfl, rfl⟩
theorem KeepC.trans {p q : Addr} {A B C : World} (h : KeepC p q A B) (k : KeepC p q B C) : KeepC p q A C := ⟨k.1.trans h.1, k.2.trans h.2⟩
theorem KeepC.drewN (p q : Addr) (A : World) (n : Nat) : KeepC p q A (A.drewN n) := ⟨rfl, rfl⟩
theorem KeepC.put {p q : Addr} {w : World} (hp : p.block < w.heap.size) (hq : q.block < w.heap.size) (W : World) (l : Nat) (o o' : Obj) (hl : w.heap.size ≤ l) (h : W.heap[l]? = some o) (_ : o.isCells = false) (_ : o.isWalk = false) : KeepC p q W (W.putObj l o') :=
  ⟨World.cell?_of_block ((grownBy_putObj' W l o').block p.block (by have := (Array.getElem?_eq_some_iff.1 h).1; omega) (fun e => by cases e; omega)), World.cell?_of_block ((grownBy_putObj' W l o').block q.block (by have := (Array.getElem?_eq_some_iff.1 h).1; omega) (fun e => by cases e; omega))⟩
set_option maxRecDepth 100000 in
set_option maxHeartbeats 2000000 in
theorem chunk1_in (n : Nat) (hn : 1 ≤ n) (l Bs Bp p N cap : Nat) (ad : Addr) (hcap : p * N ≤ cap) (hp : 0 < p) (hM : p * N ≤ 1099511627776) (J Jx : List Nat → World → Prop)
    (hJd : ∀ pre W q, J pre W → J pre (W.drewN q))
    (hY : ∀ pre x W, J pre W → pre.length < N → YieldAt Fence.wide (n - 1) Try.prog l #[chE ad p x] W fun e W' =>
      (e = .returned (.bool true) ∧ J (pre ++ [x]) W' ∧ KeepC ⟨Bs, 0, none⟩ ⟨Bp, 0, none⟩ W W') ∨ (e = .returned (.bool false) ∧ Jx (pre ++ [x]) W'))
    (W : World) (hcs : W.cell? ⟨Bs, 0, none⟩ = some (.slice (some ad) (p * N) cap)) (hcp : W.cell? ⟨Bp, 0, none⟩ = some (.int .i64 p)) (h0 : J [] W) :
    CallsIn Fence.wide n Try.prog 40 #[.func (.yield l) #[] #[], .pointer (some ⟨Bs, 0, none⟩), .pointer (some ⟨Bp, 0, none⟩)] W fun e W' => (∃ v, e = .returned v) ∧
      ((∃ ys, ys = List.range N ∧ J ys W') ∨ (∃ pre, (∃ k, k ≤ N ∧ pre = List.range k) ∧ Jx pre W')) := by
  refine callsIn_of_wp Try.func40 rfl trivial ?_ rfl
  simp only [Try.ntmps40, List.size_toArray, List.length_cons, List.length_nil, Nat.reduceAdd, Nat.reduceSub, Array.replicate_succ, Array.replicate_zero, List.push_toArray, List.append_toArray, List.nil_append, List.cons_append]
  gi_wp2
  gi_loopw [4] (fun i wr => ∃ k o : Nat, k ≤ N ∧ o = p * k ∧ i = .int .i64 o ∧ J (List.range k) wr ∧ KeepC ⟨Bs, 0, none⟩ ⟨Bp, 0, none⟩ W wr)
    (fun i _ => p * N - (intOf i).toNat)
  case atStart => exact ⟨0, 0, Nat.zero_le _, rfl, rfl, h0, KeepC.refl _ _ _⟩
  case round =>
    obtain ⟨k, o, hk, ho, rfl, hJs, hnx⟩ := hrel
    have hcs' := hnx.1.trans hcs
    have hcp' := hnx.2.trans hcp
    by_cases hlt : k < N
    · have hoM : o + p ≤ p * N := by rw [ho, ← Nat.mul_succ]; exact Nat.mul_le_mul_left p hlt
      generalize hMM : p * N = M at *
      have HMM := Aside0.mk hMM
      have hlt' : decide (o < M) = true := decide_eq_true (by omega)
      have HO := Aside0.mk ho
      clear ho hMM
      gi_wp2
      gi_quiet (fail)
      obtain ⟨fn, tmps, assign, body, hy, hR⟩ := hY _ k (wr.drewN nq) (hJd _ _ nq hJs) (by rw [List.length_range]; exact hlt)
      unfold chE at hy
      rw [← HO.out] at hy
      gi_wp2
      refine hR.mono ?_
      rintro e W3 (⟨rfl, hJ3, hk3⟩ | ⟨rfl, hJx3⟩)
      · have hcp3 : W3.cell? ⟨Bp, 0, none⟩ = some (.int .i64 p) := hk3.2.trans hcp'
        gi_wp2
        go_roundw
        case rel => exact ⟨k + 1, o + p, by omega, by rw [HO.out, Nat.mul_succ], by simp, by rw [List.range_succ]; exact hJ3, (hnx.trans (KeepC.drewN _ _ _ nq)).trans hk3⟩
        case measure => simp [intOf]; omega
      · gi_wp2
        refine bodyPost_ret (results_none rfl _ _ _) rfl ?_
        exact ⟨⟨_, rfl⟩, .inr ⟨_, ⟨k + 1, by omega, by rw [List.range_succ]⟩, hJx3⟩⟩
    · obtain rfl : k = N := by omega
      generalize hMM : p * k = M at *
      subst ho
      gi_wp2
      go_end0
      exact ⟨⟨_, rfl⟩, .inl ⟨_, rfl, hJs⟩⟩
theorem chunk_stops (n : Nat) (hn : 1 ≤ n) (Bs Bp p N cap : Nat) (ad : Addr) (hcap : p * N ≤ cap) (hp : 0 < p) (hM : p * N ≤ 1099511627776) (w : World) (hBs : Bs < w.heap.size) (hBp : Bp < w.heap.size)
    (hcs : w.cell? ⟨Bs, 0, none⟩ = some (.slice (some ad) (p * N) cap)) (hcp : w.cell? ⟨Bp, 0, none⟩ = some (.int .i64 p)) :
    SeqStopsK Fence.wide n Try.prog 40 #[.pointer (some ⟨Bs, 0, none⟩), .pointer (some ⟨Bp, 0, none⟩)] (fun i : Nat => #[chE ad p i]) (KeepC ⟨Bs, 0, none⟩ ⟨Bp, 0, none⟩) (fun ys => ys = List.range N) (fun _ => True) N w := fun l J Jx W hW hJ _ hY h0 => by
  refine (chunk1_in n hn l Bs Bp p N cap ad hcap hp hM J Jx (fun pre W q h => hJ pre W (W.drewN q) none h ⟨rfl, rfl, rfl, Nat.le_refl _, fun _ _ _ => rfl⟩ (fun r e => by cases e)) hY W ((hW.cell (p := ⟨Bs, 0, none⟩) hBs).trans hcs) ((hW.cell (p := ⟨Bp, 0, none⟩) hBp).trans hcp) h0).mono ?_
  rintro e W' ⟨he, ⟨ys, rfl, hj⟩ | ⟨pre, _, hj⟩⟩
  · exact ⟨he, .inl ⟨_, rfl, hj⟩⟩
  · exact ⟨he, .inr ⟨_, trivial, hj⟩⟩
theorem chunk_calls (a : Option Addr) (len cap p : Nat) (hp : 0 < p) (w : World) :
    Calls Try.prog 28 #[.slice a len cap, .int .i64 p] w fun e w' => e = .returned (.func (.func 40) #[] #[.pointer (some ⟨w.heap.size, 0, none⟩), .pointer (some ⟨w.heap.size + 1, 0, none⟩)]) ∧ w' = (w.alloc (.cells #[.slice a len cap] 22)).alloc (.cells #[.int .i64 p] 3) := by
  have hd : decide (p < 1) = false := decide_eq_false (by omega)
  have hd2 : decide ((p : Int) < 1) = false := decide_eq_false (by omega)
  go_enter Try.func28, Try.ntmps28
  go_wp2
  go_ret
  exact ⟨rfl, rfl⟩
theorem two_boxes (W : World) (a b : Value) (s t : TypeId) : ((W.alloc (.cells #[a] s)).alloc (.cells #[b] t)).cell? ⟨W.heap.size, 0, none⟩ = some a ∧ ((W.alloc (.cells #[a] s)).alloc (.cells #[b] t)).cell? ⟨W.heap.size + 1, 0, none⟩ = some b := by
  have h1 := ((Boxed.new W s a).alloc (.cells #[b] t)).cell
  have h2 := (Boxed.new (W.alloc (.cells #[a] s)) t b).cell
  rw [World.size_alloc] at h2
  exact ⟨h1, h2⟩
theorem infoRow : (Try.prog.info? 22).map (fun i => (i.zero, i.size, i.bytes)) = some (some (.slice none 0 0), 1, 24) := by kernel_rfl
set_option maxRecDepth 100000 in
set_option maxHeartbeats 2000000 in
theorem parts_in (n : Nat) (hn : 3 ≤ n) (ad : Addr) (N cap : Nat) (hcap : 8 * N ≤ cap) (hM : 8 * N ≤ 1099511627776) (w : World) :
    CallsIn Fence.wide n Try.prog 18 #[.slice (some ad) (8 * N) cap] w fun e W' =>
      ∃ v, e = .returned v ∧ W'.ownsRow w.heap.size 22 1 v N ((List.range N).map (chE ad 8)) ∧ Below w.heap.size w W' := by
  have h1 : 1 ≤ n := by omega
  have hN : N ≤ 1099511627776 := by omega
  have hmx : N ≤ maxLen := by unfold maxLen; omega
  obtain ⟨i0, hi, hz0, hz1, hz2⟩ := info_parts infoRow
  have hch : CallsIn Fence.wide (n - 1) Try.prog 28 #[.slice (some ad) (8 * N) cap, .int .i64 8] (w.alloc (.cells #[.slice none 0 0] 24)) _ := (callsIn_wide (n := n - 1)).2 (chunk_calls (some ad) (8 * N) cap 8 (by decide) (w.alloc (.cells #[.slice none 0 0] 24)))
  have HCH := Aside0.mk hch
  clear hch
  refine callsIn_of_wp_marks Try.func18 rfl trivial ?_ rfl
  simp only [Try.ntmps18, List.size_toArray, List.length_cons, List.length_nil, Nat.reduceAdd, Nat.reduceSub, Array.replicate_succ, Array.replicate_zero, List.push_toArray, List.append_toArray, List.nil_append, List.cons_append]
  gi_wp2
  refine ⟨trivial, HCH.out.mono ?_⟩
  rintro e w1 ⟨rfl, rfl⟩
  gi_wp2
  have bO := Boxed.new w 24 (.slice none 0 0)
  have hB0 : Below w.heap.size w (w.alloc (.cells #[.slice none 0 0] 24)) := (Below.refl _ w).alloc (Nat.le_refl _) _
  have hBW : Below w.heap.size w (((w.alloc (.cells #[.slice none 0 0] 24)).alloc (.cells #[.slice (some ad) (8 * N) cap] 22)).alloc (.cells #[.int .i64 8] 3)) := (hB0.alloc (by simp) _).alloc (by simp; omega) _
  have hsz : (w.alloc (.cells #[.slice none 0 0] 24)).heap.size = w.heap.size + 1 := World.size_alloc _ _
  have h2b := two_boxes (w.alloc (.cells #[.slice none 0 0] 24)) (.slice (some ad) (8 * N) cap) (.int .i64 8) 22 3
  rw [hsz] at h2b
  have bO2 := (bO.alloc (.cells #[.slice (some ad) (8 * N) cap] 22)).alloc (.cells #[.int .i64 8] 3)
  have bS := (Boxed.new (w.alloc (.cells #[.slice none 0 0] 24)) 22 (.slice (some ad) (8 * N) cap)).alloc (.cells #[.int .i64 8] 3)
  have bP := Boxed.new ((w.alloc (.cells #[.slice none 0 0] 24)).alloc (.cells #[.slice (some ad) (8 * N) cap] 22)) 3 (.int .i64 8)
  rw [World.size_alloc, hsz] at bP
  rw [hsz] at bS
  have hsW : (((w.alloc (.cells #[.slice none 0 0] 24)).alloc (.cells #[.slice (some ad) (8 * N) cap] 22)).alloc (.cells #[.int .i64 8] 3)).heap.size = w.heap.size + 3 := by simp
  generalize hW0 : (((w.alloc (.cells #[.slice none 0 0] 24)).alloc (.cells #[.slice (some ad) (8 * N) cap] 22)).alloc (.cells #[.int .i64 8] 3)) = W0 at *
  refine wpIn_rangeFunc_ownG rfl h1 (gf := 40) (lb := #[.pointer (some ⟨w.heap.size + 1, 0, none⟩), .pointer (some ⟨w.heap.size + 1 + 1, 0, none⟩)]) rfl trivial (enters_of Try.func40 (by kernel_rfl) rfl)
    (chunk_stops (n - 1) (by omega) (w.heap.size + 1) (w.heap.size + 1 + 1) 8 N cap ad hcap (by decide) hM W0 (by omega) (by omega) h2b.1 h2b.2) KeepC.trans (KeepC.put (by show w.heap.size + 1 < _; omega) (by show w.heap.size + 1 + 1 < _; omega)) (Below.refl _ _) (fun _ => rfl)
    (fun pre W => (∃ v, Boxed W w.heap.size 24 v ∧ W.ownsRow W0.heap.size 22 1 v pre.length (pre.map (chE ad 8)) ∧ (v = .slice none 0 0 ↔ pre = [])) ∧ Below w.heap.size w W ∧ W0.heap.size ≤ W.heap.size ∧ Boxed W (w.heap.size + 1) 22 (.slice (some ad) (8 * N) cap) ∧ Boxed W (w.heap.size + 1 + 1) 3 (.int .i64 8))
    (fun _ _ _ => False)
    (OwnFrom.and (Own.from (holdsRow_own W0.heap.size w.heap.size 24 22 1 (fun pre : List Nat => pre.length) (fun pre => pre.map (chE ad 8)) (fun pre v => v = .slice none 0 0 ↔ pre = [])) _) (OwnFrom.and (ownFrom_below (Nat.le_refl _) (by omega)) ?own))
    (fun _ _ _ _ _ hs _ _ => hs)
    ⟨⟨_, bO2, World.ownsRow_nil _ _ _ _, by simp⟩, hBW, Nat.le_refl _, bS, bP⟩
    (fun x => { tmps := #[.slice (some ad) (8 * N) cap, undef, .slice none 0 0, .pointer (some ⟨w.heap.size, 0, none⟩), .slice (some (ad.add (8 * x))) 8 8, .slice (some ad) (8 * N) cap, .func (.func 40) #[] #[.pointer (some ⟨w.heap.size + 1, 0, none⟩), .pointer (some ⟨w.heap.size + 1 + 1, 0, none⟩)], .slice (some (ad.add (8 * x))) 8 8, undef, undef, undef, undef, undef], defers := [] }) ?assign ?body ?done ?stop
  case own =>
    rintro s X Y row ⟨h1, h2, h3⟩ hg hrow
    refine ⟨Nat.le_trans h1 hg.size, h2.kept hg (fun e' => ?_), h3.kept hg (fun e' => ?_)⟩
    · obtain ⟨_, _, hc⟩ := hrow _ e'.symm
      omega
    · obtain ⟨_, _, hc⟩ := hrow _ e'.symm
      omega
  case assign =>
    intro l x W K hK
    gi_wp2
    exact hK
  case body =>
    rintro l pre x W ⟨⟨v, hv, hrow, hnil⟩, hB, hsz2, bS2, bP2⟩ hlt
    have hrow0 := own_weaken hrow (show w.heap.size ≤ W0.heap.size by omega)
    have hvb : ∀ k, v.ownBlock = some k → W0.heap.size ≤ k := fun k hk => by
      rcases hrow.2 with ⟨rfl, _⟩ | ⟨g, cp, cur, rfl, hg, _⟩
      · simp [Value.ownBlock] at hk
      · obtain rfl : g = k := by simpa [Value.ownBlock] using hk
        exact hg
    have hc := hv.cell
    gi_wp2_with (gi_at_builtin; refine wpListIn_append_own _ rfl _ _ 24 rfl W0.heap.size 22 i0 (.slice none 0 0) 1 24 Try.underlying24 hi hz0 hz1 hz2 rfl (by decide) _ _ _ rfl (hrow.alloc _) ⟨W.heap.size, 0, none⟩ 1 1 [.slice (some (ad.add (8 * x))) 8 8] rfl rfl (cell_one_new _ _ _) (by simp [Value.oneCell']) (by omega) (by omega) (by simp; omega) ?_; intro v' w1 hown' hgrow _; obtain ⟨g', cap', rfl⟩ := ownsRow_succ hown'; obtain ⟨hv1, hv2, hr2, hk2, hb2⟩ := hv.appended (by decide) hrow0 hB.size (Nat.le_refl _) (own_weaken hown' (show w.heap.size ≤ W0.heap.size by omega)) hgrow; have hr3 := hown'.kept (grownBy_setCell' w1 w.heap.size (.slice (some ⟨g', 0, none⟩) (pre.length + 1) cap')) (.inr (hv1.not_row (by decide) hown').symm); have bS3 := ((bS2.alloc _).kept hgrow (fun e => by have := hvb _ e.symm; omega)).kept (grownBy_setCell' w1 w.heap.size (.slice (some ⟨g', 0, none⟩) (pre.length + 1) cap')) (by simp); have bP3 := ((bP2.alloc _).kept hgrow (fun e => by have := hvb _ e.symm; omega)).kept (grownBy_setCell' w1 w.heap.size (.slice (some ⟨g', 0, none⟩) (pre.length + 1) cap')) (by simp; omega); have hc1 := hv1.cell; have hf1 := hv1.frozen)
    exact ⟨hk2.from _, ⟨bS3.cell.trans bS2.cell.symm, bP3.cell.trans bP2.cell.symm⟩, ⟨_, hv2, by simpa [chE] using hr3, by simp⟩, hB.trans hb2, Nat.le_trans hsz2 hk2.size, bS3, bP3⟩
  case done =>
    rintro D ys W hD rfl ⟨⟨v, hv, hrow, hnil⟩, hB, _⟩ hK
    have hc := hv.cell
    gi_wp2
    refine ⟨by simp, .inl ⟨_, _, rfl, run_takeDeferred hK, ?_⟩⟩
    refine ⟨_, results_tmp rfl _ _ _, v, rfl, ?_, hB.trans (belowK_b (w := w) (Nat.le_refl _) W D _ _ (by omega) hK rfl rfl)⟩
    have h2 := ownsRow_putObj (own_weaken hrow (show w.heap.size ≤ W0.heap.size by omega)) (.deferred none) hK rfl
    rwa [List.length_range] at h2
  case stop =>
    rintro D c pre W _ _ h _
    exact h.elim
def chunks (l : List Int) : List (List Int) := (List.range (l.length / 8)).map fun i => (l.drop (8 * i)).take 8
theorem chunks_C {w w' : World} {ad : Addr} {v : Value} {l : List Int} {N : Nat} (hl : l.length = 8 * N) (hN : N ≤ 1048576) (hr : Kd.C (Kd.int .u8) w (some ad) l.length l) (hB : Below w.heap.size w w') {B : Nat} (ho : w'.ownsRow B 22 1 v N ((List.range N).map (chE ad 8))) :
    ∃ A c, v = .slice A (chunks l).length c ∧ (chunks l).length ≤ c ∧ Kd.C (Kd.slice 5 (Kd.int .u8)) w' A (chunks l).length (chunks l) := by
  have hcl : (chunks l).length = N := by simp [chunks, hl]
  rcases ho.2 with ⟨rfl, h0⟩ | ⟨g, cap, cur, rfl, hg, hh, hn, hcap, hsz, htk⟩
  · subst h0
    have : chunks l = [] := List.eq_nil_of_length_eq_zero hcl
    rw [this]
    exact ⟨none, 0, rfl, Nat.le_refl _, Kd.C_nil _ _⟩
  · refine ⟨some ⟨g, 0, none⟩, cap, by rw [hcl], by rw [hcl]; simpa using hn, rfl, by rw [hcl]; omega, fun _ => ⟨_, rfl, fun j x hj => ?_⟩⟩
    obtain ⟨hj', hx⟩ := List.getElem?_eq_some_iff.1 hj
    have hjN : j < N := by omega
    have hx' : (l.drop (8 * j)).take 8 = x := by rw [← hx]; simp [chunks]
    have hxl : x.length = 8 := by rw [← hx', List.length_take, List.length_drop]; omega
    refine ⟨[chE ad 8 j], rfl, ⟨some (ad.add (8 * j)), 8, by rw [hxl]; rfl, by omega, ?_⟩, fun i u hu => ?_⟩
    · refine Kd.C_of_reads (d := (0 : Int)) ⟨rfl, by omega, fun _ => ⟨_, rfl, fun q hq => ?_⟩⟩
      obtain ⟨ad', e, hc⟩ := (Kd.reads_of_C (enc := Value.int .u8) (d := (0 : Int)) (h1 := fun _ => rfl) (Kd.C_below hr hB)).2.2 (by omega)
      cases e
      rw [Addr.add_add, hc (8 * j + q) (by omega), ← hx', List.getD_eq_getElem?_getD, List.getD_eq_getElem?_getD, List.getElem?_take, if_pos (show q < 8 by omega), List.getElem?_drop]
    · have hi : i = 0 := by
        have := (List.getElem?_eq_some_iff.1 hu).1
        simpa using this
      subst hi
      obtain rfl : chE ad 8 j = u := by simpa using hu
      have ea : (⟨g, 0, none⟩ : Addr).add (j * (Kd.slice 5 (Kd.int .u8)).sz + 0) = ⟨g, j, none⟩ := by
        have : j * (Kd.slice 5 (Kd.int .u8)).sz + 0 = j := by simp [Kd.slice]
        rw [this]
        cases j <;> simp [Addr.add]
      rw [ea]
      have h3 := congrArg (fun l => l[j]?) htk
      simp only [Nat.mul_one, List.getElem?_take, if_pos hjN, List.getElem?_map, List.getElem?_range hjN, Option.map_some] at h3
      simp only [World.cell?, hh]
      rw [← h3]
      simp
theorem code_nil (k m : Int) (h : k < 1 ∨ k > 4 ∨ m < 0 ∨ m > 3) (w : World) : Calls Try.prog 16 #[.int .i64 k, .int .i64 m] w fun e w' => e = .returned (.slice none 0 0) ∧ w' = w := by
  by_cases h1 : k < 1
  · have d1 : decide (k < 1) = true := decide_eq_true h1
    clear h
    go_enter Try.func16, Try.ntmps16
    go_wp2_with fail
    go_ret
    exact ⟨rfl, rfl⟩
  · have d1 : decide (k < 1) = false := decide_eq_false h1
    by_cases h2 : k > 4
    · have d2 : decide (4 < k) = true := decide_eq_true h2
      clear h
      go_enter Try.func16, Try.ntmps16
      go_wp2_with fail
      go_ret
      exact ⟨rfl, rfl⟩
    · have d2 : decide (4 < k) = false := decide_eq_false h2
      by_cases h3 : m < 0
      · have d3 : decide (m < 0) = true := decide_eq_true h3
        clear h
        go_enter Try.func16, Try.ntmps16
        go_wp2_with fail
        go_ret
        exact ⟨rfl, rfl⟩
      · have d3 : decide (m < 0) = false := decide_eq_false h3
        have d4 : decide (3 < m) = true := decide_eq_true (by omega)
        clear h
        go_enter Try.func16, Try.ntmps16
        go_wp2_with fail
        go_ret
        exact ⟨rfl, rfl⟩
theorem S_some {w : World} {base : Nat} {ok : Nat → Prop} {v : Value} {xs : List (List Int)} (h : Kd.S (Kd.slice 5 (Kd.int .u8)) 22 w base ok v xs) (hx : xs ≠ []) : ∃ ad c, v = .slice (some ad) xs.length c := by
  obtain ⟨A, c, rfl⟩ := Kd.S_slice h
  obtain ⟨ad, rfl, _⟩ := (Kd.S_reads' h).2.2.2.2 (List.length_pos_iff.2 hx)
  exact ⟨ad, c, rfl⟩
def rs_Encode.f (a0 a1 : Int) (l2 : List Int) : Option (List (List Int) × Int) :=
  if a0 < 1 ∨ a0 > 4 ∨ a1 < 0 ∨ a1 > 3 then some ([], 1)
  else (mat_Code.f 1000 a0 a1).bind fun c => if c = [] then none else if (l2.length : Int) ≠ a0 * 8 then some ([], 1) else mat_Times.f 1000 c (chunks l2)
set_option maxRecDepth 100000 in
theorem rs_Encode.calls (a0 a1 : Int) (A2 : Option Addr) (c2 : Nat) (l2 : List Int) (r1 : List (List Int)) (r2 : Int) (w : World) (hr2 : Kd.C (Kd.int .u8) w A2 l2.length l2) (hc2 : l2.length ≤ c2) (h : rs_Encode.f a0 a1 l2 = some (r1, r2)) :
    Calls Try.prog 10 #[.int .i64 a0, .int .i64 a1, .slice A2 l2.length c2] w fun e w' => ∃ v0_ : Value, e = .returned (.tuple #[v0_, .int .i64 r2]) ∧ Kd.S (Kd.slice 5 (Kd.int .u8)) 22 w' w.heap.size (fun _ => True) v0_ r1 ∧ Below w.heap.size w w' := by
  unfold rs_Encode.f at h
  by_cases hbad : a0 < 1 ∨ a0 > 4 ∨ a1 < 0 ∨ a1 > 3
  · rw [if_pos hbad] at h
    simp only [Option.some.injEq, Prod.mk.injEq] at h
    obtain ⟨rfl, rfl⟩ := h
    have HC := Aside0.mk (code_nil a0 a1 hbad w)
    have hq0 : ∀ W : World, (binOp .eql 24 (.slice none 0 0) (.slice none 0 0)).run Try.prog W = .ok (.bool true) W := fun W => Go.Lib.run_eql_slice_nil W 24 22 none 0 0 0 0 Try.underlying24
    clear hbad hr2
    go_enter Try.func10, Try.ntmps10
    go_wp2_with (go_at_call 16; refine HC.out.mono ?_; rintro e w' ⟨rfl, rfl⟩)
    go_ret2
    exact ⟨_, rfl, Kd.S_nil _ _ _ _ _, Below.refl _ _⟩
  · rw [if_neg hbad] at h
    obtain ⟨k, rfl⟩ : ∃ k : Nat, a0 = (k : Int) := ⟨a0.toNat, by omega⟩
    have hk1 : 1 ≤ k := by omega
    have hk4 : k ≤ 4 := by omega
    obtain ⟨c, hc, h⟩ := Option.bind_eq_some_iff.1 h
    have HC := Aside0.mk (mat_Code.calls 1000 k a1 c w hc)
    clear hbad hc
    by_cases hcn : c = []
    · rw [if_pos hcn] at h
      cases h
    rw [if_neg hcn] at h
    have HN := Aside0.mk hcn
    have hq1 : ∀ (ad : Addr) (cc : Nat) (W : World), (binOp .eql 24 (.slice (some ad) c.length cc) (.slice none 0 0)).run Try.prog W = .ok (.bool false) W := fun ad cc W => Go.Lib.run_eql_slice_nil W 24 22 (some ad) c.length cc 0 0 Try.underlying24
    clear hcn
    have e1 : wrap64 ((k : Int) * 8) = ((8 * k : Nat) : Int) := by unfold wrap64; omega
    have e3 : (k : Int) * 8 = ((8 * k : Nat) : Int) := by omega
    rw [e3] at h
    generalize hp : 8 * k = p at *
    by_cases hlen : (l2.length : Int) ≠ (p : Int)
    · rw [if_pos hlen] at h
      simp only [Option.some.injEq, Prod.mk.injEq] at h
      obtain ⟨rfl, rfl⟩ := h
      have d1 : ((l2.length : Int) != (p : Int)) = true := bne_iff_ne.2 hlen
      clear hr2 hlen hp
      go_enter Try.func10, Try.ntmps10
      go_wp2_with (go_at_call 16; refine HC.out.mono ?_; rintro e w1 ⟨v1, rfl, ho1, hb1⟩; obtain ⟨ad1, c1, rfl⟩ := S_some ho1 HN.out; have HB1 := Aside0.mk hb1; clear hb1 ho1)
      go_ret2
      exact ⟨_, rfl, Kd.S_nil _ _ _ _ _, HB1.out⟩
    · rw [if_neg hlen] at h
      have hlen : l2.length = p := by omega
      have d1 : ((l2.length : Int) != (p : Int)) = false := by rw [hlen]; simp
      obtain ⟨ad2, rfl, _⟩ := hr2.2.2 (by omega)
      have HR := Aside0.mk hr2
      have HL : Aside0 (l2.length = 8 * k) := ⟨by omega⟩
      have HT := Aside0.mk h
      have hpc : 8 * k ≤ c2 := by omega
      have HP : Aside0 (∀ W : World, Calls Try.prog 18 #[.slice (some ad2) l2.length c2] W fun e W' => ∃ v, e = .returned v ∧ W'.ownsRow W.heap.size 22 1 v k ((List.range k).map (chE ad2 8)) ∧ Below W.heap.size W W') := ⟨fun W => by
        rw [HL.out]
        exact (callsIn_wide (n := 3)).1 (parts_in 3 (by decide) ad2 k c2 hpc (by omega) W)⟩
      clear hr2 h hlen hp hpc hc2
      go_enter Try.func10, Try.ntmps10
      go_wp2_with (first | (go_at_call 16; refine HC.out.mono ?_; rintro e w1 ⟨v1, rfl, ho1, hb1⟩; obtain ⟨ad1, c1, rfl⟩ := S_some ho1 HN.out; have HB1 := Aside0.mk hb1; have HO1 := Aside0.mk ho1; clear hb1 ho1) | (go_at_call 18; refine (HP.out _).mono ?_; rintro e w2 ⟨v2, rfl, ho2, hb2⟩; have hX := chunks_C (w := w1) HL.out (by omega) (Kd.C_below HR.out HB1.out) hb2 ho2; obtain ⟨A3, c3, rfl, hle3, hC3⟩ := hX; have HB2 := Aside0.mk hb2; have HC3 := Aside0.mk hC3; have HL3 := Aside0.mk hle3; clear hb2 ho2 hC3 hle3) | (go_at_call 17; refine (mat_Times.calls 1000 (some ad1) c1 c A3 c3 (chunks l2) r1 r2 w2 (Kd.C_below (Kd.S_reads' HO1.out).2.2 HB2.out) (Kd.S_reads' HO1.out).2.1 HC3.out HL3.out HT.out).mono ?_; rintro e w4 ⟨v4, rfl, ho4, hb4⟩; have HO4 := Aside0.mk ho4; have HB4 := Aside0.mk hb4; clear ho4 hb4))
      go_ret2
      have hs1 := HB1.out.size
      have hs2 := HB2.out.size
      exact ⟨_, rfl, Kd.S_lower HO4.out (by omega), HB1.out.trans ((HB2.out.mono hs1).trans (HB4.out.mono (by omega)))⟩

-- NOT PRINTED: function 33 (bytes_Clone)

-- NOT PRINTED: function 35 (mat_clear1)

end Go.Proofs.Ytpgehfchdhjjeaa.PRsSums
