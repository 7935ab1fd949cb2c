/- Scripts: bytes as digits. -/
import Derived.Test.YtganhhhkmcmngaaDoorProg
import Derived.Below
import Derived.Deep.Draws
import Derived.Deep.AppendLies
import Derived.Maps.AppendAt
import Derived.OwnWalk
import Derived.Laws.BytesArg
import Derived.Laws.MakeOwn
import Derived.Laws.OwnMore
import Derived.Deep.OwnRows
import Derived.Tactics
import Derived.Lib.ConvBytes
import Derived.Laws.Slices
import Derived.WalkKit
import Derived.KernelRfl
import Derived.RowKit3
import Derived.Deep.LoopGhost
import Derived.Deep.QuietTactic
import Derived.BigQuiet
import Derived.WideLaws
import Derived.Deep.DeepCutAuto
import Derived.Deep.CutBlock
import Derived.Deep.RegionHeld3
import Derived.Laws.Rows
import Derived.Lib.AppendStr
import Derived.ArgAppend
import Derived.Laws.IdiomCopy
import Derived.OrdersHeld
import Derived.Laws.BitsLemmas
import Derived.RowKit
import Derived.Test.YtganhhhkmcmngaaDoorWWords
import Derived.Test.YtganhhhkmcmngaaDoorWLast
import Derived.Test.YtganhhhkmcmngaaDoorWTab
import Derived.Test.YtganhhhkmcmngaaDoorWFour
import Derived.Test.YtganhhhkmcmngaaDoorWQPut
import Derived.Test.YtganhhhkmcmngaaDoorWApart
import Derived.Test.YtganhhhkmcmngaaDoorWArr
import Derived.Test.YtganhhhkmcmngaaDoorWZeros
import Derived.Test.YtganhhhkmcmngaaDoorWFoot
import Derived.Test.YtganhhhkmcmngaaDoorWKept
import Derived.Test.YtganhhhkmcmngaaDoorWShare
import Derived.Test.YtganhhhkmcmngaaDoorWN
import Derived.Test.YtganhhhkmcmngaaDoorWFootNe
import Derived.Test.YtganhhhkmcmngaaDoorWAt
import Derived.Test.YtganhhhkmcmngaaDoorWEqStruct
import Derived.Test.YtganhhhkmcmngaaDoorWRepsOne
import Derived.Test.YtganhhhkmcmngaaDoorWInv
import Derived.Test.YtganhhhkmcmngaaDoorWInvWords
import Derived.Test.YtganhhhkmcmngaaDoorWGuard
import Derived.Test.YtganhhhkmcmngaaDoorWNEv
import Derived.Test.YtganhhhkmcmngaaDoorWMore
import Derived.Test.YtganhhhkmcmngaaDoorSc3
namespace Go.Proofs.YtganhhhkmcmngaaDoor.Sc
open Go.RowKit Go.Proofs.YtganhhhkmcmngaaDoorW.PrintWords Go.Proofs.YtganhhhkmcmngaaDoorW.PrintLast Go.Proofs.YtganhhhkmcmngaaDoorW.PrintMore
attribute [local go_sem] max2_int min2_int max_two min_two max_three min_three max_four min_four
set_option linter.unusedVariables false
set_option linter.unusedSimpArgs false
open Go.Shelf
abbrev U8 : Kd Int := Kd.int .u8
abbrev Byt (l : List Int) : Prop := ∀ x, x ∈ l → 0 ≤ x ∧ x < 256
theorem hexI_step (l : List Int) (q : Nat) (hq : q < l.length) : hexI (l.take (q + 1)) = hexI (l.take q) ++ [((hexD ((l.getD q 0).toNat / 16)).toNat : Int), ((hexD ((l.getD q 0).toNat % 16)).toNat : Int)] := by
  have e : l.getD q 0 = l[q] := by simp [hq]
  rw [List.take_succ_eq_append_getElem hq, e]
  unfold hexI
  rw [List.flatMap_append, List.flatMap_singleton]
theorem info5' : (Tryd.prog.info? 5).map (fun i => (i.zero, i.size, i.bytes)) = some (some (.int .u8 0), 1, 1) := by kernel_rfl
theorem two_C (W : World) (a b : Int) : U8.C (W.alloc (.cells #[.int .u8 a, .int .u8 b] 5)) (some ⟨W.heap.size, 0, none⟩) ([a, b] : List Int).length [a, b] := by
  refine Kd.C_of_reads (d := (0 : Int)) ⟨rfl, by show (2 : Nat) ≤ _; decide, fun _ => ⟨_, rfl, fun j hj => ?_⟩⟩
  rw [add_plain]
  have h := heap_alloc_new W (.cells #[.int .u8 a, .int .u8 b] 5)
  simp only [World.cell?, h]
  have : j = 0 ∨ j = 1 := by simp at hj; omega
  rcases this with rfl | rfl <;> rfl
set_option maxHeartbeats 4000000 in
set_option maxRecDepth 100000 in
theorem hex_calls (A : Option Addr) (c : Nat) (l : List Int) (w : World) (hC : U8.C w A l.length l) (hY : Byt l) (hl : l.length ≤ 1000000) :
    Calls Tryd.prog 15 #[.slice A l.length c] w fun e w' => e = .returned (.string ⟨(hexU l).toArray⟩) ∧ Below w.heap.size w w' := by
  have HR := Aside0.mk (Kd.reads_of_C (enc := Value.int .u8) (d := (0 : Int)) (h1 := fun _ => rfl) hC)
  have HY := Aside0.mk hY
  generalize hn : l.length = n at *
  have HN := Aside0.mk hn
  clear hC hY hn
  go_enter Tryd.func15, Tryd.ntmps15
  go_wp2
  go_loopw [4, 5] (fun v i wr => ∃ q : Nat, q ≤ n ∧ i = .int .i64 q ∧ Aside0 (U8.R 5 wr w.heap.size (fun _ => True) v (hexI (l.take q))) ∧ Aside0 (Below w.heap.size w wr)) (fun _ i _ => n - (intOf i).toNat)
  case atStart => exact ⟨0, Nat.zero_le _, rfl, ⟨Kd.R_nil _ _ _ _ _⟩, ⟨Below.refl _ _⟩⟩
  case round =>
    obtain ⟨q, hq, rfl, HO, HB⟩ := hrel
    by_cases hlt : q < n
    · have hd : decide (q < n) = true := decide_eq_true hlt
      obtain ⟨A1, c1, rfl⟩ := Kd.R_slice HO.out
      obtain ⟨ad, rfl, hcs⟩ := HR.out.2.2 (by omega)
      have k00 := hcs q hlt
      have k0 := pw_cell_below HB.out k00
      have hql : q < l.length := by rw [HN.out]; exact hlt
      have hst := hexI_step l q hql
      have hxr : 0 ≤ l.getD q 0 ∧ l.getD q 0 < 256 := HY.out (l.getD q 0) (by simp [hql])
      have hlen := hexI_len (l.take q)
      rw [List.length_take, HN.out, Nat.min_eq_left hq] at hlen
      have HST := Aside0.mk hst
      generalize l.getD q 0 = x at *
      obtain ⟨m, rfl⟩ : ∃ m : Nat, x = (m : Int) := ⟨x.toNat, by omega⟩
      obtain ⟨a, ha⟩ : ∃ a, m / 16 = a := ⟨_, rfl⟩
      obtain ⟨b, hb⟩ : ∃ b, m % 16 = b := ⟨_, rfl⟩
      have ha16 : a < 16 := by omega
      have hb16 : b < 16 := by omega
      have hw1 : (m : Int).tdiv 16 = (a : Int) := by rw [Int.tdiv_eq_ediv_of_nonneg (by omega)]; omega
      have hw2 : (m : Int).tmod 16 = (b : Int) := by rw [Int.tmod_eq_emod_of_nonneg (by omega)]; omega
      have hw3 : IntKind.u8.wrap (a : Int) = (a : Int) := by rw [IntKind.wrap_u8]; omega
      have hw4 : IntKind.u8.wrap (b : Int) = (b : Int) := by rw [IntKind.wrap_u8]; omega
      have hx1 : ∀ (h : a < digs.size), ((digs[a]'h).toNat : Int) = ((hexD a).toNat : Int) := fun h => by rw [digs_at a ha16 h]
      have hx2 : ∀ (h : b < digs.size), ((digs[b]'h).toNat : Int) = ((hexD b).toNat : Int) := fun h => by rw [digs_at b hb16 h]
      unfold digs at hx1 hx2
      rw [Int.toNat_natCast, ha, hb] at hst
      have HST2 := Aside0.mk hst
      clear hst HST hcs hql hxr ha hb
      obtain ⟨da, hda⟩ : ∃ d : Int, ((hexD a).toNat : Int) = d := ⟨_, rfl⟩
      obtain ⟨db, hdb⟩ : ∃ d : Int, ((hexD b).toNat : Int) = d := ⟨_, rfl⟩
      rw [hda] at hx1
      rw [hdb] at hx2
      rw [hda, hdb] at HST2
      have hga : (0 : Int) ≤ (a : Int) := by omega
      have hgb : (0 : Int) ≤ (b : Int) := by omega
      have hla : ((a : Int) < 16) = True := eq_true (by omega)
      have hlb : ((b : Int) < 16) = True := eq_true (by omega)
      clear hda hdb
      have HLEN := Aside0.mk hlen
      clear hlen
      generalize hexI (l.take q) = hs at *
      have hln := HN.out
      have hlm : hs.length ≤ 2000000 := by rw [HLEN.out]; omega
      clear hln
      go_upto_region 6 with fail
      refine start_ (n := 18) (S := fun w' => w'.cell? (ad.add q) = some (.int .u8 (m : Int))) (ds := []) #[false, false, false, false, false, false, false, false, false, false, false, false, false, false, false, false, false, false] (by kernel_rfl) rfl rfl (k0) (fun hHeld => ?_)
      have HB0 : Aside0 (Below w.heap.size w wr.drew) := ⟨HB.out.drew⟩
      have HO0 : Aside0 (U8.R 5 wr.drew w.heap.size (fun _ => True) (.slice A1 hs.length c1) hs) := ⟨Kd.R_below HO.out (Below.refl wr.heap.size wr).drew⟩
      generalize wr.drew = W0 at HB0 HO0 hHeld ⊢
      refine pure_ (i := 0) (N := some 12) (v := ?_) (a' := ?_) #[true, false, false, false, false, false, false, false, false, false, false, false, false, false, false, false, false, false] rfl rfl (by kernel_rfl) (fun _ _ _ h => h) (Or.inl ⟨by rfl, ?_⟩) ?_ ?_
      rotate_left
      · intro w'
        go_simp
        with_reducible rfl
      rotate_left
      · simp only [Act.put, List.setIfInBounds_toArray, List.set_cons_zero, List.set_cons_succ, i64_w, i32_w]
        rfl
      refine pure_ (i := 1) (N := some 13) (v := ?_) (a' := ?_) #[true, true, false, false, false, false, false, false, false, false, false, false, false, false, false, false, false, false] rfl rfl (by kernel_rfl) (fun _ _ _ h => h) (Or.inl ⟨by rfl, ?_⟩) ?_ ?_
      rotate_left
      · intro w'
        go_simp
        with_reducible rfl
      rotate_left
      · simp only [Act.put, List.setIfInBounds_toArray, List.set_cons_zero, List.set_cons_succ, i64_w, i32_w]
        rfl
      refine pure_ (i := 2) (N := some 14) (v := ?_) (a' := ?_) #[true, true, true, false, false, false, false, false, false, false, false, false, false, false, false, false, false, false] rfl rfl (by kernel_rfl) (fun _ _ _ h => h) (Or.inl ⟨by rfl, ?_⟩) ?_ ?_
      rotate_left
      · intro w'
        go_simp
        with_reducible rfl
      rotate_left
      · simp only [Act.put, List.setIfInBounds_toArray, List.set_cons_zero, List.set_cons_succ, i64_w, i32_w]
        rfl
      refine pure_ (i := 3) (N := some 15) (v := ?_) (a' := ?_) #[true, true, true, true, false, false, false, false, false, false, false, false, false, false, false, false, false, false] rfl rfl (by kernel_rfl) (fun _ _ _ h => h) (Or.inl ⟨by rfl, ?_⟩) ?_ ?_
      rotate_left
      · intro w'
        go_simp
        with_reducible rfl
      rotate_left
      · simp only [Act.put, List.setIfInBounds_toArray, List.set_cons_zero, List.set_cons_succ, i64_w, i32_w]
        rfl
      refine pure_ (i := 4) (N := some 16) (v := ?_) (a' := ?_) #[true, true, true, true, true, false, false, false, false, false, false, false, false, false, false, false, false, false] rfl rfl (by kernel_rfl) (fun _ _ _ h => h) (Or.inl ⟨by rfl, ?_⟩) ?_ ?_
      rotate_left
      · intro w'
        go_simp
        with_reducible rfl
      rotate_left
      · simp only [Act.put, List.setIfInBounds_toArray, List.set_cons_zero, List.set_cons_succ, i64_w, i32_w]
        rfl
      refine pure_ (i := 8) (N := some 20) (v := ?_) (a' := ?_) #[true, true, true, true, true, false, false, false, true, false, false, false, false, false, false, false, false, false] rfl rfl (by kernel_rfl) (fun _ _ _ h => h) (Or.inl ⟨by rfl, ?_⟩) ?_ ?_
      rotate_left
      · intro w'
        go_simp
        with_reducible rfl
      rotate_left
      · simp only [Act.put, List.setIfInBounds_toArray, List.set_cons_zero, List.set_cons_succ, i64_w, i32_w]
        rfl
      refine pure_ (i := 9) (N := some 21) (v := ?_) (a' := ?_) #[true, true, true, true, true, false, false, false, true, true, false, false, false, false, false, false, false, false] rfl rfl (by kernel_rfl) (fun _ _ _ h => h) (Or.inl ⟨by rfl, ?_⟩) ?_ ?_
      rotate_left
      · intro w'
        go_simp
        with_reducible rfl
      rotate_left
      · simp only [Act.put, List.setIfInBounds_toArray, List.set_cons_zero, List.set_cons_succ, i64_w, i32_w]
        rfl
      refine pure_ (i := 10) (N := some 22) (v := ?_) (a' := ?_) #[true, true, true, true, true, false, false, false, true, true, true, false, false, false, false, false, false, false] rfl rfl (by kernel_rfl) (fun _ _ _ h => h) (Or.inl ⟨by rfl, ?_⟩) ?_ ?_
      rotate_left
      · intro w'
        go_simp
        with_reducible rfl
      rotate_left
      · simp only [Act.put, List.setIfInBounds_toArray, List.set_cons_zero, List.set_cons_succ, i64_w, i32_w]
        rfl
      refine pure_ (i := 11) (N := some 23) (v := ?_) (a' := ?_) #[true, true, true, true, true, false, false, false, true, true, true, true, false, false, false, false, false, false] rfl rfl (by kernel_rfl) (fun _ _ _ h => h) (Or.inl ⟨by rfl, ?_⟩) ?_ ?_
      rotate_left
      · intro w'
        go_simp
        with_reducible rfl
      rotate_left
      · simp only [Act.put, List.setIfInBounds_toArray, List.set_cons_zero, List.set_cons_succ, i64_w, i32_w]
        rfl
      refine take_ (i := 5) (N := some 17) (v := ?_) (a' := ?_) #[true, true, true, true, true, true, false, false, true, true, true, true, false, false, false, false, false, false] rfl rfl (by kernel_rfl) (fun _ _ _ h => h) (Or.inl ⟨by rfl, ?_⟩) hHeld ?_ ?_
      rotate_left
      · intro w' s0
        go_simp
        with_reducible rfl
      rotate_left
      · simp only [Act.put, List.setIfInBounds_toArray, List.set_cons_zero, List.set_cons_succ, i64_w, i32_w]
        rfl
      refine pure_ (i := 6) (N := some 18) (v := ?_) (a' := ?_) #[true, true, true, true, true, true, true, false, true, true, true, true, false, false, false, false, false, false] rfl rfl (by kernel_rfl) (fun _ _ _ h => h) (Or.inl ⟨by rfl, ?_⟩) ?_ ?_
      rotate_left
      · intro w'
        go_simp
        with_reducible rfl
      rotate_left
      · simp only [Act.put, List.setIfInBounds_toArray, List.set_cons_zero, List.set_cons_succ, i64_w, i32_w]
        rfl
      refine take_ (i := 7) (N := some 19) (v := ?_) (a' := ?_) #[true, true, true, true, true, true, true, true, true, true, true, true, false, false, false, false, false, false] rfl rfl (by kernel_rfl) (fun _ _ _ h => h) (Or.inl ⟨by rfl, ?_⟩) hHeld ?_ ?_
      rotate_left
      · intro w' s0
        go_simp
        with_reducible rfl
      rotate_left
      · simp only [Act.put, List.setIfInBounds_toArray, List.set_cons_zero, List.set_cons_succ, i64_w, i32_w]
        rfl
      refine take_ (i := 12) (N := some 24) (v := ?_) (a' := ?_) #[true, true, true, true, true, true, true, true, true, true, true, true, true, false, false, false, false, false] rfl rfl (by kernel_rfl) (fun _ _ _ h => h) (Or.inl ⟨by rfl, ?_⟩) hHeld ?_ ?_
      rotate_left
      · intro w' s0
        go_simp
        with_reducible rfl
      rotate_left
      · simp only [Act.put, List.setIfInBounds_toArray, List.set_cons_zero, List.set_cons_succ, i64_w, i32_w]
        rfl
      refine pure_ (i := 13) (N := some 25) (v := ?_) (a' := ?_) #[true, true, true, true, true, true, true, true, true, true, true, true, true, true, false, false, false, false] rfl rfl (by kernel_rfl) (fun _ _ _ h => h) (Or.inl ⟨by rfl, ?_⟩) ?_ ?_
      rotate_left
      · intro w'
        go_simp
        with_reducible rfl
      rotate_left
      · simp only [Act.put, List.setIfInBounds_toArray, List.set_cons_zero, List.set_cons_succ, i64_w, i32_w]
        rfl
      refine take_ (i := 14) (N := some 26) (v := ?_) (a' := ?_) #[true, true, true, true, true, true, true, true, true, true, true, true, true, true, true, false, false, false] rfl rfl (by kernel_rfl) (fun _ _ _ h => h) (Or.inl ⟨by rfl, ?_⟩) hHeld ?_ ?_
      rotate_left
      · intro w' s0
        go_simp
        with_reducible rfl
      rotate_left
      · simp only [Act.put, List.setIfInBounds_toArray, List.set_cons_zero, List.set_cons_succ, i64_w, i32_w]
        rfl
      refine one_ (i := 15) (N := some 27) #[true, true, true, true, true, true, true, true, true, true, true, true, true, true, true, true, false, false] rfl rfl (by kernel_rfl) (by decide) (fun K hK => ?_)
      refine value_ (w1 := ?_) (v := ?_) (by rfl) rfl ?_ ?_
      rotate_left 2
      · go_simp
        constructor
        · rfl
        · rfl
      have HC := Aside0.mk (two_C W0 da db)
      have HB1 : Aside0 (Below w.heap.size w (W0.alloc (.cells #[.int .u8 da, .int .u8 db] 5))) := ⟨HB0.out.alloc HB0.out.size _⟩
      have HO1 : Aside0 (U8.R 5 (W0.alloc (.cells #[.int .u8 da, .int .u8 db] 5)) w.heap.size (fun _ => True) (.slice A1 hs.length c1) hs) := ⟨Kd.R_below HO0.out ((Below.refl _ _).alloc (Nat.le_refl _) _)⟩
      generalize W0.alloc (.cells #[.int .u8 da, .int .u8 db] 5) = V1 at HC HB1 HO1 ⊢
      generalize W0.heap.size = g at HC ⊢
      refine hK.out _ _ ((pw_cell_below HB1.out (k00))) (fun hHeld => ?_)
      clear hK K
      refine norm_ (a' := ?_) ?_ ?_
      rotate_left
      · show Act.put _ (some 27) _ = _
        simp only [Act.put, List.setIfInBounds_toArray, List.set_cons_zero, List.set_cons_succ, i64_w, i32_w]
        rfl
      refine one_ (i := 16) (N := some 28) #[true, true, true, true, true, true, true, true, true, true, true, true, true, true, true, true, true, false] rfl rfl (by kernel_rfl) (by decide) (fun K hK => ?_)
      refine Kd.R_append_rows_step U8 (w0 := w) (Rr := U8.K V1) w.heap.size (by rfl) (.tmp 12) (.tmp 27) 30 5 (.int .u8 0) 1 rfl Tryd.underlying30 info5' rfl (by decide) (by decide) (.slice A1 hs.length c1) hs [da, db] (some ⟨g, 0, none⟩) 2 2 (fun _ => True) (fun _ => False) rfl rfl HO1.out HC.out (fun _ _ h => h) (fun _ h => h.elim) (fun _ _ => trivial) HB1.out HB1.out.size (by omega) ?_
      intro v3 w3 ho3 hb3 _ _
      obtain ⟨A3, c3, e3⟩ := Kd.R_slice ho3
      subst e3
      have HO3 := Aside0.mk ho3
      have HB3 := Aside0.mk hb3
      have hk3 := pw_cell_below (HB3.out) k00
      clear ho3 hb3
      refine hK.out _ _ (hk3) (fun hHeld => ?_)
      clear hK K
      refine norm_ (a' := ?_) ?_ ?_
      rotate_left
      · show Act.put _ (some 28) _ = _
        simp only [Act.put, List.setIfInBounds_toArray, List.set_cons_zero, List.set_cons_succ, i64_w, i32_w]
        rfl
      refine pure_ (i := 17) (N := some 4) (v := ?_) (a' := ?_) #[true, true, true, true, true, true, true, true, true, true, true, true, true, true, true, true, true, true] rfl rfl (by kernel_rfl) (fun _ _ _ h => h) (Or.inl ⟨by rfl, ?_⟩) ?_ ?_
      rotate_left
      · intro w'
        go_simp
        with_reducible rfl
      rotate_left
      · simp only [Act.put, List.setIfInBounds_toArray, List.set_cons_zero, List.set_cons_succ, i64_w, i32_w]
        rfl
      refine done_ (by kernel_rfl) ?_
      go_wp2_with fail
      go_roundw
      case rel => exact ⟨q + 1, by omega, by go_num, ⟨by rw [HST2.out]; have h := HO3.out; rw [List.length_append] at h; exact h⟩, HB3⟩
      case measure => simp [intOf]; omega
    · obtain rfl : q = n := by omega
      have hd : decide (q < q) = false := decide_eq_false (Nat.lt_irrefl q)
      have htk : l.take q = l := List.take_of_length_le (by rw [HN.out]; exact Nat.le_refl _)
      rw [htk] at HO
      have hcv := own_string (P := Tryd.prog) Tryd.underlying30 Tryd.underlying5 Tryd.underlying9 (Kd.own_of_R HO.out)
      go_wp2
      go_ret
      refine ⟨?_, HB.out⟩
      have e : (strOfNums (hexI l)) = ⟨(hexU l).toArray⟩ := by
        apply Go.WideShapes.bytes_inj
        rw [hexI_str]
      rw [← e]
      rfl
theorem and15_all : ∀ n : Fin 256, bits BinOp.and IntKind.u8 (n.val : Int) 15 = ((n.val % 16 : Nat) : Int) := by decide +kernel
theorem and15_u8 (m b : Nat) (hm : m < 256) (hb : m % 16 = b) : bits BinOp.and IntKind.u8 (m : Int) 15 = (b : Int) := by
  rw [← hb]; exact and15_all ⟨m, hm⟩
theorem lit1_R (w : World) (k : Int) : U8.R 5 (w.alloc (.cells #[.int .u8 k] 5)) w.heap.size (fun _ => True) (.slice (some ⟨w.heap.size, 0, none⟩) 1 1) [k] := by
  refine ⟨fun _ _ => trivial, [.int .u8 k], ⟨rfl, .inr ⟨w.heap.size, 1, #[.int .u8 k], rfl, Nat.le_refl _, heap_alloc_new w _, Nat.le_refl _, by decide, rfl, rfl⟩⟩, Reps.one (show U8.M _ _ _ k [.int .u8 k] from rfl) (Reps.none _ _)⟩
set_option maxHeartbeats 4000000 in
set_option maxRecDepth 100000 in
theorem Hex_calls (A : Option Addr) (c : Nat) (l : List Int) (w : World) (hC : U8.C w A l.length l) (hY : Byt l) (hl : l.length ≤ 1000000) :
    Calls Tryd.prog 29 #[.slice A l.length c] w fun e w' => e = .returned (.string ⟨(120 :: hexU l).toArray⟩) ∧ Below w.heap.size w w' := by
  have HR := Aside0.mk (Kd.reads_of_C (enc := Value.int .u8) (d := (0 : Int)) (h1 := fun _ => rfl) hC)
  have HY := Aside0.mk hY
  generalize hn : l.length = n at *
  have HN := Aside0.mk hn
  clear hC hY hn
  go_enter Tryd.func29, Tryd.ntmps29
  go_wp2
  have HX0 : Aside0 (U8.R 5 (w.alloc (.cells #[.int .u8 120] 5)) w.heap.size (fun _ => True) (.slice (some ⟨w.heap.size, 0, none⟩) 1 1) (120 :: hexI (l.take 0))) := ⟨lit1_R w 120⟩
  have HXB : Aside0 (Below w.heap.size w (w.alloc (.cells #[.int .u8 120] 5))) := ⟨(Below.refl _ _).alloc (Nat.le_refl _) _⟩
  go_loopw [3, 9] (fun v i wr => ∃ q : Nat, q ≤ n ∧ i = .int .i64 q ∧ Aside0 (U8.R 5 wr w.heap.size (fun _ => True) v (120 :: hexI (l.take q))) ∧ Aside0 (Below w.heap.size w wr)) (fun _ i _ => n - (intOf i).toNat)
  case atStart => exact ⟨0, Nat.zero_le _, rfl, HX0, HXB⟩
  case round =>
    obtain ⟨q, hq, rfl, HO, HB⟩ := hrel
    by_cases hlt : q < n
    · have hd : decide (q < n) = true := decide_eq_true hlt
      obtain ⟨A1, c1, rfl⟩ := Kd.R_slice HO.out
      obtain ⟨ad, rfl, hcs⟩ := HR.out.2.2 (by omega)
      have k00 := hcs q hlt
      have k0 := pw_cell_below HB.out k00
      have hql : q < l.length := by rw [HN.out]; exact hlt
      have hst := hexI_step l q hql
      have hxr : 0 ≤ l.getD q 0 ∧ l.getD q 0 < 256 := HY.out (l.getD q 0) (by simp [hql])
      have hlen := hexI_len (l.take q)
      rw [List.length_take, HN.out, Nat.min_eq_left hq] at hlen
      have HST := Aside0.mk hst
      generalize l.getD q 0 = x at *
      obtain ⟨m, rfl⟩ : ∃ m : Nat, x = (m : Int) := ⟨x.toNat, by omega⟩
      obtain ⟨a, ha⟩ : ∃ a, m / 16 = a := ⟨_, rfl⟩
      obtain ⟨b, hb⟩ : ∃ b, m % 16 = b := ⟨_, rfl⟩
      have ha16 : a < 16 := by omega
      have hb16 : b < 16 := by omega
      have hw1 : (m : Int).tdiv 16 = (a : Int) := by rw [Int.tdiv_eq_ediv_of_nonneg (by omega)]; omega
      have hw2 : (m : Int).tmod 16 = (b : Int) := by rw [Int.tmod_eq_emod_of_nonneg (by omega)]; omega
      have hs1 : (m : Int) / 16 = (a : Int) := by omega
      have hs2 := and15_u8 m b (by omega) hb
      have hw3 : IntKind.u8.wrap (a : Int) = (a : Int) := by rw [IntKind.wrap_u8]; omega
      have hw4 : IntKind.u8.wrap (b : Int) = (b : Int) := by rw [IntKind.wrap_u8]; omega
      have hx1 : ∀ (h : a < digs.size), ((digs[a]'h).toNat : Int) = ((hexD a).toNat : Int) := fun h => by rw [digs_at a ha16 h]
      have hx2 : ∀ (h : b < digs.size), ((digs[b]'h).toNat : Int) = ((hexD b).toNat : Int) := fun h => by rw [digs_at b hb16 h]
      unfold digs at hx1 hx2
      rw [Int.toNat_natCast, ha, hb] at hst
      have HST2 := Aside0.mk hst
      clear hst HST hcs hql hxr ha hb
      obtain ⟨da, hda⟩ : ∃ d : Int, ((hexD a).toNat : Int) = d := ⟨_, rfl⟩
      obtain ⟨db, hdb⟩ : ∃ d : Int, ((hexD b).toNat : Int) = d := ⟨_, rfl⟩
      rw [hda] at hx1
      rw [hdb] at hx2
      rw [hda, hdb] at HST2
      have hga : (0 : Int) ≤ (a : Int) := by omega
      have hgb : (0 : Int) ≤ (b : Int) := by omega
      have hla : ((a : Int) < 16) = True := eq_true (by omega)
      have hlb : ((b : Int) < 16) = True := eq_true (by omega)
      clear hda hdb
      have HLEN := Aside0.mk hlen
      clear hlen
      obtain ⟨hs, hhs⟩ : ∃ hs, hs = 120 :: hexI (l.take q) := ⟨_, rfl⟩
      have HST3 : Aside0 (120 :: hexI (l.take (q + 1)) = hs ++ [da, db]) := ⟨by rw [HST2.out, hhs]; rfl⟩
      have HLEN : Aside0 (hs.length = 2 * q + 1) := ⟨by rw [hhs, List.length_cons, HLEN.out]⟩
      rw [← hhs] at HO
      have hvl : (120 :: hexI (l.take q)).length = hs.length := by rw [hhs]
      rw [hvl]
      clear hhs hvl HST2
      have hln := HN.out
      have hlm : hs.length ≤ 2000000 := by rw [HLEN.out]; omega
      clear hln
      go_upto_region 5 with fail
      refine start_ (n := 10) (S := fun w' => True) (ds := []) #[false, false, false, false, false, false, false, false, false, false] (by kernel_rfl) rfl rfl trivial (fun hHeld => ?_)
      have HB0 : Aside0 (Below w.heap.size w wr.drew) := ⟨HB.out.drew⟩
      have HO0 : Aside0 (U8.R 5 wr.drew w.heap.size (fun _ => True) (.slice A1 hs.length c1) hs) := ⟨Kd.R_below HO.out (Below.refl wr.heap.size wr).drew⟩
      generalize wr.drew = W0 at HB0 HO0 ⊢
      refine pure_ (i := 0) (N := some 13) (v := ?_) (a' := ?_) #[true, false, false, false, false, false, false, false, false, false] rfl rfl (by kernel_rfl) (fun _ _ _ h => h) (Or.inl ⟨by rfl, ?_⟩) ?_ ?_
      rotate_left
      · intro w'
        go_simp
        with_reducible rfl
      rotate_left
      · simp only [Act.put, List.setIfInBounds_toArray, List.set_cons_zero, List.set_cons_succ, i64_w, i32_w]
        rfl
      refine pure_ (i := 1) (N := some 14) (v := ?_) (a' := ?_) #[true, true, false, false, false, false, false, false, false, false] rfl rfl (by kernel_rfl) (fun _ _ _ h => h) (Or.inl ⟨by rfl, ?_⟩) ?_ ?_
      rotate_left
      · intro w'
        go_simp
        with_reducible rfl
      rotate_left
      · simp only [Act.put, List.setIfInBounds_toArray, List.set_cons_zero, List.set_cons_succ, i64_w, i32_w]
        rfl
      refine pure_ (i := 2) (N := some 15) (v := ?_) (a' := ?_) #[true, true, true, false, false, false, false, false, false, false] rfl rfl (by kernel_rfl) (fun _ _ _ h => h) (Or.inl ⟨by rfl, ?_⟩) ?_ ?_
      rotate_left
      · intro w'
        go_simp
        with_reducible rfl
      rotate_left
      · simp only [Act.put, List.setIfInBounds_toArray, List.set_cons_zero, List.set_cons_succ, i64_w, i32_w]
        rfl
      refine pure_ (i := 4) (N := some 17) (v := ?_) (a' := ?_) #[true, true, true, false, true, false, false, false, false, false] rfl rfl (by kernel_rfl) (fun _ _ _ h => h) (Or.inl ⟨by rfl, ?_⟩) ?_ ?_
      rotate_left
      · intro w'
        go_simp
        with_reducible rfl
      rotate_left
      · simp only [Act.put, List.setIfInBounds_toArray, List.set_cons_zero, List.set_cons_succ, i64_w, i32_w]
        rfl
      refine pure_ (i := 5) (N := some 18) (v := ?_) (a' := ?_) #[true, true, true, false, true, true, false, false, false, false] rfl rfl (by kernel_rfl) (fun _ _ _ h => h) (Or.inl ⟨by rfl, ?_⟩) ?_ ?_
      rotate_left
      · intro w'
        go_simp
        with_reducible rfl
      rotate_left
      · simp only [Act.put, List.setIfInBounds_toArray, List.set_cons_zero, List.set_cons_succ, i64_w, i32_w]
        rfl
      refine take_ (i := 3) (N := some 16) (v := ?_) (a' := ?_) #[true, true, true, true, true, true, false, false, false, false] rfl rfl (by kernel_rfl) (fun _ _ _ h => h) (Or.inl ⟨by rfl, ?_⟩) hHeld ?_ ?_
      rotate_left
      · intro w' _
        go_simp
        with_reducible rfl
      rotate_left
      · simp only [Act.put, List.setIfInBounds_toArray, List.set_cons_zero, List.set_cons_succ, i64_w, i32_w]
        rfl
      refine take_ (i := 6) (N := some 19) (v := ?_) (a' := ?_) #[true, true, true, true, true, true, true, false, false, false] rfl rfl (by kernel_rfl) (fun _ _ _ h => h) (Or.inl ⟨by rfl, ?_⟩) hHeld ?_ ?_
      rotate_left
      · intro w' _
        go_simp
        with_reducible rfl
      rotate_left
      · simp only [Act.put, List.setIfInBounds_toArray, List.set_cons_zero, List.set_cons_succ, i64_w, i32_w]
        rfl
      refine one_ (i := 7) (N := some 20) #[true, true, true, true, true, true, true, true, false, false] rfl rfl (by kernel_rfl) (by decide) (fun K hK => ?_)
      refine value_ (w1 := ?_) (v := ?_) (by rfl) rfl ?_ ?_
      rotate_left 2
      · go_simp
        constructor
        · rfl
        · rfl
      have HC := Aside0.mk (two_C W0 da db)
      have HB1 : Aside0 (Below w.heap.size w (W0.alloc (.cells #[.int .u8 da, .int .u8 db] 5))) := ⟨HB0.out.alloc HB0.out.size _⟩
      have HO1 : Aside0 (U8.R 5 (W0.alloc (.cells #[.int .u8 da, .int .u8 db] 5)) w.heap.size (fun _ => True) (.slice A1 hs.length c1) hs) := ⟨Kd.R_below HO0.out ((Below.refl _ _).alloc (Nat.le_refl _) _)⟩
      generalize W0.alloc (.cells #[.int .u8 da, .int .u8 db] 5) = V1 at HC HB1 HO1 ⊢
      generalize W0.heap.size = g at HC ⊢
      refine hK.out _ _ trivial (fun hHeld => ?_)
      clear hK K
      refine norm_ (a' := ?_) ?_ ?_
      rotate_left
      · show Act.put _ (some 20) _ = _
        simp only [Act.put, List.setIfInBounds_toArray, List.set_cons_zero, List.set_cons_succ, i64_w, i32_w]
        rfl
      refine one_ (i := 8) (N := some 21) #[true, true, true, true, true, true, true, true, true, false] rfl rfl (by kernel_rfl) (by decide) (fun K hK => ?_)
      refine Kd.R_append_rows_step U8 (w0 := w) (Rr := U8.K V1) w.heap.size (by rfl) (.tmp 13) (.tmp 20) 30 5 (.int .u8 0) 1 rfl Tryd.underlying30 info5' rfl (by decide) (by decide) (.slice A1 hs.length c1) hs [da, db] (some ⟨g, 0, none⟩) 2 2 (fun _ => True) (fun _ => False) rfl rfl HO1.out HC.out (fun _ _ h => h) (fun _ h => h.elim) (fun _ _ => trivial) HB1.out HB1.out.size (by omega) ?_
      intro v3 w3 ho3 hb3 _ _
      obtain ⟨A3, c3, e3⟩ := Kd.R_slice ho3
      subst e3
      have HO3 := Aside0.mk ho3
      have HB3 := Aside0.mk hb3
      clear ho3 hb3
      refine hK.out _ _ trivial (fun hHeld => ?_)
      clear hK K
      refine norm_ (a' := ?_) ?_ ?_
      rotate_left
      · show Act.put _ (some 21) _ = _
        simp only [Act.put, List.setIfInBounds_toArray, List.set_cons_zero, List.set_cons_succ, i64_w, i32_w]
        rfl
      refine pure_ (i := 9) (N := some 3) (v := ?_) (a' := ?_) #[true, true, true, true, true, true, true, true, true, true] rfl rfl (by kernel_rfl) (fun _ _ _ h => h) (Or.inl ⟨by rfl, ?_⟩) ?_ ?_
      rotate_left
      · intro w'
        go_simp
        with_reducible rfl
      rotate_left
      · simp only [Act.put, List.setIfInBounds_toArray, List.set_cons_zero, List.set_cons_succ, i64_w, i32_w]
        rfl
      refine done_ (by kernel_rfl) ?_
      go_wp2_with fail
      go_roundw
      case rel => exact ⟨q + 1, by omega, by go_num, ⟨by rw [HST3.out]; have h := HO3.out; rw [List.length_append] at h; exact h⟩, HB3⟩
      case measure => simp [intOf]; omega
    · obtain rfl : q = n := by omega
      have hd : decide (q < q) = false := decide_eq_false (Nat.lt_irrefl q)
      have htk : l.take q = l := List.take_of_length_le (by rw [HN.out]; exact Nat.le_refl _)
      rw [htk] at HO
      have hcv := own_string (P := Tryd.prog) Tryd.underlying30 Tryd.underlying5 Tryd.underlying9 (Kd.own_of_R HO.out)
      go_wp2
      go_ret
      refine ⟨?_, HB.out⟩
      have e : (strOfNums (120 :: hexI l)) = ⟨(120 :: hexU l).toArray⟩ := by
        apply Go.WideShapes.bytes_inj
        rw [strOfNums_data, List.map_cons, ← hexI_str, strOfNums_data]
        rfl
      rw [← e]
      rfl
end Go.Proofs.YtganhhhkmcmngaaDoor.Sc
