/- Scripts: the law's own digits. -/
import Derived.Test.YtganhhhkmcmngaaDoorProg
import Derived.Below
import Derived.Deep.Draws
import Derived.Deep.AppendLies
import Derived.Maps.AppendAt
import Derived.OwnWalk
import Derived.Laws.BytesArg
import Derived.Laws.MakeOwn
import Derived.Laws.OwnMore
import Derived.Deep.OwnRows
import Derived.Tactics
import Derived.Lib.ConvBytes
import Derived.Laws.Slices
import Derived.WalkKit
import Derived.KernelRfl
import Derived.RowKit3
import Derived.Deep.LoopGhost
import Derived.Deep.QuietTactic
import Derived.BigQuiet
import Derived.WideLaws
import Derived.Deep.DeepCutAuto
import Derived.Deep.CutBlock
import Derived.Deep.RegionHeld3
import Derived.Laws.Rows
import Derived.Lib.AppendStr
import Derived.ArgAppend
import Derived.Laws.IdiomCopy
import Derived.OrdersHeld
import Derived.Laws.BitsLemmas
import Derived.RowKit
import Derived.Test.YtganhhhkmcmngaaDoorWWords
import Derived.Test.YtganhhhkmcmngaaDoorWLast
import Derived.Test.YtganhhhkmcmngaaDoorWTab
import Derived.Test.YtganhhhkmcmngaaDoorWFour
import Derived.Test.YtganhhhkmcmngaaDoorWQPut
import Derived.Test.YtganhhhkmcmngaaDoorWApart
import Derived.Test.YtganhhhkmcmngaaDoorWArr
import Derived.Test.YtganhhhkmcmngaaDoorWZeros
import Derived.Test.YtganhhhkmcmngaaDoorWFoot
import Derived.Test.YtganhhhkmcmngaaDoorWKept
import Derived.Test.YtganhhhkmcmngaaDoorWShare
import Derived.Test.YtganhhhkmcmngaaDoorWN
import Derived.Test.YtganhhhkmcmngaaDoorWFootNe
import Derived.Test.YtganhhhkmcmngaaDoorWAt
import Derived.Test.YtganhhhkmcmngaaDoorWEqStruct
import Derived.Test.YtganhhhkmcmngaaDoorWRepsOne
import Derived.Test.YtganhhhkmcmngaaDoorWInv
import Derived.Test.YtganhhhkmcmngaaDoorWInvWords
import Derived.Test.YtganhhhkmcmngaaDoorWGuard
import Derived.Test.YtganhhhkmcmngaaDoorWNEv
import Derived.Test.YtganhhhkmcmngaaDoorWMore
import Derived.Test.YtganhhhkmcmngaaDoorSc1
namespace Go.Proofs.YtganhhhkmcmngaaDoor.Sc
open Go.RowKit Go.Proofs.YtganhhhkmcmngaaDoorW.PrintWords Go.Proofs.YtganhhhkmcmngaaDoorW.PrintLast Go.Proofs.YtganhhhkmcmngaaDoorW.PrintMore
attribute [local go_sem] max2_int min2_int max_two min_two max_three min_three max_four min_four
set_option linter.unusedVariables false
set_option linter.unusedSimpArgs false
open Go.Shelf
theorem one_C (W : World) (k : Int) : Kd.C (Kd.int .u8) (W.alloc (.cells #[.int .u8 k] 5)) (some ⟨W.heap.size, 0, none⟩) ([k] : List Int).length [k] := by
  refine Kd.C_of_reads (d := (0 : Int)) ⟨rfl, by show (1 : Nat) ≤ _; decide, fun _ => ⟨_, rfl, fun j hj => ?_⟩⟩
  have : j = 0 := by simp at hj; omega
  subst this
  rw [add_plain]
  have h := heap_alloc_new W (.cells #[.int .u8 k] 5)
  simp only [World.cell?, h]
  rfl
theorem conv_C {W : World} {A : Option Addr} {c : Nat} {l : List Int} (h : Kd.C (Kd.int .u8) W A l.length l) : (convert 30 9 (.slice A l.length c)).run Tryd.prog W = .ok (.string (strOfNums l)) W := Kd.C_string (P := Tryd.prog) Tryd.underlying30 Tryd.underlying5 Tryd.underlying9 h
theorem dec_small (n : Nat) (h : n < 10) : (⟨(Lib.decDigits n).toArray⟩ : ByteArray) = strOfNums [48 + (n : Int)] := by
  rw [Lib.decDigits, dif_pos h]
  have : (48 + (n : Int)).toNat = 48 + n := by omega
  simp [strOfNums, this]
theorem dec_big (n : Nat) (h : ¬ n < 10) : (⟨(Lib.decDigits n).toArray⟩ : ByteArray) = ⟨(Lib.decDigits (n / 10)).toArray⟩ ++ strOfNums [48 + (n : Int) % 10] := by
  rw [Lib.decDigits, dif_neg h]
  have : (48 + (n : Int) % 10).toNat = 48 + n % 10 := by omega
  apply Go.WideShapes.bytes_inj
  simp [strOfNums, this]
theorem dec_short (n : Nat) (h : n < 18446744073709551616) : (Lib.decDigits n).length ≤ 20 := by
  rw [Lib.decDigits_length]
  rcases Nat.eq_zero_or_pos n with h0 | h0
  · subst h0
    rw [Lib.nDigits_small (by decide)]
    decide
  · have := Lib.numDigits_eq n h0 h; split at this <;> omega
set_option maxHeartbeats 2000000 in
set_option maxRecDepth 100000 in
theorem dec_calls (n : Nat) : ∀ (w : World), n < 18446744073709551616 → Calls Tryd.prog 14 #[.int .u64 n] w fun e w' => e = .returned (.string ⟨(Lib.decDigits n).toArray⟩) ∧ Below w.heap.size w w' := by
  induction n using Nat.strongRecOn with
  | _ n ih =>
  intro w hn
  by_cases h : n < 10
  · have d1 : decide ((n : Int) < 10) = true := decide_eq_true (by omega)
    have hcv := conv_C (c := 1) (one_C w (48 + (n : Int)))
    simp only [List.length_cons, List.length_nil, Nat.zero_add] at hcv
    have HE := Aside0.mk (dec_small n h)
    go_enter Tryd.func14, Tryd.ntmps14
    go_wp2_with fail
    go_ret
    exact ⟨by rw [HE.out]; rfl, (Below.refl _ _).alloc (Nat.le_refl _) _⟩
  · have d1 : decide ((n : Int) < 10) = false := decide_eq_false (by omega)
    have HI : Aside0 (∀ w, Calls Tryd.prog 14 #[.int .u64 ((n : Int) / 10)] w fun e w' => e = .returned (.string ⟨(Lib.decDigits (n / 10)).toArray⟩) ∧ Below w.heap.size w w') := ⟨fun w => by
      have h2 := ih (n / 10) (by omega) w (by omega)
      rwa [Int.natCast_ediv] at h2⟩
    have HE := Aside0.mk (dec_big n h)
    have HB : Aside0 (Below w.heap.size w w.drew) := ⟨(Below.refl _ _).drew⟩
    have hsz : (⟨(Lib.decDigits (n / 10)).toArray⟩ : ByteArray).size + (strOfNums [48 + (n : Int) % 10]).size ≤ 9223372036854775807 := by
      have := dec_short (n / 10) (by omega)
      show (Lib.decDigits (n / 10)).toArray.size + 1 ≤ _
      simp
      omega
    have hw1 : IntKind.u64.wrap ((n : Int) / 10) = (n : Int) / 10 := by rw [IntKind.wrap_u64]; omega
    have hw2 : (n : Int).tmod 10 = (n : Int) % 10 := Int.tmod_eq_emod_of_nonneg (by omega)
    have hw3 : IntKind.u8.wrap ((n : Int) % 10) = (n : Int) % 10 := by unfold IntKind.wrap; simp [IntKind.bits]; omega
    have hw4 : IntKind.u8.wrap (48 + (n : Int) % 10) = 48 + (n : Int) % 10 := by unfold IntKind.wrap; simp [IntKind.bits]; omega
    obtain ⟨ks, hks⟩ : ∃ ks, strOfNums [48 + (n : Int) % 10] = ks := ⟨_, rfl⟩
    have HKS := Aside0.mk hks
    rw [hks] at hsz HE
    generalize (⟨(Lib.decDigits (n / 10)).toArray⟩ : ByteArray) = ds at HI HE hsz
    have hsz2 : (9223372036854775807 < ds.size + ks.size) = False := eq_false (by omega)
    clear ih hks
    go_enter Tryd.func14, Tryd.ntmps14
    go_upto_region 3 with fail
    refine start_ (n := 11) (S := fun w' => True) (ds := []) #[false, false, false, false, false, false, false, false, false, false, false] (by kernel_rfl) rfl rfl trivial (fun hHeld => ?_)
    generalize w.drew = w9 at HB ⊢
    refine pure_ (i := 0) (N := some 10) (v := ?_) (a' := ?_) #[true, false, false, false, false, false, false, false, false, false, false] rfl rfl (by kernel_rfl) (fun _ _ _ h => h) (Or.inl ⟨by rfl, ?_⟩) ?_ ?_
    rotate_left
    · intro w'
      go_simp
      with_reducible rfl
    rotate_left
    · simp only [Act.put, List.setIfInBounds_toArray, List.set_cons_zero, List.set_cons_succ, i64_w, i32_w]
      rfl
    refine pure_ (i := 1) (N := some 11) (v := ?_) (a' := ?_) #[true, true, false, false, false, false, false, false, false, false, false] rfl rfl (by kernel_rfl) (fun _ _ _ h => h) (Or.inl ⟨by rfl, ?_⟩) ?_ ?_
    rotate_left
    · intro w'
      go_simp
      with_reducible rfl
    rotate_left
    · simp only [Act.put, List.setIfInBounds_toArray, List.set_cons_zero, List.set_cons_succ, i64_w, i32_w]
      rfl
    refine pure_ (i := 3) (N := some 13) (v := ?_) (a' := ?_) #[true, true, false, true, false, false, false, false, false, false, false] rfl rfl (by kernel_rfl) (fun _ _ _ h => h) (Or.inl ⟨by rfl, ?_⟩) ?_ ?_
    rotate_left
    · intro w'
      go_simp
      with_reducible rfl
    rotate_left
    · simp only [Act.put, List.setIfInBounds_toArray, List.set_cons_zero, List.set_cons_succ, i64_w, i32_w]
      rfl
    refine pure_ (i := 4) (N := some 14) (v := ?_) (a' := ?_) #[true, true, false, true, true, false, false, false, false, false, false] rfl rfl (by kernel_rfl) (fun _ _ _ h => h) (Or.inl ⟨by rfl, ?_⟩) ?_ ?_
    rotate_left
    · intro w'
      go_simp
      with_reducible rfl
    rotate_left
    · simp only [Act.put, List.setIfInBounds_toArray, List.set_cons_zero, List.set_cons_succ, i64_w, i32_w]
      rfl
    refine pure_ (i := 5) (N := some 15) (v := ?_) (a' := ?_) #[true, true, false, true, true, true, false, false, false, false, false] rfl rfl (by kernel_rfl) (fun _ _ _ h => h) (Or.inl ⟨by rfl, ?_⟩) ?_ ?_
    rotate_left
    · intro w'
      go_simp
      with_reducible rfl
    rotate_left
    · simp only [Act.put, List.setIfInBounds_toArray, List.set_cons_zero, List.set_cons_succ, i64_w, i32_w]
      rfl
    refine pure_ (i := 6) (N := some 16) (v := ?_) (a' := ?_) #[true, true, false, true, true, true, true, false, false, false, false] rfl rfl (by kernel_rfl) (fun _ _ _ h => h) (Or.inl ⟨by rfl, ?_⟩) ?_ ?_
    rotate_left
    · intro w'
      go_simp
      with_reducible rfl
    rotate_left
    · simp only [Act.put, List.setIfInBounds_toArray, List.set_cons_zero, List.set_cons_succ, i64_w, i32_w]
      rfl
    refine join_ (σ := Value) 2 #[true, true, true, true, true, true, true, true, true, false, false] (fun s_ => [(12, .string ds), (17, s_), (18, .string ks)]) (fun s_ w' => Below w.heap.size w w') ?_ ?_
    rotate_left
    · intro hCont
      refine two_ (i := 2) (j := 7) (Ni := some 12) (Nj := some 17) #[true, true, true, true, true, true, true, false, false, false, false] #[true, true, false, true, true, true, true, true, false, false, false] rfl rfl rfl rfl (by kernel_rfl) (by decide) (by decide) (fun K hK => ?_) (fun K hK => ?_)
      · skip
        refine goes_ Tryd.func14 (by kernel_rfl) rfl #[.int .u64 (n / 10)] (by rfl) rfl rfl (by simp only [List.map_toArray, List.map_cons, List.map_nil]; rfl) ?_
        with_reducible refine (HI.out _).mono ?_
        rintro e w10 ⟨rfl, hb⟩
        refine ⟨_, rfl, ?_⟩
        have n0_ := Aside0.mk (HB.out.trans (hb.mono HB.out.size))
        clear HB
        have HB := n0_
        clear n0_
        clear hb
        refine hK.out _ _ trivial (fun hHeld => ?_)
        clear hK K
        refine norm_ (a' := ?_) ?_ ?_
        rotate_left
        · show Act.put _ (some 12) _ = _
          simp only [Act.put, List.setIfInBounds_toArray, List.set_cons_zero, List.set_cons_succ, i64_w, i32_w]
          rfl
        refine one_ (i := 7) (N := some 17) #[true, true, true, true, true, true, true, true, false, false, false] rfl rfl (by kernel_rfl) (by decide) (fun K hK => ?_)
        refine value_ (w1 := ?_) (v := ?_) (by rfl) rfl ?_ ?_
        rotate_left 2
        · go_simp
          constructor
          · rfl
          · rfl
        have HC := Aside0.mk (one_C w10 (48 + (n : Int) % 10))
        have n0_ : Aside0 (Below w.heap.size w (w10.alloc (.cells #[.int .u8 (48 + (n : Int) % 10)] 5))) := ⟨HB.out.alloc HB.out.size _⟩
        clear HB
        have HB := n0_
        clear n0_
        generalize w10.alloc (.cells #[.int .u8 (48 + (n : Int) % 10)] 5) = w11 at HB HC ⊢
        generalize w10.heap.size = g at HC ⊢
        refine hK.out _ _ trivial (fun hHeld => ?_)
        clear hK K
        refine norm_ (a' := ?_) ?_ ?_
        rotate_left
        · show Act.put _ (some 17) _ = _
          simp only [Act.put, List.setIfInBounds_toArray, List.set_cons_zero, List.set_cons_succ, i64_w, i32_w]
          rfl
        refine one_ (i := 8) (N := some 18) #[true, true, true, true, true, true, true, true, true, false, false] rfl rfl (by kernel_rfl) (by decide) (fun K hK => ?_)
        have hcv := conv_C (c := 1) HC.out
        simp only [List.length_cons, List.length_nil, Nat.zero_add] at hcv
        rw [HKS.out] at hcv
        refine value_ (w1 := ?_) (v := ?_) (by rfl) rfl ?_ ?_
        rotate_left 2
        · go_simp
          constructor
          · rfl
          · rfl
        clear hcv
        refine hK.out _ _ trivial (fun hHeld => ?_)
        clear hK K
        refine norm_ (a' := ?_) ?_ ?_
        rotate_left
        · show Act.put _ (some 18) _ = _
          simp only [Act.put, List.setIfInBounds_toArray, List.set_cons_zero, List.set_cons_succ, i64_w, i32_w]
          rfl
        exact norm_ (by simp only [putAll, Act.put, List.setIfInBounds_toArray, List.set_cons_zero, List.set_cons_succ]) (hCont (.slice (some ⟨g, 0, none⟩) 1 1) _ HB.out)
      · skip
        refine value_ (w1 := ?_) (v := ?_) (by rfl) rfl ?_ ?_
        rotate_left 2
        · go_simp
          constructor
          · rfl
          · rfl
        have HC := Aside0.mk (one_C w9 (48 + (n : Int) % 10))
        have n0_ : Aside0 (Below w.heap.size w (w9.alloc (.cells #[.int .u8 (48 + (n : Int) % 10)] 5))) := ⟨HB.out.alloc HB.out.size _⟩
        clear HB
        have HB := n0_
        clear n0_
        generalize w9.alloc (.cells #[.int .u8 (48 + (n : Int) % 10)] 5) = w10 at HB HC ⊢
        generalize w9.heap.size = g at HC ⊢
        refine hK.out _ _ trivial (fun hHeld => ?_)
        clear hK K
        refine norm_ (a' := ?_) ?_ ?_
        rotate_left
        · show Act.put _ (some 17) _ = _
          simp only [Act.put, List.setIfInBounds_toArray, List.set_cons_zero, List.set_cons_succ, i64_w, i32_w]
          rfl
        refine two_ (i := 2) (j := 8) (Ni := some 12) (Nj := some 18) #[true, true, true, true, true, true, true, true, false, false, false] #[true, true, false, true, true, true, true, true, true, false, false] rfl rfl rfl rfl (by kernel_rfl) (by decide) (by decide) (fun K hK => ?_) (fun K hK => ?_)
        · skip
          refine goes_ Tryd.func14 (by kernel_rfl) rfl #[.int .u64 (n / 10)] (by rfl) rfl rfl (by simp only [List.map_toArray, List.map_cons, List.map_nil]; rfl) ?_
          with_reducible refine (HI.out _).mono ?_
          rintro e w11 ⟨rfl, hb⟩
          refine ⟨_, rfl, ?_⟩
          have n0_ := Aside0.mk (HB.out.trans (hb.mono HB.out.size))
          clear HB
          have HB := n0_
          clear n0_
          have n0_ := Aside0.mk (Kd.C_below HC.out hb)
          clear HC
          have HC := n0_
          clear n0_
          clear hb
          refine hK.out _ _ trivial (fun hHeld => ?_)
          clear hK K
          refine norm_ (a' := ?_) ?_ ?_
          rotate_left
          · show Act.put _ (some 12) _ = _
            simp only [Act.put, List.setIfInBounds_toArray, List.set_cons_zero, List.set_cons_succ, i64_w, i32_w]
            rfl
          refine one_ (i := 8) (N := some 18) #[true, true, true, true, true, true, true, true, true, false, false] rfl rfl (by kernel_rfl) (by decide) (fun K hK => ?_)
          have hcv := conv_C (c := 1) HC.out
          simp only [List.length_cons, List.length_nil, Nat.zero_add] at hcv
          rw [HKS.out] at hcv
          refine value_ (w1 := ?_) (v := ?_) (by rfl) rfl ?_ ?_
          rotate_left 2
          · go_simp
            constructor
            · rfl
            · rfl
          clear hcv
          refine hK.out _ _ trivial (fun hHeld => ?_)
          clear hK K
          refine norm_ (a' := ?_) ?_ ?_
          rotate_left
          · show Act.put _ (some 18) _ = _
            simp only [Act.put, List.setIfInBounds_toArray, List.set_cons_zero, List.set_cons_succ, i64_w, i32_w]
            rfl
          exact norm_ (by simp only [putAll, Act.put, List.setIfInBounds_toArray, List.set_cons_zero, List.set_cons_succ]) (hCont (.slice (some ⟨g, 0, none⟩) 1 1) _ HB.out)
        · skip
          have hcv := conv_C (c := 1) HC.out
          simp only [List.length_cons, List.length_nil, Nat.zero_add] at hcv
          rw [HKS.out] at hcv
          refine value_ (w1 := ?_) (v := ?_) (by rfl) rfl ?_ ?_
          rotate_left 2
          · go_simp
            constructor
            · rfl
            · rfl
          clear hcv
          refine hK.out _ _ trivial (fun hHeld => ?_)
          clear hK K
          refine norm_ (a' := ?_) ?_ ?_
          rotate_left
          · show Act.put _ (some 18) _ = _
            simp only [Act.put, List.setIfInBounds_toArray, List.set_cons_zero, List.set_cons_succ, i64_w, i32_w]
            rfl
          refine one_ (i := 2) (N := some 12) #[true, true, true, true, true, true, true, true, true, false, false] rfl rfl (by kernel_rfl) (by decide) (fun K hK => ?_)
          refine goes_ Tryd.func14 (by kernel_rfl) rfl #[.int .u64 (n / 10)] (by rfl) rfl rfl (by simp only [List.map_toArray, List.map_cons, List.map_nil]; rfl) ?_
          with_reducible refine (HI.out _).mono ?_
          rintro e w12 ⟨rfl, hb⟩
          refine ⟨_, rfl, ?_⟩
          have n0_ := Aside0.mk (HB.out.trans (hb.mono HB.out.size))
          clear HB
          have HB := n0_
          clear n0_
          clear hb
          refine hK.out _ _ trivial (fun hHeld => ?_)
          clear hK K
          refine norm_ (a' := ?_) ?_ ?_
          rotate_left
          · show Act.put _ (some 12) _ = _
            simp only [Act.put, List.setIfInBounds_toArray, List.set_cons_zero, List.set_cons_succ, i64_w, i32_w]
            rfl
          exact norm_ (by simp only [putAll, Act.put, List.setIfInBounds_toArray, List.set_cons_zero, List.set_cons_succ]) (hCont (.slice (some ⟨g, 0, none⟩) 1 1) _ HB.out)
    rintro s_ w10 hb10
    have HB2 := Aside0.mk hb10
    clear hb10
    refine norm_ (a' := ?_) ?_ ?_
    rotate_left
    · simp only [putAll, Act.put, List.setIfInBounds_toArray, List.set_cons_zero, List.set_cons_succ]
      rfl
    refine pure_ (i := 9) (N := some 19) (v := ?_) (a' := ?_) #[true, true, true, true, true, true, true, true, true, true, false] rfl rfl (by kernel_rfl) (fun _ _ _ h => h) (Or.inl ⟨by rfl, ?_⟩) ?_ ?_
    rotate_left
    · intro w'
      go_simp
      with_reducible rfl
    rotate_left
    · simp only [Act.put, List.setIfInBounds_toArray, List.set_cons_zero, List.set_cons_succ, i64_w, i32_w]
      rfl
    refine pure_ (i := 10) (N := some 2) (v := ?_) (a' := ?_) #[true, true, true, true, true, true, true, true, true, true, true] rfl rfl (by kernel_rfl) (fun _ _ _ h => h) (Or.inl ⟨by rfl, ?_⟩) ?_ ?_
    rotate_left
    · intro w'
      go_simp
      with_reducible rfl
    rotate_left
    · simp only [Act.put, List.setIfInBounds_toArray, List.set_cons_zero, List.set_cons_succ, i64_w, i32_w]
      rfl
    refine done_ (by kernel_rfl) ?_
    go_wp2_with fail
    go_ret
    exact ⟨by rw [HE.out]; rfl, HB2.out⟩
end Go.Proofs.YtganhhhkmcmngaaDoor.Sc
