/- Scripts: bytes read from digits. -/
import Derived.Test.YtganhhhkmcmngaaDoorProg
import Derived.Below
import Derived.Deep.Draws
import Derived.Deep.AppendLies
import Derived.Maps.AppendAt
import Derived.OwnWalk
import Derived.Laws.BytesArg
import Derived.Laws.MakeOwn
import Derived.Laws.OwnMore
import Derived.Deep.OwnRows
import Derived.Tactics
import Derived.Lib.ConvBytes
import Derived.Laws.Slices
import Derived.WalkKit
import Derived.KernelRfl
import Derived.RowKit3
import Derived.Deep.LoopGhost
import Derived.Deep.QuietTactic
import Derived.BigQuiet
import Derived.WideLaws
import Derived.Deep.DeepCutAuto
import Derived.Deep.CutBlock
import Derived.Deep.RegionHeld3
import Derived.Laws.Rows
import Derived.Lib.AppendStr
import Derived.ArgAppend
import Derived.Laws.IdiomCopy
import Derived.OrdersHeld
import Derived.Laws.BitsLemmas
import Derived.RowKit
import Derived.Test.YtganhhhkmcmngaaDoorWWords
import Derived.Test.YtganhhhkmcmngaaDoorWLast
import Derived.Test.YtganhhhkmcmngaaDoorWTab
import Derived.Test.YtganhhhkmcmngaaDoorWFour
import Derived.Test.YtganhhhkmcmngaaDoorWQPut
import Derived.Test.YtganhhhkmcmngaaDoorWApart
import Derived.Test.YtganhhhkmcmngaaDoorWArr
import Derived.Test.YtganhhhkmcmngaaDoorWZeros
import Derived.Test.YtganhhhkmcmngaaDoorWFoot
import Derived.Test.YtganhhhkmcmngaaDoorWKept
import Derived.Test.YtganhhhkmcmngaaDoorWShare
import Derived.Test.YtganhhhkmcmngaaDoorWN
import Derived.Test.YtganhhhkmcmngaaDoorWFootNe
import Derived.Test.YtganhhhkmcmngaaDoorWAt
import Derived.Test.YtganhhhkmcmngaaDoorWEqStruct
import Derived.Test.YtganhhhkmcmngaaDoorWRepsOne
import Derived.Test.YtganhhhkmcmngaaDoorWInv
import Derived.Test.YtganhhhkmcmngaaDoorWInvWords
import Derived.Test.YtganhhhkmcmngaaDoorWGuard
import Derived.Test.YtganhhhkmcmngaaDoorWNEv
import Derived.Test.YtganhhhkmcmngaaDoorWMore
import Derived.Test.YtganhhhkmcmngaaDoorSc7
namespace Go.Proofs.YtganhhhkmcmngaaDoor.Sc
open Go.RowKit Go.Proofs.YtganhhhkmcmngaaDoorW.PrintWords Go.Proofs.YtganhhhkmcmngaaDoorW.PrintLast Go.Proofs.YtganhhhkmcmngaaDoorW.PrintMore
attribute [local go_sem] max2_int min2_int max_two min_two max_three min_three max_four min_four
set_option linter.unusedVariables false
set_option linter.unusedSimpArgs false
open Go.Shelf
def digL : List UInt8 := [48, 49, 50, 51, 52, 53, 54, 55, 56, 57, 97, 98, 99, 100, 101, 102]
def hexS (b : UInt8) : Bool := digL.contains b
theorem dig_ascii : ∀ b, b ∈ digL → b.toNat < 128 := by decide
theorem hexS_all : ∀ n : Fin 256, hexS (UInt8.ofNat n.val) = true → (48 ≤ n.val ∧ n.val ≤ 57) ∨ (97 ≤ n.val ∧ n.val ≤ 102) := by decide +kernel
theorem hexS_hex (b : UInt8) (h : hexS b = true) : IsHex b := by
  have e : UInt8.ofNat b.toNat = b := UInt8.ofNat_toNat
  have := hexS_all ⟨b.toNat, b.toNat_lt⟩ (by rw [show UInt8.ofNat (⟨b.toNat, b.toNat_lt⟩ : Fin 256).val = b from e]; exact h)
  exact this
def hexPairs : List UInt8 → Option (List Int)
  | [] => some []
  | [_] => none
  | x :: y :: l => if hexS x && hexS y then (hexPairs l).map fun r => ((16 * hexv x + hexv y : Nat) : Int) :: r else none
def hexP : List UInt8 → Option (List Int)
  | [] => none
  | c :: l => if c = 120 then hexPairs l else none
theorem hexPairs_some : ∀ (n : Nat) (l : List UInt8), l.length ≤ n → l.length % 2 = 0 → (∀ b, b ∈ l → hexS b = true) → ∃ v, hexPairs l = some v
  | _, [], _, _, _ => ⟨[], rfl⟩
  | _, [_], _, h, _ => by simp at h
  | 0, _ :: _ :: _, h, _, _ => by simp at h
  | n + 1, x :: y :: l, hn, h, ha => by
    obtain ⟨v, hv⟩ := hexPairs_some n l (by simp at hn; omega) (by simp at h; omega) fun b hb => ha b (by simp [hb])
    refine ⟨_, by rw [hexPairs, ha x (by simp), ha y (by simp), hv]; rfl⟩
theorem hexPairs_inv : ∀ (n : Nat) (l : List UInt8) (v : List Int), l.length ≤ n → hexPairs l = some v → l.length % 2 = 0 ∧ (∀ b, b ∈ l → hexS b = true)
  | _, [], _, _, _ => ⟨rfl, fun b hb => by simp at hb⟩
  | _, [_], _, _, h => by simp [hexPairs] at h
  | 0, _ :: _ :: _, _, h, _ => by simp at h
  | n + 1, x :: y :: l, v, hn, h => by
    rw [hexPairs] at h
    split at h
    · rename_i hxy
      simp at hxy
      cases hl : hexPairs l with
      | none => rw [hl] at h; simp at h
      | some r =>
        obtain ⟨h1, h2⟩ := hexPairs_inv n l r (by simp at hn; omega) hl
        refine ⟨by simp; omega, fun b hb => ?_⟩
        simp at hb
        rcases hb with rfl | rfl | hb
        · exact hxy.1
        · exact hxy.2
        · exact h2 b hb
    · simp at h
theorem dw_nil (p : UInt8 → Bool) : ∀ l : List UInt8, l.dropWhile p = [] → ∀ b, b ∈ l → p b = true
  | [], _, b, hb => by simp at hb
  | x :: l, h, b, hb => by
    rw [List.dropWhile_cons] at h
    split at h
    · rename_i hx
      rcases List.mem_cons.mp hb with rfl | hb
      · exact hx
      · exact dw_nil p l h b hb
    · simp at h
theorem dw_all (p : UInt8 → Bool) : ∀ l : List UInt8, (∀ b, b ∈ l → p b = true) → l.dropWhile p = []
  | [], _ => rfl
  | x :: l, h => by rw [List.dropWhile_cons, if_pos (h x (by simp))]; exact dw_all p l fun b hb => h b (by simp [hb])
theorem dw_head (p : UInt8 → Bool) : ∀ (l : List UInt8) (x : UInt8) (t : List UInt8), l.dropWhile p = x :: t → p x = false
  | [], _, _, h => by simp at h
  | y :: l, x, t, h => by
    rw [List.dropWhile_cons] at h
    split at h
    · exact dw_head p l x t h
    · rename_i hy
      injection h with h1 h2
      subst h1
      simpa using hy
theorem trim_nil (l cs : List UInt8) (h : Lib.trimS l cs = []) : ∀ b, b ∈ l → cs.contains b = true := by
  unfold Lib.trimS Lib.trimLeftS Lib.trimRightS at h
  have h1 := dw_nil _ _ h
  cases hr : l.reverse.dropWhile (cs.contains ·) with
  | nil => intro b hb; exact dw_nil _ _ hr b (by simpa using hb)
  | cons x t =>
    have h2 := dw_head _ _ x t hr
    have h3 := h1 x (by rw [hr]; simp)
    simp only [h3] at h2
    cases h2
theorem trim_all (l cs : List UInt8) (h : ∀ b, b ∈ l → cs.contains b = true) : Lib.trimS l cs = [] := by
  unfold Lib.trimS Lib.trimLeftS Lib.trimRightS
  rw [dw_all _ l.reverse fun b hb => h b (by simpa using hb)]
  rfl
theorem empty_iff (s : ByteArray) (l : List UInt8) (h : s.data.toList = l) : s.toList.isEmpty = l.isEmpty := by rw [Lib.toList_data, h]
set_option maxHeartbeats 4000000 in
set_option maxRecDepth 100000 in
theorem texts_calls (s : ByteArray) (hs : s.size ≤ 1000000) (w : World) :
    Calls Tryd.prog 25 #[.string s] w fun e w' => (∃ v ok, e = .returned (.tuple #[v, .bool ok]) ∧ ((hexP s.data.toList = none ∧ ok = false ∧ v = .slice none 0 0) ∨ ∃ l, hexP s.data.toList = some l ∧ ok = true ∧ U8.R 5 w' w.heap.size (fun _ => True) v l)) ∧ Below w.heap.size w w' := by
  have HCP := Tryd.strings_CutPrefix s ⟨#[120]⟩ w
  have hlen : s.data.toList.length = s.size := data_length s
  generalize hL : s.data.toList = L at *
  by_cases hp : Lib.hasPrefix L [120] = true
  · obtain ⟨T, rfl⟩ : ∃ T, L = 120 :: T := by
      cases L with
      | nil => simp [Lib.hasPrefix, List.isPrefixOf] at hp
      | cons c T => 
        simp [Lib.hasPrefix, List.isPrefixOf] at hp
        exact ⟨T, by rw [← hp]⟩
    have hP : hexP (120 :: T) = hexPairs T := by simp [hexP]
    have hTP : Lib.trimPrefix (120 :: T) [120] = T := by simp [Lib.trimPrefix, hp]
    have hTl : T.length < 1000000 := by simp at hlen; omega
    rw [show (⟨#[120]⟩ : ByteArray).data.toList = [120] from rfl, hTP, hp] at HCP
    rw [hP]
    obtain ⟨t, ht, htz⟩ := mk_str T
    have htd : t.data.toList = T := by rw [← ht]
    rw [ht] at HCP
    have HCP := Aside0.mk HCP
    clear hL hlen hp hP hTP ht
    by_cases hev : T.length % 2 = 0
    · have hm : (t.size : Int).tmod 2 = 0 := by rw [Int.tmod_eq_emod_of_nonneg (by omega), htz]; omega
      have HTR := Aside0.mk fun w => Tryd.strings_Trim_laid t ⟨#[48, 49, 50, 51, 52, 53, 54, 55, 56, 57, 97, 98, 99, 100, 101, 102]⟩ w (by omega) (by decide) (fun j b hb => dig_ascii b (List.mem_of_getElem? hb))
      rw [htd] at HTR
      rw [show (⟨#[48, 49, 50, 51, 52, 53, 54, 55, 56, 57, 97, 98, 99, 100, 101, 102]⟩ : ByteArray).data.toList = digL from rfl] at HTR
      by_cases htr : Lib.trimS T digL = []
      · have hall := trim_nil T digL htr
        obtain ⟨v, hv⟩ := hexPairs_some _ T (Nat.le_refl _) hev hall
        rw [hv, ]
        have HV := Aside0.mk hv
        have HALL : Aside0 (∀ b, b ∈ T → hexS b = true) := ⟨hall⟩
        rw [htr] at HTR
        have HTD := Aside0.mk htd
        have HTL := Aside0.mk hTl
        have HTZ := Aside0.mk htz
        clear hall hev htr hv htd hTl htz
        have hemp : (⟨([] : List UInt8).toArray⟩ : ByteArray).toList.isEmpty = true := by rw [Lib.toList_data]; rfl
        generalize (⟨([] : List UInt8).toArray⟩ : ByteArray) = em at *
        go_enter Tryd.func25, Tryd.ntmps25
        go_wp2_with fail
        refine HCP.out.mono ?_
        rintro e w0 ⟨rfl, hw0⟩
        rw [hw0]
        clear hw0
        go_wp2_with fail
        refine (HTR.out _).mono ?_
        rintro e w1 ⟨rfl, hb⟩
        have HB1 := Aside0.mk hb
        clear hb
        go_wp2_with fail
        go_loopw [4, 6] (fun si u wr => ∃ (R : List UInt8) (dn rv : List Int) (sv : ByteArray), si = .string sv ∧ sv.data.toList = R ∧ Aside0 (hexPairs R = some rv ∧ v = dn ++ rv ∧ (∀ b, b ∈ R → hexS b = true) ∧ R.length + dn.length ≤ 1000000) ∧ Aside0 (U8.R 5 wr w.heap.size (fun _ => True) u dn) ∧ Aside0 (Below w.heap.size w wr)) (fun si _ _ => match si with | .string s => s.data.toList.length | _ => 0)
        case atStart => exact ⟨T, [], v, t, rfl, HTD.out, ⟨HV.out, rfl, HALL.out, by have := HTL.out; simp; omega⟩, ⟨Kd.R_nil _ _ _ _ _⟩, HB1⟩
        case round =>
          obtain ⟨R, dn, rv, sv, rfl, hsv, HR, HO, HB⟩ := hrel
          cases R with
          | nil =>
            have hemp2 : sv.toList.isEmpty = true := by rw [Lib.toList_data, hsv]; rfl
            go_wp2_with fail
            go_ret2
            obtain ⟨hr1, hr2, _⟩ := HR.out
            simp [hexPairs] at hr1
            subst hr1
            exact ⟨⟨_, _, rfl, .inr ⟨v, rfl, rfl, by rw [hr2, List.append_nil]; exact HO.out⟩⟩, HB.out⟩
          | cons x R =>
            cases R with
            | nil => have := HR.out.1; simp [hexPairs] at this
            | cons y R =>
              have hemp2 : sv.toList.isEmpty = false := by rw [Lib.toList_data, hsv]; rfl
              have hsl : sv.size = R.length + 2 := by rw [← data_length, hsv]; rfl
              have hx : hexS x = true := HR.out.2.2.1 x (by simp)
              have hy : hexS y = true := HR.out.2.2.1 y (by simp)
              obtain ⟨r2, hr2, hrv⟩ : ∃ r2, hexPairs R = some r2 ∧ rv = ((nx x y 2 : Nat) : Int) :: r2 := by
                have h := HR.out.1
                rw [hexPairs, hx, hy] at h
                cases hq : hexPairs R with
                | none => rw [hq] at h; simp at h
                | some r2 => rw [hq] at h; simp at h; exact ⟨r2, rfl, by rw [← h]; simp [nx]⟩
              have HRN : Aside0 (hexPairs R = some r2 ∧ v = (dn ++ [((nx x y 2 : Nat) : Int)]) ++ r2 ∧ (∀ b, b ∈ R → hexS b = true) ∧ R.length + (dn ++ [((nx x y 2 : Nat) : Int)]).length ≤ 1000000) := ⟨hr2, by rw [HR.out.2.1, hrv]; simp, fun b hb => HR.out.2.2.1 b (by simp [hb]), by have h := HR.out.2.2.2; simp only [List.length_cons, List.length_append, List.length_nil] at h ⊢; omega⟩
              have HPU : Aside0 (∀ w, Calls Tryd.prog 24 #[.string (two x y), .int .i64 16, .int .i64 8] w fun e w' => e = .returned (.tuple #[.int .u64 (nx x y 2 : Nat), .nilIface]) ∧ Below w.heap.size w w') := ⟨fun w => pu16_calls x y (hexS_hex x hx) (hexS_hex y hy) w⟩
              have hnl := nx_lt (hexS_hex x hx) (hexS_hex y hy) 2
              have he1 : sv.extract 0 2 = two x y := by
                apply Go.WideShapes.bytes_inj
                rw [ByteArray.data_extract]
                rw [Array.toList_extract, hsv]
                rfl
              obtain ⟨s2, hs2⟩ : ∃ s2, sv.extract 2 (R.length + 2) = s2 := ⟨_, rfl⟩
              have hs2d : s2.data.toList = R := by
                rw [← hs2, ByteArray.data_extract, Array.toList_extract, hsv]
                simp [List.extract]
              have HS2 := Aside0.mk hs2d
              have HSV := Aside0.mk hsv
              obtain ⟨nr, hnr⟩ : ∃ nr, R.length = nr := ⟨_, rfl⟩
              rw [hnr] at hs2 hsl
              have HNR := Aside0.mk hnr
              generalize two x y = tw at *
              generalize nx x y 2 = N at *
              obtain ⟨A1, c1, rfl⟩ := Kd.R_slice HO.out
              have hwr : IntKind.u8.wrap (N : Int) = (N : Int) := by rw [IntKind.wrap_u8]; omega
              clear hx hy hr2 hrv hsv hs2d hnr hnl HR
              go_wp2_with fail
              refine (HPU.out _).mono ?_
              rintro e w2 ⟨rfl, hb⟩
              have HB2 : Aside0 (Below w.heap.size w w2) := ⟨HB.out.trans (hb.mono HB.out.size)⟩
              have HO2 : Aside0 (U8.R 5 w2 w.heap.size (fun _ => True) (.slice A1 dn.length c1) dn) := ⟨Kd.R_below HO.out hb⟩
              clear hb HO HB
              go_upto_region 8 with fail
              have HC := Aside0.mk (one_C w2 (N : Int))
              have HB3 : Aside0 (Below w.heap.size w (w2.alloc (.cells #[.int .u8 (N : Int)] 5))) := ⟨HB2.out.alloc HB2.out.size _⟩
              have HO3 : Aside0 (U8.R 5 (w2.alloc (.cells #[.int .u8 (N : Int)] 5)) w.heap.size (fun _ => True) (.slice A1 dn.length c1) dn) := ⟨Kd.R_below HO2.out ((Below.refl _ _).alloc (Nat.le_refl _) _)⟩
              have HDL : Aside0 (dn.length ≤ 1000000) := ⟨by have := HRN.out.2.2.2; rw [List.length_append] at this; omega⟩
              go_wp2_with (at_builtin; refine Kd.R_append_rows U8 (w0 := w) (Rr := U8.K _) w.heap.size rfl (.tmp 37) (.tmp 40) 30 5 (.int .u8 0) 1 rfl Tryd.underlying30 info5' rfl (by decide) (by decide) (.slice A1 dn.length c1) dn [(N : Int)] (some ⟨w2.heap.size, 0, none⟩) 1 1 (fun _ => True) (fun _ => False) rfl rfl HO3.out HC.out (fun _ _ h => h) (fun _ hk => hk.elim) (fun _ _ => trivial) HB3.out HB3.out.size (by have := HDL.out; omega) ?_; intro v4 w4 ho hb hg hat; have HO4 := Aside0.mk ho; have HB4 := Aside0.mk hb; clear ho hb hg hat)
              go_roundw
              case rel => exact ⟨R, dn ++ [(N : Int)], r2, s2, rfl, HS2.out, HRN, HO4, HB4⟩
              case measure =>
                show s2.data.toList.length < sv.data.toList.length
                rw [HS2.out, HSV.out]
                simp only [List.length_cons]
                omega
      · have HNO : Aside0 (hexPairs T = none) := ⟨by
          cases hq : hexPairs T with
          | none => rfl
          | some v => exact absurd (trim_all T digL (hexPairs_inv _ T v (Nat.le_refl _) hq).2) htr⟩
        have hemp : (⟨(Lib.trimS T digL).toArray⟩ : ByteArray).toList.isEmpty = false := by
          rw [Lib.toList_data]
          show (Lib.trimS T digL).isEmpty = false
          cases hq : Lib.trimS T digL with
          | nil => exact absurd hq htr
          | cons _ _ => rfl
        generalize (⟨(Lib.trimS T digL).toArray⟩ : ByteArray) = em at *
        clear htr htd htz hTl hev
        go_enter Tryd.func25, Tryd.ntmps25
        go_wp2_with fail
        refine HCP.out.mono ?_
        rintro e w0 ⟨rfl, hw0⟩
        rw [hw0]
        clear hw0
        go_wp2_with fail
        refine (HTR.out _).mono ?_
        rintro e w1 ⟨rfl, hb⟩
        have HB1 := Aside0.mk hb
        clear hb
        go_wp2_with fail
        go_ret2
        exact ⟨⟨_, _, rfl, .inl ⟨HNO.out, rfl, rfl⟩⟩, HB1.out⟩
    · have HNO : Aside0 (hexPairs T = none) := ⟨by
        cases hq : hexPairs T with
        | none => rfl
        | some v => exact absurd (hexPairs_inv _ T v (Nat.le_refl _) hq).1 hev⟩
      have hm : (t.size : Int).tmod 2 = 1 := by rw [Int.tmod_eq_emod_of_nonneg (by omega), htz]; omega
      clear hev htd htz hTl
      go_enter Tryd.func25, Tryd.ntmps25
      go_wp2_with fail
      refine HCP.out.mono ?_
      rintro e w0 ⟨rfl, hw0⟩
      rw [hw0]
      clear hw0
      go_wp2_with fail
      go_ret2
      exact ⟨⟨_, _, rfl, .inl ⟨HNO.out, rfl, rfl⟩⟩, Below.refl _ _⟩
  · have HNO : Aside0 (hexP L = none) := ⟨by
      cases L with
      | nil => rfl
      | cons c T =>
        simp only [hexP]
        rw [if_neg]
        rintro rfl
        exact hp (by simp [Lib.hasPrefix, List.isPrefixOf])⟩
    have hpf : Lib.hasPrefix L [120] = false := by simpa using hp
    rw [show (⟨#[120]⟩ : ByteArray).data.toList = [120] from rfl, hpf] at HCP
    have hsz2 : (⟨(Lib.trimPrefix L [120]).toArray⟩ : ByteArray) = ⟨(Lib.trimPrefix L [120]).toArray⟩ := rfl
    clear hsz2 hL hlen hp hpf
    generalize (⟨(Lib.trimPrefix L [120]).toArray⟩ : ByteArray) = t at *
    have HCP := Aside0.mk HCP
    go_enter Tryd.func25, Tryd.ntmps25
    go_wp2_with fail
    refine HCP.out.mono ?_
    rintro e w0 ⟨rfl, hw0⟩
    rw [hw0]
    clear hw0
    go_wp2_with fail
    go_ret2
    exact ⟨⟨_, _, rfl, .inl ⟨HNO.out, rfl, rfl⟩⟩, Below.refl _ _⟩
end Go.Proofs.YtganhhhkmcmngaaDoor.Sc
