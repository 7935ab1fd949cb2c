/- Scripts: what the laws share. -/
import Derived.Test.YtganhhhkmcmngaaDoorProg
import Derived.Below
import Derived.Deep.Draws
import Derived.Deep.AppendLies
import Derived.Maps.AppendAt
import Derived.OwnWalk
import Derived.Laws.BytesArg
import Derived.Laws.MakeOwn
import Derived.Laws.OwnMore
import Derived.Deep.OwnRows
import Derived.Tactics
import Derived.Lib.ConvBytes
import Derived.Laws.Slices
import Derived.WalkKit
import Derived.KernelRfl
import Derived.RowKit3
import Derived.Deep.LoopGhost
import Derived.Deep.QuietTactic
import Derived.BigQuiet
import Derived.WideLaws
import Derived.Deep.DeepCutAuto
import Derived.Deep.CutBlock
import Derived.Deep.RegionHeld3
import Derived.Laws.Rows
import Derived.Lib.AppendStr
import Derived.ArgAppend
import Derived.Laws.IdiomCopy
import Derived.OrdersHeld
import Derived.Laws.BitsLemmas
import Derived.RowKit
import Derived.Test.YtganhhhkmcmngaaDoorWWords
import Derived.Test.YtganhhhkmcmngaaDoorWLast
import Derived.Test.YtganhhhkmcmngaaDoorWTab
import Derived.Test.YtganhhhkmcmngaaDoorWFour
import Derived.Test.YtganhhhkmcmngaaDoorWQPut
import Derived.Test.YtganhhhkmcmngaaDoorWApart
import Derived.Test.YtganhhhkmcmngaaDoorWArr
import Derived.Test.YtganhhhkmcmngaaDoorWZeros
import Derived.Test.YtganhhhkmcmngaaDoorWFoot
import Derived.Test.YtganhhhkmcmngaaDoorWKept
import Derived.Test.YtganhhhkmcmngaaDoorWShare
import Derived.Test.YtganhhhkmcmngaaDoorWN
import Derived.Test.YtganhhhkmcmngaaDoorWFootNe
import Derived.Test.YtganhhhkmcmngaaDoorWAt
import Derived.Test.YtganhhhkmcmngaaDoorWEqStruct
import Derived.Test.YtganhhhkmcmngaaDoorWRepsOne
import Derived.Test.YtganhhhkmcmngaaDoorWInv
import Derived.Test.YtganhhhkmcmngaaDoorWInvWords
import Derived.Test.YtganhhhkmcmngaaDoorWGuard
import Derived.Test.YtganhhhkmcmngaaDoorWNEv
import Derived.Test.YtganhhhkmcmngaaDoorWMore
import Derived.Test.YtganhhhkmcmngaaDoorSp
namespace Go.Proofs.YtganhhhkmcmngaaDoor.Sc
open Go.RowKit Go.Proofs.YtganhhhkmcmngaaDoorW.PrintWords Go.Proofs.YtganhhhkmcmngaaDoorW.PrintLast Go.Proofs.YtganhhhkmcmngaaDoorW.PrintMore
attribute [local go_sem] max2_int min2_int max_two min_two max_three min_three max_four min_four
set_option linter.unusedVariables false
set_option linter.unusedSimpArgs false
open Go.Shelf
abbrev PK := Kd.pair (Kd.int .i64) (Kd.pair (Kd.int .i64) (Kd.pair Kd.string (Kd.pair (Kd.slice 5 (Kd.int .u8)) (Kd.int .u64))))
def toS (x : Int × Int × ByteArray × List Int × Int) : S32 := ⟨x.1, x.2.1, x.2.2.1, x.2.2.2.1, x.2.2.2.2⟩
theorem C32_of_pair {w : World} {A : Option Addr} {n : Nat} {l : List (Int × Int × ByteArray × List Int × Int)} (h : Kd.C PK w A n l) : Kd.C k32 w A n (l.map toS) := by
  refine ⟨by rw [List.length_map]; exact h.1, h.2.1, fun hp => ?_⟩
  obtain ⟨ad, e, hc⟩ := h.2.2 hp
  refine ⟨ad, e, fun j p hj => ?_⟩
  rw [List.getElem?_map] at hj
  cases hq : l[j]? with
  | none => rw [hq] at hj; simp at hj
  | some x =>
    rw [hq] at hj
    simp only [Option.map_some, Option.some.injEq] at hj
    subst hj
    exact hc j x hq
abbrev xcells (x : S32) (A : Option Addr) (c : Nat) : List Value := [.int .i64 x.f0, .int .i64 x.f1, .string x.f2, .slice A x.f3.length c, .int .u64 x.f4]
theorem C32_one (W : World) (x : S32) (A : Option Addr) (c : Nat) (hl : x.f3.length ≤ c) (g : U8.C W A x.f3.length x.f3) : Kd.C k32 (W.alloc (.cells (xcells x A c).toArray 32)) (some ⟨W.heap.size, 0, none⟩) 1 [x] := by
  refine ⟨rfl, by decide, fun _ => ⟨_, rfl, fun j p hj => ?_⟩⟩
  cases j with
  | succ j => simp at hj
  | zero =>
    simp only [List.getElem?_cons_zero, Option.some.injEq] at hj
    subst hj
    refine ⟨_, rfl, k32_mk _ _ hl (Kd.C_below g ((Below.refl _ _).alloc (Nat.le_refl _) _)), fun i u hu => ?_⟩
    rw [add_plain]
    have h := heap_alloc_new W (.cells (xcells x A c).toArray 32)
    simp only [World.cell?, h]
    simpa using hu
theorem C32_two (W : World) (x : S32) (A : Option Addr) (c : Nat) (hl : x.f3.length ≤ c) (g : U8.C W A x.f3.length x.f3) : Kd.C k32 (W.alloc (.cells (xcells x A c ++ xcells x A c).toArray 32)) (some ⟨W.heap.size, 0, none⟩) 2 [x, x] := by
  refine ⟨rfl, by decide, fun _ => ⟨_, rfl, fun j p hj => ?_⟩⟩
  have hx : p = x ∧ j < 2 := by
    rcases j with _ | _ | j <;> simp at hj
    · exact ⟨hj.symm, by decide⟩
    · exact ⟨hj.symm, by decide⟩
  obtain ⟨rfl, hj2⟩ := hx
  refine ⟨_, rfl, k32_mk _ _ hl (Kd.C_below g ((Below.refl _ _).alloc (Nat.le_refl _) _)), fun i u hu => ?_⟩
  rw [add_plain]
  have h := heap_alloc_new W (.cells (xcells p A c ++ xcells p A c).toArray 32)
  simp only [World.cell?, h]
  have : j = 0 ∨ j = 1 := by omega
  rcases i with _ | _ | _ | _ | _ | i <;> simp at hu <;> subst hu <;> rcases this with rfl | rfl <;> rfl
theorem parse_ok (s : ByteArray) (hs : s.size ≤ 100000) (w : World) (hT : Tb w) (xs : List S32) (hP : Prs s.data.toList 1 xs none) :
    Calls Tryd.prog 11 #[.string s] w fun e w' => (∃ A c, e = .returned (.tuple #[.slice A xs.length c, .int .i64 0, .int .i64 0]) ∧ Kd.C k32 w' A xs.length xs) ∧ Below w.heap.size w w' := by
  refine (parse_calls s hs w hT xs none hP).mono ?_
  rintro e w' ⟨h, hb⟩
  rcases h with ⟨_, A, c, rfl, hR⟩ | ⟨k, h, _⟩
  · exact ⟨⟨A, c, rfl, Kd.F_now (Kd.R_F hR)⟩, hb⟩
  · cases h
theorem parse_bad (s : ByteArray) (hs : s.size ≤ 100000) (w : World) (hT : Tb w) (xs : List S32) (k : Nat) (hP : Prs s.data.toList 1 xs (some k)) :
    Calls Tryd.prog 11 #[.string s] w fun e w' => e = .returned (.tuple #[.slice none 0 0, .int .i64 k, .int .i64 13]) ∧ Below w.heap.size w w' := by
  refine (parse_calls s hs w hT xs (some k) hP).mono ?_
  rintro e w' ⟨h, hb⟩
  rcases h with ⟨h, _⟩ | ⟨k', h, rfl⟩
  · cases h
  · cases h; exact ⟨rfl, hb⟩
/-! ### What a program that does nothing does not answer. -/
def ax : S32 := ⟨1, -2, ⟨#[107]⟩, [], 7⟩
theorem ax_wf : WfS ax := ⟨by decide, by decide, by decide, by decide, by decide, by decide, by decide, by decide, fun x hx => by simp [ax] at hx⟩
theorem ax_text : textU [ax] = [49, 32, 45, 50, 32, 55, 32, 120, 54, 98, 32, 120, 10] := by
  have h1 : Lib.itoa 1 = [49] := by rw [show (1 : Int) = ((1 : Nat) : Int) from rfl, Lib.itoa_nonneg, Lib.decDigits_one (by decide)]; rfl
  have h2 : Lib.itoa (-2) = [45, 50] := by rw [show (-2 : Int) = -((2 : Nat) : Int) from rfl, Lib.itoa_neg 2 (by decide), Lib.decDigits_one (by decide)]; rfl
  have h3 : Lib.decDigits 7 = [55] := by rw [Lib.decDigits_one (by decide)]; rfl
  have h4 : hexU (bytesOf ⟨#[107]⟩) = [54, 98] := by decide
  unfold textU lineU ax
  simp only [List.flatMap_cons, List.flatMap_nil]
  rw [h1, h2, h4, show ((7 : Int).toNat) = 7 from rfl, h3]
  rfl
set_option maxHeartbeats 4000000 in
set_option maxRecDepth 100000 in
theorem answers_calls (w : World) (hT : Tb w) : Calls Tryd.prog 9 #[] w fun e w' => e = .returned (.bool true) ∧ Below w.heap.size w w' := by
  have HC1 := Aside0.mk (C32_one w ax none 0 (Nat.le_refl _) (Kd.C_nil _ _))
  have HB1 : Aside0 (Below w.heap.size w (w.alloc (.cells (xcells ax none 0).toArray 32))) := ⟨(Below.refl _ _).alloc (Nat.le_refl _) _⟩
  obtain ⟨W1, hW1⟩ : ∃ W1, w.alloc (.cells #[.int .i64 1, .int .i64 (-2), .string ⟨#[107]⟩, .slice none 0 0, .int .u64 7] 32) = W1 := ⟨_, rfl⟩
  rw [show w.alloc (.cells (xcells ax none 0).toArray 32) = W1 from hW1] at HC1 HB1
  have HT := Aside0.mk hT
  have HWA : Aside0 (∀ x, x ∈ [ax] → WfS x) := ⟨fun x hx => by simp at hx; rw [hx]; exact ax_wf⟩
  have hPR := print_calls (some ⟨w.heap.size, 0, none⟩) 1 1 [ax] W1 rfl HC1.out HWA.out (by decide) (hT.below HB1.out)
  rw [ax_text] at hPR
  have hprs := prs_text [ax] 1 HWA.out
  rw [ax_text] at hprs
  obtain ⟨sx, hsx⟩ : ∃ sx : ByteArray, (⟨#[49, 32, 45, 50, 32, 55, 32, 120, 54, 98, 32, 120, 10]⟩ : ByteArray) = sx := ⟨_, rfl⟩
  have hsd : sx.data.toList = [49, 32, 45, 50, 32, 55, 32, 120, 54, 98, 32, 120, 10] := by rw [← hsx]
  have hsz : sx.size ≤ 100000 := by rw [← hsx]; decide
  have HPA : Aside0 (∀ W, Tb W → Calls Tryd.prog 11 #[.string sx] W fun e w' => (∃ A c, e = .returned (.tuple #[.slice A 1 c, .int .i64 0, .int .i64 0]) ∧ Kd.C k32 w' A 1 [ax]) ∧ Below W.heap.size W w') := ⟨fun W hT => parse_ok sx hsz W hT [ax] (by rw [hsd]; exact hprs)⟩
  rw [show (⟨[49, 32, 45, 50, 32, 55, 32, 120, 54, 98, 32, 120, 10].toArray⟩ : ByteArray) = sx from hsx] at hPR
  have HPR := Aside0.mk hPR
  have HSX := Aside0.mk hsx
  have hcmp : sx.toList = [49, 32, 45, 50, 32, 55, 32, 120, 54, 98, 32, 120, 10] := by rw [Lib.toList_data]; exact hsd
  clear hPR hprs hsx hsd hsz hT
  go_enter Tryd.func9, Tryd.ntmps9
  go_wp2_with fail
  refine HPR.out.mono ?_
  rintro e w2 ⟨rfl, hb2⟩
  have HB2 : Aside0 (Below w.heap.size w w2) := ⟨HB1.out.trans (hb2.mono HB1.out.size)⟩
  clear hb2
  go_wp2_with fail
  refine (HPA.out w2 (HT.out.below HB2.out)).mono ?_
  rintro e w3 ⟨⟨A, c, rfl, hC⟩, hb3⟩
  have HB3 : Aside0 (Below w.heap.size w w3) := ⟨HB2.out.trans (hb3.mono HB2.out.size)⟩
  obtain ⟨ad, A3, c3, e0, _, _, _, _, k4, _, _⟩ := at_T32 hC 0 (by decide) (by decide)
  cases e0
  have k4' : w3.cell? ⟨ad.block, ad.off + 4, none⟩ = some (.int .u64 7) := by
    rw [show ad.add ((0 : Int).toNat * 5) = ad from by cases ad; rfl] at k4
    exact k4
  clear hb3 hC k4
  go_wp2_with fail
  go_ret
  exact ⟨rfl, HB3.out⟩
end Go.Proofs.YtganhhhkmcmngaaDoor.Sc
