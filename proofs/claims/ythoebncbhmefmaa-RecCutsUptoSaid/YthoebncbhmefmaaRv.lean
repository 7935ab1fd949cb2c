/- Records: a record that comes in; which are small. -/
import Derived.Test.YthoebncbhmefmaaProg
import Derived.Below
import Derived.Deep.Draws
import Derived.Deep.AppendLies
import Derived.Maps.AppendAt
import Derived.OwnWalk
import Derived.Laws.BytesArg
import Derived.Laws.MakeOwn
import Derived.Laws.OwnMore
import Derived.Deep.OwnRows
import Derived.Tactics
import Derived.Lib.ConvBytes
import Derived.Laws.Slices
import Derived.WalkKit
import Derived.KernelRfl
import Derived.RowKit3
import Derived.Deep.LoopGhost
import Derived.Deep.QuietTactic
import Derived.BigQuiet
import Derived.WideLaws
import Derived.Deep.DeepCutAuto
import Derived.Deep.CutBlock
import Derived.Deep.RegionHeld3
import Derived.Laws.Rows
import Derived.Lib.AppendStr
import Derived.ArgAppend
import Derived.Laws.IdiomCopy
import Derived.OrdersHeld
import Derived.Laws.BitsLemmas
import Derived.RowKit
import Derived.Test.YthoebncbhmefmaaWWords
import Derived.Test.YthoebncbhmefmaaWLast
import Derived.Test.YthoebncbhmefmaaWTab
import Derived.Test.YthoebncbhmefmaaWFour
import Derived.Test.YthoebncbhmefmaaWQPut
import Derived.Test.YthoebncbhmefmaaWApart
import Derived.Test.YthoebncbhmefmaaWArr
import Derived.Test.YthoebncbhmefmaaWZeros
import Derived.Test.YthoebncbhmefmaaWFoot
import Derived.Test.YthoebncbhmefmaaWKept
import Derived.Test.YthoebncbhmefmaaWShare
import Derived.Test.YthoebncbhmefmaaWN
import Derived.Test.YthoebncbhmefmaaWFootNe
import Derived.Test.YthoebncbhmefmaaWAt
import Derived.Test.YthoebncbhmefmaaWEqStruct
import Derived.Test.YthoebncbhmefmaaWRepsOne
import Derived.Test.YthoebncbhmefmaaWInv
import Derived.Test.YthoebncbhmefmaaWInvWords
import Derived.Test.YthoebncbhmefmaaWGuard
import Derived.Test.YthoebncbhmefmaaWNEv
import Derived.Test.YthoebncbhmefmaaWMore
import Derived.Test.YthoebncbhmefmaaRu
import Derived.Test.YthoebncbhmefmaaOp
import Derived.Test.YthoebncbhmefmaaRa1
namespace Go.Proofs.Ythoebncbhmefmaa.Rc
open Go.RowKit Go.Proofs.YthoebncbhmefmaaW.PrintWords Go.Proofs.YthoebncbhmefmaaW.PrintLast Go.Proofs.YthoebncbhmefmaaW.PrintMore
attribute [local go_sem] max2_int min2_int max_two min_two max_three min_three max_four min_four
set_option linter.unusedVariables false
set_option linter.unusedSimpArgs false
open Go.Proofs.Ythoebncbhmefmaa.Op
abbrev TS := Int × Int × List Int
abbrev TO := ByteArray × Int × Int × List TS
abbrev TR := Int × Int × Int × ByteArray × List TS × List TO × List Int
def toS (t : TS) : S41 := ⟨t.1, t.2.1, t.2.2⟩
def toO (t : TO) : S44 := ⟨t.1, t.2.1, t.2.2.1, t.2.2.2.map toS⟩
def toR (t : TR) : Rc := ⟨t.1, t.2.1, t.2.2.1, t.2.2.2.1, t.2.2.2.2.1.map toS, t.2.2.2.2.2.1.map toO, t.2.2.2.2.2.2⟩
abbrev kS : Kd TS := Kd.pair (Kd.int .i64) (Kd.pair (Kd.int .i64) (Kd.slice 3 (Kd.int .i64)))
abbrev kO : Kd TO := Kd.pair Kd.string (Kd.pair (Kd.int .i64) (Kd.pair (Kd.int .i64) (Kd.slice 41 kS)))
abbrev kR : Kd TR := Kd.pair (Kd.int .i64) (Kd.pair (Kd.int .i64) (Kd.pair (Kd.int .i64) (Kd.pair Kd.string (Kd.pair (Kd.slice 41 kS) (Kd.pair (Kd.slice 44 kO) (Kd.slice 3 (Kd.int .i64)))))))
abbrev gI : List Int → Prop := Row 8 (fun n => (Lit.int .i64 n).wf = true)
abbrev gS : TS → Prop := fun x => (Lit.int .i64 x.1).wf = true ∧ (Lit.int .i64 x.2.1).wf = true ∧ gI x.2.2
abbrev gO : TO → Prop := fun x => x.1.size ≤ 140737488351232 ∧ (Lit.int .i64 x.2.1).wf = true ∧ (Lit.int .i64 x.2.2.1).wf = true ∧ Row 40 gS x.2.2.2
abbrev gR : TR → Prop := fun x => (Lit.int .i64 x.1).wf = true ∧ (Lit.int .i64 x.2.1).wf = true ∧ (Lit.int .i64 x.2.2.1).wf = true ∧ x.2.2.2.1.size ≤ 140737488351232 ∧ Row 40 gS x.2.2.2.2.1 ∧ Row 56 gO x.2.2.2.2.2.1 ∧ gI x.2.2.2.2.2.2
theorem C_map {α β : Type} {d : Kd α} {d' : Kd β} (f : α → β) {w : World} (hs : d'.sz = d.sz) (hK : ∀ x cs, d.K w x cs → d'.K w (f x) cs) {A : Option Addr} {n : Nat} {l : List α} (h : d.C w A n l) : d'.C w A n (l.map f) := by
  obtain ⟨h1, h2, h3⟩ := h
  refine ⟨by rw [List.length_map]; exact h1, h2, fun hp => ?_⟩
  obtain ⟨ad, e, hc⟩ := h3 hp
  refine ⟨ad, e, fun j p hj => ?_⟩
  rw [List.getElem?_map] at hj
  obtain ⟨x, hx, rfl⟩ := Option.map_eq_some_iff.1 hj
  obtain ⟨c, h4, h5, h6⟩ := hc j x hx
  exact ⟨c, by rw [hs]; exact h4, hK x c h5, by rw [hs]; exact h6⟩
theorem toS_K {w : World} (x : TS) (cs : List Value) (h : kS.K w x cs) : k41.K w (toS x) cs := h
theorem toS_C {w : World} {A : Option Addr} {n : Nat} {l : List TS} (h : kS.C w A n l) : k41.C w A n (l.map toS) := C_map toS rfl toS_K h
theorem toO_K {w : World} (x : TO) (cs : List Value) (h : kO.K w x cs) : k44.K w (toO x) cs := by
  obtain ⟨c0, r0, rfl, h0, c1, r1, rfl, h1, c2, r2, rfl, h2, A, c, h3, hl, hC⟩ := h
  exact ⟨c0, _, rfl, h0, c1, _, rfl, h1, c2, _, rfl, h2, A, c, by rw [h3]; simp [toO], by simpa [toO] using hl, by have := toS_C hC; simpa [toO] using this⟩
theorem toO_C {w : World} {A : Option Addr} {n : Nat} {l : List TO} (h : kO.C w A n l) : k44.C w A n (l.map toO) := C_map toO rfl toO_K h
theorem toR_at {w : World} (x : TR) (cs : Array Value) (h : kR.K w x cs.toList) : RcAt w (toR x) cs := by
  obtain ⟨c0, r0, e0, h0, c1, r1, e1, h1, c2, r2, e2, h2, c3, r3, e3, h3, c4, r4, e4, ⟨A4, k4, h4, hl4, hC4⟩, c5, r5, e5, ⟨A5, k5, h5, hl5, hC5⟩, A6, k6, h6, hl6, hC6⟩ := h
  have h0' : c0 = [.int .i64 x.1] := h0
  have h1' : c1 = [.int .i64 x.2.1] := h1
  have h2' : c2 = [.int .i64 x.2.2.1] := h2
  have h3' : c3 = [.string x.2.2.2.1] := h3
  refine ⟨A4, A5, A6, k4, k5, k6, ?_, by simpa [toR] using hl4, by have := toS_C hC4; simpa [toR] using this, by simpa [toR] using hl5, by have := toO_C hC5; simpa [toR] using this, hl6, hC6⟩
  have : cs.toList = [.int .i64 x.1, .int .i64 x.2.1, .int .i64 x.2.2.1, .string x.2.2.2.1, .slice A4 x.2.2.2.2.1.length k4, .slice A5 x.2.2.2.2.2.1.length k5, .slice A6 x.2.2.2.2.2.2.length k6] := by
    rw [e0, e1, e2, e3, e4, e5, h0', h1', h2', h3', h4, h5, h6]; rfl
  have h2 : cs = cs.toList.toArray := by simp
  rw [h2, this]
  simp [toR]
/-- No length is more than memory holds. -/
structure Wid (r : Rc) : Prop where
  s : r.strs.length < 140737488350000
  sx : ∀ x, x ∈ r.strs → x.f2.length < 140737488350000
  o : r.objs.length < 140737488350000
  ox : ∀ x, x ∈ r.objs → x.f3.length < 140737488350000 ∧ ∀ y, y ∈ x.f3 → y.f2.length < 140737488350000
  d : r.drv.length < 140737488350000
theorem wid_of (x : TR) (h : gR x) : Wid (toR x) := by
  obtain ⟨_, _, _, _, h4, h5, h6⟩ := h
  have hs : ∀ (l : List TS), Row 40 gS l → l.length < 140737488350000 ∧ ∀ y, y ∈ l.map toS → y.f2.length < 140737488350000 := fun l hl => ⟨by have := hl.len; omega, fun y hy => by
    obtain ⟨t, ht, rfl⟩ := List.mem_map.1 hy
    have := (hl.all t ht).2.2.len
    show t.2.2.length < _; omega⟩
  refine ⟨by have := (hs _ h4).1; simpa [toR] using this, (hs _ h4).2, by have := h5.len; simp [toR]; omega, fun y hy => ?_, by have := h6.len; simp [toR]; omega⟩
  obtain ⟨t, ht, rfl⟩ := List.mem_map.1 hy
  have := hs _ (h5.all t ht).2.2.2
  exact ⟨by simpa [toO] using this.1, this.2⟩
section
variable (a0 a1 a2 : Int) (a3 : ByteArray) (ss : List S41) (os : List S44) (ds : List Int)
set_option maxRecDepth 100000 in
set_option maxHeartbeats 2000000 in
theorem small_l1 (ho : ∀ x, x ∈ os → x.f3.length < 140737488350000 ∧ ∀ y, y ∈ x.f3 → y.f2.length < 140737488350000) (hos : os.length < 140737488350000) : ∀ (d i k : Nat) (n : Int), d + i = os.length → 0 ≤ n → n < 1152921504606846976 → d * 4010 + 5 < k →
    ∃ b, flittingref09_Small.l1 k n (i : Int) a0 a1 a2 a3 ss os ds = some b ∧ (b = true → n < 4000 ∧ ∀ j, i ≤ j → j < os.length → (os.getD j z44).f3.length < 4000 ∧ ∀ y, y ∈ (os.getD j z44).f3 → y.f2.length < 4000) := by
  intro d
  induction d with
  | zero =>
    intro i k n hd hn hn2 hk
    obtain ⟨k, rfl⟩ : ∃ m, k = m + 2 := ⟨k - 2, by omega⟩
    refine ⟨decide (n < 4000), ?_, fun h => ⟨by simpa using h, fun j h1 h2 => by omega⟩⟩
    simp only [flittingref09_Small.l1]
    rw [if_neg (by omega)]
    simp only [flittingref09_Small.j2, Bool.false_eq_true, if_false]
  | succ d ihd =>
    intro i k n hd hn hn2 hk
    obtain ⟨k, rfl⟩ : ∃ m, k = m + 2 := ⟨k - 2, by omega⟩
    simp only [flittingref09_Small.l1]
    rw [if_pos (by omega)]
    simp only [flittingref09_Small.j2]
    by_cases h4 : n < 4000
    · have e1 : rd_T44 os (i : Int) = os.getD i z44 := by unfold rd_T44; rw [Int.toNat_natCast]
      have hof := ho _ (getD_mem os i z44 (by omega))
      rw [if_pos (by simpa using h4), if_pos (by omega), if_pos (by omega), e1]
      obtain ⟨x, hx⟩ : ∃ x, x = os.getD i z44 := ⟨_, rfl⟩
      rw [← hx] at hof ⊢
      have key : ∀ (e q k : Nat) (m : Int), e + q = x.f3.length → 0 ≤ m → m < 1152921504606846976 → d * 4010 + 6 < k → (m < 4000 → d * 4010 + 6 + e < k) →
          ∃ b, flittingref09_Small.l2 k m (i : Int) (q : Int) a0 a1 a2 a3 ss os ds = some b ∧ (b = true → m < 4000 ∧ (∀ j, q ≤ j → j < x.f3.length → (x.f3.getD j z41).f2.length < 4000) ∧ ∀ j, i + 1 ≤ j → j < os.length → (os.getD j z44).f3.length < 4000 ∧ ∀ y, y ∈ (os.getD j z44).f3 → y.f2.length < 4000) := by
        intro e
        induction e with
        | zero =>
          intro q k m hq hm hm2 hk _
          obtain ⟨k, rfl⟩ : ∃ j, k = j + 1 := ⟨k - 1, by omega⟩
          obtain ⟨b, h5, h6⟩ := ihd (i + 1) k m (by omega) hm hm2 (by omega)
          refine ⟨b, ?_, fun hb => ⟨(h6 hb).1, fun j h1 h2 => by omega, (h6 hb).2⟩⟩
          simp only [flittingref09_Small.l2]
          rw [if_pos (by omega), if_pos (by omega), e1, ← hx, if_neg (by omega), show wrap64 ((i : Int) + 1) = ((i + 1 : Nat) : Int) from by unfold wrap64; omega]
          exact h5
        | succ e ih =>
          intro q k m hq hm hm2 hk hke
          obtain ⟨k, rfl⟩ : ∃ j, k = j + 1 := ⟨k - 1, by omega⟩
          simp only [flittingref09_Small.l2]
          rw [if_pos (by omega), if_pos (by omega), e1, ← hx, if_pos (by omega)]
          by_cases h5 : m < 4000
          · have e2 : rd_T41 x.f3 (q : Int) = x.f3.getD q z41 := by unfold rd_T41; rw [Int.toNat_natCast]
            have hb := hof.2 _ (getD_mem x.f3 q z41 (by omega))
            have hke' := hke h5
            obtain ⟨b, h6, h7⟩ := ih (q + 1) k (m + (x.f3.getD q z41).f2.length) (by omega) (by omega) (by omega) (by omega) (fun _ => by omega)
            refine ⟨b, ?_, fun hb => ⟨h5, fun j h1 h2 => ?_, (h7 hb).2.2⟩⟩
            · rw [if_pos h5, if_pos (by omega), e2, show wrap64 ((q : Int) + 1) = ((q + 1 : Nat) : Int) from by unfold wrap64; omega, show wrap64 (m + ((x.f3.getD q z41).f2.length : Int)) = m + ((x.f3.getD q z41).f2.length : Int) from by unfold wrap64; omega]
              exact h6
            · rcases Nat.eq_or_lt_of_le h1 with h8 | h8
              · subst h8; have := (h7 hb).1; omega
              · exact (h7 hb).2.1 j h8 h2
          · obtain ⟨b, h6, h7⟩ := ihd (i + 1) k m (by omega) hm hm2 (by omega)
            refine ⟨b, ?_, fun hb => absurd (h7 hb).1 h5⟩
            rw [if_neg h5, show wrap64 ((i : Int) + 1) = ((i + 1 : Nat) : Int) from by unfold wrap64; omega]
            exact h6
      rw [show wrap64 (n + (x.f3.length : Int)) = n + (x.f3.length : Int) from by unfold wrap64; omega]
      obtain ⟨b, h5, h6⟩ := key x.f3.length 0 k (n + x.f3.length) (by omega) (by omega) (by omega) (by omega) (fun _ => by omega)
      refine ⟨b, h5, fun hb => ⟨h4, fun j h1 h2 => ?_⟩⟩
      rcases Nat.eq_or_lt_of_le h1 with h8 | h8
      · subst h8
        rw [← hx]
        refine ⟨by have := (h6 hb).1; omega, fun y hy => ?_⟩
        obtain ⟨j, hj, rfl⟩ := List.getElem_of_mem hy
        have := (h6 hb).2.1 j (Nat.zero_le _) hj
        rwa [List.getD_eq_getElem?_getD, List.getElem?_eq_getElem hj] at this
      · exact (h6 hb).2.2 j h8 h2
    · exact ⟨decide (n < 4000), by rw [if_neg (by simpa using h4)], fun h => absurd (by simpa using h) h4⟩
theorem small_l0 (hs : ∀ x, x ∈ ss → x.f2.length < 140737488350000) (hss : ss.length ≤ 400) (ho : ∀ x, x ∈ os → x.f3.length < 140737488350000 ∧ ∀ y, y ∈ x.f3 → y.f2.length < 140737488350000) (hos : os.length ≤ 400) : ∀ (d i k : Nat) (n : Int), d + i = ss.length → 0 ≤ n → n + d * 140737488350000 < 1152921504606846976 → d + 1605000 < k →
    ∃ b, flittingref09_Small.l0 k n (i : Int) a0 a1 a2 a3 ss os ds = some b ∧ (b = true → n < 4000 ∧ (∀ j, i ≤ j → j < ss.length → (ss.getD j z41).f2.length < 4000) ∧ ∀ j, j < os.length → (os.getD j z44).f3.length < 4000 ∧ ∀ y, y ∈ (os.getD j z44).f3 → y.f2.length < 4000) := by
  intro d
  induction d with
  | zero =>
    intro i k n hd hn hn2 hk
    obtain ⟨k, rfl⟩ : ∃ m, k = m + 1 := ⟨k - 1, by omega⟩
    obtain ⟨b, h1, h2⟩ := small_l1 a0 a1 a2 a3 ss os ds ho (by omega) os.length 0 k n (by omega) hn (by omega) (by omega)
    refine ⟨b, ?_, fun hb => ⟨(h2 hb).1, fun j h3 h4 => by omega, fun j hj => (h2 hb).2 j (Nat.zero_le _) hj⟩⟩
    simp only [flittingref09_Small.l0]
    rw [if_neg (by omega)]
    exact h1
  | succ d ihd =>
    intro i k n hd hn hn2 hk
    obtain ⟨k, rfl⟩ : ∃ m, k = m + 1 := ⟨k - 1, by omega⟩
    have e1 : rd_T41 ss (i : Int) = ss.getD i z41 := by unfold rd_T41; rw [Int.toNat_natCast]
    have hb := hs _ (getD_mem ss i z41 (by omega))
    obtain ⟨b, h1, h2⟩ := ihd (i + 1) k (n + (ss.getD i z41).f2.length) (by omega) (by omega) (by omega) (by omega)
    refine ⟨b, ?_, fun hb => ⟨by have := (h2 hb).1; omega, fun j h3 h4 => ?_, (h2 hb).2.2⟩⟩
    · simp only [flittingref09_Small.l0]
      rw [if_pos (by omega), if_pos (by omega), e1, show wrap64 ((i : Int) + 1) = ((i + 1 : Nat) : Int) from by unfold wrap64; omega, show wrap64 (n + ((ss.getD i z41).f2.length : Int)) = n + ((ss.getD i z41).f2.length : Int) from by unfold wrap64; omega]
      exact h1
    · rcases Nat.eq_or_lt_of_le h3 with h8 | h8
      · subst h8; have := (h2 hb).1; omega
      · exact (h2 hb).2.1 j h8 h4
end
theorem small_f (r : Rc) (h : Wid r) : ∃ b, flittingref09_Small.f 2000000 r.kind r.id r.size r.key r.strs r.objs r.drv = some b ∧ (b = true → FewR 4000 r) := by
  unfold flittingref09_Small.f
  have hs := h.s
  have ho := h.o
  have hd := h.d
  rw [show wrap64 ((r.strs.length : Int) + (r.objs.length : Int)) = (r.strs.length : Int) + (r.objs.length : Int) from by unfold wrap64; omega, show wrap64 ((r.strs.length : Int) + (r.objs.length : Int) + (r.drv.length : Int)) = (r.strs.length : Int) + (r.objs.length : Int) + (r.drv.length : Int) from by unfold wrap64; omega]
  by_cases h4 : (r.strs.length : Int) + (r.objs.length : Int) + (r.drv.length : Int) > 400
  · exact ⟨false, by rw [if_pos h4], fun h => by cases h⟩
  · obtain ⟨b, h1, h2⟩ := small_l0 r.kind r.id r.size r.key r.strs r.objs r.drv h.sx (by omega) h.ox (by omega) r.strs.length 0 2000000 ((r.strs.length : Int) + (r.objs.length : Int) + (r.drv.length : Int)) (by omega) (by omega) (by omega) (by omega)
    refine ⟨b, by rw [if_neg h4]; exact h1, fun hb => ⟨⟨by omega, fun x hx => ?_⟩, ⟨by omega, fun x hx => ?_⟩, by omega⟩⟩
    · obtain ⟨j, hj, rfl⟩ := List.getElem_of_mem hx
      have := (h2 hb).2.1 j (Nat.zero_le _) hj
      rw [List.getD_eq_getElem?_getD, List.getElem?_eq_getElem hj] at this
      exact Nat.le_of_lt this
    · obtain ⟨j, hj, rfl⟩ := List.getElem_of_mem hx
      have := (h2 hb).2.2 j hj
      rw [List.getD_eq_getElem?_getD, List.getElem?_eq_getElem hj] at this
      exact ⟨Nat.le_of_lt this.1, fun y hy => Nat.le_of_lt (this.2 y hy)⟩
end Go.Proofs.Ythoebncbhmefmaa.Rc
