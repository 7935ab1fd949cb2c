/- Records: the contracts of the reader. -/
import Derived.Test.YthoebncbhmefmaaProg
import Derived.Below
import Derived.Deep.Draws
import Derived.Deep.AppendLies
import Derived.Maps.AppendAt
import Derived.OwnWalk
import Derived.Laws.BytesArg
import Derived.Laws.MakeOwn
import Derived.Laws.OwnMore
import Derived.Deep.OwnRows
import Derived.Tactics
import Derived.Lib.ConvBytes
import Derived.Laws.Slices
import Derived.WalkKit
import Derived.KernelRfl
import Derived.RowKit3
import Derived.Deep.LoopGhost
import Derived.Deep.QuietTactic
import Derived.BigQuiet
import Derived.WideLaws
import Derived.Deep.DeepCutAuto
import Derived.Deep.CutBlock
import Derived.Deep.RegionHeld3
import Derived.Laws.Rows
import Derived.Lib.AppendStr
import Derived.ArgAppend
import Derived.Laws.IdiomCopy
import Derived.OrdersHeld
import Derived.Laws.BitsLemmas
import Derived.RowKit
import Derived.Test.YthoebncbhmefmaaWWords
import Derived.Test.YthoebncbhmefmaaWLast
import Derived.Test.YthoebncbhmefmaaWTab
import Derived.Test.YthoebncbhmefmaaWFour
import Derived.Test.YthoebncbhmefmaaWQPut
import Derived.Test.YthoebncbhmefmaaWApart
import Derived.Test.YthoebncbhmefmaaWArr
import Derived.Test.YthoebncbhmefmaaWZeros
import Derived.Test.YthoebncbhmefmaaWFoot
import Derived.Test.YthoebncbhmefmaaWKept
import Derived.Test.YthoebncbhmefmaaWShare
import Derived.Test.YthoebncbhmefmaaWN
import Derived.Test.YthoebncbhmefmaaWFootNe
import Derived.Test.YthoebncbhmefmaaWAt
import Derived.Test.YthoebncbhmefmaaWEqStruct
import Derived.Test.YthoebncbhmefmaaWRepsOne
import Derived.Test.YthoebncbhmefmaaWInv
import Derived.Test.YthoebncbhmefmaaWInvWords
import Derived.Test.YthoebncbhmefmaaWGuard
import Derived.Test.YthoebncbhmefmaaWNEv
import Derived.Test.YthoebncbhmefmaaWMore
import Derived.Test.YthoebncbhmefmaaRw
namespace Go.Proofs.Ythoebncbhmefmaa.Rc
open Go.RowKit Go.Proofs.YthoebncbhmefmaaW.PrintWords Go.Proofs.YthoebncbhmefmaaW.PrintLast Go.Proofs.YthoebncbhmefmaaW.PrintMore
attribute [local go_sem] max2_int min2_int max_two min_two max_three min_three max_four min_four
set_option linter.unusedVariables false
set_option linter.unusedSimpArgs false
def rtake (s : St) (n : Nat) : List Int × St := if s.2 = true ∨ s.1.length < n then ([], (s.1, true)) else (s.1.take n, (s.1.drop n, false))
def getB (l : List Int) : Int := l.foldl (fun v c => v * 256 + c) 0
def rnum (s : St) (n : Nat) : Int × St := (getB (rtake s n).1, (rtake s n).2)
def rword (s : St) : Int × St := rnum s 4
def rkey (s : St) : ByteArray × St := (strOfNums (rtake (rnum s 1).2 (rnum s 1).1.toNat).1, (rtake (rnum s 1).2 (rnum s 1).1.toNat).2)
def rloop {α : Type} (one : St → α × St) : Nat → St → List α → List α × St
  | 0, s, acc => (acc, s)
  | n + 1, s, acc => if s.2 = true then (acc, s) else rloop one n (one s).2 (acc ++ [(one s).1])
def rrow {α : Type} (one : St → α × St) (s : St) (n : Nat) : List α × St := rloop one (rnum s n).1.toNat (rnum s n).2 []
def rstripe (s : St) : S41 × St := (⟨(rword s).1, (rword (rword s).2).1, (rrow rword (rword (rword s).2).2 1).1⟩, (rrow rword (rword (rword s).2).2 1).2)
def robject (s : St) : S44 × St := (⟨(rkey s).1, (rword (rkey s).2).1, (rword (rword (rkey s).2).2).1, (rrow rstripe (rword (rword (rkey s).2).2).2 1).1⟩, (rrow rstripe (rword (rword (rkey s).2).2).2 1).2)
abbrev Byt (l : List Int) : Prop := ∀ x, x ∈ l → 0 ≤ x ∧ x < 256
theorem getB_snoc (l : List Int) (x : Int) : getB (l ++ [x]) = getB l * 256 + x := by simp [getB]
theorem getB_bound : ∀ (n : Nat) (l : List Int), l.length = n → Byt l → 0 ≤ getB l ∧ getB l < 256 ^ n
  | 0, l, hn, h => by
    obtain rfl : l = [] := List.length_eq_zero_iff.1 hn
    exact ⟨by decide, by decide⟩
  | n + 1, l, hn, h => by
    rcases List.eq_nil_or_concat l with rfl | ⟨l', x, rfl⟩
    · simp at hn
    · simp only [List.concat_eq_append] at *
      obtain ⟨h1, h2⟩ := getB_bound n l' (by simpa using hn) (fun y hy => h y (by simp [hy]))
      obtain ⟨h3, h4⟩ := h x (by simp)
      rw [getB_snoc, Int.pow_succ]
      exact ⟨by omega, by omega⟩
theorem or_byte (a c : Int) (ha : 0 ≤ a) (ha2 : a < 1099511627776) (hc : 0 ≤ c) (hc2 : c < 256) : Go.bits .or .u64 (IntKind.u64.wrap (a * 256)) (IntKind.u64.wrap c) = a * 256 + c := by
  obtain ⟨m, rfl⟩ := Int.eq_ofNat_of_zero_le ha
  obtain ⟨d, rfl⟩ := Int.eq_ofNat_of_zero_le hc
  have w1 : IntKind.u64.wrap ((m : Int) * 256) = (m : Int) * 256 := by rw [IntKind.wrap_u64]; omega
  have w2 : IntKind.u64.wrap (d : Int) = (d : Int) := by rw [IntKind.wrap_u64]; omega
  rw [w1, w2]
  show IntKind.u64.wrap ((BitVec.ofInt 64 ((m : Int) * 256) ||| BitVec.ofInt 64 (d : Int)).toNat : Int) = _
  rw [BitVec.toNat_or, BitVec.toNat_ofInt, BitVec.toNat_ofInt, IntKind.wrap_u64]
  have e1 : (((m : Int) * 256 % ((2 ^ 64 : Nat) : Int)).toNat) = m <<< 8 := by rw [Nat.shiftLeft_eq]; omega
  have e2 : (((d : Int) % ((2 ^ 64 : Nat) : Int)).toNat) = d := by omega
  rw [e1, e2, ← Nat.shiftLeft_add_eq_or_of_lt (by omega), Nat.shiftLeft_eq]
  omega
theorem get_l0 (l : List Int) (h : Byt l) (hl : l.length ≤ 5) : ∀ (d i k : Nat), d + i = l.length → d < k → hash_Get.l0 k (getB (l.take i)) l (l.length : Int) (i : Int) = some (getB l)
  | 0, i, k, hd, hk => by
    obtain ⟨k, rfl⟩ : ∃ m, k = m + 1 := ⟨k - 1, by omega⟩
    simp only [hash_Get.l0]
    rw [if_neg (by omega), List.take_of_length_le (by omega)]
  | d + 1, i, k, hd, hk => by
    obtain ⟨k, rfl⟩ : ∃ m, k = m + 1 := ⟨k - 1, by omega⟩
    simp only [hash_Get.l0]
    rw [if_pos (by omega), if_pos (by omega), if_pos (by omega), show wrap64 ((i : Int) + 1) = ((i + 1 : Nat) : Int) from by unfold wrap64; omega]
    have hi : i < l.length := by omega
    have hr : rd l (i : Int) = l[i] := by
      unfold rd
      rw [Int.toNat_natCast, List.getD_eq_getElem?_getD, List.getElem?_eq_getElem hi]; rfl
    have hb := getB_bound i (l.take i) (by rw [List.length_take]; omega) (fun x hx => h x (List.mem_of_mem_take hx))
    have hx := h l[i] (List.getElem_mem hi)
    have hp : (256 : Int) ^ i ≤ 1099511627776 := by
      have : i = 0 ∨ i = 1 ∨ i = 2 ∨ i = 3 ∨ i = 4 := by omega
      rcases this with rfl | rfl | rfl | rfl | rfl <;> decide
    rw [hr, or_byte _ _ hb.1 (by omega) hx.1 hx.2, ← getB_snoc, ← List.take_succ_eq_append_getElem hi]
    exact get_l0 l h hl d (i + 1) k (by omega) (by omega)
theorem get_f (l : List Int) (h : Byt l) (hl : l.length ≤ 5) : hash_Get.f 10 l = some (getB l) := get_l0 l h hl l.length 0 10 (by omega) (by omega)
/-- What is another block than g is as it was. -/
structure Kx (W W' : World) (g : Nat) : Prop where
  size : W.heap.size ≤ W'.heap.size
  block : ∀ k, k < W.heap.size → k ≠ g → W'.heap[k]? = W.heap[k]?
theorem Kx.refl (W : World) (g : Nat) : Kx W W g := ⟨Nat.le_refl _, fun _ _ _ => rfl⟩
theorem Kx.trans {a b c : World} {g : Nat} (h : Kx a b g) (k : Kx b c g) : Kx a c g := ⟨Nat.le_trans h.size k.size, fun i hi hn => (k.block i (Nat.lt_of_lt_of_le hi h.size) hn).trans (h.block i hi hn)⟩
theorem Kx.below {a b c : World} {g : Nat} (h : Kx a b g) (k : Below b.heap.size b c) : Kx a c g := h.trans ⟨k.size, fun i hi _ => k.block i hi⟩
theorem Kx.set {a b : World} {g : Nat} (h : Kx a b g) (j : Nat) (u : Value) : Kx a (b.setCell ⟨g, j, none⟩ u) g := h.trans ⟨by simp [World.setCell], fun i _ hn => Below.heap_setCell b _ u i hn⟩
/-- A reader at block g, made behind w0: its bytes are some that came in. -/
structure Rd (w0 W : World) (g : Nat) (s : St) : Prop where
  hb : Below w0.heap.size w0 W
  hg : w0.heap.size ≤ g
  by_ : Byt s.1
  ln : s.1.length < 140737488350000
  ex : ∃ A c, W.heap[g]? = some (.cells #[.slice A s.1.length c, .bool s.2] 57 (0, 0)) ∧ s.1.length ≤ c ∧ U8.C w0 A s.1.length s.1
theorem Rd.lt {w0 W : World} {g : Nat} {s : St} (h : Rd w0 W g s) : g < W.heap.size := by
  obtain ⟨A, c, hb, _⟩ := h.ex
  exact blk_lt hb
theorem Rd.below {w0 W W' : World} {g : Nat} {s : St} (h : Rd w0 W g s) (hb : Below W.heap.size W W') : Rd w0 W' g s := by
  obtain ⟨A, c, h1, h2⟩ := h.ex
  exact ⟨h.hb.trans (hb.mono h.hb.size), h.hg, h.by_, h.ln, A, c, blk_below h1 hb, h2⟩
theorem byt_take {l : List Int} (h : Byt l) (n : Nat) : Byt (l.take n) := fun x hx => h x (List.mem_of_mem_take hx)
theorem byt_drop {l : List Int} (h : Byt l) (n : Nat) : Byt (l.drop n) := fun x hx => h x (List.mem_of_mem_drop hx)
theorem byt_rtake {s : St} (h : Byt s.1) (n : Nat) : Byt (rtake s n).1 := by
  unfold rtake
  split
  · exact fun x hx => by cases hx
  · exact byt_take h n
theorem rtake_len (s : St) (n : Nat) : (rtake s n).1.length ≤ n := by
  unfold rtake
  split
  · exact Nat.zero_le _
  · show (s.1.take n).length ≤ n
    rw [List.length_take]; omega
set_option maxHeartbeats 4000000 in
set_option maxRecDepth 100000 in
theorem take_calls (w0 W : World) (g : Nat) (s : St) (n : Nat) (ni : Int) (hi : ni = (n : Int)) (h : Rd w0 W g s) (hn : n < 1000000) :
    Calls Try.prog 45 #[.pointer (some ⟨g, 0, none⟩), .int .i64 ni] W fun e w' => ∃ A c, e = .returned (.slice A (rtake s n).1.length c) ∧ (rtake s n).1.length ≤ c ∧ U8.C w0 A (rtake s n).1.length (rtake s n).1 ∧ Rd w0 w' g (rtake s n).2 ∧ Kx W w' g := by
  subst hi
  obtain ⟨l, bad⟩ := s
  obtain ⟨hb, hg, hy, hln, A, c, hblk, hlc, hC⟩ := h
  simp only at hy hln hblk hlc hC
  have c0 : W.cell? ⟨g, 0, none⟩ = some (.slice A l.length c) := (blk_cell hblk 0).trans rfl
  have c1 : W.cell? ⟨g, 1, none⟩ = some (.bool bad) := (blk_cell hblk 1).trans rfl
  have hfz : ∀ j, W.frozen? ⟨g, j, none⟩ = false := fun j => blk_frozen hblk j
  have HB := Aside0.mk hb
  have HG := Aside0.mk hg
  have HY := Aside0.mk hy
  have HLN := Aside0.mk hln
  have HK := Aside0.mk hblk
  have HLC := Aside0.mk hlc
  have HC := Aside0.mk hC
  clear hb hg hy hblk hC
  cases bad with
  | true =>
    have hbad : rtake (l, true) n = ([], (l, true)) := by unfold rtake; rw [if_pos (.inl rfl)]
    rw [hbad]
    clear hbad hlc hln
    go_enter Try.func45, Try.ntmps45
    go_wp2
    go_ret
    exact ⟨none, 0, rfl, Nat.le_refl _, Kd.C_nil _ _, ⟨HB.out.setCell HG.out _, HG.out, HY.out, HLN.out, A, c, blk_set HK.out 1 _, HLC.out, HC.out⟩, (Kx.refl W g).set 1 _⟩
  | false =>
    by_cases hbig : l.length < n
    · have hbad : rtake (l, false) n = ([], (l, true)) := by unfold rtake; rw [if_pos (.inr hbig)]
      have h1 : decide ((l.length : Int) < (n : Int)) = true := decide_eq_true (by omega)
      have h2 : decide (l.length < n) = true := decide_eq_true hbig
      rw [hbad]
      clear hbad hbig hlc hln
      go_enter Try.func45, Try.ntmps45
      go_wp2
      go_ret
      exact ⟨none, 0, rfl, Nat.le_refl _, Kd.C_nil _ _, ⟨HB.out.setCell HG.out _, HG.out, HY.out, HLN.out, A, c, blk_set HK.out 1 _, HLC.out, HC.out⟩, (Kx.refl W g).set 1 _⟩
    · have hgood : rtake (l, false) n = (l.take n, (l.drop n, false)) := by unfold rtake; rw [if_neg (by simp [hbig])]
      have h1 : decide ((l.length : Int) < (n : Int)) = false := decide_eq_false (by omega)
      have h2 : decide (l.length < n) = false := decide_eq_false hbig
      have hnl : n ≤ l.length := by omega
      have HNL := Aside0.mk hnl
      rw [hgood]
      clear hgood hbig
      have HC2 : Aside0 (U8.C w0 (if c = n then A else A.map (·.add n)) (l.drop n).length (l.drop n)) := ⟨by have := Kd.C_drop (m := n) (c := c) HC.out hnl HLC.out; simpa [Kd.int, Kd.scalar] using this⟩
      have HC1 := Aside0.mk (Kd.C_take HC.out hnl)
      have hnc : n ≤ c := Nat.le_trans hnl hlc
      by_cases hcn : c = n
      · subst hcn
        rw [if_pos rfl] at HC2
        have hz : c - c = 0 := Nat.sub_self c
        have hlz : l.length = c := by omega
        clear hln
        go_enter Try.func45, Try.ntmps45
        go_wp2
        go_ret
        have e1 : (l.drop c).length = 0 := by rw [List.length_drop]; omega
        have e2 : (l.take c).length = c := List.length_take_of_le HNL.out
        exact ⟨A, c, by rw [e2]; rfl, by rw [e2]; exact Nat.le_refl _, HC1.out, ⟨HB.out.setCell HG.out _, HG.out, byt_drop HY.out _, by have := HLN.out; show (l.drop c).length < _; omega, A, 0, by have := blk_set HK.out 0 (.slice A 0 0); rw [show ((l.drop c, false) : St).1.length = 0 from e1]; exact this, by rw [show ((l.drop c, false) : St).1.length = 0 from e1]; exact Nat.le_refl _, HC2.out⟩, (Kx.refl W g).set 0 _⟩
      · rw [if_neg hcn] at HC2
        have HCN := Aside0.mk hcn
        clear hln
        go_enter Try.func45, Try.ntmps45
        go_wp2
        go_ret
        have e1 : (l.drop n).length = l.length - n := List.length_drop
        have e2 : (l.take n).length = n := List.length_take_of_le HNL.out
        exact ⟨A, c, by rw [e2]; rfl, by rw [e2]; exact hnc, HC1.out, ⟨HB.out.setCell HG.out _, HG.out, byt_drop HY.out _, by have := HLN.out; show (l.drop n).length < _; omega, _, c - n, by rw [show ((l.drop n, false) : St).1.length = l.length - n from e1]; exact blk_set HK.out 0 _, by rw [show ((l.drop n, false) : St).1.length = l.length - n from e1]; have := HLC.out; omega, HC2.out⟩, (Kx.refl W g).set 0 _⟩
set_option maxHeartbeats 4000000 in
set_option maxRecDepth 100000 in
theorem num_reads (w0 W : World) (g : Nat) (s : St) (n : Nat) (ni : Int) (hi : ni = (n : Int)) (h : Rd w0 W g s) (hn : n ≤ 4) :
    Calls Try.prog 25 #[.pointer (some ⟨g, 0, none⟩), .int .i64 ni] W fun e w' => e = .returned (.int .i64 (rnum s n).1) ∧ Rd w0 w' g (rnum s n).2 ∧ Kx W w' g := by
  have HT := Aside0.mk (take_calls w0 W g s n ni hi h (by omega))
  have hby := byt_rtake h.by_ n
  have hlen := rtake_len s n
  obtain ⟨hb1, hb2⟩ := getB_bound _ _ rfl hby
  have hp : (256 : Int) ^ (rtake s n).1.length ≤ 4294967296 := by
    have : (rtake s n).1.length = 0 ∨ (rtake s n).1.length = 1 ∨ (rtake s n).1.length = 2 ∨ (rtake s n).1.length = 3 ∨ (rtake s n).1.length = 4 := by omega
    rcases this with h | h | h | h | h <;> rw [h] <;> decide
  have HGf := Aside0.mk (get_f (rtake s n).1 hby (by omega))
  have HE : Aside0 (rnum s n = (getB (rtake s n).1, (rtake s n).2)) := ⟨rfl⟩
  rw [HE.out]
  obtain ⟨p, hp0⟩ : ∃ p, p = rtake s n := ⟨_, rfl⟩
  rw [← hp0] at HT HGf hb1 hb2 hp
  rw [← hp0]
  obtain ⟨y, hy⟩ : ∃ y, y = getB p.1 := ⟨_, rfl⟩
  rw [← hy] at HGf hb1 hb2
  simp only [← hy]
  have hy2 : y < 4294967296 := by omega
  clear h hby hlen hp hb2 hp0 hy HE
  subst hi
  go_enter Try.func25, Try.ntmps25
  go_wp2_with fail
  refine HT.out.mono ?_
  rintro e w1 ⟨A, c, rfl, hc, hC, hR, hk⟩
  have HC := Aside0.mk hC
  have HLC := Aside0.mk hc
  have HR := Aside0.mk hR
  have HK := Aside0.mk hk
  clear hC hc hR hk HT
  go_wp2_with fail
  refine (hash_Get.calls 10 A c p.1 y w1 (Kd.C_below HC.out HR.out.hb) HLC.out HGf.out).mono ?_
  rintro e w2 ⟨rfl, hd⟩
  have HD := Aside0.mk hd
  clear hd
  go_wp2
  go_ret
  obtain ⟨q, hq⟩ := HD.out
  subst hq
  exact ⟨rfl, HR.out.below (pw_below_drewN (Below.refl _ _) _), HK.out.below (pw_below_drewN (Below.refl _ _) _)⟩
theorem word_reads (w0 W : World) (g : Nat) (s : St) (h : Rd w0 W g s) :
    Calls Try.prog 26 #[.pointer (some ⟨g, 0, none⟩)] W fun e w' => e = .returned (.int .i64 (rword s).1) ∧ Rd w0 w' g (rword s).2 ∧ Kx W w' g := by
  have HT := Aside0.mk (num_reads w0 W g s 4 4 rfl h (by decide))
  have HE : Aside0 (rword s = rnum s 4) := ⟨rfl⟩
  rw [HE.out]
  clear h
  go_enter Try.func26, Try.ntmps26
  go_wp2_with fail
  refine HT.out.mono ?_
  rintro e w1 ⟨rfl, hR, hk⟩
  have HR := Aside0.mk hR
  have HK := Aside0.mk hk
  clear hR hk HT
  go_wp2
  go_ret
  exact ⟨rfl, HR.out, HK.out⟩
set_option maxHeartbeats 4000000 in
set_option maxRecDepth 100000 in
theorem key_reads (w0 W : World) (g : Nat) (s : St) (h : Rd w0 W g s) :
    Calls Try.prog 27 #[.pointer (some ⟨g, 0, none⟩)] W fun e w' => e = .returned (.string (rkey s).1) ∧ Rd w0 w' g (rkey s).2 ∧ Kx W w' g := by
  have HT := Aside0.mk (num_reads w0 W g s 1 1 rfl h (by decide))
  have hby := byt_rtake h.by_ 1
  obtain ⟨hb1, hb2⟩ := getB_bound _ _ rfl hby
  have hp : (256 : Int) ^ (rtake s 1).1.length ≤ 256 := by
    have := rtake_len s 1
    have : (rtake s 1).1.length = 0 ∨ (rtake s 1).1.length = 1 := by omega
    rcases this with h | h <;> rw [h] <;> decide
  have hy1 : 0 ≤ (rnum s 1).1 := hb1
  have hy2 : (rnum s 1).1 < 256 := by show getB (rtake s 1).1 < 256; omega
  have HE : Aside0 (rkey s = (strOfNums (rtake (rnum s 1).2 (rnum s 1).1.toNat).1, (rtake (rnum s 1).2 (rnum s 1).1.toNat).2)) := ⟨rfl⟩
  rw [HE.out]
  obtain ⟨p, hp0⟩ : ∃ p, p = rnum s 1 := ⟨_, rfl⟩
  rw [← hp0] at HT hy1 hy2
  rw [← hp0]
  clear h hby hb1 hb2 hp hp0 HE
  obtain ⟨y, t⟩ := p
  obtain ⟨m, rfl⟩ := Int.eq_ofNat_of_zero_le hy1
  simp only at HT hy2
  simp only [Int.toNat_natCast]
  have hm : m < 1000000 := by omega
  clear hy1 hy2
  obtain ⟨q, hq⟩ : ∃ q, q = rtake t m := ⟨_, rfl⟩
  have HQ := Aside0.mk hq
  rw [← hq]
  clear hq
  go_enter Try.func27, Try.ntmps27
  go_wp2_with fail
  refine HT.out.mono ?_
  rintro e w1 ⟨rfl, hR, hk⟩
  have HR := Aside0.mk hR
  have HK := Aside0.mk hk
  have HT2 := Aside0.mk (take_calls w0 w1 g t m m rfl hR hm)
  rw [← HQ.out] at HT2
  clear hR hk HT
  go_wp2_with fail
  refine HT2.out.mono ?_
  rintro e w2 ⟨A, c, rfl, hc, hC, hR2, hk2⟩
  have HR2 := Aside0.mk hR2
  have HK2 := Aside0.mk hk2
  have hs := Kd.C_string (P := Try.prog) (c := c) Try.underlying29 Try.underlying5 Try.underlying9 (Kd.C_below hC hR2.hb)
  clear hc hC hR2 hk2 HT2
  go_wp2
  go_ret
  exact ⟨rfl, HR2.out, HK.out.trans HK2.out⟩
theorem Kx.new {a b : World} {g p : Nat} (h : Kx a b g) (hp : a.heap.size ≤ p) (j : Nat) (u : Value) : Kx a (b.setCell ⟨p, j, none⟩ u) g := ⟨by have := h.size; simp [World.setCell]; omega, fun i hi hn => (Below.heap_setCell b _ u i (fun e => by have : i = p := e; omega)).trans (h.block i hi hn)⟩
theorem Rd.far {w0 W : World} {g : Nat} {s : St} (h : Rd w0 W g s) {p : Nat} (hp : w0.heap.size ≤ p) (hne : g ≠ p) (j : Nat) (u : Value) : Rd w0 (W.setCell ⟨p, j, none⟩ u) g s := by
  obtain ⟨A, c, h1, h2⟩ := h.ex
  exact ⟨h.hb.setCell hp _, h.hg, h.by_, h.ln, A, c, (Below.heap_setCell W _ u g (fun e => hne e)).trans h1, h2⟩
theorem info3 : (Try.prog.info? 3).map (fun i => (i.zero, i.size, i.bytes)) = some (some (.int .i64 0), 1, 8) := by kernel_rfl
set_option maxHeartbeats 4000000 in
set_option maxRecDepth 100000 in
theorem rowInt_reads (w0 W : World) (g : Nat) (s : St) (n : Nat) (ni : Int) (hi : ni = (n : Int)) (h : Rd w0 W g s) (hn : n ≤ 2) :
    Calls Try.prog 32 #[.pointer (some ⟨g, 0, none⟩), .int .i64 ni, .func (.func 26) #[.pointer (some ⟨g, 0, none⟩)] #[]] W fun e w' => ∃ v, e = .returned v ∧ (Kd.int .i64).R 3 w' w0.heap.size (fun k => W.heap.size ≤ k) v (rrow rword s n).1 ∧ Rd w0 w' g (rrow rword s n).2 ∧ Kx W w' g := by
  have HT := Aside0.mk (num_reads w0 W g s n ni hi h (by omega))
  have hby := byt_rtake h.by_ n
  obtain ⟨hb1, hb2⟩ := getB_bound _ _ rfl hby
  have hp : (256 : Int) ^ (rtake s n).1.length ≤ 65536 := by
    have := rtake_len s n
    have : (rtake s n).1.length = 0 ∨ (rtake s n).1.length = 1 ∨ (rtake s n).1.length = 2 := by omega
    rcases this with h | h | h <;> rw [h] <;> decide
  have hgw := h.lt
  have hg0 := h.hg
  have hW0 := h.hb.size
  have HE : Aside0 (rrow rword s n = rloop rword (rnum s n).1.toNat (rnum s n).2 []) := ⟨rfl⟩
  have hy1 : 0 ≤ (rnum s n).1 := hb1
  have hy2 : (rnum s n).1 < 65536 := by show getB (rtake s n).1 < 65536; omega
  obtain ⟨X, hX⟩ : ∃ X, X = rrow rword s n := ⟨_, rfl⟩
  rw [← hX] at HE ⊢
  obtain ⟨p, hp0⟩ : ∃ p, p = rnum s n := ⟨_, rfl⟩
  rw [← hp0] at HT hy1 hy2 HE
  clear h hby hb1 hb2 hp hp0 hX
  obtain ⟨y, t0⟩ := p
  obtain ⟨m0, rfl⟩ := Int.eq_ofNat_of_zero_le hy1
  simp only [Int.toNat_natCast] at HT hy2 HE
  have hm : m0 < 65536 := by omega
  clear hy1 hy2
  subst hi
  have HG0 := Aside0.mk hg0
  have HGW := Aside0.mk hgw
  have HW0 := Aside0.mk hW0
  clear hg0 hgw hW0
  go_enter Try.func32, Try.ntmps32
  go_wp2_with fail
  refine HT.out.mono ?_
  rintro e w1 ⟨rfl, hR, hk⟩
  have HR := Aside0.mk hR
  have HK := Aside0.mk hk
  clear hR hk HT
  go_wp2
  go_loopw [7, 8, 12, 13, 14, 15, 16, 17, 18, 19, 20, 21, 22, 23, 24, 25, 26, 27] (fun x7 x8 x12 x13 x14 x15 x16 x17 x18 x19 x20 x21 x22 x23 x24 x25 x26 x27 wr => ∃ (m : Nat) (t : St) (acc : List (Int)), x8 = .int .i64 m ∧ Aside0 ((Kd.int .i64).R 3 wr w0.heap.size (fun k => W.heap.size ≤ k) x7 acc) ∧ Aside0 (Rd w0 wr g t) ∧ Aside0 (Kx W wr g) ∧ Aside0 (X = rloop rword m t acc) ∧ m + acc.length ≤ 65536) (fun _ x8 _ _ _ _ _ _ _ _ _ _ _ _ _ _ _ _ _ => (intOf x8).toNat)
  case atStart => exact ⟨m0, t0, [], rfl, ⟨Kd.R_nil _ _ _ _ _⟩, HR, HK, HE, by simp only [List.length_nil]; omega⟩
  case round =>
    obtain ⟨m, t, acc, rfl, HO, HR, HK, HX, hma⟩ := hrel
    obtain ⟨A, c, hblk, _, _⟩ := HR.out.ex
    have c1 : wr.cell? ⟨g, 1, none⟩ = some (.bool t.2) := (blk_cell hblk 1).trans rfl
    clear hblk
    rcases Nat.eq_zero_or_pos m with hm0 | hm0
    · subst hm0
      have HX0 : Aside0 (X = (acc, t)) := ⟨HX.out⟩
      clear hma HX
      go_wp2
      go_ret
      exact ⟨_, rfl, by rw [HX0.out]; exact HO.out, by rw [HX0.out]; exact HR.out, HK.out⟩
    · obtain ⟨m, rfl⟩ : ∃ j, m = j + 1 := ⟨m - 1, by omega⟩
      have hd : decide ((0 : Int) < ((m + 1 : Nat) : Int)) = true := decide_eq_true (by omega)
      have hd2 : decide (0 < m + 1) = true := decide_eq_true (by omega)
      cases hbad : t.2 with
      | true =>
        have HX0 : Aside0 (X = (acc, t)) := ⟨by rw [HX.out]; show (if t.2 = true then _ else _) = _; rw [if_pos hbad]⟩
        rw [hbad] at c1
        clear hma HX hbad hm0
        go_wp2
        go_ret
        exact ⟨_, rfl, by rw [HX0.out]; exact HO.out, by rw [HX0.out]; exact HR.out, HK.out⟩
      | false =>
        have HX0 : Aside0 (X = rloop rword m (rword t).2 (acc ++ [(rword t).1])) := ⟨by rw [HX.out]; show (if t.2 = true then _ else _) = _; rw [if_neg (by rw [hbad]; exact Bool.false_ne_true)]⟩
        rw [hbad] at c1
        have HC1 : Aside0 _ := ⟨word_reads w0 wr g t HR.out⟩
        obtain ⟨q, hq⟩ : ∃ q, q = rword t := ⟨_, rfl⟩
        rw [← hq] at HX0 HC1
        have hwm : wrap64 (((m + 1 : Nat) : Int) - 1) = (m : Int) := by unfold wrap64; omega
        clear HX hbad hm0 hq
        go_wp2_with fail
        refine HC1.out.mono ?_
        rintro e w2 ⟨rfl, hR2, hk2⟩
        have HR2 := Aside0.mk hR2
        have HK2 := Aside0.mk (HK.out.trans hk2)
        have hn2 := hk2.size
        have HO2 : Aside0 ((Kd.int .i64).R 3 w2 w0.heap.size (fun k => W.heap.size ≤ k) u7 acc) := ⟨Kd.R_step HO.out (fun k hk hl => hk2.block k hl (by have := HGW.out; omega))⟩
        have HLt : Aside0 (∀ k, u7.ownBlock = some k → W.heap.size ≤ k ∧ k < wr.heap.size) := ⟨fun k hk => ⟨HO.out.1 k hk, ((Kd.R_bound HO.out).1 k hk).2.2.1⟩⟩
        have HN2 := Aside0.mk hn2
        have HWr := Aside0.mk HK.out.size
        have HM : Aside0 ((Kd.int .i64).M w2 w0.heap.size (fun k => wr.heap.size ≤ k) q.1 [.int .i64 q.1]) := ⟨rfl⟩
        clear hR2 hk2 hn2 HC1
        go_wp2_with (at_builtin; refine Kd.R_append (Kd.int .i64) (w0 := w0) w0.heap.size rfl (.tmp 23) (.tmp 26) 24 3 (.int .i64 0) 8 rfl Try.underlying24 info3 rfl (by decide) (by decide) u7 acc q.1 [.int .i64 q.1] (fun k => W.heap.size ≤ k) (fun k => wr.heap.size ≤ k) rfl rfl HM.out (fun k hk => ⟨Nat.le_trans HWr.out hk, fun e => by have := (HLt.out k e.symm).2; omega⟩) (fun k hk => Nat.le_trans HWr.out (Nat.le_trans HN2.out hk)) HO2.out HR2.out.hb HR2.out.hb.size (by omega) ?_; intro v3 w3 ho hb hg hat; have HO3 := Aside0.mk ho; have HB3 := Aside0.mk hb; have HG3 := Aside0.mk hg; clear ho hb hg hat)
        go_roundw
        case rel =>
          have hrow : some g ≠ u7.ownBlock := fun e => by have := (HLt.out g e.symm).1; have := HGW.out; omega
          obtain ⟨A, c, hblk, hlc, hC⟩ := HR2.out.ex
          have hR3 : Rd w0 w3 g q.2 := ⟨HB3.out, HG0.out, HR2.out.by_, HR2.out.ln, A, c, (HG3.out.block g HR2.out.lt hrow).trans hblk, hlc, hC⟩
          have hK3 : Kx W w3 g := ⟨Nat.le_trans HK2.out.size HG3.out.size, fun k hk hn => (HG3.out.block k (Nat.lt_of_lt_of_le hk HK2.out.size) (fun e => by have := (HLt.out k e.symm).1; omega)).trans (HK2.out.block k hk hn)⟩
          exact ⟨m, q.2, _, by go_num, HO3, ⟨hR3⟩, ⟨hK3⟩, HX0, by rw [List.length_append, List.length_singleton]; omega⟩
        case measure => simp [intOf]
set_option maxHeartbeats 4000000 in
set_option maxRecDepth 100000 in
theorem stripe_reads (w0 W : World) (g : Nat) (s : St) (h : Rd w0 W g s) :
    Calls Try.prog 29 #[.pointer (some ⟨g, 0, none⟩)] W fun e w' => (∃ v, e = .returned (.agg #[.int .i64 (rstripe s).1.f0, .int .i64 (rstripe s).1.f1, v]) ∧ (Kd.int .i64).R 3 w' w0.heap.size (fun k => W.heap.size ≤ k) v (rstripe s).1.f2) ∧ Rd w0 w' g (rstripe s).2 ∧ Kx W w' g := by
  have hlt := h.lt
  have hW0 := h.hb.size
  obtain ⟨wa, hwa⟩ : ∃ wa, wa = W.alloc (.cells #[.int .i64 0, .int .i64 0, .slice none 0 0] 41) := ⟨_, rfl⟩
  have hBa : Below W.heap.size W wa := by rw [hwa]; exact (Below.refl _ _).alloc (Nat.le_refl _) _
  have hblk : wa.heap[W.heap.size]? = some (.cells #[.int .i64 0, .int .i64 0, .slice none 0 0] 41 (0, 0)) := by rw [hwa]; exact heap_alloc_new W _
  have HR1 := Aside0.mk (h.below hBa)
  have HBa := Aside0.mk hBa
  have HBk := Aside0.mk hblk
  have HWA := Aside0.mk hwa
  have HK1 : Aside0 (Kx wa wa g) := ⟨Kx.refl _ _⟩
  have HW0 := Aside0.mk hW0
  have hne : W.heap.size ≠ g := by omega
  have HNE := Aside0.mk hne
  have HLW := Aside0.mk (blk_lt hblk)
  obtain ⟨a, ha⟩ : ∃ a, a = rword s := ⟨_, rfl⟩
  obtain ⟨b, hb⟩ : ∃ b, b = rword a.2 := ⟨_, rfl⟩
  obtain ⟨c, hc⟩ : ∃ c, c = rrow rword b.2 1 := ⟨_, rfl⟩
  have HE : Aside0 (rstripe s = (⟨a.1, b.1, c.1⟩, c.2)) := ⟨by rw [hc, hb, ha]; rfl⟩
  have HA := Aside0.mk ha
  have HB := Aside0.mk hb
  have HCC := Aside0.mk hc
  clear ha hb hc
  clear h hlt hwa hBa hblk hW0 hne
  go_enter Try.func29, Try.ntmps29
  go_upto_region 1 with fail
  rw [← HWA.out]
  have HC : Aside0 _ := ⟨word_reads w0 wa g s HR1.out⟩
  rw [← HA.out] at HC
  go_wp2_with fail
  refine HC.out.mono ?_
  rintro e w2 ⟨rfl, hR, hk⟩
  have HR2 := Aside0.mk hR
  have HK2 := Aside0.mk (HK1.out.trans hk)
  clear hR hk HC
  have HC : Aside0 _ := ⟨word_reads w0 w2 g a.2 HR2.out⟩
  rw [← HB.out] at HC
  go_wp2_with fail
  refine HC.out.mono ?_
  rintro e w3 ⟨rfl, hR, hk⟩
  have HR3 := Aside0.mk hR
  have HK3 := Aside0.mk (HK2.out.trans hk)
  clear hR hk HC
  have HC : Aside0 _ := ⟨rowInt_reads w0 w3 g b.2 1 1 rfl HR3.out (by decide)⟩
  rw [← HCC.out] at HC
  go_wp2_with fail
  refine HC.out.mono ?_
  rintro e w4 ⟨v4, rfl, hv, hR, hk⟩
  have HR4 := Aside0.mk hR
  have HK4 := Aside0.mk (HK3.out.trans hk)
  obtain ⟨A4, n4, e4⟩ := Kd.R_slice hv
  subst e4
  have HV := Aside0.mk hv
  have HZ : Aside0 (wa.heap.size ≤ w3.heap.size) := ⟨HK3.out.size⟩
  clear hv
  clear hR hk HC
  have hb9 : w4.heap[W.heap.size]? = some (.cells #[.int .i64 0, .int .i64 0, .slice none 0 0] 41 (0, 0)) := (HK4.out.block _ HLW.out HNE.out).trans HBk.out
  have HB9 := Aside0.mk hb9
  have d0 : w4.cell? ⟨W.heap.size, 0, none⟩ = some (.int .i64 0) := (blk_cell hb9 0).trans rfl
  have d1 : w4.cell? ⟨W.heap.size, 1, none⟩ = some (.int .i64 0) := (blk_cell hb9 1).trans rfl
  have d2 : w4.cell? ⟨W.heap.size, 2, none⟩ = some (.slice none 0 0) := (blk_cell hb9 2).trans rfl
  have dfz : ∀ j, w4.frozen? ⟨W.heap.size, j, none⟩ = false := fun j => blk_frozen hb9 j
  clear hb9
  go_wp2
  have hB : (((w4.setCell ⟨W.heap.size, 0, none⟩ (.int .i64 a.1)).setCell ⟨W.heap.size, 1, none⟩ (.int .i64 b.1)).setCell ⟨W.heap.size, 2, none⟩ (.slice A4 c.1.length n4)).heap[W.heap.size]? = some (.cells #[.int .i64 a.1, .int .i64 b.1, .slice A4 c.1.length n4] 41 (0, 0)) := (blk_set (blk_set (blk_set HB9.out 0 (.int .i64 a.1)) 1 (.int .i64 b.1)) 2 (.slice A4 c.1.length n4))
  have HKW : Kx W w4 g := (Kx.refl W g).below HBa.out |>.trans HK4.out
  have hRf := (Rd.far (Rd.far (Rd.far HR4.out HW0.out (Ne.symm HNE.out) 0 (.int .i64 a.1)) HW0.out (Ne.symm HNE.out) 1 (.int .i64 b.1)) HW0.out (Ne.symm HNE.out) 2 (.slice A4 c.1.length n4))
  have hKf := (((HKW.new (Nat.le_refl _) 0 (.int .i64 a.1)).new (Nat.le_refl _) 1 (.int .i64 b.1)).new (Nat.le_refl _) 2 (.slice A4 c.1.length n4))
  refine bodyPost_ret (results_cell_row rfl _ _ W.heap.size 41 #[.int .i64 a.1, .int .i64 b.1, .slice A4 c.1.length n4] (0, 0) _ rfl hB Try.underlying41 rfl (by kernel_rfl)) rfl ?_
  have hRow := HV.out
  have hfar : ∀ k, w3.heap.size ≤ k → k ≠ W.heap.size := fun k hk => by have := HLW.out; have := HZ.out; omega
  refine ⟨⟨.slice A4 c.1.length n4, by rw [HE.out], ?_⟩, by rw [HE.out]; exact hRf, hKf⟩
  rw [HE.out]
  exact Kd.R_mono (Kd.R_far (Kd.R_far (Kd.R_far hRow (fun k hk => hfar k hk) _) (fun k hk => hfar k hk) _) (fun k hk => hfar k hk) _) (fun k hk => by have := HLW.out; have := HZ.out; omega)
theorem info41 : (Try.prog.info? 41).map (fun i => (i.zero, i.size, i.bytes)) = some (some (.agg #[.int .i64 0, .int .i64 0, .slice none 0 0]), 3, 40) := by kernel_rfl
set_option maxHeartbeats 4000000 in
set_option maxRecDepth 100000 in
theorem rowStripe_reads (w0 W : World) (g : Nat) (s : St) (n : Nat) (ni : Int) (hi : ni = (n : Int)) (h : Rd w0 W g s) (hn : n ≤ 2) :
    Calls Try.prog 28 #[.pointer (some ⟨g, 0, none⟩), .int .i64 ni, .func (.func 29) #[.pointer (some ⟨g, 0, none⟩)] #[]] W fun e w' => ∃ v, e = .returned v ∧ (k41).R 41 w' w0.heap.size (fun k => W.heap.size ≤ k) v (rrow rstripe s n).1 ∧ Rd w0 w' g (rrow rstripe s n).2 ∧ Kx W w' g := by
  have HT := Aside0.mk (num_reads w0 W g s n ni hi h (by omega))
  have hby := byt_rtake h.by_ n
  obtain ⟨hb1, hb2⟩ := getB_bound _ _ rfl hby
  have hp : (256 : Int) ^ (rtake s n).1.length ≤ 65536 := by
    have := rtake_len s n
    have : (rtake s n).1.length = 0 ∨ (rtake s n).1.length = 1 ∨ (rtake s n).1.length = 2 := by omega
    rcases this with h | h | h <;> rw [h] <;> decide
  have hgw := h.lt
  have hg0 := h.hg
  have hW0 := h.hb.size
  have HE : Aside0 (rrow rstripe s n = rloop rstripe (rnum s n).1.toNat (rnum s n).2 []) := ⟨rfl⟩
  have hy1 : 0 ≤ (rnum s n).1 := hb1
  have hy2 : (rnum s n).1 < 65536 := by show getB (rtake s n).1 < 65536; omega
  obtain ⟨X, hX⟩ : ∃ X, X = rrow rstripe s n := ⟨_, rfl⟩
  rw [← hX] at HE ⊢
  obtain ⟨p, hp0⟩ : ∃ p, p = rnum s n := ⟨_, rfl⟩
  rw [← hp0] at HT hy1 hy2 HE
  clear h hby hb1 hb2 hp hp0 hX
  obtain ⟨y, t0⟩ := p
  obtain ⟨m0, rfl⟩ := Int.eq_ofNat_of_zero_le hy1
  simp only [Int.toNat_natCast] at HT hy2 HE
  have hm : m0 < 65536 := by omega
  clear hy1 hy2
  subst hi
  have HG0 := Aside0.mk hg0
  have HGW := Aside0.mk hgw
  have HW0 := Aside0.mk hW0
  clear hg0 hgw hW0
  go_enter Try.func28, Try.ntmps28
  go_wp2_with fail
  refine HT.out.mono ?_
  rintro e w1 ⟨rfl, hR, hk⟩
  have HR := Aside0.mk hR
  have HK := Aside0.mk hk
  clear hR hk HT
  go_wp2
  go_loopw [7, 8, 12, 13, 14, 15, 16, 17, 18, 19, 20, 21, 22, 23, 24, 25, 26, 27] (fun x7 x8 x12 x13 x14 x15 x16 x17 x18 x19 x20 x21 x22 x23 x24 x25 x26 x27 wr => ∃ (m : Nat) (t : St) (acc : List (S41)), x8 = .int .i64 m ∧ Aside0 ((k41).R 41 wr w0.heap.size (fun k => W.heap.size ≤ k) x7 acc) ∧ Aside0 (Rd w0 wr g t) ∧ Aside0 (Kx W wr g) ∧ Aside0 (X = rloop rstripe m t acc) ∧ m + acc.length ≤ 65536) (fun _ x8 _ _ _ _ _ _ _ _ _ _ _ _ _ _ _ _ _ => (intOf x8).toNat)
  case atStart => exact ⟨m0, t0, [], rfl, ⟨Kd.R_nil _ _ _ _ _⟩, HR, HK, HE, by simp only [List.length_nil]; omega⟩
  case round =>
    obtain ⟨m, t, acc, rfl, HO, HR, HK, HX, hma⟩ := hrel
    obtain ⟨A, c, hblk, _, _⟩ := HR.out.ex
    have c1 : wr.cell? ⟨g, 1, none⟩ = some (.bool t.2) := (blk_cell hblk 1).trans rfl
    clear hblk
    rcases Nat.eq_zero_or_pos m with hm0 | hm0
    · subst hm0
      have HX0 : Aside0 (X = (acc, t)) := ⟨HX.out⟩
      clear hma HX
      go_wp2
      go_ret
      exact ⟨_, rfl, by rw [HX0.out]; exact HO.out, by rw [HX0.out]; exact HR.out, HK.out⟩
    · obtain ⟨m, rfl⟩ : ∃ j, m = j + 1 := ⟨m - 1, by omega⟩
      have hd : decide ((0 : Int) < ((m + 1 : Nat) : Int)) = true := decide_eq_true (by omega)
      have hd2 : decide (0 < m + 1) = true := decide_eq_true (by omega)
      cases hbad : t.2 with
      | true =>
        have HX0 : Aside0 (X = (acc, t)) := ⟨by rw [HX.out]; show (if t.2 = true then _ else _) = _; rw [if_pos hbad]⟩
        rw [hbad] at c1
        clear hma HX hbad hm0
        go_wp2
        go_ret
        exact ⟨_, rfl, by rw [HX0.out]; exact HO.out, by rw [HX0.out]; exact HR.out, HK.out⟩
      | false =>
        have HX0 : Aside0 (X = rloop rstripe m (rstripe t).2 (acc ++ [(rstripe t).1])) := ⟨by rw [HX.out]; show (if t.2 = true then _ else _) = _; rw [if_neg (by rw [hbad]; exact Bool.false_ne_true)]⟩
        rw [hbad] at c1
        have HC1 : Aside0 _ := ⟨stripe_reads w0 wr g t HR.out⟩
        obtain ⟨q, hq⟩ : ∃ q, q = rstripe t := ⟨_, rfl⟩
        rw [← hq] at HX0 HC1
        have hwm : wrap64 (((m + 1 : Nat) : Int) - 1) = (m : Int) := by unfold wrap64; omega
        clear HX hbad hm0 hq
        go_wp2_with fail
        refine HC1.out.mono ?_
        rintro e w2 ⟨⟨v5, rfl, hv5⟩, hR2, hk2⟩
        have HR2 := Aside0.mk hR2
        have HK2 := Aside0.mk (HK.out.trans hk2)
        have hn2 := hk2.size
        have HO2 : Aside0 ((k41).R 41 w2 w0.heap.size (fun k => W.heap.size ≤ k) u7 acc) := ⟨Kd.R_step HO.out (fun k hk hl => hk2.block k hl (by have := HGW.out; omega))⟩
        have HLt : Aside0 (∀ k, u7.ownBlock = some k → W.heap.size ≤ k ∧ k < wr.heap.size) := ⟨fun k hk => ⟨HO.out.1 k hk, ((Kd.R_bound HO.out).1 k hk).2.2.1⟩⟩
        have HN2 := Aside0.mk hn2
        have HWr := Aside0.mk HK.out.size
        obtain ⟨A5, n5, e5⟩ := Kd.R_slice hv5
        subst e5
        have HM : Aside0 (k41.M w2 w0.heap.size (fun k => wr.heap.size ≤ k) q.1 [.int .i64 q.1.f0, .int .i64 q.1.f1, .slice A5 q.1.f2.length n5]) := ⟨k41_mkM _ _ _ q.1 hv5⟩
        clear hv5
        clear hR2 hk2 hn2 HC1
        go_wp2_with (at_builtin; refine Kd.R_append (k41) (w0 := w0) w0.heap.size rfl (.tmp 23) (.tmp 26) 22 41 (.agg #[.int .i64 0, .int .i64 0, .slice none 0 0]) 40 rfl Try.underlying22 info41 rfl (by decide) (by decide) u7 acc q.1 [.int .i64 q.1.f0, .int .i64 q.1.f1, .slice A5 q.1.f2.length n5] (fun k => W.heap.size ≤ k) (fun k => wr.heap.size ≤ k) rfl rfl HM.out (fun k hk => ⟨Nat.le_trans HWr.out hk, fun e => by have := (HLt.out k e.symm).2; omega⟩) (fun k hk => Nat.le_trans HWr.out (Nat.le_trans HN2.out hk)) HO2.out HR2.out.hb HR2.out.hb.size (by omega) ?_; intro v3 w3 ho hb hg hat; have HO3 := Aside0.mk ho; have HB3 := Aside0.mk hb; have HG3 := Aside0.mk hg; clear ho hb hg hat)
        go_roundw
        case rel =>
          have hrow : some g ≠ u7.ownBlock := fun e => by have := (HLt.out g e.symm).1; have := HGW.out; omega
          obtain ⟨A, c, hblk, hlc, hC⟩ := HR2.out.ex
          have hR3 : Rd w0 w3 g q.2 := ⟨HB3.out, HG0.out, HR2.out.by_, HR2.out.ln, A, c, (HG3.out.block g HR2.out.lt hrow).trans hblk, hlc, hC⟩
          have hK3 : Kx W w3 g := ⟨Nat.le_trans HK2.out.size HG3.out.size, fun k hk hn => (HG3.out.block k (Nat.lt_of_lt_of_le hk HK2.out.size) (fun e => by have := (HLt.out k e.symm).1; omega)).trans (HK2.out.block k hk hn)⟩
          exact ⟨m, q.2, _, by go_num, HO3, ⟨hR3⟩, ⟨hK3⟩, HX0, by rw [List.length_append, List.length_singleton]; omega⟩
        case measure => simp [intOf]
set_option maxHeartbeats 4000000 in
set_option maxRecDepth 100000 in
theorem object_reads (w0 W : World) (g : Nat) (s : St) (h : Rd w0 W g s) :
    Calls Try.prog 31 #[.pointer (some ⟨g, 0, none⟩)] W fun e w' => (∃ v, e = .returned (.agg #[.string (robject s).1.f0, .int .i64 (robject s).1.f1, .int .i64 (robject s).1.f2, v]) ∧ k41.R 41 w' w0.heap.size (fun k => W.heap.size ≤ k) v (robject s).1.f3) ∧ Rd w0 w' g (robject s).2 ∧ Kx W w' g := by
  have hlt := h.lt
  have hW0 := h.hb.size
  obtain ⟨wa, hwa⟩ : ∃ wa, wa = W.alloc (.cells #[.string ⟨#[]⟩, .int .i64 0, .int .i64 0, .slice none 0 0] 44) := ⟨_, rfl⟩
  have hBa : Below W.heap.size W wa := by rw [hwa]; exact (Below.refl _ _).alloc (Nat.le_refl _) _
  have hblk : wa.heap[W.heap.size]? = some (.cells #[.string ⟨#[]⟩, .int .i64 0, .int .i64 0, .slice none 0 0] 44 (0, 0)) := by rw [hwa]; exact heap_alloc_new W _
  have HR1 := Aside0.mk (h.below hBa)
  have HBa := Aside0.mk hBa
  have HBk := Aside0.mk hblk
  have HWA := Aside0.mk hwa
  have HK1 : Aside0 (Kx wa wa g) := ⟨Kx.refl _ _⟩
  have HW0 := Aside0.mk hW0
  have hne : W.heap.size ≠ g := by omega
  have HNE := Aside0.mk hne
  have HLW := Aside0.mk (blk_lt hblk)
  obtain ⟨a, ha⟩ : ∃ a, a = rkey s := ⟨_, rfl⟩
  obtain ⟨b, hb⟩ : ∃ b, b = rword a.2 := ⟨_, rfl⟩
  obtain ⟨b2, hb2⟩ : ∃ b2, b2 = rword b.2 := ⟨_, rfl⟩
  obtain ⟨c, hc⟩ : ∃ c, c = rrow rstripe b2.2 1 := ⟨_, rfl⟩
  have HE : Aside0 (robject s = (⟨a.1, b.1, b2.1, c.1⟩, c.2)) := ⟨by rw [hc, hb2, hb, ha]; rfl⟩
  have HA := Aside0.mk ha
  have HB := Aside0.mk hb
  have HB2 := Aside0.mk hb2
  have HCC := Aside0.mk hc
  clear ha hb hb2 hc
  clear h hlt hwa hBa hblk hW0 hne
  go_enter Try.func31, Try.ntmps31
  go_upto_region 1 with fail
  rw [← HWA.out]
  have HC : Aside0 _ := ⟨key_reads w0 wa g s HR1.out⟩
  rw [← HA.out] at HC
  go_wp2_with fail
  refine HC.out.mono ?_
  rintro e w2 ⟨rfl, hR, hk⟩
  have HR2 := Aside0.mk hR
  have HK2 := Aside0.mk (HK1.out.trans hk)
  clear hR hk HC
  have HC : Aside0 _ := ⟨word_reads w0 w2 g a.2 HR2.out⟩
  rw [← HB.out] at HC
  go_wp2_with fail
  refine HC.out.mono ?_
  rintro e w3 ⟨rfl, hR, hk⟩
  have HR3 := Aside0.mk hR
  have HK3 := Aside0.mk (HK2.out.trans hk)
  clear hR hk HC
  have HC : Aside0 _ := ⟨word_reads w0 w3 g b.2 HR3.out⟩
  rw [← HB2.out] at HC
  go_wp2_with fail
  refine HC.out.mono ?_
  rintro e w4 ⟨rfl, hR, hk⟩
  have HR4 := Aside0.mk hR
  have HK4 := Aside0.mk (HK3.out.trans hk)
  clear hR hk HC
  have HC : Aside0 _ := ⟨rowStripe_reads w0 w4 g b2.2 1 1 rfl HR4.out (by decide)⟩
  rw [← HCC.out] at HC
  go_wp2_with fail
  refine HC.out.mono ?_
  rintro e w5 ⟨v5, rfl, hv, hR, hk⟩
  have HR5 := Aside0.mk hR
  have HK5 := Aside0.mk (HK4.out.trans hk)
  obtain ⟨A5, n5, e5⟩ := Kd.R_slice hv
  subst e5
  have HV := Aside0.mk hv
  have HZ : Aside0 (wa.heap.size ≤ w4.heap.size) := ⟨HK4.out.size⟩
  clear hv
  clear hR hk HC
  have hb9 : w5.heap[W.heap.size]? = some (.cells #[.string ⟨#[]⟩, .int .i64 0, .int .i64 0, .slice none 0 0] 44 (0, 0)) := (HK5.out.block _ HLW.out HNE.out).trans HBk.out
  have HB9 := Aside0.mk hb9
  have d0 : w5.cell? ⟨W.heap.size, 0, none⟩ = some (.string ⟨#[]⟩) := (blk_cell hb9 0).trans rfl
  have d1 : w5.cell? ⟨W.heap.size, 1, none⟩ = some (.int .i64 0) := (blk_cell hb9 1).trans rfl
  have d2 : w5.cell? ⟨W.heap.size, 2, none⟩ = some (.int .i64 0) := (blk_cell hb9 2).trans rfl
  have d3 : w5.cell? ⟨W.heap.size, 3, none⟩ = some (.slice none 0 0) := (blk_cell hb9 3).trans rfl
  have dfz : ∀ j, w5.frozen? ⟨W.heap.size, j, none⟩ = false := fun j => blk_frozen hb9 j
  clear hb9
  go_wp2
  have hB : ((((w5.setCell ⟨W.heap.size, 0, none⟩ (.string a.1)).setCell ⟨W.heap.size, 1, none⟩ (.int .i64 b.1)).setCell ⟨W.heap.size, 2, none⟩ (.int .i64 b2.1)).setCell ⟨W.heap.size, 3, none⟩ (.slice A5 c.1.length n5)).heap[W.heap.size]? = some (.cells #[.string a.1, .int .i64 b.1, .int .i64 b2.1, .slice A5 c.1.length n5] 44 (0, 0)) := (blk_set (blk_set (blk_set (blk_set HB9.out 0 (.string a.1)) 1 (.int .i64 b.1)) 2 (.int .i64 b2.1)) 3 (.slice A5 c.1.length n5))
  have HKW : Kx W w5 g := (Kx.refl W g).below HBa.out |>.trans HK5.out
  have hRf := (Rd.far (Rd.far (Rd.far (Rd.far HR5.out HW0.out (Ne.symm HNE.out) 0 (.string a.1)) HW0.out (Ne.symm HNE.out) 1 (.int .i64 b.1)) HW0.out (Ne.symm HNE.out) 2 (.int .i64 b2.1)) HW0.out (Ne.symm HNE.out) 3 (.slice A5 c.1.length n5))
  have hKf := ((((HKW.new (Nat.le_refl _) 0 (.string a.1)).new (Nat.le_refl _) 1 (.int .i64 b.1)).new (Nat.le_refl _) 2 (.int .i64 b2.1)).new (Nat.le_refl _) 3 (.slice A5 c.1.length n5))
  refine bodyPost_ret (results_cell_row rfl _ _ W.heap.size 44 #[.string a.1, .int .i64 b.1, .int .i64 b2.1, .slice A5 c.1.length n5] (0, 0) _ rfl hB Try.underlying44 rfl (by kernel_rfl)) rfl ?_
  have hRow := HV.out
  have hfar : ∀ k, w4.heap.size ≤ k → k ≠ W.heap.size := fun k hk => by have := HLW.out; have := HZ.out; omega
  refine ⟨⟨.slice A5 c.1.length n5, by rw [HE.out], ?_⟩, by rw [HE.out]; exact hRf, hKf⟩
  rw [HE.out]
  exact Kd.R_mono (Kd.R_far (Kd.R_far (Kd.R_far (Kd.R_far hRow (fun k hk => hfar k hk) _) (fun k hk => hfar k hk) _) (fun k hk => hfar k hk) _) (fun k hk => hfar k hk) _) (fun k hk => by have := HLW.out; have := HZ.out; omega)
theorem info44 : (Try.prog.info? 44).map (fun i => (i.zero, i.size, i.bytes)) = some (some (.agg #[.string ⟨#[]⟩, .int .i64 0, .int .i64 0, .slice none 0 0]), 4, 56) := by kernel_rfl
set_option maxHeartbeats 4000000 in
set_option maxRecDepth 100000 in
theorem rowObject_reads (w0 W : World) (g : Nat) (s : St) (n : Nat) (ni : Int) (hi : ni = (n : Int)) (h : Rd w0 W g s) (hn : n ≤ 2) :
    Calls Try.prog 30 #[.pointer (some ⟨g, 0, none⟩), .int .i64 ni, .func (.func 31) #[.pointer (some ⟨g, 0, none⟩)] #[]] W fun e w' => ∃ v, e = .returned v ∧ (k44).R 44 w' w0.heap.size (fun k => W.heap.size ≤ k) v (rrow robject s n).1 ∧ Rd w0 w' g (rrow robject s n).2 ∧ Kx W w' g := by
  have HT := Aside0.mk (num_reads w0 W g s n ni hi h (by omega))
  have hby := byt_rtake h.by_ n
  obtain ⟨hb1, hb2⟩ := getB_bound _ _ rfl hby
  have hp : (256 : Int) ^ (rtake s n).1.length ≤ 65536 := by
    have := rtake_len s n
    have : (rtake s n).1.length = 0 ∨ (rtake s n).1.length = 1 ∨ (rtake s n).1.length = 2 := by omega
    rcases this with h | h | h <;> rw [h] <;> decide
  have hgw := h.lt
  have hg0 := h.hg
  have hW0 := h.hb.size
  have HE : Aside0 (rrow robject s n = rloop robject (rnum s n).1.toNat (rnum s n).2 []) := ⟨rfl⟩
  have hy1 : 0 ≤ (rnum s n).1 := hb1
  have hy2 : (rnum s n).1 < 65536 := by show getB (rtake s n).1 < 65536; omega
  obtain ⟨X, hX⟩ : ∃ X, X = rrow robject s n := ⟨_, rfl⟩
  rw [← hX] at HE ⊢
  obtain ⟨p, hp0⟩ : ∃ p, p = rnum s n := ⟨_, rfl⟩
  rw [← hp0] at HT hy1 hy2 HE
  clear h hby hb1 hb2 hp hp0 hX
  obtain ⟨y, t0⟩ := p
  obtain ⟨m0, rfl⟩ := Int.eq_ofNat_of_zero_le hy1
  simp only [Int.toNat_natCast] at HT hy2 HE
  have hm : m0 < 65536 := by omega
  clear hy1 hy2
  subst hi
  have HG0 := Aside0.mk hg0
  have HGW := Aside0.mk hgw
  have HW0 := Aside0.mk hW0
  clear hg0 hgw hW0
  go_enter Try.func30, Try.ntmps30
  go_wp2_with fail
  refine HT.out.mono ?_
  rintro e w1 ⟨rfl, hR, hk⟩
  have HR := Aside0.mk hR
  have HK := Aside0.mk hk
  clear hR hk HT
  go_wp2
  go_loopw [7, 8, 12, 13, 14, 15, 16, 17, 18, 19, 20, 21, 22, 23, 24, 25, 26, 27] (fun x7 x8 x12 x13 x14 x15 x16 x17 x18 x19 x20 x21 x22 x23 x24 x25 x26 x27 wr => ∃ (m : Nat) (t : St) (acc : List (S44)), x8 = .int .i64 m ∧ Aside0 ((k44).R 44 wr w0.heap.size (fun k => W.heap.size ≤ k) x7 acc) ∧ Aside0 (Rd w0 wr g t) ∧ Aside0 (Kx W wr g) ∧ Aside0 (X = rloop robject m t acc) ∧ m + acc.length ≤ 65536) (fun _ x8 _ _ _ _ _ _ _ _ _ _ _ _ _ _ _ _ _ => (intOf x8).toNat)
  case atStart => exact ⟨m0, t0, [], rfl, ⟨Kd.R_nil _ _ _ _ _⟩, HR, HK, HE, by simp only [List.length_nil]; omega⟩
  case round =>
    obtain ⟨m, t, acc, rfl, HO, HR, HK, HX, hma⟩ := hrel
    obtain ⟨A, c, hblk, _, _⟩ := HR.out.ex
    have c1 : wr.cell? ⟨g, 1, none⟩ = some (.bool t.2) := (blk_cell hblk 1).trans rfl
    clear hblk
    rcases Nat.eq_zero_or_pos m with hm0 | hm0
    · subst hm0
      have HX0 : Aside0 (X = (acc, t)) := ⟨HX.out⟩
      clear hma HX
      go_wp2
      go_ret
      exact ⟨_, rfl, by rw [HX0.out]; exact HO.out, by rw [HX0.out]; exact HR.out, HK.out⟩
    · obtain ⟨m, rfl⟩ : ∃ j, m = j + 1 := ⟨m - 1, by omega⟩
      have hd : decide ((0 : Int) < ((m + 1 : Nat) : Int)) = true := decide_eq_true (by omega)
      have hd2 : decide (0 < m + 1) = true := decide_eq_true (by omega)
      cases hbad : t.2 with
      | true =>
        have HX0 : Aside0 (X = (acc, t)) := ⟨by rw [HX.out]; show (if t.2 = true then _ else _) = _; rw [if_pos hbad]⟩
        rw [hbad] at c1
        clear hma HX hbad hm0
        go_wp2
        go_ret
        exact ⟨_, rfl, by rw [HX0.out]; exact HO.out, by rw [HX0.out]; exact HR.out, HK.out⟩
      | false =>
        have HX0 : Aside0 (X = rloop robject m (robject t).2 (acc ++ [(robject t).1])) := ⟨by rw [HX.out]; show (if t.2 = true then _ else _) = _; rw [if_neg (by rw [hbad]; exact Bool.false_ne_true)]⟩
        rw [hbad] at c1
        have HC1 : Aside0 _ := ⟨object_reads w0 wr g t HR.out⟩
        obtain ⟨q, hq⟩ : ∃ q, q = robject t := ⟨_, rfl⟩
        rw [← hq] at HX0 HC1
        have hwm : wrap64 (((m + 1 : Nat) : Int) - 1) = (m : Int) := by unfold wrap64; omega
        clear HX hbad hm0 hq
        go_wp2_with fail
        refine HC1.out.mono ?_
        rintro e w2 ⟨⟨v5, rfl, hv5⟩, hR2, hk2⟩
        have HR2 := Aside0.mk hR2
        have HK2 := Aside0.mk (HK.out.trans hk2)
        have hn2 := hk2.size
        have HO2 : Aside0 ((k44).R 44 w2 w0.heap.size (fun k => W.heap.size ≤ k) u7 acc) := ⟨Kd.R_step HO.out (fun k hk hl => hk2.block k hl (by have := HGW.out; omega))⟩
        have HLt : Aside0 (∀ k, u7.ownBlock = some k → W.heap.size ≤ k ∧ k < wr.heap.size) := ⟨fun k hk => ⟨HO.out.1 k hk, ((Kd.R_bound HO.out).1 k hk).2.2.1⟩⟩
        have HN2 := Aside0.mk hn2
        have HWr := Aside0.mk HK.out.size
        obtain ⟨A5, n5, e5⟩ := Kd.R_slice hv5
        subst e5
        have HM : Aside0 (k44.M w2 w0.heap.size (fun k => wr.heap.size ≤ k) q.1 [.string q.1.f0, .int .i64 q.1.f1, .int .i64 q.1.f2, .slice A5 q.1.f3.length n5]) := ⟨k44_mkM _ _ _ q.1 hv5⟩
        clear hv5
        clear hR2 hk2 hn2 HC1
        go_wp2_with (at_builtin; refine Kd.R_append (k44) (w0 := w0) w0.heap.size rfl (.tmp 23) (.tmp 26) 23 44 (.agg #[.string ⟨#[]⟩, .int .i64 0, .int .i64 0, .slice none 0 0]) 56 rfl Try.underlying23 info44 rfl (by decide) (by decide) u7 acc q.1 [.string q.1.f0, .int .i64 q.1.f1, .int .i64 q.1.f2, .slice A5 q.1.f3.length n5] (fun k => W.heap.size ≤ k) (fun k => wr.heap.size ≤ k) rfl rfl HM.out (fun k hk => ⟨Nat.le_trans HWr.out hk, fun e => by have := (HLt.out k e.symm).2; omega⟩) (fun k hk => Nat.le_trans HWr.out (Nat.le_trans HN2.out hk)) HO2.out HR2.out.hb HR2.out.hb.size (by omega) ?_; intro v3 w3 ho hb hg hat; have HO3 := Aside0.mk ho; have HB3 := Aside0.mk hb; have HG3 := Aside0.mk hg; clear ho hb hg hat)
        go_roundw
        case rel =>
          have hrow : some g ≠ u7.ownBlock := fun e => by have := (HLt.out g e.symm).1; have := HGW.out; omega
          obtain ⟨A, c, hblk, hlc, hC⟩ := HR2.out.ex
          have hR3 : Rd w0 w3 g q.2 := ⟨HB3.out, HG0.out, HR2.out.by_, HR2.out.ln, A, c, (HG3.out.block g HR2.out.lt hrow).trans hblk, hlc, hC⟩
          have hK3 : Kx W w3 g := ⟨Nat.le_trans HK2.out.size HG3.out.size, fun k hk hn => (HG3.out.block k (Nat.lt_of_lt_of_le hk HK2.out.size) (fun e => by have := (HLt.out k e.symm).1; omega)).trans (HK2.out.block k hk hn)⟩
          exact ⟨m, q.2, _, by go_num, HO3, ⟨hR3⟩, ⟨hK3⟩, HX0, by rw [List.length_append, List.length_singleton]; omega⟩
        case measure => simp [intOf]
end Go.Proofs.Ythoebncbhmefmaa.Rc
