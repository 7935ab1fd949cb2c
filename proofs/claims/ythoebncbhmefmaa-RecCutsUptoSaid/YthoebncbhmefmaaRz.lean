/- Records: what is written is read again, whatever is behind it. -/
import Derived.Test.YthoebncbhmefmaaProg
import Derived.Below
import Derived.Deep.Draws
import Derived.Deep.AppendLies
import Derived.Maps.AppendAt
import Derived.OwnWalk
import Derived.Laws.BytesArg
import Derived.Laws.MakeOwn
import Derived.Laws.OwnMore
import Derived.Deep.OwnRows
import Derived.Tactics
import Derived.Lib.ConvBytes
import Derived.Laws.Slices
import Derived.WalkKit
import Derived.KernelRfl
import Derived.RowKit3
import Derived.Deep.LoopGhost
import Derived.Deep.QuietTactic
import Derived.BigQuiet
import Derived.WideLaws
import Derived.Deep.DeepCutAuto
import Derived.Deep.CutBlock
import Derived.Deep.RegionHeld3
import Derived.Laws.Rows
import Derived.Lib.AppendStr
import Derived.ArgAppend
import Derived.Laws.IdiomCopy
import Derived.OrdersHeld
import Derived.Laws.BitsLemmas
import Derived.RowKit
import Derived.Test.YthoebncbhmefmaaWWords
import Derived.Test.YthoebncbhmefmaaWLast
import Derived.Test.YthoebncbhmefmaaWTab
import Derived.Test.YthoebncbhmefmaaWFour
import Derived.Test.YthoebncbhmefmaaWQPut
import Derived.Test.YthoebncbhmefmaaWApart
import Derived.Test.YthoebncbhmefmaaWArr
import Derived.Test.YthoebncbhmefmaaWZeros
import Derived.Test.YthoebncbhmefmaaWFoot
import Derived.Test.YthoebncbhmefmaaWKept
import Derived.Test.YthoebncbhmefmaaWShare
import Derived.Test.YthoebncbhmefmaaWN
import Derived.Test.YthoebncbhmefmaaWFootNe
import Derived.Test.YthoebncbhmefmaaWAt
import Derived.Test.YthoebncbhmefmaaWEqStruct
import Derived.Test.YthoebncbhmefmaaWRepsOne
import Derived.Test.YthoebncbhmefmaaWInv
import Derived.Test.YthoebncbhmefmaaWInvWords
import Derived.Test.YthoebncbhmefmaaWGuard
import Derived.Test.YthoebncbhmefmaaWNEv
import Derived.Test.YthoebncbhmefmaaWMore
import Derived.Test.YthoebncbhmefmaaRy
import Derived.Lib.Strings
namespace Go.Proofs.Ythoebncbhmefmaa.Rc
open Go.RowKit Go.Proofs.YthoebncbhmefmaaW.PrintWords Go.Proofs.YthoebncbhmefmaaW.PrintLast Go.Proofs.YthoebncbhmefmaaW.PrintMore
attribute [local go_sem] max2_int min2_int max_two min_two max_three min_three max_four min_four
set_option linter.unusedVariables false
set_option linter.unusedSimpArgs false
theorem back (x : Int) (h0 : 0 ≤ x) (h1 : x < 256) : ((UInt8.ofNat x.toNat).toNat : Int) = x := by
  rw [UInt8.toNat_ofNat']; omega
theorem getB_numB : ∀ (n : Nat) (v : Int), 0 ≤ v → v < 256 ^ n → getB (numB v n) = v
  | 0, v, h0, h1 => by
    have h2 : v < 1 := h1
    show (0 : Int) = v
    omega
  | n + 1, v, h0, h1 => by
    rw [Int.pow_succ] at h1
    show getB (numB (v / 256) n ++ [v % 256]) = v
    rw [getB_snoc, getB_numB n (v / 256) (by omega) (by omega)]
    omega
theorem rtake_app (c rest : List Int) (n : Nat) (hn : c.length = n) : rtake (c ++ rest, false) n = (c, (rest, false)) := by
  subst hn
  unfold rtake
  rw [if_neg (by simp)]
  simp
theorem str_bytes (k : ByteArray) : strOfNums (bytesOf k) = k := by
  have h : (bytesOf k).map (fun n : Int => UInt8.ofNat n.toNat) = k.data.toList := by
    unfold bytesOf
    rw [List.map_map]
    have : List.map ((fun n : Int => UInt8.ofNat n.toNat) ∘ fun b : UInt8 => (b.toNat : Int)) k.data.toList = List.map id k.data.toList := List.map_congr_left (fun b _ => by simp)
    rw [this, List.map_id]
  unfold strOfNums
  rw [h]
/-- A writer and a reader: what the one adds the other reads as x, whatever is behind it. -/
structure Rt {α : Type} (wr : St → St) (rd : St → α × St) (x : α) : Prop where
  bad : ∀ s, (wr s).2 = false → s.2 = false
  ex : ∀ s, (wr s).2 = false → ∃ c, (wr s).1 = s.1 ++ c ∧ ∀ rest, rd (c ++ rest, false) = (x, (rest, false))
theorem Rt.seq {α β : Type} {w1 w2 : St → St} {r1 : St → α × St} {r2 : St → β × St} {x : α} {y : β} (h1 : Rt w1 r1 x) (h2 : Rt w2 r2 y) : Rt (fun s => w2 (w1 s)) (fun s => (((r1 s).1, (r2 (r1 s).2).1), (r2 (r1 s).2).2)) (x, y) :=
  ⟨fun s h => h1.bad s (h2.bad _ h), fun s h => by
    obtain ⟨c2, e2, k2⟩ := h2.ex (w1 s) h
    obtain ⟨c1, e1, k1⟩ := h1.ex s (h2.bad _ h)
    refine ⟨c1 ++ c2, by rw [e2, e1, List.append_assoc], fun rest => ?_⟩
    have a1 := k1 (c2 ++ rest)
    have a2 := k2 rest
    rw [← List.append_assoc] at a1
    simp only [a1, a2]⟩
theorem Rt.map {α β : Type} {w : St → St} {r : St → α × St} {x : α} (h : Rt w r x) (g : α → β) : Rt w (fun s => (g (r s).1, (r s).2)) (g x) :=
  ⟨h.bad, fun s hs => by
    obtain ⟨c, e, k⟩ := h.ex s hs
    exact ⟨c, e, fun rest => by simp only [k rest]⟩⟩
theorem rt_N (v : Int) (n : Nat) (m : Int) (hm : m < 256 ^ n) (hm2 : m < 18446744073709551616) : Rt (wN v n m) (fun s => rnum s n) v :=
  ⟨fun s h => by simp only [wN, Bool.or_eq_false_iff] at h; exact h.1, fun s h => by
    simp only [wN, Bool.or_eq_false_iff, decide_eq_false_iff_not] at h
    obtain ⟨_, h1, h2⟩ := h
    have hu : u64 v = v := by show v % 18446744073709551616 = v; omega
    refine ⟨numB v n, by show s.1 ++ numB (u64 v) n = _; rw [hu], fun rest => ?_⟩
    show (getB (rtake (numB v n ++ rest, false) n).1, (rtake (numB v n ++ rest, false) n).2) = _
    rw [rtake_app _ rest n (numB_len v n), getB_numB n v (by omega) (by omega)]⟩
theorem rt_word (v : Int) : Rt (wN v 4 1073741824) rword v := rt_N v 4 1073741824 (by decide) (by decide)
theorem rt_key (k : ByteArray) : Rt (wKey k) rkey k :=
  ⟨fun s h => (rt_N k.size 1 16 (by decide) (by decide)).bad s h, fun s h => by
    obtain ⟨c, e, h1⟩ := (rt_N k.size 1 16 (by decide) (by decide)).ex s h
    refine ⟨c ++ bytesOf k, by show (wN k.size 1 16 s).1 ++ bytesOf k = _; rw [e, List.append_assoc], fun rest => ?_⟩
    have a1 := h1 (bytesOf k ++ rest)
    rw [← List.append_assoc] at a1
    have a2 := rtake_app (bytesOf k) rest k.size (bytesOf_length k)
    unfold rkey
    simp only [a1, Int.toNat_natCast, a2, str_bytes]⟩
theorem rt_loop {α : Type} (f : St → α → St) (one : St → α × St) (h : ∀ x, Rt (fun s => f s x) one x) : ∀ (l : List α) (s : St), (l.foldl f s).2 = false → s.2 = false ∧ ∃ c, (l.foldl f s).1 = s.1 ++ c ∧ ∀ rest acc, rloop one l.length (c ++ rest, false) acc = (acc ++ l, (rest, false))
  | [], s, hs => ⟨hs, [], by simp, fun rest acc => by simp [rloop]⟩
  | x :: l, s, hs => by
    obtain ⟨h1, c2, e2, k2⟩ := rt_loop f one h l (f s x) hs
    obtain ⟨c1, e1, k1⟩ := (h x).ex s h1
    refine ⟨(h x).bad s h1, c1 ++ c2, by rw [List.foldl_cons, e2, e1, List.append_assoc], fun rest acc => ?_⟩
    have a1 := k1 (c2 ++ rest)
    rw [← List.append_assoc] at a1
    show rloop one (l.length + 1) _ acc = _
    unfold rloop
    rw [if_neg Bool.false_ne_true, a1]
    have a2 := k2 rest (acc ++ [x])
    rw [a2, List.append_assoc]; rfl
theorem rt_row {α : Type} (f : St → α → St) (one : St → α × St) (h : ∀ x, Rt (fun s => f s x) one x) (l : List α) (n : Nat) (m : Int) (hm : m < 256 ^ n) (hm2 : m < 18446744073709551616) : Rt (fun s => l.foldl f (wN l.length n m s)) (fun s => rrow one s n) l :=
  ⟨fun s hs => (rt_N l.length n m hm hm2).bad s (rt_loop f one h l _ hs).1, fun s hs => by
    obtain ⟨h1, c2, e2, k2⟩ := rt_loop f one h l _ hs
    obtain ⟨c1, e1, k1⟩ := (rt_N l.length n m hm hm2).ex s h1
    refine ⟨c1 ++ c2, by rw [e2, e1, List.append_assoc], fun rest => ?_⟩
    have a1 := k1 (c2 ++ rest)
    rw [← List.append_assoc] at a1
    have a2 := k2 rest []
    unfold rrow
    simp only [a1, Int.toNat_natCast, a2, List.nil_append]⟩
theorem rt_ints (l : List Int) : Rt (wInts l) (fun s => rrow rword s 1) l := rt_row (fun s v => wN v 4 1073741824 s) rword rt_word l 1 255 (by decide) (by decide)
theorem rt_stripe (x : S41) : Rt (wStripe x) rstripe x :=
  ((rt_word x.f0).seq ((rt_word x.f1).seq (rt_ints x.f2))).map (fun t => (⟨t.1, t.2.1, t.2.2⟩ : S41))
theorem rt_stripes (l : List S41) : Rt (wStripes l) (fun s => rrow rstripe s 1) l := rt_row (fun s x => wStripe x s) rstripe rt_stripe l 1 255 (by decide) (by decide)
theorem rt_object (x : S44) : Rt (wObject x) robject x :=
  ((rt_key x.f0).seq ((rt_word x.f1).seq ((rt_word x.f2).seq (rt_stripes x.f3)))).map (fun t => (⟨t.1, t.2.1, t.2.2.1, t.2.2.2⟩ : S44))
theorem rt_objs (l : List S44) : Rt (wObjs l) (fun s => rrow robject s 2) l := rt_row (fun s x => wObject x s) robject rt_object l 2 65535 (by decide) (by decide)
def wHd (r : Rc) (s : St) : St := ((wN r.kind 1 5 s).1, (wN r.kind 1 5 s).2 || decide (r.kind < 1))
theorem rt_head (r : Rc) : Rt (wHd r) (fun s => rnum s 1) r.kind :=
  ⟨fun s h => (rt_N r.kind 1 5 (by decide) (by decide)).bad s (by simp only [wHd, Bool.or_eq_false_iff] at h; exact h.1), fun s h => (rt_N r.kind 1 5 (by decide) (by decide)).ex s (by simp only [wHd, Bool.or_eq_false_iff] at h; exact h.1)⟩
def rrecS (s : St) : Rc × St :=
  let k := rnum s 1
  let i := rword k.2
  let z := rword i.2
  let y := rkey z.2
  let s := rrow rstripe y.2 1
  let b := rrow robject s.2 2
  let d := rrow rword b.2 1
  (⟨k.1, i.1, z.1, y.1, s.1, b.1, d.1⟩, d.2)
theorem rt_rec (r : Rc) : Rt (fun s => wInts r.drv (wObjs r.objs (wStripes r.strs (wKey r.key (wN r.size 4 1073741824 (wN r.id 4 1073741824 (wHd r s))))))) rrecS r :=
  ((rt_head r).seq ((rt_word r.id).seq ((rt_word r.size).seq ((rt_key r.key).seq ((rt_stripes r.strs).seq ((rt_objs r.objs).seq (rt_ints r.drv))))))).map (fun t => (⟨t.1, t.2.1, t.2.2.1, t.2.2.2.1, t.2.2.2.2.1, t.2.2.2.2.2.1, t.2.2.2.2.2.2⟩ : Rc))
/-- A record's bytes, and whatever is behind them, are read as the record. -/
theorem rrec_back (r : Rc) (h : (wRec r).2 = false) (rest : List Int) : rrec ((wRec r).1 ++ rest) = (r, (rest, false)) := by
  obtain ⟨c, e, k⟩ := (rt_rec r).ex ([], false) h
  have e1 : (wRec r).1 = c := e
  rw [e1]
  exact k rest
theorem str_inj (a b : List Int) (ha : Byt a) (hb : Byt b) (h : ((strOfNums a).toList == (strOfNums b).toList) = true) : a = b := by
  have h1 : (strOfNums a).toList = (strOfNums b).toList := by simpa using h
  rw [Go.Lib.toList_data, Go.Lib.toList_data, strOfNums_data, strOfNums_data] at h1
  have h2 := congrArg (List.map (fun u : UInt8 => (u.toNat : Int))) h1
  rw [List.map_map, List.map_map] at h2
  have e : ∀ l, Byt l → List.map ((fun u : UInt8 => (u.toNat : Int)) ∘ fun n : Int => UInt8.ofNat n.toNat) l = l := fun l hl => by
    have : List.map ((fun u : UInt8 => (u.toNat : Int)) ∘ fun n : Int => UInt8.ofNat n.toNat) l = List.map id l := List.map_congr_left (fun x hx => back x (hl x hx).1 (hl x hx).2)
    rw [this, List.map_id]
  rwa [e a ha, e b hb] at h2
theorem byt_numB (v : Int) (n : Nat) : Byt (numB v n) := by
  induction n generalizing v with
  | zero => intro x hx; cases hx
  | succ n ih =>
    intro x hx
    rcases List.mem_append.1 hx with h | h
    · exact ih _ x h
    · rw [List.mem_singleton.1 h]; omega
theorem byt_app {a b : List Int} (ha : Byt a) (hb : Byt b) : Byt (a ++ b) := fun x hx => by
  rcases List.mem_append.1 hx with h | h
  · exact ha x h
  · exact hb x h
theorem byt_str (k : ByteArray) : Byt (bytesOf k) := fun x hx => by
  obtain ⟨b, _, rfl⟩ := List.mem_map.1 hx
  have := b.toNat_lt
  omega
theorem byt_wN {s : St} (h : Byt s.1) (v : Int) (n : Nat) (m : Int) : Byt (wN v n m s).1 := byt_app h (byt_numB _ _)
theorem byt_fold {α : Type} (f : St → α → St) (hf : ∀ s x, Byt s.1 → Byt (f s x).1) (l : List α) : ∀ s : St, Byt s.1 → Byt (l.foldl f s).1 := by
  induction l with
  | nil => intro s h; exact h
  | cons x l ih => intro s h; exact ih _ (hf s x h)
theorem byt_wInts {s : St} (h : Byt s.1) (l : List Int) : Byt (wInts l s).1 := byt_fold _ (fun s x hs => byt_wN hs _ _ _) l _ (byt_wN h _ _ _)
theorem byt_wKey {s : St} (h : Byt s.1) (k : ByteArray) : Byt (wKey k s).1 := byt_app (byt_wN h _ _ _) (byt_str k)
theorem byt_wStripe {s : St} (h : Byt s.1) (x : S41) : Byt (wStripe x s).1 := byt_wInts (byt_wN (byt_wN h _ _ _) _ _ _) _
theorem byt_wStripes {s : St} (h : Byt s.1) (l : List S41) : Byt (wStripes l s).1 := byt_fold _ (fun s x hs => byt_wStripe hs x) l _ (byt_wN h _ _ _)
theorem byt_wObject {s : St} (h : Byt s.1) (x : S44) : Byt (wObject x s).1 := byt_wStripes (byt_wN (byt_wN (byt_wKey h _) _ _ _) _ _ _) _
theorem byt_wObjs {s : St} (h : Byt s.1) (l : List S44) : Byt (wObjs l s).1 := byt_fold _ (fun s x hs => byt_wObject hs x) l _ (byt_wN h _ _ _)
theorem byt_wRec (r : Rc) : Byt (wRec r).1 := byt_wInts (byt_wObjs (byt_wStripes (byt_wKey (byt_wN (byt_wN (s := wHead r) (byt_wN (s := ([], false)) (fun x hx => by cases hx) r.kind 1 5) _ _ _) _ _ _) _) _) _) _
theorem enc_byt (r : Rc) : Byt (encO r).1 := by
  unfold encO
  split
  · intro x hx; cases hx
  · split
    · intro x hx; cases hx
    · exact byt_wRec r
/-- Bytes that are a record's are what the record is written as. -/
theorem dec_enc (l : List Int) (hb : Byt l) (h : decOk l = true) : encO (rrec l).1 = (l, 0) := by
  unfold decOk at h
  simp only [Bool.and_eq_true, decide_eq_true_eq] at h
  obtain ⟨⟨_, h2⟩, h3⟩ := h
  have h4 := str_inj _ _ (enc_byt _) hb h3
  exact Prod.ext h4 h2
theorem enc_parts (r : Rc) (h : (encO r).2 = 0) : (wRec r).2 = false ∧ (wRec r).1.length ≤ 8192 ∧ encO r = ((wRec r).1, 0) := by
  unfold encO at h ⊢
  split at h
  · exact absurd h (by decide)
  · rename_i h1
    split at h
    · exact absurd h (by decide)
    · rename_i h2
      exact ⟨by simpa using h1, by omega, by rw [if_neg h1, if_neg h2]⟩
/-- A record that has bytes is what they are read as. -/
theorem dec_back (r : Rc) (h : (encO r).2 = 0) : decO (wRec r).1 = (r, 0) := by
  obtain ⟨h1, h2, h3⟩ := enc_parts r h
  have h4 := rrec_back r h1 []
  rw [List.append_nil] at h4
  unfold decO decOk
  rw [h4, h3]
  simp
/-- Fewer bytes, or more, are none. -/
theorem dec_cut (r : Rc) (h : (encO r).2 = 0) (p rest : List Int) (hp : p ++ rest = (wRec r).1) (hr : rest ≠ []) : decO p = (zRc, 2) := by
  obtain ⟨h1, h2, h3⟩ := enc_parts r h
  have hb : Byt p := fun x hx => byt_wRec r x (by rw [← hp]; exact List.mem_append_left _ hx)
  have h4 := rrec_back r h1 []
  rw [List.append_nil, ← hp] at h4
  cases hok : decOk p with
  | false => unfold decO; rw [hok]; rfl
  | true =>
    have h5 := dec_enc p hb hok
    obtain ⟨h6, _, h7⟩ := enc_parts (rrec p).1 (by rw [h5])
    have h8 : (wRec (rrec p).1).1 = p := by rw [h7] at h5; exact (Prod.ext_iff.1 h5).1
    have h9 := rrec_back (rrec p).1 h6 rest
    rw [h8, h4] at h9
    exact absurd (congrArg (fun t => t.2.1) h9).symm hr
theorem dec_more (r : Rc) (h : (encO r).2 = 0) (m : Int) (h0 : 0 ≤ m) (hm : m < 256) : decO ((wRec r).1 ++ [m]) = (zRc, 2) := by
  obtain ⟨h1, h2, h3⟩ := enc_parts r h
  have hb : Byt ((wRec r).1 ++ [m]) := byt_app (byt_wRec r) (fun x hx => by rw [List.mem_singleton.1 hx]; exact ⟨h0, hm⟩)
  have h4 := rrec_back r h1 [m]
  cases hok : decOk ((wRec r).1 ++ [m]) with
  | false => unfold decO; rw [hok]; rfl
  | true =>
    have h5 := dec_enc _ hb hok
    obtain ⟨h6, _, h7⟩ := enc_parts (rrec ((wRec r).1 ++ [m])).1 (by rw [h5])
    rw [h7] at h5
    have h8 := (Prod.ext_iff.1 h5).1
    rw [h4] at h8
    have := congrArg List.length h8
    simp at this
end Go.Proofs.Ythoebncbhmefmaa.Rc
