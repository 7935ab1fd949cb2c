-- Written by myprint.py (this session's own driver of the kit's print, with contracts of its own handed in).
import Derived.Test.YtpgehfchdhjjeaaPRsSumsx0
import Derived.Test.YtpgehfchdhjjeaaPRsSumsx1
import Derived.Test.YtpgehfchdhjjeaaPRsSumsx2
import Derived.Test.YtpgehfchdhjjeaaPRsSumsx3
import Derived.Test.YtpgehfchdhjjeaaPRsSumsx4
namespace Go.Proofs.Ytpgehfchdhjjeaa.PRsSums
open Go.RowKit Go.Proofs.YtpgehfchdhjjeaaW.PrintWords Go.Proofs.YtpgehfchdhjjeaaW.PrintLast Go.Proofs.YtpgehfchdhjjeaaW.PrintMore
attribute [local go_sem] max2_int min2_int max_two min_two max_three min_three max_four min_four   -- for this text's walks alone
set_option linter.unusedVariables false
set_option linter.unusedSimpArgs false

-- NOT PRINTED: function 36 (bytealg_MakeNoZero)

-- NOT PRINTED: function 24 (bytes_Join)

/-! ### rs_Decode: function 13, by hand -/
theorem V_string {P : Program} {w : World} {src dst e e' base : Nat} {ok : Nat → Prop} {v : Value} {xs : List Int} (hs : P.underlying src = some (.slice e)) (he : P.underlying e = some (.int .u8)) (hd : P.underlying dst = some .string)
    (h : Kd.V (Kd.int .u8) e' w base ok v xs) : (convert src dst v).run P w = .ok (.string (strOfNums xs)) w := by
  obtain ⟨A, c, rfl⟩ := Kd.V_slice h
  exact Kd.C_string hs he hd (Kd.V_reads' h).2.2
def renJ : Go.Shelf.Ren := ⟨fun | 14 => 24 | 15 => 36 | x => x, fun | 22 => 22 | 26 => 24 | x => x, fun x => x⟩
theorem joinL : Go.Proofs.SlLaysJ.n14 Try.prog renJ := by
  constructor <;> first | kernel_rfl | (intro w; kernel_rfl)
theorem add_none (g j : Nat) : (⟨g, 0, none⟩ : Addr).add j = ⟨g, j, none⟩ := by cases j <;> simp [Addr.add]
theorem bytesOf_length (xs : List Int) : (Lib.bytesOf xs).length = xs.length := by simp [Lib.bytesOf]
theorem bytesOf_inj : ∀ (xs ys : List Int), (∀ x ∈ xs, 0 ≤ x ∧ x < 256) → (∀ x ∈ ys, 0 ≤ x ∧ x < 256) → Lib.bytesOf xs = Lib.bytesOf ys → xs = ys
  | [], [], _, _, _ => rfl
  | [], _ :: _, _, _, h => by simp [Lib.bytesOf] at h
  | _ :: _, [], _, _, h => by simp [Lib.bytesOf] at h
  | x :: xs, y :: ys, hx, hy, h => by
    simp only [Lib.bytesOf, List.map_cons, List.cons.injEq] at h
    have h1 := hx x List.mem_cons_self
    have h2 := hy y List.mem_cons_self
    have h3 := congrArg UInt8.toNat h.1
    simp only [UInt8.toNat_ofNat'] at h3
    rw [bytesOf_inj xs ys (fun z hz => hx z (List.mem_cons_of_mem _ hz)) (fun z hz => hy z (List.mem_cons_of_mem _ hz)) h.2]
    congr 1
    omega
theorem bytesOf_flatten (ps : List (List Int)) : Lib.bytesOf ps.flatten = (ps.map Lib.bytesOf).flatten := by
  unfold Lib.bytesOf
  rw [List.map_flatten]
theorem joinTail_empty (ls : List (List UInt8)) : Lib.joinTail [] ls = ls.flatten := by simp [Lib.joinTail]
theorem join_empty (ls : List (List UInt8)) : Lib.join ls [] = ls.flatten := by
  cases ls with
  | nil => rfl
  | cons x r => rw [Lib.join_cons, joinTail_empty]; rfl
theorem F_fresh {B : Nat} {w' : World} {v : Value} {l : List UInt8} {xs : List Int} (h : Lib.FreshBytes B w' v l) (hx : Lib.bytesOf xs = l) (hb : ∀ x ∈ xs, 0 ≤ x ∧ x < 256) :
    ∃ A c, v = .slice A xs.length c ∧ xs.length ≤ c ∧ Kd.F (Kd.int .u8) w' (fun k => B ≤ k) A xs.length xs := by
  obtain ⟨g, cap, zs, rfl, hB, hl, hm, hz, hzb, ht, hc, _⟩ := h
  have hlen : l.length = xs.length := by rw [← hx, bytesOf_length]
  rw [hlen] at hl ht
  have e : zs.take xs.length = xs := bytesOf_inj _ _ (fun x hx' => hzb x (List.mem_of_mem_take hx')) hb (ht.trans hx.symm)
  refine ⟨some ⟨g, 0, none⟩, cap, by rw [hlen], hl, fun W' hW => ?_⟩
  refine Kd.C_of_reads (d := (0 : Int)) ⟨rfl, by unfold maxLen at hm; omega, fun hn => ⟨_, rfl, fun j hj => ?_⟩⟩
  have h1 := hc j (by omega)
  have h2 : g < w'.heap.size := World.block_lt_of_cell? w' ⟨g, j, none⟩ h1
  rw [add_none]
  have h3 : W'.cell? ⟨g, j, none⟩ = w'.cell? ⟨g, j, none⟩ := by simp only [World.cell?, hW g hB h2]
  rw [h3, h1]
  have e2 : xs.getD j 0 = zs.getD j 0 := by
    rw [List.getD_eq_getElem?_getD, List.getD_eq_getElem?_getD]
    conv => lhs; rw [← e]
    rw [List.getElem?_take, if_pos hj]
  rw [e2]
theorem holds_of {w : World} {A : Option Addr} {p : List Int} {c : Nat} (h : Kd.C (Kd.int .u8) w A p.length p) (hb : ∀ x ∈ p, 0 ≤ x ∧ x < 256) : Lib.HoldsBytes w (.slice A p.length c) (Lib.bytesOf p) := by
  have hr := Kd.reads_of_C (enc := Value.int .u8) (d := (0 : Int)) (h1 := fun _ => rfl) h
  refine ⟨A, c, by rw [bytesOf_length], fun e => ?_, fun a ha i x hx => ?_⟩
  · subst e
    cases p with
    | nil => rfl
    | cons x p => obtain ⟨ad, he, _⟩ := hr.2.2 (by simp); cases he
  · have hi : i < p.length := by
      have := (List.getElem?_eq_some_iff.1 hx).1
      rwa [bytesOf_length] at this
    obtain ⟨ad, he, hc⟩ := hr.2.2 (by omega)
    rw [ha] at he
    cases he
    rw [hc i hi]
    have h1 := hb p[i] (List.getElem_mem hi)
    have e1 : x = UInt8.ofNat p[i].toNat := by
      simp only [Lib.bytesOf, List.getElem?_map, List.getElem?_eq_getElem hi, Option.map_some, Option.some.injEq] at hx
      exact hx.symm
    have e2 : p.getD i 0 = p[i] := by simp [hi]
    rw [e1, e2, UInt8.toNat_ofNat']
    congr 2
    omega
theorem parts_of {w : World} {A : Option Addr} {ps : List (List Int)} (h : Kd.C (Kd.slice 5 (Kd.int .u8)) w A ps.length ps) (hn : 0 < ps.length) (hb : ∀ l ∈ ps, ∀ x ∈ l, 0 ≤ x ∧ x < 256) :
    ∃ b o vs, A = some ⟨b, o, none⟩ ∧ Lib.PartsAt w ⟨b, o, none⟩ vs (ps.map Lib.bytesOf) := by
  obtain ⟨ad, rfl, hc⟩ := h.2.2 hn
  have hj : ∀ (j : Nat) (hj : j < ps.length), ∃ A' c', w.cell? (ad.add j) = some (.slice A' ps[j].length c') ∧ Kd.C (Kd.int .u8) w A' ps[j].length ps[j] := fun j hj => by
    obtain ⟨c, hl, ⟨A', c', rfl, _, hC⟩, hcell⟩ := hc j _ (List.getElem?_eq_getElem hj)
    have := hcell 0 _ rfl
    exact ⟨A', c', by simpa [Kd.slice] using this, hC⟩
  have hs : ad.spot = none := by
    obtain ⟨A', c', h0, _⟩ := hj 0 hn
    simpa [Addr.add] using World.cell?_spot h0
  obtain ⟨b, o, s⟩ := ad
  subst hs
  have hv : ∀ (i : Nat) v, ((List.range ps.length).map fun j => (w.cell? ((⟨b, o, none⟩ : Addr).add j)).getD undef)[i]? = some v → ∃ (hi : i < ps.length), v = (w.cell? ((⟨b, o, none⟩ : Addr).add i)).getD undef := fun i v h => by
    obtain ⟨hi, e⟩ := List.getElem?_eq_some_iff.1 h
    have hi' : i < ps.length := by simpa using hi
    exact ⟨hi', by simpa using e.symm⟩
  refine ⟨b, o, (List.range ps.length).map fun j => (w.cell? ((⟨b, o, none⟩ : Addr).add j)).getD undef, rfl, by simp, fun i v h => ?_, fun i v l h hl => ?_⟩
  · obtain ⟨hi, rfl⟩ := hv i v h
    obtain ⟨A', c', h0, _⟩ := hj i hi
    rw [h0]
    rfl
  · obtain ⟨hi, rfl⟩ := hv i v h
    obtain ⟨A', c', h0, hC⟩ := hj i hi
    have e : l = Lib.bytesOf ps[i] := by
      simp only [List.getElem?_map, List.getElem?_eq_getElem hi, Option.map_some, Option.some.injEq] at hl
      exact hl.symm
    subst e
    rw [h0]
    exact holds_of hC (hb _ (List.getElem_mem hi))
theorem lens_flatten (ps : List (List Int)) : Lib.lens (ps.map Lib.bytesOf) = ps.flatten.length := by
  simp [Lib.lens, List.length_flatten, Function.comp_def, bytesOf_length]
theorem bytesJoin_calls (A0 : Option Addr) (c0 : Nat) (ps : List (List Int)) (w : World) (hr0 : Kd.C (Kd.slice 5 (Kd.int .u8)) w A0 ps.length ps) (hc0 : ps.length ≤ c0) (hb : ∀ l ∈ ps, ∀ x ∈ l, 0 ≤ x ∧ x < 256) (hn : ps.length ≤ 1048576) (hl : ps.flatten.length ≤ 1099511627776) :
    Calls Try.prog 24 #[.slice A0 ps.length c0, .slice none 0 0] w fun e w' => ∃ A c, e = .returned (.slice A ps.flatten.length c) ∧ ps.flatten.length ≤ c ∧ Kd.F (Kd.int .u8) w' (fun k => w.heap.size ≤ k) A ps.flatten.length ps.flatten ∧ Below w.heap.size w w' := by
  have hfb : ∀ x ∈ ps.flatten, 0 ≤ x ∧ x < 256 := fun x hx => by
    obtain ⟨l, hl, hx⟩ := List.mem_flatten.1 hx
    exact hb l hl x hx
  have hfin : ∀ (w' : World) (v : Value), Lib.FreshBytes w.heap.size w' v (ps.map Lib.bytesOf).flatten → ∃ A c, v = .slice A ps.flatten.length c ∧ ps.flatten.length ≤ c ∧ Kd.F (Kd.int .u8) w' (fun k => w.heap.size ≤ k) A ps.flatten.length ps.flatten :=
    fun _ _ h => F_fresh h (bytesOf_flatten ps) hfb
  rcases ps with _ | ⟨p, _ | ⟨q, r⟩⟩
  · refine (Go.Proofs.Any.bytes_Join_none joinL A0 c0 (.slice none 0 0) w).mono ?_
    rintro e w' ⟨rfl, rfl⟩
    refine ⟨_, _, rfl, Nat.le_refl _, fun W' _ => ⟨rfl, by decide, fun h => absurd h (Nat.lt_irrefl 0)⟩, (Below.refl _ _).alloc (Nat.le_refl _) _⟩
  · obtain ⟨b, o, vs, rfl, hP⟩ := parts_of hr0 (by simp) hb
    obtain ⟨p0, cap, l, h1, h2, h3, h4⟩ := hP.get 0 (by simp)
    have e1 : l = Lib.bytesOf p := by simpa using h1.symm
    subst e1
    have h2' : w.cell? ⟨b, o, none⟩ = some (.slice p0 (Lib.bytesOf p).length cap) := by simpa [Addr.add] using h2
    by_cases hp : p = []
    · subst hp
      refine (Go.Proofs.Any.bytes_Join_one_empty joinL b o c0 p0 cap (.slice none 0 0) w (by simpa [Lib.bytesOf] using h2')).mono ?_
      rintro e w' ⟨rfl, rfl⟩
      exact ⟨_, _, rfl, Nat.le_refl _, fun W' _ => ⟨rfl, by decide, fun h => absurd h (Nat.lt_irrefl 0)⟩, Below.refl _ _⟩
    · have hpl : 0 < p.length := List.length_pos_iff.2 hp
      obtain ⟨ad0, rfl⟩ : ∃ ad0, p0 = some ad0 := by
        cases p0 with
        | none => have := congrArg List.length (h3 rfl); rw [bytesOf_length] at this; exact absurd (List.length_eq_zero_iff.1 this) hp
        | some a => exact ⟨a, rfl⟩
      refine (Go.Proofs.Any.bytes_Join_one joinL b o c0 ad0 cap (Lib.bytesOf p) (.slice none 0 0) w h2' (h4 ad0 rfl) (by rw [bytesOf_length]; exact hpl) (by rw [bytesOf_length]; have hl2 := hl; simp only [List.flatten_cons, List.flatten_nil, List.append_nil] at hl2; omega)).mono ?_
      rintro e w' ⟨v, rfl, hf, hbl⟩
      obtain ⟨A, c, rfl, hc, hF⟩ := hfin _ v (by simpa using hf)
      exact ⟨A, c, rfl, hc, hF, hbl⟩
  · obtain ⟨b, o, vs, rfl, hP⟩ := parts_of hr0 (by simp) hb
    refine (Go.Proofs.Any.bytes_Join_many joinL b o _ c0 vs _ (.slice none 0 0) [] w (by rw [List.length_map]) (by simp) hP hc0 ⟨none, 0, rfl, fun _ => rfl, fun a ha => by cases ha⟩ (by omega) (by rw [lens_flatten]; simp only [List.length_nil, Nat.zero_mul]; omega)).mono ?_
    rintro e w' ⟨v, rfl, hf, hbl⟩
    rw [join_empty] at hf
    obtain ⟨A, c, rfl, hc, hF⟩ := hfin _ _ hf
    exact ⟨A, c, rfl, hc, hF, hbl⟩
def odd1 (l : Nat) : Bool := l != 0 && l != 8
theorem odd1_calls (A : Option Addr) (l c : Nat) (w : World) :
    Calls Try.prog 21 #[.slice A l c] w fun e w' => e = .returned (.bool (odd1 l)) ∧ w' = w := by
  by_cases h0 : l = 0
  · subst h0
    go_enter Try.func21, Try.ntmps21
    go_wp2_with fail
    go_ret
    exact ⟨rfl, rfl⟩
  · have d1 : ((l : Int) != 0) = true := bne_iff_ne.2 (by omega)
    by_cases h8 : l = 8
    · subst h8
      go_enter Try.func21, Try.ntmps21
      go_wp2_with fail
      go_ret
      exact ⟨rfl, rfl⟩
    · have d2 : ((l : Int) != 8) = true := bne_iff_ne.2 (by omega)
      have he : odd1 l = true := by simp [odd1, h0, h8]
      rw [he]
      go_enter Try.func21, Try.ntmps21
      go_wp2_with fail
      go_ret
      exact ⟨rfl, rfl⟩
set_option maxRecDepth 100000 in
theorem didx_calls (n c : Nat) (ad : Addr) (ls : Nat → Nat) (w : World) (hn2 : n ≤ 9223372036854775807)
    (hr : ∀ i, i < n → ∃ Ai ci, w.cell? (ad.add i) = some (.slice Ai (ls i) ci)) :
    Calls Try.prog 32 #[.slice (some ad) n c, .func (.func 21) #[] #[]] w fun e w' => ∃ j : Int, e = .returned (.int .i64 j) ∧ w' = w ∧ ((j = -1 ∧ ∀ i, i < n → odd1 (ls i) = false) ∨ ∃ i : Nat, j = i ∧ i < n ∧ odd1 (ls i) = true) := by
  have HR := Aside0.mk hr
  clear hr
  go_enter Try.func32, Try.ntmps32
  go_wp2
  go_loopw [8] (fun i wr => ∃ k : Nat, k ≤ n ∧ i = .int .i64 k ∧ wr = w ∧ Aside0 (∀ i, i < k → odd1 (ls i) = false)) (fun i _ => n - (intOf i).toNat)
  case atStart => exact ⟨0, Nat.zero_le _, rfl, rfl, ⟨fun i hi => absurd hi (Nat.not_lt_zero i)⟩⟩
  case round =>
    obtain ⟨k, hk, rfl, rfl, hall⟩ := hrel
    by_cases hlt : k < n
    · obtain ⟨Ai, ci, hc⟩ := HR.out k hlt
      have hd : decide (k < n) = true := decide_eq_true hlt
      cases hb : odd1 (ls k) with
      | false =>
        go_wp2_with (go_at_call 21; refine (odd1_calls _ _ _ _).mono ?_; rintro e w' ⟨rfl, rfl⟩)
        go_roundw
        case rel => exact ⟨k + 1, by omega, by go_num, by first | exact trivial | rfl, ⟨fun i hi => by by_cases h : i = k; rw [h, hb]; exact hall.out i (by omega)⟩⟩
        case measure => simp [intOf]; omega
      | true =>
        go_wp2_with (go_at_call 21; refine (odd1_calls _ _ _ _).mono ?_; rintro e w' ⟨rfl, rfl⟩)
        go_ret
        exact ⟨_, rfl, rfl, .inr ⟨k, rfl, hlt, hb⟩⟩
    · obtain rfl : k = n := by omega
      have hd : decide (k < k) = false := decide_eq_false (Nat.lt_irrefl k)
      go_wp2
      go_ret
      exact ⟨-1, rfl, rfl, .inl ⟨rfl, hall.out⟩⟩
def oddB (l : List (List Int)) : Bool := l.any fun s => odd1 s.length
/-- What row i of the table at ad is. -/
def cellS (w : World) (ad : Addr) (i : Nat) : Option Addr × Nat × Nat := match w.cell? (ad.add i) with
  | some (.slice A l c) => (A, l, c)
  | _ => (none, 0, 0)
theorem cellS_of {w : World} {ad : Addr} {l : List (List Int)} (hr : Kd.C (Kd.slice 5 (Kd.int .u8)) w (some ad) l.length l) {i : Nat} (hi : i < l.length) :
    w.cell? (ad.add i) = some (.slice (cellS w ad i).1 (l.getD i []).length (cellS w ad i).2.2) ∧ cellS w ad i = ((cellS w ad i).1, (l.getD i []).length, (cellS w ad i).2.2) ∧ (l.getD i []).length ≤ (cellS w ad i).2.2 ∧ Kd.C (Kd.int .u8) w (cellS w ad i).1 (l.getD i []).length (l.getD i []) := by
  obtain ⟨ad', e, hcs⟩ := hr.2.2 (by omega)
  cases e
  obtain ⟨c, _, ⟨A', c', rfl, hle, hC⟩, hcell⟩ := hcs i _ (List.getElem?_eq_getElem hi)
  have h2 := hcell 0 _ rfl
  have h2' : w.cell? (ad.add i) = some (.slice A' l[i].length c') := by simpa [Kd.slice] using h2
  have e : l.getD i [] = l[i] := by simp [hi]
  have e2 : cellS w ad i = (A', l[i].length, c') := by unfold cellS; rw [h2']
  rw [e, e2]
  exact ⟨h2', rfl, hle, hC⟩
theorem dcont_calls (c : Nat) (ad : Addr) (l : List (List Int)) (w : World) (hr : Kd.C (Kd.slice 5 (Kd.int .u8)) w (some ad) l.length l) :
    Calls Try.prog 22 #[.slice (some ad) l.length c, .func (.func 21) #[] #[]] w fun e w' => e = .returned (.bool (oddB l)) ∧ w' = w := by
  have H := Aside0.mk (didx_calls l.length c ad (fun i => (l.getD i []).length) w hr.2.1 (fun i hi => ⟨_, _, (cellS_of hr hi).1⟩))
  clear hr
  go_enter Try.func22, Try.ntmps22
  go_wp2_with (go_at_call 32; refine H.out.mono ?_; rintro e w' ⟨j, rfl, rfl, hj⟩)
  go_ret
  refine ⟨?_, rfl⟩
  rcases hj with ⟨rfl, hall⟩ | ⟨i, rfl, hi, ho⟩
  · have : oddB l = false := by
      rw [Bool.eq_false_iff]
      intro h
      obtain ⟨x, hx, ho⟩ := List.any_eq_true.1 h
      obtain ⟨i, hi, rfl⟩ := List.getElem_of_mem hx
      have := hall i hi
      simp only [List.getD_eq_getElem?_getD, List.getElem?_eq_getElem hi, Option.getD_some] at this
      rw [this] at ho
      cases ho
    rw [this]
    rfl
  · have : oddB l = true := List.any_eq_true.2 ⟨l[i], List.getElem_mem hi, by simpa [hi] using ho⟩
    rw [this, decide_eq_true (show (0 : Int) ≤ i by omega)]
    rfl
/-- The first k shards that are there, of the first q. -/
def hav (l : List (List Int)) (k : Nat) : Nat → List Nat
  | 0 => []
  | q + 1 => if 0 < (l.getD q []).length ∧ (hav l k q).length < k then hav l k q ++ [q] else hav l k q
theorem hav_lt (l : List (List Int)) (k q : Nat) : ∀ i ∈ hav l k q, i < q := by
  induction q with
  | zero => intro i hi; cases hi
  | succ q ih =>
    intro i hi
    unfold hav at hi
    split at hi
    · rcases List.mem_append.1 hi with h | h
      · have := ih i h; omega
      · have : i = q := by simpa using h
        omega
    · have := ih i hi; omega
theorem hav_length (l : List (List Int)) (k q : Nat) : (hav l k q).length ≤ q := by
  induction q with
  | zero => simp [hav]
  | succ q ih =>
    unfold hav
    split
    · simp; omega
    · omega
theorem slrows_C {w1 W : World} {ad : Addr} {l : List (List Int)} {B : Nat} {ok : Nat → Prop} {v : Value} {I : List Nat} (hr : Kd.C (Kd.slice 5 (Kd.int .u8)) w1 (some ad) l.length l) (hB : Below w1.heap.size w1 W) (hI : ∀ i ∈ I, i < l.length) (hv : Kd.R slK 22 W B ok v (I.map (cellS w1 ad))) :
    ∃ A c, v = .slice A (I.map (l.getD · [])).length c ∧ (I.map (l.getD · [])).length ≤ c ∧ Kd.C (Kd.slice 5 (Kd.int .u8)) W A (I.map (l.getD · [])).length (I.map (l.getD · [])) := by
  obtain ⟨A, c, rfl, hle, hC⟩ := Kd.R_reads hv
  rw [List.length_map] at hle hC
  refine ⟨A, c, by rw [List.length_map, List.length_map], by rw [List.length_map]; exact hle, rfl, by rw [List.length_map]; exact hC.2.1, fun hn => ?_⟩
  rw [List.length_map] at hn
  obtain ⟨ad2, e, hcs⟩ := hC.2.2 hn
  refine ⟨ad2, e, fun j x hj => ?_⟩
  obtain ⟨hj', hx⟩ := List.getElem?_eq_some_iff.1 hj
  have hjI : j < I.length := by simpa using hj'
  have hx' : l.getD I[j] [] = x := by simpa using hx
  have hij := hI I[j] (List.getElem_mem hjI)
  obtain ⟨cc, hcl, hM, hcell⟩ := hcs j (cellS w1 ad I[j]) (by rw [List.getElem?_map, List.getElem?_eq_getElem hjI]; rfl)
  obtain ⟨_, h2, h3, h4⟩ := cellS_of hr hij
  rw [hx'] at h2 h3 h4
  refine ⟨[.slice (cellS w1 ad I[j]).1 x.length (cellS w1 ad I[j]).2.2], rfl, ⟨_, _, rfl, h3, Kd.C_below h4 hB⟩, fun i u hu => ?_⟩
  have hi : i = 0 := by
    have := (List.getElem?_eq_some_iff.1 hu).1
    simpa using this
  subst hi
  obtain rfl : Value.slice (cellS w1 ad I[j]).1 x.length (cellS w1 ad I[j]).2.2 = u := by simpa using hu
  have h5 := hcell 0 (.slice (cellS w1 ad I[j]).1 x.length (cellS w1 ad I[j]).2.2) (by rw [hM, h2]; rfl)
  exact h5
/-- Rows and shards that are there, till now. -/
structure Had (w1 W : World) (vr vh : Value) (adc ads : Addr) (I : List Nat) : Prop where
  below : Below w1.heap.size w1 W
  rows : Kd.R slK 22 W w1.heap.size (fun k => True ∧ some k ≠ vh.ownBlock) vr (I.map (cellS w1 adc))
  got : Kd.R slK 22 W w1.heap.size (fun k => True ∧ some k ≠ vr.ownBlock) vh (I.map (cellS w1 ads))
def decF (c l2 : List (List Int)) (k : Nat) : Option (List Int × Int) :=
  if (hav l2 k l2.length).length < k then some ([], 8)
  else (mat_Invert.f ((hav l2 k l2.length).map (c.getD · []))).bind fun b => (mat_Times.f 1000 b.1 ((hav l2 k l2.length).map (l2.getD · []))).bind fun t =>
    if t.1.length ≤ 1048576 ∧ t.1.flatten.length ≤ 1099511627776 ∧ (∀ l ∈ t.1, ∀ x ∈ l, 0 ≤ x ∧ x < 256) then some (t.1.flatten, 0) else none
def rs_Decode.f (a0 a1 : Int) (l2 : List (List Int)) : Option (List Int × Int) :=
  if a0 < 1 ∨ a0 > 4 ∨ a1 < 0 ∨ a1 > 3 then some ([], 1)
  else (mat_Code.f 1000 a0 a1).bind fun c => if c = [] then none else if (l2.length : Int) ≠ a0 + a1 ∨ oddB l2 = true then some ([], 1)
    else if c.length ≠ l2.length then none else decF c l2 a0.toNat
set_option maxRecDepth 100000 in
set_option maxHeartbeats 2000000 in
theorem rs_Decode.calls (a0 a1 : Int) (A2 : Option Addr) (c2 : Nat) (l2 : List (List Int)) (r1 : List Int) (r2 : Int) (w : World) (hr2 : Kd.C (Kd.slice 5 (Kd.int .u8)) w A2 l2.length l2) (hc2 : l2.length ≤ c2) (h : rs_Decode.f a0 a1 l2 = some (r1, r2)) :
    Calls Try.prog 13 #[.int .i64 a0, .int .i64 a1, .slice A2 l2.length c2] w fun e w' => ∃ v0_ : Value, e = .returned (.tuple #[v0_, .int .i64 r2]) ∧ Kd.V (Kd.int .u8) 5 w' w.heap.size (fun k_ => w.heap.size ≤ k_) v0_ r1 ∧ Below w.heap.size w w' := by
  unfold rs_Decode.f at h
  by_cases hbad : a0 < 1 ∨ a0 > 4 ∨ a1 < 0 ∨ a1 > 3
  · rw [if_pos hbad] at h
    simp only [Option.some.injEq, Prod.mk.injEq] at h
    obtain ⟨rfl, rfl⟩ := h
    have HC := Aside0.mk (code_nil a0 a1 hbad w)
    have hq0 : ∀ W : World, (binOp .eql 24 (.slice none 0 0) (.slice none 0 0)).run Try.prog W = .ok (.bool true) W := fun W => Go.Lib.run_eql_slice_nil W 24 22 none 0 0 0 0 Try.underlying24
    clear hbad hr2
    go_enter Try.func13, Try.ntmps13
    go_wp2_with (go_at_call 16; refine HC.out.mono ?_; rintro e w' ⟨rfl, rfl⟩)
    go_ret2
    exact ⟨_, rfl, Kd.V_nil _ _ _ _ _, Below.refl _ _⟩
  · rw [if_neg hbad] at h
    obtain ⟨k, rfl⟩ : ∃ k : Nat, a0 = (k : Int) := ⟨a0.toNat, by omega⟩
    obtain ⟨m, rfl⟩ : ∃ m : Nat, a1 = (m : Int) := ⟨a1.toNat, by omega⟩
    have hk1 : 1 ≤ k := by omega
    have hk4 : k ≤ 4 := by omega
    have hm3 : m ≤ 3 := by omega
    rw [Int.toNat_natCast] at h
    obtain ⟨c, hc, h⟩ := Option.bind_eq_some_iff.1 h
    have HC := Aside0.mk (mat_Code.calls 1000 k m c w hc)
    clear hbad hc
    by_cases hcn : c = []
    · rw [if_pos hcn] at h
      cases h
    rw [if_neg hcn] at h
    have HN := Aside0.mk hcn
    have hq1 : ∀ (ad : Addr) (cc : Nat) (W : World), (binOp .eql 24 (.slice (some ad) c.length cc) (.slice none 0 0)).run Try.prog W = .ok (.bool false) W := fun ad cc W => Go.Lib.run_eql_slice_nil W 24 22 (some ad) c.length cc 0 0 Try.underlying24
    clear hcn
    have e1 : wrap64 ((k : Int) + (m : Int)) = ((k + m : Nat) : Int) := by unfold wrap64; omega
    have e3 : (k : Int) + (m : Int) = ((k + m : Nat) : Int) := by omega
    rw [e3] at h
    generalize hp : k + m = p at *
    by_cases hlen : (l2.length : Int) ≠ (p : Int)
    · rw [if_pos (.inl hlen)] at h
      simp only [Option.some.injEq, Prod.mk.injEq] at h
      obtain ⟨rfl, rfl⟩ := h
      have d1 : ((l2.length : Int) != (p : Int)) = true := bne_iff_ne.2 hlen
      clear hr2 hlen hp
      go_enter Try.func13, Try.ntmps13
      go_wp2_with (go_at_call 16; refine HC.out.mono ?_; rintro e w1 ⟨v1, rfl, ho1, hb1⟩; obtain ⟨ad1, c1, rfl⟩ := S_some ho1 HN.out; have HB1 := Aside0.mk hb1; clear hb1 ho1)
      go_ret2
      exact ⟨_, rfl, Kd.V_nil _ _ _ _ _, HB1.out⟩
    · have hlen : l2.length = p := by omega
      have d1 : ((l2.length : Int) != (p : Int)) = false := by rw [hlen]; simp
      obtain ⟨ad2, rfl, _⟩ := hr2.2.2 (by omega)
      have HR := Aside0.mk hr2
      clear hr2
      cases hodd : oddB l2 with
      | true =>
        rw [if_pos (.inr hodd)] at h
        simp only [Option.some.injEq, Prod.mk.injEq] at h
        obtain ⟨rfl, rfl⟩ := h
        have HO := Aside0.mk hodd
        clear hlen hp hodd
        go_enter Try.func13, Try.ntmps13
        go_wp2_with (first | (go_at_call 16; refine HC.out.mono ?_; rintro e w1 ⟨v1, rfl, ho1, hb1⟩; obtain ⟨ad1, c1, rfl⟩ := S_some ho1 HN.out; have HB1 := Aside0.mk hb1; clear hb1 ho1) | (go_at_call 22; refine (dcont_calls c2 ad2 l2 w1 (Kd.C_below HR.out HB1.out)).mono ?_; rintro e w2 ⟨rfl, rfl⟩; rw [HO.out]))
        go_ret2
        exact ⟨_, rfl, Kd.V_nil _ _ _ _ _, HB1.out⟩
      | false =>
        rw [if_neg (by rw [hodd]; simp; omega)] at h
        by_cases hcl : c.length ≠ l2.length
        · rw [if_pos hcl] at h
          cases h
        rw [if_neg hcl] at h
        have hcl : c.length = l2.length := by omega
        have HO := Aside0.mk hodd
        have HF := Aside0.mk h
        have HCL := Aside0.mk hcl
        have hl7 : l2.length ≤ 7 := by omega
        clear hodd h hlen hp hcl
        go_enter Try.func13, Try.ntmps13
        go_wp2_with (first | (go_at_call 16; refine HC.out.mono ?_; rintro e w1 ⟨v1, rfl, ho1, hb1⟩; obtain ⟨ad1, c1, rfl⟩ := S_some ho1 HN.out; have HB1 := Aside0.mk hb1; have HO1 := Aside0.mk (Kd.S_reads' ho1).2.2; clear hb1 ho1) | (go_at_call 22; refine (dcont_calls c2 ad2 l2 w1 (Kd.C_below HR.out HB1.out)).mono ?_; rintro e w2 ⟨rfl, rfl⟩; rw [HO.out]))
        go_loopw [10, 11, 38] (fun vr vh i wr => ∃ (q N : Nat) (I : List Nat) (Ar Ah : Option Addr) (cr ch : Nat), q ≤ l2.length ∧ i = .int .i64 q ∧ Aside0 (I = hav l2 k q) ∧ Aside0 (I.length = N) ∧ N ≤ q ∧ vr = .slice Ar N cr ∧ vh = .slice Ah N ch ∧ Aside0 (Had w2 wr (.slice Ar N cr) (.slice Ah N ch) ad1 ad2 I)) (fun _ _ i _ => l2.length - (intOf i).toNat)
        case atStart => exact ⟨0, 0, [], none, none, 0, 0, Nat.zero_le _, rfl, ⟨rfl⟩, ⟨rfl⟩, Nat.le_refl _, rfl, rfl, ⟨Below.refl _ _, Kd.R_nil _ _ _ _ _, Kd.R_nil _ _ _ _ _⟩⟩
        case round =>
          obtain ⟨q, N, I, Ar, Ah, cr, ch, hq, rfl, hI, hN, hNq, rfl, rfl, hh⟩ := hrel
          have HR1 := Aside0.mk (Kd.C_below HR.out HB1.out)
          by_cases hlt : q < l2.length
          · have hd : decide (q < l2.length) = true := decide_eq_true hlt
            have hd2 : decide (q < c.length) = true := decide_eq_true (by have := HCL.out; omega)
            obtain ⟨hs1, hs2, _, _⟩ := cellS_of HR1.out hlt
            obtain ⟨hc1, hc2', _, _⟩ := cellS_of HO1.out (show q < c.length by have := HCL.out; omega)
            have hs3 := pw_cell_below hh.out.below hs1
            have hc3 := pw_cell_below hh.out.below hc1
            obtain ⟨As, Cs, hse⟩ : ∃ A C, cellS w2 ad2 q = (A, (l2.getD q []).length, C) := ⟨_, _, hs2⟩
            obtain ⟨Ac, Cc, hce⟩ : ∃ A C, cellS w2 ad1 q = (A, (c.getD q []).length, C) := ⟨_, _, hc2'⟩
            rw [hse] at hs3
            rw [hce] at hc3
            have HS := Aside0.mk hse
            have HCe := Aside0.mk hce
            clear hs1 hs2 hc1 hc2' hse hce
            generalize hLs : (l2.getD q []).length = Ls at *
            generalize hLc : (c.getD q []).length = Lc at *
            have hbw := HB1.out
            by_cases hpos : 0 < Ls
            · have hp1 : decide (0 < Ls) = true := decide_eq_true hpos
              by_cases hless : N < k
              · have hp2 : decide (N < k) = true := decide_eq_true hless
                have HI2 : Aside0 (I ++ [q] = hav l2 k (q + 1)) := ⟨by
                  show _ = if _ then _ else _
                  rw [← hI.out, hLs, hN.out, if_pos ⟨hpos, hless⟩]⟩
                have HF1 : Aside0 (∀ kk, wr.heap.size ≤ kk → True ∧ some kk ≠ (Value.slice Ah N ch).ownBlock) := ⟨fun kk hk => ⟨trivial, fun e => by have := Kd.R_lt hh.out.got kk e.symm; omega⟩⟩
                clear hLs hLc hpos hless
                go_wp2_with (first | ((with_reducible refine gate_builtin (b := .append) (xs := #[.tmp 52, .tmp 57]) rfl ?_); at_builtin; refine Kd.R_append slK (w0 := w2) w2.heap.size rfl (.tmp 52) (.tmp 57) 24 22 (.slice none 0 0) 24 rfl Try.underlying24 infoS rfl (by decide) (by decide) (.slice Ar N cr) (I.map (cellS w2 ad1)) (Ac, Lc, Cc) [.slice Ac Lc Cc] (fun k => True ∧ some k ≠ (Value.slice Ah N ch).ownBlock) (fun _ => False) rfl rfl rfl (fun _ hk => hk.elim) HF1.out hh.out.rows hh.out.below hh.out.below.size (by rw [List.length_map, hN.out]; omega) ?_; intro v5 w5 ho5 hb5 hg5 hat5; obtain ⟨A5, c5, e5⟩ := Kd.R_slice ho5; rw [List.length_append, List.length_map, hN.out, List.length_singleton] at e5; subst e5; have HB5 := Aside0.mk hb5; have HG5 := Aside0.mk (Kd.R_after hh.out.got hg5 hat5); have HF5 : Aside0 (∀ kk, w5.heap.size ≤ kk → True ∧ some kk ≠ (Value.slice A5 (N + 1) c5).ownBlock) := ⟨fun kk hk => ⟨trivial, fun e => by have := Kd.R_lt ho5 kk e.symm; omega⟩⟩; have HO5 := Aside0.mk ho5; clear ho5 hb5 hg5 hat5) | ((with_reducible refine gate_builtin (b := .append) (xs := #[.tmp 59, .tmp 61]) rfl ?_); at_builtin; refine Kd.R_append slK (w0 := w2) w2.heap.size rfl (.tmp 59) (.tmp 61) 24 22 (.slice none 0 0) 24 rfl Try.underlying24 infoS rfl (by decide) (by decide) (.slice Ah N ch) (I.map (cellS w2 ad2)) (As, Ls, Cs) [.slice As Ls Cs] (fun k => True ∧ some k ≠ (Value.slice A5 (N + 1) c5).ownBlock) (fun _ => False) rfl rfl rfl (fun _ hk => hk.elim) HF5.out HG5.out HB5.out HB5.out.size (by rw [List.length_map, hN.out]; omega) ?_; intro v6 w6 ho6 hb6 hg6 hat6; obtain ⟨A6, c6, e6⟩ := Kd.R_slice ho6; rw [List.length_append, List.length_map, hN.out, List.length_singleton] at e6; subst e6; have HB6 := Aside0.mk hb6; have HO6 := Aside0.mk ho6; have HR6 := Aside0.mk (Kd.R_after HO5.out hg6 hat6); clear ho6 hb6 hg6 hat6))
                go_roundw
                case rel =>
                  refine ⟨q + 1, N + 1, I ++ [q], A5, A6, c5, c6, by omega, by go_num, HI2, ⟨by rw [List.length_append, hN.out]; rfl⟩, by omega, rfl, rfl, ⟨HB6.out, ?_, ?_⟩⟩
                  · rw [List.map_append]
                    show Kd.R slK 22 _ _ _ _ (_ ++ [cellS w2 ad1 q])
                    rw [HCe.out]
                    exact HR6.out
                  · rw [List.map_append]
                    show Kd.R slK 22 _ _ _ _ (_ ++ [cellS w2 ad2 q])
                    rw [HS.out]
                    exact HO6.out
                case measure => simp [intOf]; omega
              · have hp2 : decide (N < k) = false := decide_eq_false hless
                have HI2 : Aside0 (I = hav l2 k (q + 1)) := ⟨by
                  show _ = if _ then _ else _
                  rw [← hI.out, hN.out, if_neg (fun h => hless h.2)]⟩
                clear hLs hLc hpos hless
                go_wp2_with fail
                go_roundw
                case rel => exact ⟨q + 1, N, I, Ar, Ah, cr, ch, by omega, by go_num, HI2, hN, by omega, rfl, rfl, hh⟩
                case measure => simp [intOf]; omega
            · have hp1 : decide (0 < Ls) = false := decide_eq_false hpos
              have HI2 : Aside0 (I = hav l2 k (q + 1)) := ⟨by
                show _ = if _ then _ else _
                rw [← hI.out, hLs, if_neg (fun h => hpos h.1)]⟩
              clear hLs hLc hpos
              go_wp2_with fail
              go_roundw
              case rel => exact ⟨q + 1, N, I, Ar, Ah, cr, ch, by omega, by go_num, HI2, hN, by omega, rfl, rfl, hh⟩
              case measure => simp [intOf]; omega
          · obtain rfl : q = l2.length := by omega
            have hd : decide (l2.length < l2.length) = false := decide_eq_false (Nat.lt_irrefl _)
            have hF := HF.out
            clear HF
            unfold decF at hF
            rw [← hI.out, hN.out] at hF
            have HBW : Aside0 (Below w.heap.size w wr) := ⟨HB1.out.trans (hh.out.below.mono HB1.out.size)⟩
            have HIlt : Aside0 (∀ i ∈ I, i < l2.length) := ⟨fun i hi => hav_lt l2 k l2.length i (by rw [← hI.out]; exact hi)⟩
            by_cases hless : N < k
            · have hp2 : decide (N < k) = true := decide_eq_true hless
              rw [if_pos hless] at hF
              simp only [Option.some.injEq, Prod.mk.injEq] at hF
              obtain ⟨rfl, rfl⟩ := hF
              clear hless
              go_wp2_with fail
              go_ret2
              exact ⟨_, rfl, Kd.V_nil _ _ _ _ _, HBW.out⟩
            · have hp2 : decide (N < k) = false := decide_eq_false hless
              rw [if_neg hless] at hF
              obtain ⟨⟨bk, be⟩, hbk, hF⟩ := Option.bind_eq_some_iff.1 hF
              obtain ⟨⟨dt, de⟩, hdt, hF⟩ := Option.bind_eq_some_iff.1 hF
              simp only at hdt hF
              obtain ⟨A7, c7, e7, hle7, hC7⟩ := slrows_C HO1.out hh.out.below (fun i hi => by have := HIlt.out i hi; have := HCL.out; omega) hh.out.rows
              obtain ⟨A8, c8, e8, hle8, hC8⟩ := slrows_C HR1.out hh.out.below HIlt.out hh.out.got
              have hl7 : (I.map (c.getD · [])).length = N := by rw [List.length_map, hN.out]
              have hl8 : (I.map (l2.getD · [])).length = N := by rw [List.length_map, hN.out]
              rw [hl7] at e7 hle7 hC7
              rw [hl8] at e8 hle8 hC8
              injection e7 with e7a e7b e7c
              injection e8 with e8a e8b e8c
              subst e7a e7c e8a e8c
              split at hF
              case isFalse => cases hF
              rename_i hcond
              simp only [Option.some.injEq, Prod.mk.injEq] at hF
              obtain ⟨rfl, rfl⟩ := hF
              have HCo := Aside0.mk hcond
              obtain ⟨M, hM⟩ : ∃ M, dt.flatten.length = M := ⟨_, rfl⟩
              have HM := Aside0.mk hM
              clear hM
              have hInv := mat_Invert.calls Ar cr (I.map (c.getD · [])) bk be wr (by rw [hl7]; exact hC7) (by rw [hl7]; exact hle7) hbk
              rw [hl7] at hInv
              have HInv := Aside0.mk hInv
              have HTim : Aside0 (∀ (W : World) (Ab : Option Addr) (cb : Nat), Below wr.heap.size wr W → Kd.C (Kd.slice 5 (Kd.int .u8)) W Ab bk.length bk → bk.length ≤ cb → Calls Try.prog 17 #[.slice Ab bk.length cb, .slice Ah N ch] W fun e w' => ∃ v0_ : Value, e = .returned (.tuple #[v0_, .int .i64 de]) ∧ Kd.S (Kd.slice 5 (Kd.int .u8)) 22 w' W.heap.size (fun _ => True) v0_ dt ∧ Below W.heap.size W w') := ⟨fun W Ab cb hbW hCb hleb => by
                have := mat_Times.calls 1000 Ab cb bk Ah ch (I.map (l2.getD · [])) dt de W hCb hleb (by rw [hl8]; exact Kd.C_below hC8 hbW) (by rw [hl8]; exact hle8) hdt
                rwa [hl8] at this⟩
              clear hInv hcond hC7 hC8 hle7 hle8 hbk hdt hl7 hl8 hless
              go_wp2_with (first | (go_at_call 23; refine HInv.out.mono ?_; rintro e w7 ⟨v7, rfl, ho7, hb7⟩; obtain ⟨Ab, cb, e7'⟩ := Kd.V_slice ho7; subst e7'; have HO7 := Aside0.mk (Kd.V_reads' ho7).2; have HB7 := Aside0.mk hb7; clear ho7 hb7) | (go_at_call 17; refine (HTim.out _ Ab cb HB7.out HO7.out.2 HO7.out.1).mono ?_; rintro e w8 ⟨v8, rfl, ho8, hb8⟩; obtain ⟨Ad, cd, e8'⟩ := Kd.S_slice ho8; subst e8'; have HO8 := Aside0.mk (Kd.S_reads' ho8).2; have HB8 := Aside0.mk hb8; clear ho8 hb8) | (go_at_call 24; refine (bytesJoin_calls Ad cd dt w8 HO8.out.2 HO8.out.1 HCo.out.2.2 HCo.out.1 HCo.out.2.1).mono ?_; rintro e w9 ⟨A9, c9, e9, hle9, hF9, hb9⟩; rw [HM.out] at e9 hle9 hF9; subst e9; have HL9 := Aside0.mk hle9; have HF9 := Aside0.mk hF9; have HB9 := Aside0.mk hb9; clear hle9 hF9 hb9))
              go_ret2
              have hs0 := HBW.out.size
              have hs7 := HB7.out.size
              have hs8 := HB8.out.size
              exact ⟨.slice A9 M c9, rfl, ⟨A9, c9, by rw [HM.out], by rw [HM.out]; exact HL9.out, by rw [HM.out]; exact Kd.F_mono HF9.out (fun kk hk => by omega)⟩, HBW.out.trans ((HB7.out.mono hs0).trans ((HB8.out.mono (by omega)).trans (HB9.out.mono (by omega))))⟩

/-! ### flittinglaw03_answers: function 9, by hand -/
def abcL : List Int := [97, 98, 99, 100, 101, 102, 103, 104]
def abcA : Array Value := #[.int .u8 97, .int .u8 98, .int .u8 99, .int .u8 100, .int .u8 101, .int .u8 102, .int .u8 103, .int .u8 104]
theorem abc_C (W : World) (g : Nat) (fr : Nat × Nat) (h : W.heap[g]? = some (.cells abcA 5 fr)) : Kd.C (Kd.int .u8) W (some ⟨g, 0, none⟩) abcL.length abcL := by
  refine Kd.C_of_reads (d := (0 : Int)) ⟨rfl, by decide, fun _ => ⟨_, rfl, fun j hj => ?_⟩⟩
  rw [add_none]
  simp only [World.cell?, h]
  have : j = 0 ∨ j = 1 ∨ j = 2 ∨ j = 3 ∨ j = 4 ∨ j = 5 ∨ j = 6 ∨ j = 7 := by simp [abcL] at hj; omega
  rcases this with rfl | rfl | rfl | rfl | rfl | rfl | rfl | rfl <;> rfl
theorem two_C (W : World) (g g2 : Nat) (fr fr2 : Nat × Nat) (h : W.heap[g]? = some (.cells abcA 5 fr)) (h2 : W.heap[g2]? = some (.cells #[.slice none 0 0, .slice (some ⟨g, 0, none⟩) 8 8] 22 fr2)) :
    Kd.C (Kd.slice 5 (Kd.int .u8)) W (some ⟨g2, 0, none⟩) ([[], abcL] : List (List Int)).length [[], abcL] := by
  refine ⟨rfl, by decide, fun _ => ⟨_, rfl, fun j p hj => ?_⟩⟩
  have hj2 : j = 0 ∨ j = 1 := by
    have := (List.getElem?_eq_some_iff.1 hj).1
    simp at this
    omega
  rcases hj2 with rfl | rfl
  · obtain rfl : ([] : List Int) = p := by simpa using hj
    refine ⟨[.slice none 0 0], rfl, ⟨none, 0, rfl, by decide, Kd.C_nil _ _⟩, fun i u hu => ?_⟩
    cases i with
    | succ i => simp at hu
    | zero =>
      obtain rfl : Value.slice none 0 0 = u := by simpa using hu
      simp [Addr.add, World.cell?, h2, Kd.slice]
  · obtain rfl : abcL = p := by simpa using hj
    refine ⟨[.slice (some ⟨g, 0, none⟩) 8 8], rfl, ⟨some ⟨g, 0, none⟩, 8, rfl, by decide, abc_C W g fr h⟩, fun i u hu => ?_⟩
    cases i with
    | succ i => simp at hu
    | zero =>
      obtain rfl : Value.slice (some ⟨g, 0, none⟩) 8 8 = u := by simpa using hu
      simp [Addr.add, World.cell?, h2, Kd.slice]
def flittinglaw03_answers.f : Option Bool := some true
set_option maxRecDepth 100000 in
set_option maxHeartbeats 2000000 in
theorem flittinglaw03_answers.calls (r : Bool) (w : World) (h : flittinglaw03_answers.f = some r) : Calls Try.prog 9 #[] w fun e w' => e = .returned (.bool r) ∧ Below w.heap.size w w' := by
  obtain rfl : true = r := Option.some.inj h
  clear h
  have hcv1 := Lib.run_convert_bytes_const (P := Try.prog) w 22 5 abcA 8 8 Try.underlying22 Try.underlying5
  have HE : Aside0 (rs_Encode.f 1 1 abcL = some ([abcL, abcL], 0)) := ⟨by decide +kernel⟩
  have HD : Aside0 (rs_Decode.f 1 1 [[], abcL] = some (abcL, 0)) := ⟨by decide +kernel⟩
  have hstr : strOfNums abcL = ⟨#[97, 98, 99, 100, 101, 102, 103, 104]⟩ := rfl
  unfold abcA at hcv1
  go_enter Try.func9, Try.ntmps9
  go_wp2_with (first | (go_at_call 10; refine (rs_Encode.calls 1 1 _ 8 abcL [abcL, abcL] 0 _ (abc_C _ w.heap.size (8, 9) (World.alloc_heap_new w _)) (Nat.le_refl _) HE.out).mono ?_; rintro e w1 ⟨v1, rfl, ho1, hb1⟩; obtain ⟨ad1, c1, e1⟩ := S_some ho1 (by simp); have hC1 : Kd.C (Kd.slice 5 (Kd.int .u8)) w1 (some ad1) ([abcL, abcL] : List (List Int)).length [abcL, abcL] := (by rw [e1] at ho1; exact (Kd.S_reads' ho1).2.2); have e1' : v1 = .slice (some ad1) 2 c1 := e1; subst e1'; have HC1 := Aside0.mk hC1; have HB1 : Aside0 (Below w.heap.size w w1) := ⟨((Below.refl _ _).alloc (Nat.le_refl _) _).trans (hb1.mono (by simp))⟩; have hcv2 : (convert 22 22 (.slice (some ⟨w1.heap.size, 0, none⟩) 8 8)).run Try.prog (w1.alloc (.cells #[.int .u8 97, .int .u8 98, .int .u8 99, .int .u8 100, .int .u8 101, .int .u8 102, .int .u8 103, .int .u8 104] 5)) = .ok (.slice (some ⟨w1.heap.size, 0, none⟩) 8 8) (w1.alloc (.cells #[.int .u8 97, .int .u8 98, .int .u8 99, .int .u8 100, .int .u8 101, .int .u8 102, .int .u8 103, .int .u8 104] 5 (8, 9))) := Lib.run_convert_bytes_const w1 22 5 _ 8 8 Try.underlying22 Try.underlying5; clear ho1 hb1 hC1 hcv1 e1) | (go_at_call 13; refine (rs_Decode.calls 1 1 _ 2 [[], abcL] abcL 0 _ (two_C _ w1.heap.size (w1.heap.size + 1) (8, 9) (0, 0) (blk_alloc (World.alloc_heap_new w1 _) _) (by have := World.alloc_heap_new (w1.alloc (.cells abcA 5 (8, 9))) (.cells #[.slice none 0 0, .slice (some ⟨w1.heap.size, 0, none⟩) 8 8] 22); rwa [World.size_alloc] at this)) (Nat.le_refl _) HD.out).mono ?_; rintro e w5 ⟨v5, rfl, ho5, hb5⟩; have hbw : Below w1.heap.size w1 w5 := (((Below.refl _ _).alloc (Nat.le_refl _) _).alloc (by simp) _).trans (hb5.mono (by simp; omega)); have HB5 : Aside0 (Below w.heap.size w w5) := ⟨HB1.out.trans (hbw.mono HB1.out.size)⟩; have hs6 := V_string (P := Try.prog) Try.underlying22 Try.underlying5 Try.underlying9 ho5; rw [hstr] at hs6; obtain ⟨A6, c6, e6⟩ := Kd.V_slice ho5; have e6' : v5 = .slice A6 8 c6 := e6; subst e6'; obtain ⟨hc5, he5, hle5, hx5⟩ := cellS_of (Kd.C_below HC1.out hbw) (i := 1) (by decide); have hc5' : w5.cell? (ad1.add 1) = some (.slice (cellS w5 ad1 1).1 8 (cellS w5 ad1 1).2.2) := hc5; have hc6' : w5.cell? ⟨ad1.block, ad1.off + 1, none⟩ = some (.slice (cellS w5 ad1 1).1 8 (cellS w5 ad1 1).2.2) := (by simpa [Addr.add] using hc5'); have hs5 : ∀ cc, (convert 22 9 (.slice (cellS w5 ad1 1).1 8 cc)).run Try.prog w5 = .ok (.string (strOfNums abcL)) w5 := fun cc => Kd.C_string Try.underlying22 Try.underlying5 Try.underlying9 hx5; rw [hstr] at hs5; clear ho5 hb5 hbw hc5 he5 hle5 hx5 hcv2; generalize (cellS w5 ad1 1).1 = A7 at *; generalize (cellS w5 ad1 1).2.2 = c7 at *))
  go_ret
  exact ⟨rfl, HB5.out⟩

end Go.Proofs.Ytpgehfchdhjjeaa.PRsSums
