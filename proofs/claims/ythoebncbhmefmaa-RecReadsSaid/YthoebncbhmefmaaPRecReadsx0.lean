/- RecReads: the walk. -/
import Derived.Test.YthoebncbhmefmaaRy
import Derived.Test.YthoebncbhmefmaaRu
import Derived.Test.YthoebncbhmefmaaOp
import Derived.Lib.Strings
namespace Go.Proofs.Ythoebncbhmefmaa.PRecReads
open Go.RowKit Go.Proofs.YthoebncbhmefmaaW.PrintWords Go.Proofs.YthoebncbhmefmaaW.PrintLast Go.Proofs.YthoebncbhmefmaaW.PrintMore
attribute [local go_sem] max2_int min2_int max_two min_two max_three min_three max_four min_four
set_option linter.unusedVariables false
set_option linter.unusedSimpArgs false
open Go.Proofs.Ythoebncbhmefmaa.Rc Go.Proofs.Ythoebncbhmefmaa.Op
theorem samea_run (d : Nat) : ∀ (k i : Nat) (a : List Int), d + i = a.length → d < k → a.length < 1000000 → flittingref01_Same.l0 k a a (i : Int) = some true := by
  induction d with
  | zero =>
    intro k i a hd hk _
    obtain ⟨k, rfl⟩ : ∃ m, k = m + 1 := ⟨k - 1, by omega⟩
    simp only [flittingref01_Same.l0]
    rw [if_neg (by omega)]
  | succ d ih =>
    intro k i a hd hk hm
    obtain ⟨k, rfl⟩ : ∃ m, k = m + 1 := ⟨k - 1, by omega⟩
    simp only [flittingref01_Same.l0]
    rw [if_pos (by omega), if_pos (by omega), if_pos (by omega), show wrap64 ((i : Int) + 1) = ((i + 1 : Nat) : Int) from by unfold wrap64; omega]
    exact ih k (i + 1) a (by omega) (by omega) hm
theorem samea_f (k : Nat) (a : List Int) (hk : a.length < k) (hm : a.length < 1000000) : flittingref01_Same.f k a a = some true := by
  unfold flittingref01_Same.f
  rw [if_pos rfl]
  exact samea_run a.length k 0 a (by omega) hk hm

theorem back (x : Int) (h0 : 0 ≤ x) (h1 : x < 256) : ((UInt8.ofNat x.toNat).toNat : Int) = x := by
  rw [UInt8.toNat_ofNat']; omega
theorem str_inj (a b : List Int) (ha : Byt a) (hb : Byt b) (h : ((strOfNums a).toList == (strOfNums b).toList) = true) : a = b := by
  have h1 : (strOfNums a).toList = (strOfNums b).toList := by simpa using h
  rw [Go.Lib.toList_data, Go.Lib.toList_data, strOfNums_data, strOfNums_data] at h1
  have h2 := congrArg (List.map (fun u : UInt8 => (u.toNat : Int))) h1
  rw [List.map_map, List.map_map] at h2
  have e : ∀ l, Byt l → List.map ((fun u : UInt8 => (u.toNat : Int)) ∘ fun n : Int => UInt8.ofNat n.toNat) l = l := fun l hl => by
    have : List.map ((fun u : UInt8 => (u.toNat : Int)) ∘ fun n : Int => UInt8.ofNat n.toNat) l = List.map id l := List.map_congr_left (fun x hx => back x (hl x hx).1 (hl x hx).2)
    rw [this, List.map_id]
  rwa [e a ha, e b hb] at h2
theorem byt_numB (v : Int) (n : Nat) : Byt (numB v n) := by
  induction n generalizing v with
  | zero => intro x hx; cases hx
  | succ n ih =>
    intro x hx
    rcases List.mem_append.1 hx with h | h
    · exact ih _ x h
    · rw [List.mem_singleton.1 h]; omega
theorem byt_app {a b : List Int} (ha : Byt a) (hb : Byt b) : Byt (a ++ b) := fun x hx => by
  rcases List.mem_append.1 hx with h | h
  · exact ha x h
  · exact hb x h
theorem byt_str (k : ByteArray) : Byt (bytesOf k) := fun x hx => by
  obtain ⟨b, _, rfl⟩ := List.mem_map.1 hx
  have := b.toNat_lt
  omega
theorem byt_wN {s : St} (h : Byt s.1) (v : Int) (n : Nat) (m : Int) : Byt (wN v n m s).1 := byt_app h (byt_numB _ _)
theorem byt_fold {α : Type} (f : St → α → St) (hf : ∀ s x, Byt s.1 → Byt (f s x).1) (l : List α) : ∀ s : St, Byt s.1 → Byt (l.foldl f s).1 := by
  induction l with
  | nil => intro s h; exact h
  | cons x l ih => intro s h; exact ih _ (hf s x h)
theorem byt_wInts {s : St} (h : Byt s.1) (l : List Int) : Byt (wInts l s).1 := byt_fold _ (fun s x hs => byt_wN hs _ _ _) l _ (byt_wN h _ _ _)
theorem byt_wKey {s : St} (h : Byt s.1) (k : ByteArray) : Byt (wKey k s).1 := byt_app (byt_wN h _ _ _) (byt_str k)
theorem byt_wStripe {s : St} (h : Byt s.1) (x : S41) : Byt (wStripe x s).1 := byt_wInts (byt_wN (byt_wN h _ _ _) _ _ _) _
theorem byt_wStripes {s : St} (h : Byt s.1) (l : List S41) : Byt (wStripes l s).1 := byt_fold _ (fun s x hs => byt_wStripe hs x) l _ (byt_wN h _ _ _)
theorem byt_wObject {s : St} (h : Byt s.1) (x : S44) : Byt (wObject x s).1 := byt_wStripes (byt_wN (byt_wN (byt_wKey h _) _ _ _) _ _ _) _
theorem byt_wObjs {s : St} (h : Byt s.1) (l : List S44) : Byt (wObjs l s).1 := byt_fold _ (fun s x hs => byt_wObject hs x) l _ (byt_wN h _ _ _)
theorem byt_wRec (r : Rc) : Byt (wRec r).1 := byt_wInts (byt_wObjs (byt_wStripes (byt_wKey (byt_wN (byt_wN (s := wHead r) (byt_wN (s := ([], false)) (fun x hx => by cases hx) r.kind 1 5) _ _ _) _ _ _) _) _) _) _
theorem enc_byt (r : Rc) : Byt (encO r).1 := by
  unfold encO
  split
  · intro x hx; cases hx
  · split
    · intro x hx; cases hx
    · exact byt_wRec r
/-- Bytes that are a record's are what the record is written as. -/
theorem dec_enc (l : List Int) (hb : Byt l) (h : decOk l = true) : encO (rrec l).1 = (l, 0) := by
  unfold decOk at h
  simp only [Bool.and_eq_true, decide_eq_true_eq] at h
  obtain ⟨⟨_, h2⟩, h3⟩ := h
  have h4 := str_inj _ _ (enc_byt _) hb h3
  exact Prod.ext h4 h2
def flittinglaw09_RecReads.Pure : Prop := True
set_option maxHeartbeats 4000000 in
set_option maxRecDepth 100000 in
theorem flittinglaw09_RecReads.walk (_P : flittinglaw09_RecReads.Pure) (A : Option Addr) (c : Nat) (l : List Int) (w : World) (hl : l.length ≤ c) (hC : (Kd.int .u8).C w A l.length l) (hG : Row 1 (fun n => (Lit.int .u8 n).wf = true) l) :
    Calls Try.prog 4 #[.slice A l.length c] w fun e w' => e = .returned (.bool true) ∧ Below w.heap.size w w' := by
  have hb : Byt l := fun x hx => by
    have h0 := hG.all x hx
    have h : IntKind.u8.min ≤ x ∧ x ≤ IntKind.u8.max := by simpa [Lit.wf] using h0
    have h2 : 0 ≤ x ∧ x ≤ 255 := h
    omega
  clear hG _P
  have HC := Aside0.mk hC
  have HLc := Aside0.mk hl
  by_cases hbig : 9000 < l.length
  · have t1 : decide ((9000 : Int) < (l.length : Int)) = true := decide_eq_true (by omega)
    have t2 : decide (9000 < l.length) = true := decide_eq_true hbig
    clear hbig hC hl
    go_enter Try.func4, Try.ntmps4
    go_wp2_with fail
    refine (answers_calls _).mono ?_
    rintro e w9 ⟨rfl, hb9⟩
    have HB9 : Aside0 (Below w.heap.size w w9) := ⟨hb9⟩
    clear hb9
    go_wp2
    go_ret
    exact ⟨rfl, HB9.out⟩
  have t1 : decide ((9000 : Int) < (l.length : Int)) = false := decide_eq_false (by omega)
  have t2 : decide (9000 < l.length) = false := decide_eq_false hbig
  have HD : Aside0 _ := ⟨decode_calls A c l w hC hl hb (by omega)⟩
  have HSA : Aside0 (flittingref01_Same.f 20000 l l = some true) := ⟨samea_f 20000 l (by omega) (by omega)⟩
  cases hok : decOk l
  · have hD : decO l = (zRc, 2) := by unfold decO; rw [hok]; rfl
    rw [hD] at HD
    have HSF : Aside0 (flittingref09_Same.f 20000 0 0 0 ⟨#[]⟩ [] [] [] 0 0 0 ⟨#[]⟩ [] [] [] = some true) := ⟨by
      have := same_f 0 (by decide) zRc zRc ⟨⟨Nat.le_refl _, fun x hx => by cases hx⟩, ⟨Nat.le_refl _, fun x hx => by cases hx⟩, Nat.le_refl _⟩ 20000 (by decide)
      rw [eqR_refl] at this
      exact this⟩
    clear hbig hC hl hok hD hb
    go_enter Try.func4, Try.ntmps4
    go_wp2_with fail
    refine HD.out.mono ?_
    rintro e w2 ⟨cs, rfl, hat, hB2⟩
    obtain ⟨A4, A5, A6, c4, c5, c6, rfl, h4, hC4, h5, hC5, h6, hC6⟩ := hat.ex
    have HB2 := Aside0.mk hB2
    simp only [zRc, List.length_nil] at *
    obtain ⟨w3, hw3⟩ : ∃ w3, w3 = w2.alloc (.cells #[.int .i64 0, .int .i64 0, .int .i64 0, .string ⟨#[]⟩, .slice A4 0 c4, .slice A5 0 c5, .slice A6 0 c6] 26) := ⟨_, rfl⟩
    have hB3 : Below w2.heap.size w2 w3 := by rw [hw3]; exact (Below.refl _ _).alloc (Nat.le_refl _) _
    have hb3 : w3.heap[w2.heap.size]? = some (.cells #[.int .i64 0, .int .i64 0, .int .i64 0, .string ⟨#[]⟩, .slice A4 0 c4, .slice A5 0 c5, .slice A6 0 c6] 26 (0, 0)) := by rw [hw3]; exact heap_alloc_new w2 _
    have HB3 : Aside0 (Below w.heap.size w w3) := ⟨HB2.out.trans (hB3.mono HB2.out.size)⟩
    have HW3 := Aside0.mk hw3
    have d0 : w3.cell? ⟨w2.heap.size, 0, none⟩ = some (.int .i64 0) := (blk_cell hb3 0).trans rfl
    have d1 : w3.cell? ⟨w2.heap.size, 1, none⟩ = some (.int .i64 0) := (blk_cell hb3 1).trans rfl
    have d2 : w3.cell? ⟨w2.heap.size, 2, none⟩ = some (.int .i64 0) := (blk_cell hb3 2).trans rfl
    have d3 : w3.cell? ⟨w2.heap.size, 3, none⟩ = some (.string ⟨#[]⟩) := (blk_cell hb3 3).trans rfl
    have d4 : w3.cell? ⟨w2.heap.size, 4, none⟩ = some (.slice A4 0 c4) := (blk_cell hb3 4).trans rfl
    have d5 : w3.cell? ⟨w2.heap.size, 5, none⟩ = some (.slice A5 0 c5) := (blk_cell hb3 5).trans rfl
    have d6 : w3.cell? ⟨w2.heap.size, 6, none⟩ = some (.slice A6 0 c6) := (blk_cell hb3 6).trans rfl
    have HC4 := Aside0.mk (Kd.C_below hC4 hB3)
    have HC5 := Aside0.mk (Kd.C_below hC5 hB3)
    have HC6 := Aside0.mk (Kd.C_below hC6 hB3)
    have Hh4 := Aside0.mk h4
    have Hh5 := Aside0.mk h5
    have Hh6 := Aside0.mk h6
    clear hat hC4 hC5 hC6 h4 h5 h6 hB2 hw3 hB3 hb3 HD
    go_upto_region 4 with fail
    rw [← HW3.out]
    go_wp2_with fail
    refine (answers_calls _).mono ?_
    rintro e w4 ⟨rfl, hb4⟩
    have HB4 : Aside0 (Below w.heap.size w w4) := ⟨HB3.out.trans (hb4.mono HB3.out.size)⟩
    have hc4 : Below w3.heap.size w3 w4 := hb4
    replace d0 := pw_cell_below hc4 d0
    replace d1 := pw_cell_below hc4 d1
    replace d2 := pw_cell_below hc4 d2
    replace d3 := pw_cell_below hc4 d3
    replace d4 := pw_cell_below hc4 d4
    replace d5 := pw_cell_below hc4 d5
    replace d6 := pw_cell_below hc4 d6
    clear hb4
    go_wp2_with fail
    refine (flittingref09_Same.calls 20000 0 0 0 ⟨#[]⟩ A4 c4 [] A5 c5 [] A6 c6 [] 0 0 0 ⟨#[]⟩ none 0 [] none 0 [] none 0 [] true w4 (Kd.C_below HC4.out hc4) Hh4.out (Kd.C_below HC5.out hc4) Hh5.out (Kd.C_below HC6.out hc4) Hh6.out (Kd.C_nil _ _) (Nat.le_refl _) (Kd.C_nil _ _) (Nat.le_refl _) (Kd.C_nil _ _) (Nat.le_refl _) HSF.out).mono ?_
    rintro e w5 ⟨rfl, hb5⟩
    have HB5 : Aside0 (Below w.heap.size w w5) := ⟨HB4.out.trans (hb5.mono HB4.out.size)⟩
    clear hb5
    go_wp2
    go_ret
    exact ⟨rfl, HB5.out⟩
  · have hD : decO l = ((rrec l).1, 0) := by unfold decO; rw [hok]; rfl
    rw [hD] at HD
    have HEQ := Aside0.mk (dec_enc l hb hok)
    have HRB := Aside0.mk (rec_bound _ (rrec_small l hb))
    obtain ⟨r, hr⟩ : ∃ r, r = (rrec l).1 := ⟨_, rfl⟩
    rw [← hr] at HD HEQ HRB
    clear hbig hC hl hok hD hb hr
    go_enter Try.func4, Try.ntmps4
    go_wp2_with fail
    refine HD.out.mono ?_
    rintro e w2 ⟨cs, rfl, hat, hB2⟩
    obtain ⟨A4, A5, A6, c4, c5, c6, rfl, h4, hC4, h5, hC5, h6, hC6⟩ := hat.ex
    have HB2 := Aside0.mk hB2
    obtain ⟨w3, hw3⟩ : ∃ w3, w3 = w2.alloc (.cells #[.int .i64 r.kind, .int .i64 r.id, .int .i64 r.size, .string r.key, .slice A4 r.strs.length c4, .slice A5 r.objs.length c5, .slice A6 r.drv.length c6] 26) := ⟨_, rfl⟩
    have hB3 : Below w2.heap.size w2 w3 := by rw [hw3]; exact (Below.refl _ _).alloc (Nat.le_refl _) _
    have hb3 : w3.heap[w2.heap.size]? = some (.cells #[.int .i64 r.kind, .int .i64 r.id, .int .i64 r.size, .string r.key, .slice A4 r.strs.length c4, .slice A5 r.objs.length c5, .slice A6 r.drv.length c6] 26 (0, 0)) := by rw [hw3]; exact heap_alloc_new w2 _
    have HB3 : Aside0 (Below w.heap.size w w3) := ⟨HB2.out.trans (hB3.mono HB2.out.size)⟩
    have HW3 := Aside0.mk hw3
    have d0 : w3.cell? ⟨w2.heap.size, 0, none⟩ = some (.int .i64 r.kind) := (blk_cell hb3 0).trans rfl
    have d1 : w3.cell? ⟨w2.heap.size, 1, none⟩ = some (.int .i64 r.id) := (blk_cell hb3 1).trans rfl
    have d2 : w3.cell? ⟨w2.heap.size, 2, none⟩ = some (.int .i64 r.size) := (blk_cell hb3 2).trans rfl
    have d3 : w3.cell? ⟨w2.heap.size, 3, none⟩ = some (.string r.key) := (blk_cell hb3 3).trans rfl
    have d4 : w3.cell? ⟨w2.heap.size, 4, none⟩ = some (.slice A4 r.strs.length c4) := (blk_cell hb3 4).trans rfl
    have d5 : w3.cell? ⟨w2.heap.size, 5, none⟩ = some (.slice A5 r.objs.length c5) := (blk_cell hb3 5).trans rfl
    have d6 : w3.cell? ⟨w2.heap.size, 6, none⟩ = some (.slice A6 r.drv.length c6) := (blk_cell hb3 6).trans rfl
    have HC4 := Aside0.mk (Kd.C_below hC4 hB3)
    have HC5 := Aside0.mk (Kd.C_below hC5 hB3)
    have HC6 := Aside0.mk (Kd.C_below hC6 hB3)
    have Hh4 := Aside0.mk h4
    have Hh5 := Aside0.mk h5
    have Hh6 := Aside0.mk h6
    clear hat hC4 hC5 hC6 h4 h5 h6 hB2 hw3 hB3 hb3 HD
    have HE : Aside0 _ := ⟨wencode_calls A4 A5 A6 c4 c5 c6 r w3 HC4.out HC5.out HC6.out (by have := HRB.out; omega)⟩
    rw [HEQ.out] at HE
    go_upto_region 4 with fail
    rw [← HW3.out]
    go_wp2_with fail
    refine HE.out.mono ?_
    rintro e w4 ⟨v4, rfl, hR7, hB4⟩
    obtain ⟨A7, n7, e7⟩ := Kd.R_slice hR7
    subst e7
    have HC7 := Aside0.mk (Kd.F_now (Kd.R_F hR7))
    have HN7 := Aside0.mk (Kd.V_at (Kd.R_V (base' := 0) hR7)).2.1
    have HB4 : Aside0 (Below w.heap.size w w4) := ⟨HB3.out.trans (hB4.mono HB3.out.size)⟩
    replace d0 := pw_cell_below hB4 d0
    replace d1 := pw_cell_below hB4 d1
    replace d2 := pw_cell_below hB4 d2
    replace d3 := pw_cell_below hB4 d3
    replace d4 := pw_cell_below hB4 d4
    replace d5 := pw_cell_below hB4 d5
    replace d6 := pw_cell_below hB4 d6
    clear hR7 hB4 HE
    go_wp2_with fail
    refine (answers_calls _).mono ?_
    rintro e w5 ⟨rfl, hb5⟩
    have HB5 : Aside0 (Below w.heap.size w w5) := ⟨HB4.out.trans (hb5.mono HB4.out.size)⟩
    have hc5 : Below w4.heap.size w4 w5 := hb5
    replace d0 := pw_cell_below hc5 d0
    replace d1 := pw_cell_below hc5 d1
    replace d2 := pw_cell_below hc5 d2
    replace d3 := pw_cell_below hc5 d3
    replace d4 := pw_cell_below hc5 d4
    replace d5 := pw_cell_below hc5 d5
    replace d6 := pw_cell_below hc5 d6
    clear hb5
    go_wp2_with fail
    refine (flittingref01_Same.calls 20000 A c l A7 n7 l true w5 (Kd.C_below HC.out HB5.out) HLc.out (Kd.C_below HC7.out hc5) HN7.out HSA.out).mono ?_
    rintro e w6 ⟨rfl, hb6⟩
    have HB6 : Aside0 (Below w.heap.size w w6) := ⟨HB5.out.trans (hb6.below.mono HB5.out.size)⟩
    clear hb6
    go_wp2
    go_ret
    exact ⟨rfl, HB6.out⟩
end Go.Proofs.Ythoebncbhmefmaa.PRecReads
