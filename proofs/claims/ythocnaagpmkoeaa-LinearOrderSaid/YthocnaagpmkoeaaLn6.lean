/- Calls, one after the other: Check. -/
import Derived.Test.YthocnaagpmkoeaaProg
import Derived.Below
import Derived.Deep.Draws
import Derived.Deep.AppendLies
import Derived.Maps.AppendAt
import Derived.OwnWalk
import Derived.Laws.BytesArg
import Derived.Laws.MakeOwn
import Derived.Laws.OwnMore
import Derived.Deep.OwnRows
import Derived.Tactics
import Derived.Lib.ConvBytes
import Derived.Laws.Slices
import Derived.WalkKit
import Derived.KernelRfl
import Derived.RowKit3
import Derived.Deep.LoopGhost
import Derived.Deep.QuietTactic
import Derived.BigQuiet
import Derived.WideLaws
import Derived.Deep.DeepCutAuto
import Derived.Deep.CutBlock
import Derived.Deep.RegionHeld3
import Derived.Laws.Rows
import Derived.Lib.AppendStr
import Derived.ArgAppend
import Derived.Laws.IdiomCopy
import Derived.OrdersHeld
import Derived.Laws.BitsLemmas
import Derived.RowKit
import Derived.Test.YthocnaagpmkoeaaWWords
import Derived.Test.YthocnaagpmkoeaaWLast
import Derived.Test.YthocnaagpmkoeaaWTab
import Derived.Test.YthocnaagpmkoeaaWFour
import Derived.Test.YthocnaagpmkoeaaWQPut
import Derived.Test.YthocnaagpmkoeaaWApart
import Derived.Test.YthocnaagpmkoeaaWArr
import Derived.Test.YthocnaagpmkoeaaWZeros
import Derived.Test.YthocnaagpmkoeaaWFoot
import Derived.Test.YthocnaagpmkoeaaWKept
import Derived.Test.YthocnaagpmkoeaaWShare
import Derived.Test.YthocnaagpmkoeaaWN
import Derived.Test.YthocnaagpmkoeaaWFootNe
import Derived.Test.YthocnaagpmkoeaaWAt
import Derived.Test.YthocnaagpmkoeaaWEqStruct
import Derived.Test.YthocnaagpmkoeaaWRepsOne
import Derived.Test.YthocnaagpmkoeaaWInv
import Derived.Test.YthocnaagpmkoeaaWInvWords
import Derived.Test.YthocnaagpmkoeaaWGuard
import Derived.Test.YthocnaagpmkoeaaWNEv
import Derived.Test.YthocnaagpmkoeaaWMore
import Derived.Test.YthocnaagpmkoeaaLn5
namespace Go.Proofs.Ythocnaagpmkoeaa.Ln
open Go.RowKit Go.Proofs.YthocnaagpmkoeaaW.PrintWords Go.Proofs.YthocnaagpmkoeaaW.PrintLast Go.Proofs.YthocnaagpmkoeaaW.PrintMore
attribute [local go_sem] max2_int min2_int max_two min_two max_three min_three max_four min_four
set_option linter.unusedVariables false
set_option linter.unusedSimpArgs false
open Go.Proofs.Ythocnaagpmkoeaa.Mp
theorem info29 : (Try.prog.info? 29).map (fun i => (i.zero, i.size, i.bytes)) = some (some (.agg #[.int .i64 0, .int .i64 0, .string ⟨#[]⟩, .slice none 0 0, .int .i64 0, .int .i64 0, .int .i64 0, .int .i64 0, .slice none 0 0, .slice none 0 0]), 10, 136) := by kernel_rfl
def zcall : Value := .agg #[.int .i64 0, .int .i64 0, .string ⟨#[]⟩, .slice none 0 0, .int .i64 0, .int .i64 0, .int .i64 0, .int .i64 0, .slice none 0 0, .slice none 0 0]
theorem encF_open (x : Fc) : ∃ tk o k f t2 e' a d1 d2 d3 o1 o2 o3 k1 k2 k3, encF x = [.int .i64 tk, .int .i64 o, .string k, .slice d1 d2 d3, .int .i64 f, .int .i64 t2, .int .i64 a, .int .i64 e', .slice o1 o2 o3, .slice k1 k2 k3] ∧ o = x.op ∧ k = x.key ∧ f = x.fr ∧ t2 = x.to_ ∧ a = x.at_ ∧ e' = x.e := by
  obtain ⟨task, op, key, data, fr, to_, at_, ex, out, ka, kl, kc⟩ := x
  exact ⟨_, _, _, _, _, _, _, _, _, _, _, _, _, _, _, _, rfl, rfl, rfl, rfl, rfl, rfl, rfl⟩
/-- A row of calls, that is read. -/
def Rd (w : World) (A : Option Addr) (xs : List Fc) : Prop := ∀ q, q < xs.length → ∃ g, A = some ⟨g, 0, none⟩ ∧ ∀ j, j < 10 → w.cell? ⟨g, q * 10 + j, none⟩ = some ((encF (xs.getD q default))[j]!)
theorem Rd.below {w w' : World} {A : Option Addr} {xs : List Fc} (h : Rd w A xs) (hb : Below w.heap.size w w') : Rd w' A xs := fun q hq => by
  obtain ⟨g, hA, hc⟩ := h q hq
  exact ⟨g, hA, fun j hj => pw_cell_below hb (hc j hj)⟩
theorem flatF : ∀ (xs : List Fc) (t : Nat), t < xs.length * 10 → (xs.flatMap encF)[t]? = some ((encF xs.toArray[t / 10]!)[t % 10]!) := by
  intro xs
  induction xs with
  | nil => intro t ht; simp at ht
  | cons x xs ih =>
    intro t ht
    rcases Nat.lt_or_ge t 10 with h | h
    · have e1 : t / 10 = 0 := by omega
      have e2 : t % 10 = t := by omega
      have e3 : t < (encF x).length := by rw [encF_len]; exact h
      simp only [e1, e2, List.flatMap_cons]
      rw [List.getElem?_append_left e3]
      simp [e3]
    · have h2 := ih (t - 10) (by simp at ht; omega)
      have e1 : t / 10 = (t - 10) / 10 + 1 := by omega
      have e2 : t % 10 = (t - 10) % 10 := by omega
      have e3 : (encF x).length ≤ t := by rw [encF_len]; exact h
      rw [List.flatMap_cons, List.getElem?_append_right e3, encF_len, h2, e1, e2]
      have hlt : (t - 10) / 10 < xs.length := by simp at ht; omega
      simp [hlt]
theorem holdsF {W : World} {B : Nat} {v : Value} {xs : List Fc} (hn : 0 < xs.length) (h : W.ownsRow B 29 10 v xs.length (xs.flatMap encF)) : ∃ g c, v = .slice (some ⟨g, 0, none⟩) xs.length c ∧ B ≤ g ∧ g < W.heap.size ∧ xs.length ≤ c ∧ Go.Sort.HoldsK encF 10 W g 0 xs.toArray := by
  rcases h.2 with ⟨_, h0⟩ | ⟨g, cap, cur, rfl, hg, hh, hnc, hcap, hsz, htk⟩
  · omega
  · refine ⟨g, cap, rfl, hg, (Array.getElem?_eq_some_iff.1 hh).1, by simpa using hnc, fun j hj => ?_⟩
    have hj2 : j < xs.length * 10 := by simpa [Go.Sort.size_flatK] using hj
    have h3 := congrArg (fun l => l[j]?) htk
    simp only [List.getElem?_take, if_pos hj2] at h3
    rw [flatF xs j hj2] at h3
    have hjs : j < cur.size := by
      have := (List.getElem?_eq_some_iff.1 h3).1
      simpa using this
    have hc : W.cell? ⟨g, j, none⟩ = some ((encF xs.toArray[j / 10]!)[j % 10]!) := by
      simp only [World.cell?, hh]
      simpa using h3
    have hf : W.frozen? ⟨g, j, none⟩ = false := by simp [World.frozen?, hh]
    rw [Nat.zero_add]
    refine ⟨?_, hf⟩
    rw [hc]
    simp [Go.Sort.flatK, hj2]
theorem getF_ {W : World} {g : Nat} {ys : List Fc} (h : Go.Sort.HoldsK encF 10 W g 0 ys.toArray) {q : Nat} (hq : q < ys.length) (j : Nat) (hj : j < 10) : W.cell? ⟨g, q * 10 + j, none⟩ = some ((encF (ys.getD q default))[j]!) := by
  have e : ys.toArray[q]! = ys.getD q default := by simp [hq]
  have h0 := (h (q * 10 + j) (by simp [Go.Sort.size_flatK]; omega)).1
  rw [Nat.zero_add] at h0
  rw [h0]
  have e0 : (q * 10 + j) / 10 = q := by omega
  have e2 : (q * 10 + j) % 10 = j := by omega
  have g0 : (Go.Sort.flatK encF 10 ys.toArray)[q * 10 + j]! = (encF ys.toArray[q]!)[j]! := by
    have hl : q * 10 + j < ys.length * 10 := by omega
    simp [Go.Sort.flatK, hl, e0, e2]
  rw [g0, e]
  rfl
theorem rd_of_holds {W : World} {g : Nat} {ys : List Fc} (h : Go.Sort.HoldsK encF 10 W g 0 ys.toArray) : Rd W (some ⟨g, 0, none⟩) ys := fun q hq => ⟨g, rfl, fun j hj => getF_ h hq j hj⟩
theorem rd_of_own {W : World} {B : Nat} {A : Option Addr} {n c : Nat} {xs : List Fc} (h : W.ownsRow B 29 10 (.slice A n c) xs.length (xs.flatMap encF)) : Rd W A xs := fun q hq => by
  obtain ⟨g, c', e, _, _, _, hH⟩ := holdsF (by omega) h
  injection e with e
  subst e
  exact rd_of_holds hH q hq
def filt (xs : List Fc) : List Fc := xs.filter (fun x => decide (0 < x.at_))
def runF (m : ByteArray → Option Ds) : List Fc → Bool
  | [] => true
  | x :: xs => if x.at_ < x.fr ∨ (0 < x.to_ ∧ x.to_ < x.at_) then false else if (doF m x).1 = true then runF (doF m x).2 xs else false
theorem filt_step (xs : List Fc) (q : Nat) (hq : q < xs.length) : filt (xs.take (q + 1)) = filt (xs.take q) ++ (if 0 < (xs.getD q default).at_ then [xs.getD q default] else []) := by
  have e : xs.getD q default = xs[q] := by simp [hq]
  rw [List.take_succ_eq_append_getElem hq, e]
  unfold filt
  rw [List.filter_append]
  by_cases h : 0 < xs[q].at_ <;> simp [h]
theorem sortA_perm (xs : List Fc) : (sortF xs).Perm xs := by
  have h := (Go.Sort.insertionSort_holds swoF xs.toArray 0 xs.length (Nat.zero_le _) (by simp)).1.2.2
  have e1 : (sortA xs).toList = ((sortA xs).toList.drop 0).take (xs.length - 0) := by
    rw [List.drop_zero, List.take_of_length_le]
    simp [sortA_size]
  have hz := sortA_size xs
  unfold sortF
  have e2 : (Go.Sort.insertionSort (Go.Proofs.ltOf atC) xs.toArray 0 xs.length).toList = (sortA xs).toList := rfl
  have e3 : List.take xs.length (sortA xs).toList = (sortA xs).toList := List.take_of_length_le (by simp [hz])
  have h2 := h.symm
  simp at h2
  rw [e2, e3] at h2
  exact h2.symm
theorem runF_step (m : ByteArray → Option Ds) (x : Fc) (xs : List Fc) (h : ¬ (x.at_ < x.fr ∨ (0 < x.to_ ∧ x.to_ < x.at_))) : runF m (x :: xs) = if (doF m x).1 = true then runF (doF m x).2 xs else false := by
  rw [runF, if_neg h]
theorem own_below29 {w w1 : World} {base n : Nat} {v : Value} {xs : List Value} (h : w.ownsRow base 29 10 v n xs) (hb : Below w.heap.size w w1) : w1.ownsRow base 29 10 v n xs := by
  refine ⟨h.1, ?_⟩
  rcases h.2 with ⟨h1, h2⟩ | ⟨g, cap, cur, h1, hg, hh, h3⟩
  · exact .inl ⟨h1, h2⟩
  · exact .inr ⟨g, cap, cur, h1, hg, (hb.block g (Array.getElem?_eq_some_iff.1 hh).1).trans hh, h3⟩
set_option maxHeartbeats 4000000 in
set_option maxRecDepth 100000 in
theorem check_calls (A : Option Addr) (c : Nat) (xs : List Fc) (w : World) (hR : Rd w A xs) (hl : xs.length ≤ 100000) (h20 : (filt xs).length ≤ 20) (hok : ∀ x ∈ filt xs, x.ok w ∧ x.key.size ≤ 1000 ∧ (x.op = 1 ∨ x.op = 2)) :
    Calls Try.prog 7 #[.slice A xs.length c] w fun e w' => e = .returned (.bool (runF (fun _ => none) (sortF (filt xs)))) ∧ Below w.heap.size w w' := by
  have HR := Aside0.mk hR
  have HOK := Aside0.mk hok
  have H20 := Aside0.mk h20
  generalize hn : xs.length = n at *
  have HN := Aside0.mk hn
  have HL := Aside0.mk hl
  clear hR hok h20 hn hl
  have hmm := @run_makeMap Try.prog
  go_enter Try.func7, Try.ntmps7
  go_wp2
  go_loopw [3, 11] (fun v i wr => ∃ (q : Nat) (A1 : Option Addr) (m c1 : Nat), q ≤ n ∧ i = .int .i64 q ∧ v = .slice A1 m c1 ∧ Aside0 (m = (filt (xs.take q)).length ∧ (m = 0 → A1 = none ∧ c1 = 0)) ∧ Aside0 (wr.ownsRow w.heap.size 29 10 (.slice A1 m c1) m ((filt (xs.take q)).flatMap encF)) ∧ Aside0 (Below w.heap.size w wr)) (fun _ i _ => n - (intOf i).toNat)
  case atStart => exact ⟨0, none, 0, 0, Nat.zero_le _, rfl, rfl, ⟨rfl, fun _ => ⟨rfl, rfl⟩⟩, ⟨own_nil _ _ _ _⟩, ⟨Below.refl _ _⟩⟩
  case round =>
    obtain ⟨q, A1, m, c1, hq, rfl, rfl, hm, hown, hb⟩ := hrel
    by_cases hlt : q < n
    · have hd : decide (q < n) = true := decide_eq_true hlt
      have hq' : q < xs.length := by rw [HN.out]; exact hlt
      obtain ⟨g, rfl, hcs⟩ := HR.out q hq'
      have hst := filt_step xs q hq'
      generalize xs.getD q default = x at *
      obtain ⟨task, op, key, fr, to_, ex, at_, y1, y2, y3, y4, y5, y6, y7, y8, y9, hE, u1, u2, u3, u4, hat, u5⟩ := encF_open x
      clear u1 u2 u3 u4 u5
      have HE := Aside0.mk hE
      clear hE
      have HCS : Aside0 (∀ j, j < 10 → wr.cell? ⟨g, q * 10 + j, none⟩ = some ((encF x)[j]!)) := ⟨fun j hj => pw_cell_below hb.out (hcs j hj)⟩
      rw [← hat] at hst
      clear hat
      clear hcs hq'
      have k0 := HCS.out 0 (by decide)
      have k1 := HCS.out 1 (by decide)
      have k2 := HCS.out 2 (by decide)
      have k3 := HCS.out 3 (by decide)
      have k4 := HCS.out 4 (by decide)
      have k5 := HCS.out 5 (by decide)
      have k6 := HCS.out 6 (by decide)
      have k7 := HCS.out 7 (by decide)
      have k8 := HCS.out 8 (by decide)
      have k9 := HCS.out 9 (by decide)
      rw [HE.out] at k0 k1 k2 k3 k4 k5 k6 k7 k8 k9
      simp only [Nat.add_zero] at k0 k1 k2 k3 k4 k5 k6 k7 k8 k9
      have HB2 : Aside0 (∀ o, Below w.heap.size w (wr.alloc o)) := ⟨fun o => hb.out.alloc hb.out.size o⟩
      have HO2 : Aside0 (∀ o, (wr.alloc o).ownsRow w.heap.size 29 10 (.slice A1 m c1) m ((filt (xs.take q)).flatMap encF)) := ⟨fun o => hown.out.alloc o⟩
      have hm20 : m ≤ q := by rw [hm.out.1]; exact Nat.le_trans (List.length_filter_le _ _) (by rw [List.length_take]; omega)
      have HQ := Aside0.mk hq
      have HE1 : Aside0 (∀ u ∈ ([.int .i64 task, .int .i64 op, .string key, .slice y1 y2 y3, .int .i64 fr, .int .i64 to_, .int .i64 at_, .int .i64 ex, .slice y4 y5 y6, .slice y7 y8 y9] : List Value), u.oneCell' = true) := ⟨by rw [← HE.out]; exact encF_one x⟩
      have hl2 := HL.out
      by_cases h0 : 0 < at_
      · have d2 : decide (0 < at_) = true := decide_eq_true h0
        rw [if_pos h0] at hst
        have HST := Aside0.mk hst
        clear hst h0
        go_wp2_with (((with_reducible refine gate_builtin (b := .append) (xs := #[.tmp 18, .tmp 20]) rfl ?_); at_builtin; refine print_append_cells w.heap.size rfl (.tmp 18) (.tmp 20) 24 29 zcall 10 136 rfl Try.underlying24 info29 rfl (by decide) (by decide) (.slice A1 m c1) m ((filt (xs.take q)).flatMap encF) [.int .i64 task, .int .i64 op, .string key, .slice y1 y2 y3, .int .i64 fr, .int .i64 to_, .int .i64 at_, .int .i64 ex, .slice y4 y5 y6, .slice y7 y8 y9] rfl ?hx rfl HE1.out (HO2.out _) (HB2.out _) (HB2.out _).size (by omega) ?_; (case hx => (show Value.slice (some ⟨wr.heap.size + 1, 0, none⟩) 1 1 = _; simp)); intro v5 w5 ho5 hb5 _ _; obtain ⟨A5, c5, e5⟩ := own_slice ho5; subst e5; have HO5 := Aside0.mk ho5; have HB5 := Aside0.mk hb5; clear ho5 hb5))
        go_roundw
        case rel => exact ⟨q + 1, A5, m + 1, c5, by omega, by go_num, rfl, ⟨by rw [HST.out, List.length_append, ← hm.out.1]; rfl, fun h => by omega⟩, ⟨by rw [HST.out, List.flatMap_append, List.flatMap_singleton, HE.out]; exact HO5.out⟩, HB5⟩
        case measure => simp [intOf]; omega
      · have d2 : decide (0 < at_) = false := decide_eq_false h0
        rw [if_neg h0, List.append_nil] at hst
        have HST := Aside0.mk hst
        clear hst h0
        go_wp2
        go_roundw
        case rel => exact ⟨q + 1, A1, m, c1, by omega, by go_num, rfl, ⟨by rw [HST.out]; exact hm.out⟩, ⟨by rw [HST.out]; exact HO2.out _⟩, ⟨HB2.out _⟩⟩
        case measure => simp [intOf]; omega
    · obtain rfl : q = n := by omega
      have hd : decide (q < q) = false := decide_eq_false (Nat.lt_irrefl q)
      have htk : xs.take q = xs := List.take_of_length_le (by rw [HN.out]; exact Nat.le_refl _)
      rw [htk] at hown hm
      have HDO : Aside0 (∀ (m2 : ByteArray → Option Ds) (b2 : Nat) (x : Fc) (w2 : World), x ∈ filt xs → Below w.heap.size w w2 → w.heap.size ≤ b2 → IsM Try.prog 9 w2 b2 (mapOf m2) → (∀ k d, m2 k = some d → d.ok w) → Calls Try.prog 12 #[.map (some b2), .agg (encF x).toArray] w2 fun e w' => e = .returned (.bool (doF m2 x).1) ∧ IsM Try.prog 9 w' b2 (mapOf (doF m2 x).2) ∧ (∀ k d, (doF m2 x).2 k = some d → d.ok w) ∧ Bq w2 w' b2) :=
        ⟨fun m2 b2 x w2 hx hB hb2 hM hO => do_calls b2 m2 x w w2 hB hb2 hM hO (HOK.out x hx).1 (HOK.out x hx).2.1 (HOK.out x hx).2.2⟩
      generalize hys : filt xs = ys at *
      obtain ⟨hm1, hm2⟩ := hm.out
      subst hm1
      clear hm
      have HS : Aside0 (Calls Try.prog 9 #[.slice A1 ys.length c1, .func (.func 10) #[] #[]] wr fun e w' => e = .returned (.tuple #[]) ∧ Below w.heap.size w w' ∧ ∀ (b2 : Nat) (w3 : World), w'.heap.size ≤ b2 → (∀ k, k < w'.heap.size → w3.heap[k]? = w'.heap[k]?) → Rd w3 A1 (sortF ys)) := ⟨by
        rcases Nat.eq_zero_or_pos ys.length with h0 | h0
        · obtain ⟨rfl, rfl⟩ := hm2 h0
          rw [h0]
          refine (sort_nil wr).mono ?_
          rintro e w' ⟨rfl, rfl⟩
          refine ⟨rfl, hb.out, fun b2 w3 _ _ q hq => ?_⟩
          rw [sortF_length, h0] at hq
          exact absurd hq (Nat.not_lt_zero _)
        · obtain ⟨g, c', e, hBg, hlt, hcl, hH⟩ := holdsF h0 hown.out
          injection e with e1 e2 e3
          subst e1 e3
          refine (sort_calls g c1 ys wr hlt H20.out hH).mono ?_
          rintro e w' ⟨rfl, h1, h2, h3⟩
          refine ⟨rfl, h3 _ _ hBg hb.out, fun b2 w3 _ hk => ?_⟩
          have h4 : Go.Sort.HoldsK encF 10 w' g 0 (sortF ys).toArray := by simpa [sortF] using h1
          intro q hq
          refine ⟨g, rfl, fun j hj => ?_⟩
          rw [← getF_ h4 hq j hj]
          exact World.cell?_of_block (hk g h2)⟩
      clear hown hm2
      have HRW := Aside0.mk hb
      clear hb
      go_wp2_with (go_at_call 9; refine HS.out.mono ?_; rintro e w2 ⟨rfl, hb2, hrd⟩; have HB2 := Aside0.mk hb2; have HRD := Aside0.mk hrd; clear hb2 hrd)
      have HB3 : Aside0 (Below w.heap.size w (w2.alloc (.map #[] 0))) := ⟨HB2.out.alloc HB2.out.size _⟩
      have HM3 : Aside0 (IsM Try.prog 9 (w2.alloc (.map #[] 0)) w2.heap.size (mapOf (fun _ => none))) := ⟨by
        have h := IsM.made w2 Try.prog 9
        have e : mapOf (fun _ => none) = fun _ => none := by funext v; unfold mapOf; split <;> rfl
        rw [e]
        exact h⟩
      have HK3 : Aside0 (∀ k, k < w2.heap.size → (w2.alloc (.map #[] 0)).heap[k]? = w2.heap[k]?) := ⟨fun k hk => Below.heap_alloc _ _ _ hk⟩
      have HB20 : Aside0 (w.heap.size ≤ w2.heap.size) := ⟨HB2.out.size⟩
      have HSF : Aside0 ((sortF ys).length = ys.length ∧ ∀ x ∈ sortF ys, x ∈ ys) := ⟨sortF_length ys, fun x hx => (sortA_perm ys).mem_iff.1 hx⟩
      have HYQ : ys.length ≤ 20 := H20.out
      obtain ⟨b2, hb2⟩ : ∃ b2, b2 = w2.heap.size := ⟨_, rfl⟩
      rw [← hb2] at HM3 HK3 HB20 ⊢
      have HBE := Aside0.mk hb2
      generalize hlen : ys.length = n2 at *
      have HLEN := Aside0.mk hlen
      clear hlen hb2
      go_loopw [28] (fun i wr => ∃ (p : Nat) (m2 : ByteArray → Option Ds), p ≤ n2 ∧ i = .int .i64 p ∧ Aside0 (Below w.heap.size w wr) ∧ Aside0 (∀ k, k < b2 → wr.heap[k]? = w2.heap[k]?) ∧ Aside0 (IsM Try.prog 9 wr b2 (mapOf m2)) ∧ Aside0 (∀ k d, m2 k = some d → d.ok w) ∧ Aside0 (runF (fun _ => none) (sortF ys) = runF m2 ((sortF ys).drop p))) (fun i _ => n2 - (intOf i).toNat)
      case atStart => exact ⟨0, fun _ => none, Nat.zero_le _, rfl, HB3, HK3, HM3, ⟨fun k d h => by simp at h⟩, ⟨rfl⟩⟩
      case round =>
        obtain ⟨p, m2, hp, rfl, hB, hK, hM, hO, hV⟩ := hrel
        by_cases hlt : p < n2
        · have hd2 : decide (p < n2) = true := decide_eq_true hlt
          have hp' : p < (sortF ys).length := by rw [HSF.out.1]; exact hlt
          obtain ⟨g2, hA2, hcs⟩ := HRD.out b2 wr (by rw [HBE.out]; exact Nat.le_refl _) (fun k hk => hK.out k (by rw [HBE.out]; exact hk)) p hp'
          subst hA2
          have hdrop : (sortF ys).drop p = (sortF ys).getD p default :: (sortF ys).drop (p + 1) := by
            rw [List.drop_eq_getElem_cons hp']
            simp [hp']
          have hmem : (sortF ys).getD p default ∈ ys := HSF.out.2 _ (by simp [hp'])
          generalize (sortF ys).getD p default = x at *
          have HDO1 : Aside0 (∀ o, Calls Try.prog 12 #[.map (some b2), .agg (encF x).toArray] (wr.alloc o) fun e w' => e = .returned (.bool (doF m2 x).1) ∧ IsM Try.prog 9 w' b2 (mapOf (doF m2 x).2) ∧ (∀ k d, (doF m2 x).2 k = some d → d.ok w) ∧ Bq (wr.alloc o) w' b2) :=
            ⟨fun o => HDO.out m2 b2 x _ hmem (hB.out.alloc hB.out.size o) HB20.out (hM.out.step (Below.heap_alloc _ _ _ hM.out.lt)) hO.out⟩
          have HBA : Aside0 (∀ o, Below w.heap.size w (wr.alloc o)) := ⟨fun o => hB.out.alloc hB.out.size o⟩
          have HKA : Aside0 (∀ o k, k < b2 → (wr.alloc o).heap[k]? = w2.heap[k]?) := ⟨fun o k hk => (Below.heap_alloc _ _ _ (Nat.lt_trans hk hM.out.lt)).trans (hK.out k hk)⟩
          have HSZ : Aside0 (b2 < wr.heap.size) := ⟨hM.out.lt⟩
          obtain ⟨r, m3, hdo⟩ : ∃ r m3, doF m2 x = (r, m3) := ⟨_, _, rfl⟩
          have hdrop2 : ¬ (x.at_ < x.fr ∨ (0 < x.to_ ∧ x.to_ < x.at_)) → runF (fun _ => none) (sortF ys) = if r = true then runF m3 ((sortF ys).drop (p + 1)) else false := fun h => by rw [hV.out, hdrop, runF_step _ _ _ h, hdo]
          have hdrop3 : (x.at_ < x.fr ∨ (0 < x.to_ ∧ x.to_ < x.at_)) → runF (fun _ => none) (sortF ys) = false := fun h => by rw [hV.out, hdrop, runF, if_pos h]
          rw [hdo] at HDO1
          simp only at HDO1
          obtain ⟨task, op, key, fr, to_, ex, at_, y1, y2, y3, y4, y5, y6, y7, y8, y9, hE, u1, u2, u3, u4, hat, u5⟩ := encF_open x
          rw [← u3, ← u4, ← hat] at hdrop2 hdrop3
          clear u1 u2 u3 u4 hat u5
          have HD2 := Aside0.mk hdrop2
          have HD3 := Aside0.mk hdrop3
          clear hdrop2 hdrop3
          rw [hE] at HDO1 hcs
          have k0 := hcs 0 (by decide)
          have k1 := hcs 1 (by decide)
          have k2 := hcs 2 (by decide)
          have k3 := hcs 3 (by decide)
          have k4 := hcs 4 (by decide)
          have k5 := hcs 5 (by decide)
          have k6 := hcs 6 (by decide)
          have k7 := hcs 7 (by decide)
          have k8 := hcs 8 (by decide)
          have k9 := hcs 9 (by decide)
          simp only [Nat.add_zero] at k0 k1 k2 k3 k4 k5 k6 k7 k8 k9
          clear hE hcs hdo hdrop hmem hp'
          by_cases t1 : at_ < fr
          · have d1 : decide (at_ < fr) = true := decide_eq_true t1
            have HV := Aside0.mk (HD3.out (.inl t1))
            clear t1
            go_wp2
            go_ret
            exact ⟨by rw [hys, HV.out]; rfl, HBA.out _⟩
          · have d1 : decide (at_ < fr) = false := decide_eq_false t1
            by_cases t2 : 0 < to_ ∧ to_ < at_
            · have HV := Aside0.mk (HD3.out (.inr t2))
              have d2 : decide (0 < to_) = true := decide_eq_true t2.1
              have d3 : decide (to_ < at_) = true := decide_eq_true t2.2
              clear t1 t2
              go_wp2
              go_ret
              exact ⟨by rw [hys, HV.out]; rfl, HBA.out _⟩
            · have HV := Aside0.mk (HD2.out (fun h => by rcases h with h | h; exact t1 h; exact t2 h))
              by_cases t3 : 0 < to_
              · have d2 : decide (0 < to_) = true := decide_eq_true t3
                have d3 : decide (to_ < at_) = false := decide_eq_false (fun h => t2 ⟨t3, h⟩)
                clear t1 t2 t3
                cases r with
                | true =>
                  go_wp2_with (go_at_call 12; refine (HDO1.out _).mono ?_; rintro e w5 ⟨rfl, hM5, hO5, hq5⟩; have HM5 := Aside0.mk hM5; have HO5 := Aside0.mk hO5; have HQ5 := Aside0.mk hq5; clear hM5 hO5 hq5)
                  go_roundw
                  case rel => exact ⟨p + 1, m3, by omega, by go_num, ⟨HQ5.out.below (HBA.out _) HB20.out⟩, ⟨fun k hk => (HQ5.out.block k (by have := HSZ.out; rw [World.alloc]; simp; omega) (by omega)).trans (HKA.out _ k hk)⟩, HM5, HO5, ⟨by rw [HV.out]; rfl⟩⟩
                  case measure => simp [intOf]; omega
                | false =>
                  go_wp2_with (go_at_call 12; refine (HDO1.out _).mono ?_; rintro e w5 ⟨rfl, hM5, hO5, hq5⟩; have HM5 := Aside0.mk hM5; have HO5 := Aside0.mk hO5; have HQ5 := Aside0.mk hq5; clear hM5 hO5 hq5)
                  go_ret
                  exact ⟨by rw [hys, HV.out]; rfl, HQ5.out.below (HBA.out _) HB20.out⟩
              · have d2 : decide (0 < to_) = false := decide_eq_false t3
                clear t1 t2 t3
                cases r with
                | true =>
                  go_wp2_with (go_at_call 12; refine (HDO1.out _).mono ?_; rintro e w5 ⟨rfl, hM5, hO5, hq5⟩; have HM5 := Aside0.mk hM5; have HO5 := Aside0.mk hO5; have HQ5 := Aside0.mk hq5; clear hM5 hO5 hq5)
                  go_roundw
                  case rel => exact ⟨p + 1, m3, by omega, by go_num, ⟨HQ5.out.below (HBA.out _) HB20.out⟩, ⟨fun k hk => (HQ5.out.block k (by have := HSZ.out; rw [World.alloc]; simp; omega) (by omega)).trans (HKA.out _ k hk)⟩, HM5, HO5, ⟨by rw [HV.out]; rfl⟩⟩
                  case measure => simp [intOf]; omega
                | false =>
                  go_wp2_with (go_at_call 12; refine (HDO1.out _).mono ?_; rintro e w5 ⟨rfl, hM5, hO5, hq5⟩; have HM5 := Aside0.mk hM5; have HO5 := Aside0.mk hO5; have HQ5 := Aside0.mk hq5; clear hM5 hO5 hq5)
                  go_ret
                  exact ⟨by rw [hys, HV.out]; rfl, HQ5.out.below (HBA.out _) HB20.out⟩
        · obtain rfl : p = n2 := by omega
          have hd2 : decide (p < p) = false := decide_eq_false (Nat.lt_irrefl p)
          have HV2 : Aside0 (runF (fun _ => none) (sortF ys) = true) := ⟨by rw [hV.out, List.drop_eq_nil_of_le (by rw [HSF.out.1]; exact Nat.le_refl _)]; rfl⟩
          go_wp2
          go_ret
          exact ⟨by rw [hys, HV2.out]; rfl, hB.out⟩
end Go.Proofs.Ythocnaagpmkoeaa.Ln
