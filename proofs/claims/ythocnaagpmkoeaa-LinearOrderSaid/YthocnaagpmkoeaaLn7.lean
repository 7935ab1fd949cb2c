/- Calls, one after the other: rows that are made, and the answers. -/
import Derived.Test.YthocnaagpmkoeaaProg
import Derived.Below
import Derived.Deep.Draws
import Derived.Deep.AppendLies
import Derived.Maps.AppendAt
import Derived.OwnWalk
import Derived.Laws.BytesArg
import Derived.Laws.MakeOwn
import Derived.Laws.OwnMore
import Derived.Deep.OwnRows
import Derived.Tactics
import Derived.Lib.ConvBytes
import Derived.Laws.Slices
import Derived.WalkKit
import Derived.KernelRfl
import Derived.RowKit3
import Derived.Deep.LoopGhost
import Derived.Deep.QuietTactic
import Derived.BigQuiet
import Derived.WideLaws
import Derived.Deep.DeepCutAuto
import Derived.Deep.CutBlock
import Derived.Deep.RegionHeld3
import Derived.Laws.Rows
import Derived.Lib.AppendStr
import Derived.ArgAppend
import Derived.Laws.IdiomCopy
import Derived.OrdersHeld
import Derived.Laws.BitsLemmas
import Derived.RowKit
import Derived.Test.YthocnaagpmkoeaaWWords
import Derived.Test.YthocnaagpmkoeaaWLast
import Derived.Test.YthocnaagpmkoeaaWTab
import Derived.Test.YthocnaagpmkoeaaWFour
import Derived.Test.YthocnaagpmkoeaaWQPut
import Derived.Test.YthocnaagpmkoeaaWApart
import Derived.Test.YthocnaagpmkoeaaWArr
import Derived.Test.YthocnaagpmkoeaaWZeros
import Derived.Test.YthocnaagpmkoeaaWFoot
import Derived.Test.YthocnaagpmkoeaaWKept
import Derived.Test.YthocnaagpmkoeaaWShare
import Derived.Test.YthocnaagpmkoeaaWN
import Derived.Test.YthocnaagpmkoeaaWFootNe
import Derived.Test.YthocnaagpmkoeaaWAt
import Derived.Test.YthocnaagpmkoeaaWEqStruct
import Derived.Test.YthocnaagpmkoeaaWRepsOne
import Derived.Test.YthocnaagpmkoeaaWInv
import Derived.Test.YthocnaagpmkoeaaWInvWords
import Derived.Test.YthocnaagpmkoeaaWGuard
import Derived.Test.YthocnaagpmkoeaaWNEv
import Derived.Test.YthocnaagpmkoeaaWMore
import Derived.Test.YthocnaagpmkoeaaLn6
namespace Go.Proofs.Ythocnaagpmkoeaa.Ln
open Go.RowKit Go.Proofs.YthocnaagpmkoeaaW.PrintWords Go.Proofs.YthocnaagpmkoeaaW.PrintLast Go.Proofs.YthocnaagpmkoeaaW.PrintMore
attribute [local go_sem] max2_int min2_int max_two min_two max_three min_three max_four min_four
set_option linter.unusedVariables false
set_option linter.unusedSimpArgs false
open Go.Proofs.Ythocnaagpmkoeaa.Mp
theorem cells_new (W : World) (cs : List Value) (T : TypeId) (j : Nat) (v : Value) (h : cs[j]? = some v) : (W.alloc (.cells cs.toArray T)).cell? ⟨W.heap.size, j, none⟩ = some v := by
  have hb := blk_new W (.cells cs.toArray T)
  simp only [World.cell?, hb]
  simpa using h
theorem rd_new (W : World) (xs : List Fc) : Rd (W.alloc (.cells (xs.flatMap encF).toArray 29)) (some ⟨W.heap.size, 0, none⟩) xs := fun q hq => by
  refine ⟨W.heap.size, rfl, fun j hj => cells_new W _ 29 _ _ ?_⟩
  rw [flatF xs (q * 10 + j) (by omega)]
  have e0 : (q * 10 + j) / 10 = q := by omega
  have e2 : (q * 10 + j) % 10 = j := by omega
  rw [e0, e2]
  simp [hq]
/-- Calls in a new row. -/
theorem check_new (W : World) (g : Nat) (hg : W.heap.size = g) (xs : List Fc) (cells : List Value) (hc : cells = xs.flatMap encF) (n : Nat) (hn : xs.length = n) (r : Bool) (hr : runF (fun _ => none) (sortF (filt xs)) = r) (h20 : n ≤ 20) (hok : ∀ x ∈ xs, x.ok W ∧ x.key.size ≤ 1000 ∧ (x.op = 1 ∨ x.op = 2)) :
    Calls Try.prog 7 #[.slice (some ⟨g, 0, none⟩) n n] (W.alloc (.cells cells.toArray 29)) fun e w' => e = .returned (.bool r) ∧ Below W.heap.size W w' := by
  subst hg hc hn hr
  have hb : Below W.heap.size W (W.alloc (.cells (xs.flatMap encF).toArray 29)) := (Below.refl _ _).alloc (Nat.le_refl _) _
  refine (check_calls _ xs.length xs _ (rd_new W xs) (by omega) (Nat.le_trans (List.length_filter_le _ _) h20) (fun x hx => ?_)).mono ?_
  · have h := hok x ((List.mem_filter.1 hx).1)
    exact ⟨h.1.below hb, h.2⟩
  · rintro e w' ⟨rfl, h⟩
    exact ⟨rfl, hb.trans (h.mono hb.size)⟩
theorem sort_eq (xs ys : List Fc) (hp : xs.Perm ys) (hs : ys.Pairwise (fun x y => x.at_ < y.at_)) : sortF xs = ys := by
  have h1 := (sortA_perm xs).trans hp
  have h2 := (Go.Sort.insertionSort_holds swoF xs.toArray 0 xs.length (Nat.zero_le _) (by simp)).2
  have h3 : (sortF xs).Pairwise (fun x y => x.at_ ≤ y.at_) := by
    rw [List.pairwise_iff_getElem]
    intro i j hi hj hij
    have hz := sortA_size xs
    have h4 := h2 i j (Nat.zero_le _) hij (by rw [← sortF_length xs]; exact hj)
    rw [ltA] at h4
    have e : ∀ k (hk : k < (sortF xs).length), (Go.Sort.insertionSort (Go.Proofs.ltOf atC) xs.toArray 0 xs.length)[k]! = (sortF xs)[k] := fun k hk => by
      have hk2 : k < (sortA xs).size := by rw [hz, ← sortF_length xs]; exact hk
      show (sortA xs)[k]! = _
      simp [sortF, hk2]
    rw [e i hi, e j hj] at h4
    have := of_decide_eq_false h4
    omega
  refine h1.eq_of_pairwise (le := fun x y => x.at_ ≤ y.at_) (fun a b ha hb h4 h5 => ?_) h3 (hs.imp (fun h => by omega))
  have hq : ∀ a ∈ ys, ∀ b ∈ ys, a.at_ = b.at_ → a = b := fun a ha b hb he => by
    obtain ⟨i, hi, rfl⟩ := List.getElem_of_mem ha
    obtain ⟨j, hj, rfl⟩ := List.getElem_of_mem hb
    rcases Nat.lt_trichotomy i j with h | h | h
    · have := List.pairwise_iff_getElem.1 hs i j hi hj h; omega
    · subst h; rfl
    · have := List.pairwise_iff_getElem.1 hs j i hj hi h; omega
  exact hq a (h1.mem_iff.1 ha) b hb (by omega)
/-- Blocks, one behind the other. -/
def allocs (w : World) (os : List Obj) : World := os.foldl World.alloc w
theorem allocs_below (w : World) : ∀ os, Below w.heap.size w (allocs w os) := fun os => by
  induction os generalizing w with
  | nil => exact Below.refl _ _
  | cons o os ih =>
    have h1 : Below w.heap.size w (w.alloc o) := (Below.refl _ _).alloc (Nat.le_refl _) _
    exact h1.trans ((ih (w.alloc o)).mono h1.size)
theorem allocs_at (w : World) : ∀ (os : List Obj) (i : Nat) (o : Obj), os[i]? = some o → (allocs w os).heap[w.heap.size + i]? = some o := fun os => by
  induction os generalizing w with
  | nil => intro i o h; simp at h
  | cons p os ih =>
    intro i o h
    cases i with
    | zero =>
      obtain rfl : p = o := by simpa using h
      have h2 := (allocs_below (w.alloc p) os).block w.heap.size (by simp)
      show (allocs (w.alloc p) os).heap[w.heap.size + 0]? = _
      rw [Nat.add_zero, h2]
      exact blk_new w p
    | succ i =>
      have h2 := ih (w.alloc p) i o (by simpa using h)
      rw [World.size_alloc] at h2
      show (allocs (w.alloc p) os).heap[w.heap.size + (i + 1)]? = _
      rw [← h2]
      congr 1
      omega
theorem conv_at (w : World) (C : Array Value) (n c g : Nat) (hg : g = w.heap.size) : (convert 22 22 (.slice (some ⟨g, 0, none⟩) n c)).run Try.prog (w.alloc (.cells C 5)) = .ok (.slice (some ⟨g, 0, none⟩) n c) (w.alloc (.cells C 5 (C.size, C.size + 1))) := by
  subst hg
  exact Lib.run_convert_bytes_const w 22 5 C n c Try.underlying22 Try.underlying5
def fA (g : Nat) : Fc := ⟨0, 1, ⟨#[107]⟩, ⟨some ⟨g, 0, none⟩, 1, [118]⟩, 1, 3, 2, 0, ⟨none, 0, []⟩, none, 0, 0⟩
def fB (g : Nat) : Fc := ⟨0, 2, ⟨#[107]⟩, ⟨none, 0, []⟩, 2, 5, 4, 0, ⟨some ⟨g, 0, none⟩, 1, [118]⟩, none, 0, 0⟩
def fC (g : Nat) : Fc := ⟨0, 2, ⟨#[107]⟩, ⟨none, 0, []⟩, 1, 5, 1, 0, ⟨some ⟨g, 0, none⟩, 1, [118]⟩, none, 0, 0⟩
theorem ds_nil (w : World) : Ds.ok w ⟨none, 0, []⟩ := ⟨Nat.le_refl _, Kd.C_nil _ _⟩
theorem ds_v {w : World} {g : Nat} {fr : Nat × Nat} (h : w.heap[g]? = some (.cells #[.int .u8 118] 5 fr)) : Ds.ok w ⟨some ⟨g, 0, none⟩, 1, [118]⟩ := ⟨Nat.le_refl _, by
  refine Kd.C_of_reads (d := (0 : Int)) ⟨rfl, by show (1 : Nat) ≤ _; decide, fun _ => ⟨_, rfl, fun j hj => ?_⟩⟩
  have : j = 0 := by simp at hj; omega
  subst this
  simp [Addr.add, World.cell?, h]⟩
theorem answer1 (g g2 : Nat) : runF (fun _ => none) (sortF (filt [fA g, fB g2])) = true := by
  rw [sort_eq _ [fA g, fB g2] (by simp [filt, fA, fB]) (by simp [fA, fB])]
  simp [runF, fA, fB, doF, getF, updK, sameB]
theorem answer2 (g g2 : Nat) : runF (fun _ => none) (sortF (filt [fA g, fC g2])) = false := by
  rw [sort_eq _ [fC g2, fA g] (by simp [filt, fA, fC]; exact List.Perm.swap _ _ _) (by simp [fA, fC])]
  simp [runF, fA, fC, doF, getF]
set_option maxHeartbeats 4000000 in
set_option maxRecDepth 100000 in
theorem answers_calls (w : World) : Calls Try.prog 6 #[] w fun e w' => e = .returned (.bool true) ∧ Below w.heap.size w w' := by
  have hcv1 := Lib.run_convert_bytes_const (P := Try.prog) w 22 5 #[.int .u8 118] 1 1 Try.underlying22 Try.underlying5
  have hcv2 := conv_at ((w.alloc (.cells #[.int .u8 118] 5 (1, 2))).alloc (.cells #[.int .i64 0, .int .i64 1, .string ⟨#[107]⟩, .slice (some ⟨w.heap.size, 0, none⟩) 1 1, .int .i64 1, .int .i64 3, .int .i64 2, .int .i64 0, .slice none 0 0, .slice none 0 0] 29)) #[.int .u8 118] 1 1 (w.heap.size + 1 + 1) (by simp)
  obtain ⟨W, hW⟩ : ∃ W, (((((w.alloc (.cells #[.int .u8 118] 5 (1, 2))).alloc (.cells #[.int .i64 0, .int .i64 1, .string ⟨#[107]⟩, .slice (some ⟨w.heap.size, 0, none⟩) 1 1, .int .i64 1, .int .i64 3, .int .i64 2, .int .i64 0, .slice none 0 0, .slice none 0 0] 29)).alloc (.cells #[.int .u8 118] 5 (1, 2))).alloc (.cells #[.int .i64 0, .int .i64 2, .string ⟨#[107]⟩, .slice none 0 0, .int .i64 2, .int .i64 5, .int .i64 4, .int .i64 0, .slice (some ⟨w.heap.size + 1 + 1, 0, none⟩) 1 1, .slice none 0 0] 29)).alloc (.cells #[.int .i64 0, .int .i64 2, .string ⟨#[107]⟩, .slice none 0 0, .int .i64 1, .int .i64 5, .int .i64 1, .int .i64 0, .slice (some ⟨w.heap.size + 1 + 1, 0, none⟩) 1 1, .slice none 0 0] 29)) = W := ⟨_, rfl⟩
  have hWA : W = allocs w [.cells #[.int .u8 118] 5 (1, 2), .cells #[.int .i64 0, .int .i64 1, .string ⟨#[107]⟩, .slice (some ⟨w.heap.size, 0, none⟩) 1 1, .int .i64 1, .int .i64 3, .int .i64 2, .int .i64 0, .slice none 0 0, .slice none 0 0] 29, .cells #[.int .u8 118] 5 (1, 2), .cells #[.int .i64 0, .int .i64 2, .string ⟨#[107]⟩, .slice none 0 0, .int .i64 2, .int .i64 5, .int .i64 4, .int .i64 0, .slice (some ⟨w.heap.size + 1 + 1, 0, none⟩) 1 1, .slice none 0 0] 29, .cells #[.int .i64 0, .int .i64 2, .string ⟨#[107]⟩, .slice none 0 0, .int .i64 1, .int .i64 5, .int .i64 1, .int .i64 0, .slice (some ⟨w.heap.size + 1 + 1, 0, none⟩) 1 1, .slice none 0 0] 29] := hW.symm
  have HBW : Aside0 (Below w.heap.size w W) := ⟨by rw [hWA]; exact allocs_below _ _⟩
  have b1 : W.heap[w.heap.size + 1]? = some (.cells #[.int .i64 0, .int .i64 1, .string ⟨#[107]⟩, .slice (some ⟨w.heap.size, 0, none⟩) 1 1, .int .i64 1, .int .i64 3, .int .i64 2, .int .i64 0, .slice none 0 0, .slice none 0 0] 29) := by rw [hWA]; exact allocs_at w _ 1 _ rfl
  have b3 : W.heap[w.heap.size + 1 + 1 + 1]? = some (.cells #[.int .i64 0, .int .i64 2, .string ⟨#[107]⟩, .slice none 0 0, .int .i64 2, .int .i64 5, .int .i64 4, .int .i64 0, .slice (some ⟨w.heap.size + 1 + 1, 0, none⟩) 1 1, .slice none 0 0] 29) := by rw [hWA]; exact allocs_at w _ 3 _ rfl
  have b4 : W.heap[w.heap.size + 1 + 1 + 1 + 1]? = some (.cells #[.int .i64 0, .int .i64 2, .string ⟨#[107]⟩, .slice none 0 0, .int .i64 1, .int .i64 5, .int .i64 1, .int .i64 0, .slice (some ⟨w.heap.size + 1 + 1, 0, none⟩) 1 1, .slice none 0 0] 29) := by rw [hWA]; exact allocs_at w _ 4 _ rfl
  have d0 : W.heap[w.heap.size]? = some (.cells #[.int .u8 118] 5 (1, 2)) := by rw [hWA]; exact allocs_at w _ 0 _ rfl
  have d2 : W.heap[w.heap.size + 1 + 1]? = some (.cells #[.int .u8 118] 5 (1, 2)) := by rw [hWA]; exact allocs_at w _ 2 _ rfl
  have HB1 := Aside0.mk b1
  have HB4 := Aside0.mk b4
  have HC1 : Aside0 (∀ W', Below W.heap.size W W' → Calls Try.prog 7 #[.slice (some ⟨W'.heap.size, 0, none⟩) 2 2] (W'.alloc (.cells #[.int .i64 0, .int .i64 1, .string ⟨#[107]⟩, .slice (some ⟨w.heap.size, 0, none⟩) 1 1, .int .i64 1, .int .i64 3, .int .i64 2, .int .i64 0, .slice none 0 0, .slice none 0 0, .int .i64 0, .int .i64 2, .string ⟨#[107]⟩, .slice none 0 0, .int .i64 2, .int .i64 5, .int .i64 4, .int .i64 0, .slice (some ⟨w.heap.size + 1 + 1, 0, none⟩) 1 1, .slice none 0 0] 29)) fun e w' => e = .returned (.bool true) ∧ Below W'.heap.size W' w') := ⟨fun W' hb =>
    check_new W' _ rfl [fA w.heap.size, fB (w.heap.size + 1 + 1)] _ rfl 2 rfl true (answer1 _ _) (by decide) (by
      intro x hx
      simp only [List.mem_cons, List.not_mem_nil, or_false] at hx
      rcases hx with rfl | rfl
      · exact ⟨⟨ds_v (blk_below d0 hb), ds_nil _⟩, by show (1 : Nat) ≤ 1000; decide, .inl rfl⟩
      · exact ⟨⟨ds_nil _, ds_v (blk_below d2 hb)⟩, by show (1 : Nat) ≤ 1000; decide, .inr rfl⟩)⟩
  have HC2 : Aside0 (∀ W', Below W.heap.size W W' → Calls Try.prog 7 #[.slice (some ⟨W'.heap.size, 0, none⟩) 2 2] (W'.alloc (.cells #[.int .i64 0, .int .i64 1, .string ⟨#[107]⟩, .slice (some ⟨w.heap.size, 0, none⟩) 1 1, .int .i64 1, .int .i64 3, .int .i64 2, .int .i64 0, .slice none 0 0, .slice none 0 0, .int .i64 0, .int .i64 2, .string ⟨#[107]⟩, .slice none 0 0, .int .i64 1, .int .i64 5, .int .i64 1, .int .i64 0, .slice (some ⟨w.heap.size + 1 + 1, 0, none⟩) 1 1, .slice none 0 0] 29)) fun e w' => e = .returned (.bool false) ∧ Below W'.heap.size W' w') := ⟨fun W' hb =>
    check_new W' _ rfl [fA w.heap.size, fC (w.heap.size + 1 + 1)] _ rfl 2 rfl false (answer2 _ _) (by decide) (by
      intro x hx
      simp only [List.mem_cons, List.not_mem_nil, or_false] at hx
      rcases hx with rfl | rfl
      · exact ⟨⟨ds_v (blk_below d0 hb), ds_nil _⟩, by show (1 : Nat) ≤ 1000; decide, .inl rfl⟩
      · exact ⟨⟨ds_nil _, ds_v (blk_below d2 hb)⟩, by show (1 : Nat) ≤ 1000; decide, .inr rfl⟩)⟩
  have ka0 : W.cell? ⟨w.heap.size + 1, 0, none⟩ = some (.int .i64 0) := (blk_cell b1 0).trans rfl
  have ka1 : W.cell? ⟨w.heap.size + 1, 1, none⟩ = some (.int .i64 1) := (blk_cell b1 1).trans rfl
  have ka2 : W.cell? ⟨w.heap.size + 1, 2, none⟩ = some (.string ⟨#[107]⟩) := (blk_cell b1 2).trans rfl
  have ka3 : W.cell? ⟨w.heap.size + 1, 3, none⟩ = some (.slice (some ⟨w.heap.size, 0, none⟩) 1 1) := (blk_cell b1 3).trans rfl
  have ka4 : W.cell? ⟨w.heap.size + 1, 4, none⟩ = some (.int .i64 1) := (blk_cell b1 4).trans rfl
  have ka5 : W.cell? ⟨w.heap.size + 1, 5, none⟩ = some (.int .i64 3) := (blk_cell b1 5).trans rfl
  have ka6 : W.cell? ⟨w.heap.size + 1, 6, none⟩ = some (.int .i64 2) := (blk_cell b1 6).trans rfl
  have ka7 : W.cell? ⟨w.heap.size + 1, 7, none⟩ = some (.int .i64 0) := (blk_cell b1 7).trans rfl
  have ka8 : W.cell? ⟨w.heap.size + 1, 8, none⟩ = some (.slice none 0 0) := (blk_cell b1 8).trans rfl
  have ka9 : W.cell? ⟨w.heap.size + 1, 9, none⟩ = some (.slice none 0 0) := (blk_cell b1 9).trans rfl
  have kb0 : W.cell? ⟨w.heap.size + 1 + 1 + 1, 0, none⟩ = some (.int .i64 0) := (blk_cell b3 0).trans rfl
  have kb1 : W.cell? ⟨w.heap.size + 1 + 1 + 1, 1, none⟩ = some (.int .i64 2) := (blk_cell b3 1).trans rfl
  have kb2 : W.cell? ⟨w.heap.size + 1 + 1 + 1, 2, none⟩ = some (.string ⟨#[107]⟩) := (blk_cell b3 2).trans rfl
  have kb3 : W.cell? ⟨w.heap.size + 1 + 1 + 1, 3, none⟩ = some (.slice none 0 0) := (blk_cell b3 3).trans rfl
  have kb4 : W.cell? ⟨w.heap.size + 1 + 1 + 1, 4, none⟩ = some (.int .i64 2) := (blk_cell b3 4).trans rfl
  have kb5 : W.cell? ⟨w.heap.size + 1 + 1 + 1, 5, none⟩ = some (.int .i64 5) := (blk_cell b3 5).trans rfl
  have kb6 : W.cell? ⟨w.heap.size + 1 + 1 + 1, 6, none⟩ = some (.int .i64 4) := (blk_cell b3 6).trans rfl
  have kb7 : W.cell? ⟨w.heap.size + 1 + 1 + 1, 7, none⟩ = some (.int .i64 0) := (blk_cell b3 7).trans rfl
  have kb8 : W.cell? ⟨w.heap.size + 1 + 1 + 1, 8, none⟩ = some (.slice (some ⟨w.heap.size + 1 + 1, 0, none⟩) 1 1) := (blk_cell b3 8).trans rfl
  have kb9 : W.cell? ⟨w.heap.size + 1 + 1 + 1, 9, none⟩ = some (.slice none 0 0) := (blk_cell b3 9).trans rfl
  clear hWA d0 d2 b1 b3 b4
  go_enter Try.func6, Try.ntmps6
  go_upto_region 5 with fail
  try rw [hW]
  clear hW hcv1 hcv2
  generalize w.heap.size + 1 + 1 + 1 + 1 = p4 at *
  generalize w.heap.size + 1 + 1 + 1 = p3 at *
  generalize w.heap.size + 1 + 1 = p2 at *
  generalize w.heap.size + 1 = p1 at *
  generalize hp0 : w.heap.size = p0 at HC1 HC2 HB1 HB4 ka0 ka1 ka2 ka3 ka4 ka5 ka6 ka7 ka8 ka9 ⊢
  clear hp0
  go_wp2_with fail
  refine (HC1.out _ (Below.refl _ _)).mono ?_
  rintro e w6 ⟨rfl, hb6⟩
  have HB6 := Aside0.mk hb6
  have la0 : w6.cell? ⟨p1, 0, none⟩ = some (.int .i64 0) := (blk_cell (blk_below HB1.out hb6) 0).trans rfl
  have la1 : w6.cell? ⟨p1, 1, none⟩ = some (.int .i64 1) := (blk_cell (blk_below HB1.out hb6) 1).trans rfl
  have la2 : w6.cell? ⟨p1, 2, none⟩ = some (.string ⟨#[107]⟩) := (blk_cell (blk_below HB1.out hb6) 2).trans rfl
  have la3 : w6.cell? ⟨p1, 3, none⟩ = some (.slice (some ⟨p0, 0, none⟩) 1 1) := (blk_cell (blk_below HB1.out hb6) 3).trans rfl
  have la4 : w6.cell? ⟨p1, 4, none⟩ = some (.int .i64 1) := (blk_cell (blk_below HB1.out hb6) 4).trans rfl
  have la5 : w6.cell? ⟨p1, 5, none⟩ = some (.int .i64 3) := (blk_cell (blk_below HB1.out hb6) 5).trans rfl
  have la6 : w6.cell? ⟨p1, 6, none⟩ = some (.int .i64 2) := (blk_cell (blk_below HB1.out hb6) 6).trans rfl
  have la7 : w6.cell? ⟨p1, 7, none⟩ = some (.int .i64 0) := (blk_cell (blk_below HB1.out hb6) 7).trans rfl
  have la8 : w6.cell? ⟨p1, 8, none⟩ = some (.slice none 0 0) := (blk_cell (blk_below HB1.out hb6) 8).trans rfl
  have la9 : w6.cell? ⟨p1, 9, none⟩ = some (.slice none 0 0) := (blk_cell (blk_below HB1.out hb6) 9).trans rfl
  have lc0 : w6.cell? ⟨p4, 0, none⟩ = some (.int .i64 0) := (blk_cell (blk_below HB4.out hb6) 0).trans rfl
  have lc1 : w6.cell? ⟨p4, 1, none⟩ = some (.int .i64 2) := (blk_cell (blk_below HB4.out hb6) 1).trans rfl
  have lc2 : w6.cell? ⟨p4, 2, none⟩ = some (.string ⟨#[107]⟩) := (blk_cell (blk_below HB4.out hb6) 2).trans rfl
  have lc3 : w6.cell? ⟨p4, 3, none⟩ = some (.slice none 0 0) := (blk_cell (blk_below HB4.out hb6) 3).trans rfl
  have lc4 : w6.cell? ⟨p4, 4, none⟩ = some (.int .i64 1) := (blk_cell (blk_below HB4.out hb6) 4).trans rfl
  have lc5 : w6.cell? ⟨p4, 5, none⟩ = some (.int .i64 5) := (blk_cell (blk_below HB4.out hb6) 5).trans rfl
  have lc6 : w6.cell? ⟨p4, 6, none⟩ = some (.int .i64 1) := (blk_cell (blk_below HB4.out hb6) 6).trans rfl
  have lc7 : w6.cell? ⟨p4, 7, none⟩ = some (.int .i64 0) := (blk_cell (blk_below HB4.out hb6) 7).trans rfl
  have lc8 : w6.cell? ⟨p4, 8, none⟩ = some (.slice (some ⟨p2, 0, none⟩) 1 1) := (blk_cell (blk_below HB4.out hb6) 8).trans rfl
  have lc9 : w6.cell? ⟨p4, 9, none⟩ = some (.slice none 0 0) := (blk_cell (blk_below HB4.out hb6) 9).trans rfl
  clear hb6
  go_wp2_with fail
  refine (HC2.out _ HB6.out).mono ?_
  rintro e w7 ⟨rfl, hb7⟩
  go_wp2_with fail
  go_ret
  exact ⟨rfl, HBW.out.trans ((HB6.out.mono HBW.out.size).trans (hb7.mono (Nat.le_trans HBW.out.size HB6.out.size)))⟩
end Go.Proofs.Ythocnaagpmkoeaa.Ln
