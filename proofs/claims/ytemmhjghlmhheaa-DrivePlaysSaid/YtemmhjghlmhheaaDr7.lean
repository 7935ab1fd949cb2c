/- Drives: a drive of the call's own; what is small stays so; answers. -/
import Derived.Test.YtemmhjghlmhheaaProg
import Derived.Below
import Derived.Deep.Draws
import Derived.Deep.AppendLies
import Derived.Maps.AppendAt
import Derived.OwnWalk
import Derived.Laws.BytesArg
import Derived.Laws.MakeOwn
import Derived.Laws.OwnMore
import Derived.Deep.OwnRows
import Derived.Tactics
import Derived.Lib.ConvBytes
import Derived.Laws.Slices
import Derived.WalkKit
import Derived.KernelRfl
import Derived.RowKit3
import Derived.Deep.LoopGhost
import Derived.Deep.QuietTactic
import Derived.BigQuiet
import Derived.WideLaws
import Derived.Deep.DeepCutAuto
import Derived.Deep.CutBlock
import Derived.Deep.RegionHeld3
import Derived.Laws.Rows
import Derived.Lib.AppendStr
import Derived.ArgAppend
import Derived.Laws.IdiomCopy
import Derived.OrdersHeld
import Derived.Laws.BitsLemmas
import Derived.RowKit
import Derived.Test.YtemmhjghlmhheaaWWords
import Derived.Test.YtemmhjghlmhheaaWLast
import Derived.Test.YtemmhjghlmhheaaWTab
import Derived.Test.YtemmhjghlmhheaaWFour
import Derived.Test.YtemmhjghlmhheaaWQPut
import Derived.Test.YtemmhjghlmhheaaWApart
import Derived.Test.YtemmhjghlmhheaaWArr
import Derived.Test.YtemmhjghlmhheaaWZeros
import Derived.Test.YtemmhjghlmhheaaWFoot
import Derived.Test.YtemmhjghlmhheaaWKept
import Derived.Test.YtemmhjghlmhheaaWShare
import Derived.Test.YtemmhjghlmhheaaWN
import Derived.Test.YtemmhjghlmhheaaWFootNe
import Derived.Test.YtemmhjghlmhheaaWAt
import Derived.Test.YtemmhjghlmhheaaWEqStruct
import Derived.Test.YtemmhjghlmhheaaWRepsOne
import Derived.Test.YtemmhjghlmhheaaWInv
import Derived.Test.YtemmhjghlmhheaaWInvWords
import Derived.Test.YtemmhjghlmhheaaWGuard
import Derived.Test.YtemmhjghlmhheaaWNEv
import Derived.Test.YtemmhjghlmhheaaWMore
import Derived.Test.YtemmhjghlmhheaaDr6
namespace Go.Proofs.Ytemmhjghlmhheaa.Dr
open Go.RowKit Go.Proofs.YtemmhjghlmhheaaW.PrintWords Go.Proofs.YtemmhjghlmhheaaW.PrintLast Go.Proofs.YtemmhjghlmhheaaW.PrintMore
attribute [local go_sem] max2_int min2_int max_two min_two max_three min_three max_four min_four
set_option linter.unusedVariables false
set_option linter.unusedSimpArgs false
theorem V_string {P : Program} {w : World} {src dst e e' base : Nat} {ok : Nat → Prop} {v : Value} {xs : List Int} (hs : P.underlying src = some (.slice e)) (he : P.underlying e = some (.int .u8)) (hd : P.underlying dst = some .string)
    (h : Kd.V (Kd.int .u8) e' w base ok v xs) : (convert src dst v).run P w = .ok (.string (strOfNums xs)) w := by
  obtain ⟨A, c, rfl⟩ := Kd.V_slice h
  exact Kd.C_string hs he hd (Kd.V_reads' h).2.2
theorem write_nil (i : Int) (v : Value) (w : World) :
    Calls Try.prog 10 #[.pointer none, .int .i64 i, v] w fun e w' => e = .returned (.int .i64 1) ∧ w' = w := by
  go_enter Try.func10, Try.ntmps10
  go_wp2_with fail
  refine (check_nil i w).mono ?_
  rintro e w' ⟨rfl, rfl⟩
  go_wp2
  go_ret
  exact ⟨rfl, rfl⟩
theorem flush_nil (w : World) :
    Calls Try.prog 14 #[.pointer none] w fun e w' => e = .returned (.int .i64 1) ∧ w' = w := by
  go_enter Try.func14, Try.ntmps14
  go_wp2
  go_ret
  exact ⟨rfl, rfl⟩
theorem mem_set_of {α : Type} {l : List α} {i : Nat} {a b : α} (h : b ∈ l.set i a) : b ∈ l ∨ b = a := by
  induction l generalizing i with
  | nil => simp at h
  | cons x l ih =>
    cases i with
    | zero =>
      simp only [List.set_cons_zero, List.mem_cons] at h
      rcases h with h | h
      · exact .inr h
      · exact .inl (List.mem_cons_of_mem _ h)
    | succ i =>
      simp only [List.set_cons_succ, List.mem_cons] at h
      rcases h with h | h
      · exact .inl (by rw [h]; exact List.mem_cons_self)
      · rcases ih h with h | h
        · exact .inl (List.mem_cons_of_mem _ h)
        · exact .inr h
theorem runw_small (l : List (Int × List Int)) (hl : ∀ p, p ∈ l → p.2.length ≤ 64) : ∀ s : List (List Int), (∀ b, b ∈ s → b.length ≤ 64) → ∀ b, b ∈ runw s l → b.length ≤ 64 := by
  induction l with
  | nil => intro s hs; exact hs
  | cons p l ih =>
    intro s hs
    refine ih (fun q hq => hl q (List.mem_cons_of_mem _ hq)) (s.set p.1.toNat p.2) (fun b hb => ?_)
    rcases mem_set_of hb with h | h
    · exact hs b h
    · rw [h]; exact hl p List.mem_cons_self
theorem crashTo_small (keep : Int) (l : List (Int × List Int)) (hl : ∀ p, p ∈ l → p.2.length ≤ 64) (s : List (List Int)) (hs : ∀ b, b ∈ s → b.length ≤ 64) : ∀ k, ∀ b, b ∈ crashTo keep s l k → b.length ≤ 64
  | 0 => hs
  | k + 1 => fun b hb => by
    unfold crashTo at hb
    split at hb
    · rcases mem_set_of hb with h | h
      · exact crashTo_small keep l hl s hs k b h
      · rw [h, List.getD_eq_getElem?_getD]
        rcases Nat.lt_or_ge k l.length with hk | hk
        · rw [List.getElem?_eq_getElem hk]
          exact hl _ (List.getElem_mem hk)
        · rw [List.getElem?_eq_none hk]
          exact Nat.zero_le _
    · exact crashTo_small keep l hl s hs k b hb
theorem fit_new (n : Int) : (Dr.new n).Fit := by
  refine ⟨fun p hp => ?_, fun b hb => ?_, fun p hp => ?_⟩
  · exact absurd hp (by simp [Dr.new])
  · rw [List.eq_of_mem_replicate hb]; exact Nat.zero_le _
  · exact absurd hp (by simp [Dr.new])
theorem fit_write {d : Dr} (h : d.Fit) (i : Int) (lb : List Int) : (d.write i lb).Fit := by
  unfold Dr.write
  split
  · rename_i hc
    split
    · exact h
    · rename_i hl
      obtain ⟨_, j, rfl, hj⟩ := check_ok hc
      refine ⟨fun p hp => ?_, h.sl, fun p hp => ?_⟩
      · rcases List.mem_append.1 hp with hp | hp
        · exact h.fits p hp
        · rw [List.mem_singleton.1 hp]
          exact ⟨by omega, by simp only; omega⟩
      · rcases List.mem_append.1 hp with hp | hp
        · exact h.lo p hp
        · rw [List.mem_singleton.1 hp]
          simp only
          omega
  · exact h
theorem fit_flush {d : Dr} (h : d.Fit) : d.flush.Fit := by
  unfold Dr.flush
  split
  · exact h
  · exact ⟨fun p hp => absurd hp List.not_mem_nil, runw_small _ h.lo _ h.sl, fun p hp => absurd hp List.not_mem_nil⟩
theorem fit_crash {d : Dr} (h : d.Fit) (keep : Int) : (d.crash keep).Fit :=
  ⟨fun p hp => absurd hp List.not_mem_nil, crashTo_small keep _ h.lo _ h.sl _, fun p hp => absurd hp List.not_mem_nil⟩
theorem fit_lost : (⟨[], [], true⟩ : Dr).Fit := ⟨fun p hp => absurd hp List.not_mem_nil, fun p hp => absurd hp List.not_mem_nil, fun p hp => absurd hp List.not_mem_nil⟩
/-- A drive of the call's own (the call began at w). -/
structure Own (w W : World) (g : Nat) (d : Dr) : Prop where
  dp : Dp 55 58 W (fun k => w.heap.size ≤ k ∧ k ≠ g) g d
  hb : Below w.heap.size w W
  hg : w.heap.size ≤ g
theorem Own.below {w W W' : World} {g : Nat} {d : Dr} (h : Own w W g d) (hb : Below W.heap.size W W') : Own w W' g d := ⟨h.dp.below hb, h.hb.trans (hb.mono h.hb.size), h.hg⟩
theorem Own.drewN {w W : World} {g : Nat} {d : Dr} (h : Own w W g d) (n : Nat) : Own w (W.drewN n) g d := h.below (pw_below_drewN (Below.refl _ _) n)
theorem Own.new_ {w W : World} {g : Nat} {d : Dr} (h : Own w W g d) : ∀ k, W.heap.size ≤ k → w.heap.size ≤ k ∧ k ≠ g := fun k hk => ⟨Nat.le_trans h.hb.size hk, fun e => by have := h.dp.lt; omega⟩
theorem Own.next {w W W' : World} {g : Nat} {d d' : Dr} (h : Own w W g d) (hd : Dp 55 58 W' (fun k => w.heap.size ≤ k ∧ k ≠ g) g d') (hk : Kq W W' (fun k => w.heap.size ≤ k ∧ k ≠ g) g) : Own w W' g d' :=
  ⟨hd, hk.under h.hb h.hg (fun k hk => hk.1), h.hg⟩
theorem own_new (n : Int) (w W : World) (hb : Below w.heap.size w W) (hn0 : -9223372036854775808 ≤ n) (hn1 : n < 9223372036854775808) :
    Calls Try.prog 9 #[.int .i64 n] W fun e w' => ∃ g, e = .returned (.pointer (some ⟨g, 0, none⟩)) ∧ Own w w' g (Dr.new n) ∧ Below W.heap.size W w' ∧ W.heap.size ≤ g :=
  (new_calls n W hn0 hn1).mono fun e w' ⟨g, he, hd, hB, hg⟩ => ⟨g, he, ⟨hd.mono (fun k hk _ => ⟨Nat.le_trans hb.size hk.1, by omega⟩) (fun h => h.2 rfl), hb.trans (hB.mono hb.size), Nat.le_trans hb.size hg⟩, hB, hg⟩
theorem own_write {w W : World} {g : Nat} {d : Dr} (h : Own w W g d) (i : Int) (lb : List Int) (A : Option Addr) (n c : Nat) (hC : U8.C W A n lb) (hn : n < 17592186044416) (hl : d.loose.length < 1000000) :
    Calls Try.prog 10 #[.pointer (some ⟨g, 0, none⟩), .int .i64 i, .slice A n c] W fun e w' => e = .returned (.int .i64 (d.writeE i n)) ∧ Own w w' g (d.write i lb) ∧ Kq W w' (fun k => w.heap.size ≤ k ∧ k ≠ g) g :=
  (write_calls g d i lb A n c _ (fun k => k < W.heap.size) W h.dp (Kd.C_F (Kd.heap_int _) hC) h.new_ hn hl).mono fun e w' ⟨he, hd, hk⟩ => ⟨he, h.next hd hk, hk⟩
theorem own_flush {w W : World} {g : Nat} {d : Dr} (h : Own w W g d) (hf : d.Fit) :
    Calls Try.prog 14 #[.pointer (some ⟨g, 0, none⟩)] W fun e w' => e = .returned (.int .i64 d.flushE) ∧ Own w w' g d.flush ∧ Kq W w' (fun k => w.heap.size ≤ k ∧ k ≠ g) g :=
  (flush_calls g d _ W h.dp hf.fits h.new_).mono fun e w' ⟨he, hd, hk⟩ => ⟨he, h.next hd hk, hk⟩
theorem own_crash {w W : World} {g : Nat} {d : Dr} (h : Own w W g d) (hf : d.Fit) (keep : Int) (h0 : 0 ≤ keep) (h1 : keep < 18446744073709551616) :
    Calls Try.prog 12 #[.pointer (some ⟨g, 0, none⟩), .int .u64 keep] W fun e w' => e = .returned (.tuple #[]) ∧ Own w w' g (d.crash keep) ∧ Kq W w' (fun k => w.heap.size ≤ k ∧ k ≠ g) g :=
  (crash_calls g d keep _ W h.dp hf.fits h.new_ h0 h1).mono fun e w' ⟨he, hd, hk⟩ => ⟨he, h.next hd hk, hk⟩
theorem own_lose {w W : World} {g : Nat} {d : Dr} (h : Own w W g d) :
    Calls Try.prog 21 #[.pointer (some ⟨g, 0, none⟩)] W fun e w' => e = .returned (.tuple #[]) ∧ Own w w' g ⟨[], [], true⟩ ∧ Kq W w' (fun k => w.heap.size ≤ k ∧ k ≠ g) g :=
  (lose_calls g d _ W h.dp).mono fun e w' ⟨he, hd, hk⟩ => ⟨he, h.next hd hk, hk⟩
theorem a_C (W : World) (g : Nat) (fr : Nat × Nat) (h : W.heap[g]? = some (.cells #[.int .u8 97] 5 fr)) : U8.C W (some ⟨g, 0, none⟩) 1 [97] := by
  refine Kd.C_of_reads (d := (0 : Int)) ⟨rfl, by decide, fun _ => ⟨_, rfl, fun j hj => ?_⟩⟩
  obtain rfl : j = 0 := by omega
  rw [add_plain]
  simp [World.cell?, h]
theorem own_crash_keep {w W W' : World} {g : Nat} {d : Dr} {v : Value} {xs : List Int} (h : Own w W g d) (hb : Below W.heap.size W W') (hV : Vb W' (fun k => W.heap.size ≤ k ∧ k < W'.heap.size) v xs) (hf : d.Fit) (keep : Int) (h0 : 0 ≤ keep) (h1 : keep < 18446744073709551616) :
    Calls Try.prog 12 #[.pointer (some ⟨g, 0, none⟩), .int .u64 keep] W' fun e w' => e = .returned (.tuple #[]) ∧ Own w w' g (d.crash keep) ∧ Vb w' (fun _ => True) v xs := by
  have hlt := h.dp.lt
  have hs := hb.size
  have hd : Dp 55 58 W' (fun k => (w.heap.size ≤ k ∧ k ≠ g ∧ k < W.heap.size) ∨ W'.heap.size ≤ k) g d :=
    ((h.dp.mono (ok' := fun k => w.heap.size ≤ k ∧ k ≠ g ∧ k < W.heap.size) (fun k hk hl => ⟨hk.1, hk.2, hl⟩) (fun hk => hk.2.1 rfl)).below hb).mono (fun k hk _ => .inl hk) (fun hk => by rcases hk with hk | hk <;> omega)
  refine (crash_calls g d keep _ W' hd hf.fits (fun k hk => .inr hk) h0 h1).mono fun e w' ⟨he, hd', hk⟩ => ⟨he, ?_, ?_⟩
  · have hW := h.hb.size
    refine ⟨hd'.mono (fun k hk _ => ?_) (fun hk => hk.2 rfl), ?_, h.hg⟩
    · rcases hk with hk | hk
      · exact ⟨hk.1, hk.2.1⟩
      · exact ⟨by omega, by omega⟩
    · exact hk.under (h.hb.trans (hb.mono hW)) h.hg (fun k hk => by rcases hk with hk | hk <;> omega)
  · refine Kd.V_mono (Kd.V_step hV (fun k hk2 hl => hk.block k hl (fun hn => ?_) ?_)) (fun _ _ => trivial)
    · rcases hn with hn | hn <;> omega
    · rintro rfl; omega
set_option maxRecDepth 100000 in
set_option maxHeartbeats 2000000 in
theorem answers_calls (w0 : World) : Calls Try.prog 8 #[] w0 fun e w' => e = .returned (.bool true) ∧ Below w0.heap.size w0 w' := by
  have hstr : strOfNums [97] = ⟨#[97]⟩ := rfl
  go_enter Try.func8, Try.ntmps8
  go_wp2_with fail
  refine (own_new 2 w0 w0 (Below.refl _ _) (by decide) (by decide)).mono ?_
  rintro e w1 ⟨g, rfl, hD1, hb1, hg1⟩
  have hcv := Lib.run_convert_bytes_const (P := Try.prog) w1 22 5 #[.int .u8 97] 1 1 Try.underlying22 Try.underlying5
  have hB2 : Below w1.heap.size w1 (w1.alloc (.cells #[.int .u8 97] 5 (1, 2))) := (Below.refl _ w1).alloc (Nat.le_refl _) _
  have HD2 := Aside0.mk (hD1.below hB2)
  have HC2 : Aside0 (U8.C (w1.alloc (.cells #[.int .u8 97] 5 (1, 2))) (some ⟨w1.heap.size, 0, none⟩) 1 [97]) := ⟨a_C _ _ _ (heap_alloc_new w1 _)⟩
  have HA : Aside0 _ := ⟨own_write HD2.out 1 [97] _ 1 1 HC2.out (by decide) (by decide)⟩
  clear hD1 hb1 hg1 hB2
  go_wp2_with fail
  refine HA.out.mono ?_
  rintro e w2 ⟨rfl, hD3, hk3⟩
  have e0 : (Dr.new 2).writeE 1 1 = 0 := rfl
  have e1 : (Dr.new 2).write 1 [97] = ⟨[[], []], [(1, [97])], false⟩ := rfl
  rw [e1] at hD3
  rw [e0]
  have HD3 := Aside0.mk hD3
  have hfit : (⟨[[], []], [(1, [97])], false⟩ : Dr).Fit := e1 ▸ fit_write (fit_new 2) 1 [97]
  have HF := Aside0.mk hfit
  clear hD3 hk3 HA hcv e0 e1 hfit HC2 HD2
  go_wp2_with fail
  refine (read_ok g _ 1 _ w2 HD3.out.dp HF.out rfl (by decide)).mono ?_
  rintro e w3 ⟨v3, rfl, ho3, hb3⟩
  have hget : Dr.get ⟨[[], []], [(1, [97])], false⟩ 1 = [97] := rfl
  rw [hget] at ho3
  have HO3 : Aside0 (Vb w3 (fun k => w2.heap.size ≤ k ∧ k < w3.heap.size) v3 [97]) := ⟨Kd.R_V (Kd.R_mono (Kd.R_bound ho3) (fun k hk => ⟨hk.2.1, hk.2.2.1⟩))⟩
  have HA : Aside0 _ := ⟨own_crash_keep HD3.out hb3 HO3.out HF.out 0 (by decide) (by decide)⟩
  clear ho3 hb3 hget
  go_wp2_with fail
  refine HA.out.mono ?_
  rintro e w4 ⟨rfl, hD5, hV5⟩
  have e1 : Dr.crash ⟨[[], []], [(1, [97])], false⟩ 0 = ⟨[[], []], [], false⟩ := rfl
  rw [e1] at hD5
  have HD5 := Aside0.mk hD5
  have HV5 := Aside0.mk hV5
  have hfit : (⟨[[], []], [], false⟩ : Dr).Fit := e1 ▸ fit_crash HF.out 0
  have HF5 := Aside0.mk hfit
  clear hD5 hV5 e1 HA hfit
  go_wp2_with fail
  refine (read_ok g _ 1 _ w4 HD5.out.dp HF5.out rfl (by decide)).mono ?_
  rintro e w5 ⟨v5, rfl, ho5, hb5⟩
  have hget : Dr.get ⟨[[], []], [], false⟩ 1 = [] := rfl
  rw [hget] at ho5
  have HD6 := Aside0.mk (HD5.out.below hb5)
  have hs3 := V_string (P := Try.prog) Try.underlying22 Try.underlying5 Try.underlying9 (Kd.V_below HV5.out hb5)
  simp only [hstr] at hs3
  obtain ⟨A5, c5, rfl⟩ := Kd.R_slice ho5
  have HC : Aside0 _ := ⟨cap_calls g _ _ w5 HD6.out.dp⟩
  clear ho5 hb5 hget
  go_wp2_with fail
  refine HC.out.mono ?_
  rintro e w6 ⟨rfl, rfl⟩
  have e1 : Dr.cap ⟨[[], []], [], false⟩ = 2 := rfl
  rw [e1]
  clear e1
  go_wp2
  go_ret
  exact ⟨rfl, HD6.out.hb⟩
end Go.Proofs.Ytemmhjghlmhheaa.Dr
