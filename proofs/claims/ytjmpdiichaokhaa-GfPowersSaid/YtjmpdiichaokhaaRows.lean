/-
  No cell of these rows narrows 'for every input' (looked for: loops, veiled, ifaces, maps, wideKeys, modest, calm, conditions, laid).
  DERIVED. THE GIVEN ROWS OF THIS SEAT. 5 by the template 'for every input the law returns true; each argument reads behind the call as it read before'; 0 by the template 'total and deterministic' (their statements: YtjmpdiichaokhaaTotals.lean).
  GIVEN WITH THE SEED: the statements are not yours to turn. If you find one false, say at which input.
  Laid BY PROGRAM, IN A SANDBOX (cutbox-rows.mjs): the forced cells as the released guide's own fill.sh prints them over the translation b6785c37cdac7c96… (all of the seat's roots in one cut). By AI agents, Wed Nov 11 2026. No macro, syntax, notation, axiom, sorry.
-/
import Derived.Test.YtjmpdiichaokhaaChecked
import GoSem.Claim
import GoSem.ClaimJoined
import GoSem.ClaimMapViews
import Derived.JoinedTies
import Derived.KernelRfl
namespace Go.Proofs.Ytjmpdiichaokhaa
/- THE CELL 'sum', in the pinned program and in every row, IS THE sha256 OF THE DUMP (.gsa) THAT YtjmpdiichaokhaaProg.lean LOADS. Nothing in Lean hashes anything: it is a label: what it is worth is what the hold of that sum in a sandbox is worth. -/
noncomputable def Try.pinned : Pinned := { name := "ytjmpdiichaokhaa", sum := "b6785c37cdac7c9645ebb0fd470b8b092b0be9e13eb9819286fd6b836c03a122", checked := Try.checked }
namespace Rows
def none {H : Type} : Left H := { results := [], args := [] }

/-- 'flittinglaw01.GfMul': WHATEVER THE INPUT: true; the input reads as it did. -/
def gfMulSpec : ChangeSpec := { name := "gfMul", fn := fun _ => fun
  | [d1, d2] => { results := [.lit (.bool true)], args := [d1, d2] }
  | _ => none }
def gfMulRow : OpenClaim := { program := "ytjmpdiichaokhaa", sum := "b6785c37cdac7c9645ebb0fd470b8b092b0be9e13eb9819286fd6b836c03a122", func := "flitting/flittinglaw01.GfMul", spec := "gfMul", apart := false }
def GfMulSaid : Prop := gfMulRow.holds Try.pinned (OpenSpec.ofChange gfMulSpec)

/-- ITS FALSE NEIGHBOUR: 'it returns false'. Refute it at one input. -/
def gfMulWrong : ChangeSpec := { name := "gfMul", fn := fun _ => fun
  | [d1, d2] => { results := [.lit (.bool false)], args := [d1, d2] }
  | _ => none }
def GfMulWrongFalsely : Prop := gfMulRow.holds Try.pinned (OpenSpec.ofChange gfMulWrong)

/-- 'flittinglaw01.GfLaws': WHATEVER THE INPUT: true; the input reads as it did. -/
def gfLawsSpec : ChangeSpec := { name := "gfLaws", fn := fun _ => fun
  | [d1, d2, d3] => { results := [.lit (.bool true)], args := [d1, d2, d3] }
  | _ => none }
def gfLawsRow : OpenClaim := { program := "ytjmpdiichaokhaa", sum := "b6785c37cdac7c9645ebb0fd470b8b092b0be9e13eb9819286fd6b836c03a122", func := "flitting/flittinglaw01.GfLaws", spec := "gfLaws", apart := false }
def GfLawsSaid : Prop := gfLawsRow.holds Try.pinned (OpenSpec.ofChange gfLawsSpec)

/-- ITS FALSE NEIGHBOUR: 'it returns false'. Refute it at one input. -/
def gfLawsWrong : ChangeSpec := { name := "gfLaws", fn := fun _ => fun
  | [d1, d2, d3] => { results := [.lit (.bool false)], args := [d1, d2, d3] }
  | _ => none }
def GfLawsWrongFalsely : Prop := gfLawsRow.holds Try.pinned (OpenSpec.ofChange gfLawsWrong)

/-- 'flittinglaw01.GfInv': WHATEVER THE INPUT: true; the input reads as it did. -/
def gfInvSpec : ChangeSpec := { name := "gfInv", fn := fun _ => fun
  | [d] => { results := [.lit (.bool true)], args := [d] }
  | _ => none }
def gfInvRow : OpenClaim := { program := "ytjmpdiichaokhaa", sum := "b6785c37cdac7c9645ebb0fd470b8b092b0be9e13eb9819286fd6b836c03a122", func := "flitting/flittinglaw01.GfInv", spec := "gfInv", apart := false }
def GfInvSaid : Prop := gfInvRow.holds Try.pinned (OpenSpec.ofChange gfInvSpec)

/-- ITS FALSE NEIGHBOUR: 'it returns false'. Refute it at one input. -/
def gfInvWrong : ChangeSpec := { name := "gfInv", fn := fun _ => fun
  | [d] => { results := [.lit (.bool false)], args := [d] }
  | _ => none }
def GfInvWrongFalsely : Prop := gfInvRow.holds Try.pinned (OpenSpec.ofChange gfInvWrong)

/-- 'flittinglaw01.GfPow': WHATEVER THE INPUT: true; the input reads as it did. -/
def gfPowSpec : ChangeSpec := { name := "gfPow", fn := fun _ => fun
  | [d1, d2] => { results := [.lit (.bool true)], args := [d1, d2] }
  | _ => none }
def gfPowRow : OpenClaim := { program := "ytjmpdiichaokhaa", sum := "b6785c37cdac7c9645ebb0fd470b8b092b0be9e13eb9819286fd6b836c03a122", func := "flitting/flittinglaw01.GfPow", spec := "gfPow", apart := false }
def GfPowSaid : Prop := gfPowRow.holds Try.pinned (OpenSpec.ofChange gfPowSpec)

/-- ITS FALSE NEIGHBOUR: 'it returns false'. Refute it at one input. -/
def gfPowWrong : ChangeSpec := { name := "gfPow", fn := fun _ => fun
  | [d1, d2] => { results := [.lit (.bool false)], args := [d1, d2] }
  | _ => none }
def GfPowWrongFalsely : Prop := gfPowRow.holds Try.pinned (OpenSpec.ofChange gfPowWrong)

/-- 'flittinglaw01.GfPowers': WHATEVER THE INPUT: true; the input reads as it did. -/
def gfPowersSpec : ChangeSpec := { name := "gfPowers", fn := fun _ => fun
  | [d] => { results := [.lit (.bool true)], args := [d] }
  | _ => none }
def gfPowersRow : OpenClaim := { program := "ytjmpdiichaokhaa", sum := "b6785c37cdac7c9645ebb0fd470b8b092b0be9e13eb9819286fd6b836c03a122", func := "flitting/flittinglaw01.GfPowers", spec := "gfPowers", apart := false }
def GfPowersSaid : Prop := gfPowersRow.holds Try.pinned (OpenSpec.ofChange gfPowersSpec)

/-- ITS FALSE NEIGHBOUR: 'it returns false'. Refute it at one input. -/
def gfPowersWrong : ChangeSpec := { name := "gfPowers", fn := fun _ => fun
  | [d] => { results := [.lit (.bool false)], args := [d] }
  | _ => none }
def GfPowersWrongFalsely : Prop := gfPowersRow.holds Try.pinned (OpenSpec.ofChange gfPowersWrong)

/- THE SECOND FORM. 'bulk': how many values and letters a reading holds, each counted each time it is reached (what is shared counts as often as it is met; a slice's spare places count too). A statement '..UptoSaid' is the law's where the arguments, and the package variables that the reading takes, are together of bulk at most 1048576: NARROWER than '..Said'. Prove '..Said' where nothing that the law and all that it calls make is longer than what came in: it says more and counts as full. Else prove '..UptoSaid'. A law counts once. -/
mutual
def uptoBulk {H : Type} : DataW H → Nat
  | .lit (.string bytes) => bytes.length + 1
  | .lit _ => 1
  | .nil => 1
  | .ptr d => uptoBulk d + 1
  | .slice elems spare => uptoBulkAll elems + uptoBulkAll spare + 1
  | .agg parts => uptoBulkAll parts + 1
  | .iface _ d => uptoBulk d + 1
  | .map entries => uptoBulkEntries entries + 1
  | .held _ => 1
def uptoBulkAll {H : Type} : List (DataW H) → Nat
  | [] => 0
  | d :: r => uptoBulk d + uptoBulkAll r
def uptoBulkEntries {H : Type} : List (Lit × DataW H) → Nat
  | [] => 0
  | x :: r => uptoBulkEntry x + uptoBulkEntries r
def uptoBulkEntry {H : Type} : Lit × DataW H → Nat
  | (.string bytes, d) => bytes.length + uptoBulk d + 1
  | (_, d) => uptoBulk d + 1
 end
def uptoSmall : (H : Type) → List (DataW H) → Bool := fun _ ds => decide (uptoBulkAll ds ≤ 1048576)
def OpenSpec.upto (s : _root_.Go.ChangeSpec) : _root_.Go.OpenSpec := { _root_.Go.OpenSpec.ofChange s with cond := some uptoSmall }

/-- 'flittinglaw01.GfMul', WHERE WHAT IT READS IS OF BULK AT MOST 1048576: true; the input reads as it did. -/
def gfMulUptoRow : OpenClaim := { program := "ytjmpdiichaokhaa", sum := "b6785c37cdac7c9645ebb0fd470b8b092b0be9e13eb9819286fd6b836c03a122", func := "flitting/flittinglaw01.GfMul", spec := "gfMul", apart := false, narrowed := true }
def GfMulUptoSaid : Prop := gfMulUptoRow.holds Try.pinned (OpenSpec.upto gfMulSpec)

/-- 'flittinglaw01.GfLaws', WHERE WHAT IT READS IS OF BULK AT MOST 1048576: true; the input reads as it did. -/
def gfLawsUptoRow : OpenClaim := { program := "ytjmpdiichaokhaa", sum := "b6785c37cdac7c9645ebb0fd470b8b092b0be9e13eb9819286fd6b836c03a122", func := "flitting/flittinglaw01.GfLaws", spec := "gfLaws", apart := false, narrowed := true }
def GfLawsUptoSaid : Prop := gfLawsUptoRow.holds Try.pinned (OpenSpec.upto gfLawsSpec)

/-- 'flittinglaw01.GfInv', WHERE WHAT IT READS IS OF BULK AT MOST 1048576: true; the input reads as it did. -/
def gfInvUptoRow : OpenClaim := { program := "ytjmpdiichaokhaa", sum := "b6785c37cdac7c9645ebb0fd470b8b092b0be9e13eb9819286fd6b836c03a122", func := "flitting/flittinglaw01.GfInv", spec := "gfInv", apart := false, narrowed := true }
def GfInvUptoSaid : Prop := gfInvUptoRow.holds Try.pinned (OpenSpec.upto gfInvSpec)

/-- 'flittinglaw01.GfPow', WHERE WHAT IT READS IS OF BULK AT MOST 1048576: true; the input reads as it did. -/
def gfPowUptoRow : OpenClaim := { program := "ytjmpdiichaokhaa", sum := "b6785c37cdac7c9645ebb0fd470b8b092b0be9e13eb9819286fd6b836c03a122", func := "flitting/flittinglaw01.GfPow", spec := "gfPow", apart := false, narrowed := true }
def GfPowUptoSaid : Prop := gfPowUptoRow.holds Try.pinned (OpenSpec.upto gfPowSpec)

/-- 'flittinglaw01.GfPowers', WHERE WHAT IT READS IS OF BULK AT MOST 1048576: true; the input reads as it did. -/
def gfPowersUptoRow : OpenClaim := { program := "ytjmpdiichaokhaa", sum := "b6785c37cdac7c9645ebb0fd470b8b092b0be9e13eb9819286fd6b836c03a122", func := "flitting/flittinglaw01.GfPowers", spec := "gfPowers", apart := false, narrowed := true }
def GfPowersUptoSaid : Prop := gfPowersUptoRow.holds Try.pinned (OpenSpec.upto gfPowersSpec)

end Rows
end Go.Proofs.Ytjmpdiichaokhaa
