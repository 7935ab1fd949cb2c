/-
  No cell of these rows narrows 'for every input' (looked for: loops, veiled, ifaces, maps, wideKeys, modest, calm, conditions, laid).
  DERIVED. THE GIVEN ROWS OF THIS SEAT. 5 by the template 'for every input the law returns true; each argument reads behind the call as it read before'; 0 by the template 'total and deterministic' (their statements: YtphfaiagkgkiaaaTotals.lean).
  GIVEN WITH THE SEED: the statements are not yours to turn. If you find one false, say at which input.
  Laid BY PROGRAM, IN A SANDBOX (cutbox-rows.mjs): the forced cells as the released guide's own fill.sh prints them over the translation 56d7e886b83d49a5… (all of the seat's roots in one cut). By AI agents, Wed Nov 11 2026. No macro, syntax, notation, axiom, sorry.
-/
import Derived.Test.YtphfaiagkgkiaaaChecked
import GoSem.Claim
import GoSem.ClaimJoined
import GoSem.ClaimMapViews
import Derived.JoinedTies
import Derived.KernelRfl
namespace Go.Proofs.Ytphfaiagkgkiaaa
/- THE CELL 'sum', in the pinned program and in every row, IS THE sha256 OF THE DUMP (.gsa) THAT YtphfaiagkgkiaaaProg.lean LOADS. Nothing in Lean hashes anything: it is a label: what it is worth is what the hold of that sum in a sandbox is worth. -/
noncomputable def Try.pinned : Pinned := { name := "ytphfaiagkgkiaaa", sum := "56d7e886b83d49a50c84fd7f37555a2f90341b143daeecb6590b226f2b9700ad", checked := Try.checked }
namespace Rows
def none {H : Type} : Left H := { results := [], args := [] }

/-- 'flittinglaw13.EpochJoin': WHATEVER THE INPUT: true; the input reads as it did. -/
def epochJoinSpec : ChangeSpec := { name := "epochJoin", fn := fun _ => fun
  | [d] => { results := [.lit (.bool true)], args := [d] }
  | _ => none }
def epochJoinRow : OpenClaim := { program := "ytphfaiagkgkiaaa", sum := "56d7e886b83d49a50c84fd7f37555a2f90341b143daeecb6590b226f2b9700ad", func := "flitting/flittinglaw13.EpochJoin", spec := "epochJoin", apart := false }
def EpochJoinSaid : Prop := epochJoinRow.holds Try.pinned (OpenSpec.ofChange epochJoinSpec)

/-- ITS FALSE NEIGHBOUR: 'it returns false'. Refute it at one input. -/
def epochJoinWrong : ChangeSpec := { name := "epochJoin", fn := fun _ => fun
  | [d] => { results := [.lit (.bool false)], args := [d] }
  | _ => none }
def EpochJoinWrongFalsely : Prop := epochJoinRow.holds Try.pinned (OpenSpec.ofChange epochJoinWrong)

/-- 'flittinglaw13.EpochDrain': WHATEVER THE INPUT: true; the input reads as it did. -/
def epochDrainSpec : ChangeSpec := { name := "epochDrain", fn := fun _ => fun
  | [d1, d2, d3] => { results := [.lit (.bool true)], args := [d1, d2, d3] }
  | _ => none }
def epochDrainRow : OpenClaim := { program := "ytphfaiagkgkiaaa", sum := "56d7e886b83d49a50c84fd7f37555a2f90341b143daeecb6590b226f2b9700ad", func := "flitting/flittinglaw13.EpochDrain", spec := "epochDrain", apart := false }
def EpochDrainSaid : Prop := epochDrainRow.holds Try.pinned (OpenSpec.ofChange epochDrainSpec)

/-- ITS FALSE NEIGHBOUR: 'it returns false'. Refute it at one input. -/
def epochDrainWrong : ChangeSpec := { name := "epochDrain", fn := fun _ => fun
  | [d1, d2, d3] => { results := [.lit (.bool false)], args := [d1, d2, d3] }
  | _ => none }
def EpochDrainWrongFalsely : Prop := epochDrainRow.holds Try.pinned (OpenSpec.ofChange epochDrainWrong)

/-- 'flittinglaw13.EpochRemove': WHATEVER THE INPUT: true; the input reads as it did. -/
def epochRemoveSpec : ChangeSpec := { name := "epochRemove", fn := fun _ => fun
  | [d1, d2] => { results := [.lit (.bool true)], args := [d1, d2] }
  | _ => none }
def epochRemoveRow : OpenClaim := { program := "ytphfaiagkgkiaaa", sum := "56d7e886b83d49a50c84fd7f37555a2f90341b143daeecb6590b226f2b9700ad", func := "flitting/flittinglaw13.EpochRemove", spec := "epochRemove", apart := false }
def EpochRemoveSaid : Prop := epochRemoveRow.holds Try.pinned (OpenSpec.ofChange epochRemoveSpec)

/-- ITS FALSE NEIGHBOUR: 'it returns false'. Refute it at one input. -/
def epochRemoveWrong : ChangeSpec := { name := "epochRemove", fn := fun _ => fun
  | [d1, d2] => { results := [.lit (.bool false)], args := [d1, d2] }
  | _ => none }
def EpochRemoveWrongFalsely : Prop := epochRemoveRow.holds Try.pinned (OpenSpec.ofChange epochRemoveWrong)

/-- 'flittinglaw13.EpochWay': WHATEVER THE INPUT: true; the input reads as it did. -/
def epochWaySpec : ChangeSpec := { name := "epochWay", fn := fun _ => fun
  | [d] => { results := [.lit (.bool true)], args := [d] }
  | _ => none }
def epochWayRow : OpenClaim := { program := "ytphfaiagkgkiaaa", sum := "56d7e886b83d49a50c84fd7f37555a2f90341b143daeecb6590b226f2b9700ad", func := "flitting/flittinglaw13.EpochWay", spec := "epochWay", apart := false }
def EpochWaySaid : Prop := epochWayRow.holds Try.pinned (OpenSpec.ofChange epochWaySpec)

/-- ITS FALSE NEIGHBOUR: 'it returns false'. Refute it at one input. -/
def epochWayWrong : ChangeSpec := { name := "epochWay", fn := fun _ => fun
  | [d] => { results := [.lit (.bool false)], args := [d] }
  | _ => none }
def EpochWayWrongFalsely : Prop := epochWayRow.holds Try.pinned (OpenSpec.ofChange epochWayWrong)

/-- 'flittinglaw13.EpochNever': WHATEVER THE INPUT: true; the input reads as it did. -/
def epochNeverSpec : ChangeSpec := { name := "epochNever", fn := fun _ => fun
  | [d1, d2, d3] => { results := [.lit (.bool true)], args := [d1, d2, d3] }
  | _ => none }
def epochNeverRow : OpenClaim := { program := "ytphfaiagkgkiaaa", sum := "56d7e886b83d49a50c84fd7f37555a2f90341b143daeecb6590b226f2b9700ad", func := "flitting/flittinglaw13.EpochNever", spec := "epochNever", apart := false }
def EpochNeverSaid : Prop := epochNeverRow.holds Try.pinned (OpenSpec.ofChange epochNeverSpec)

/-- ITS FALSE NEIGHBOUR: 'it returns false'. Refute it at one input. -/
def epochNeverWrong : ChangeSpec := { name := "epochNever", fn := fun _ => fun
  | [d1, d2, d3] => { results := [.lit (.bool false)], args := [d1, d2, d3] }
  | _ => none }
def EpochNeverWrongFalsely : Prop := epochNeverRow.holds Try.pinned (OpenSpec.ofChange epochNeverWrong)

/- THE SECOND FORM. 'bulk': how many values and letters a reading holds, each counted each time it is reached (what is shared counts as often as it is met; a slice's spare places count too). A statement '..UptoSaid' is the law's where the arguments, and the package variables that the reading takes, are together of bulk at most 1048576: NARROWER than '..Said'. Prove '..Said' where nothing that the law and all that it calls make is longer than what came in: it says more and counts as full. Else prove '..UptoSaid'. A law counts once. -/
mutual
def uptoBulk {H : Type} : DataW H → Nat
  | .lit (.string bytes) => bytes.length + 1
  | .lit _ => 1
  | .nil => 1
  | .ptr d => uptoBulk d + 1
  | .slice elems spare => uptoBulkAll elems + uptoBulkAll spare + 1
  | .agg parts => uptoBulkAll parts + 1
  | .iface _ d => uptoBulk d + 1
  | .map entries => uptoBulkEntries entries + 1
  | .held _ => 1
def uptoBulkAll {H : Type} : List (DataW H) → Nat
  | [] => 0
  | d :: r => uptoBulk d + uptoBulkAll r
def uptoBulkEntries {H : Type} : List (Lit × DataW H) → Nat
  | [] => 0
  | x :: r => uptoBulkEntry x + uptoBulkEntries r
def uptoBulkEntry {H : Type} : Lit × DataW H → Nat
  | (.string bytes, d) => bytes.length + uptoBulk d + 1
  | (_, d) => uptoBulk d + 1
 end
def uptoSmall : (H : Type) → List (DataW H) → Bool := fun _ ds => decide (uptoBulkAll ds ≤ 1048576)
def OpenSpec.upto (s : _root_.Go.ChangeSpec) : _root_.Go.OpenSpec := { _root_.Go.OpenSpec.ofChange s with cond := some uptoSmall }

/-- 'flittinglaw13.EpochJoin', WHERE WHAT IT READS IS OF BULK AT MOST 1048576: true; the input reads as it did. -/
def epochJoinUptoRow : OpenClaim := { program := "ytphfaiagkgkiaaa", sum := "56d7e886b83d49a50c84fd7f37555a2f90341b143daeecb6590b226f2b9700ad", func := "flitting/flittinglaw13.EpochJoin", spec := "epochJoin", apart := false, narrowed := true }
def EpochJoinUptoSaid : Prop := epochJoinUptoRow.holds Try.pinned (OpenSpec.upto epochJoinSpec)

/-- 'flittinglaw13.EpochDrain', WHERE WHAT IT READS IS OF BULK AT MOST 1048576: true; the input reads as it did. -/
def epochDrainUptoRow : OpenClaim := { program := "ytphfaiagkgkiaaa", sum := "56d7e886b83d49a50c84fd7f37555a2f90341b143daeecb6590b226f2b9700ad", func := "flitting/flittinglaw13.EpochDrain", spec := "epochDrain", apart := false, narrowed := true }
def EpochDrainUptoSaid : Prop := epochDrainUptoRow.holds Try.pinned (OpenSpec.upto epochDrainSpec)

/-- 'flittinglaw13.EpochRemove', WHERE WHAT IT READS IS OF BULK AT MOST 1048576: true; the input reads as it did. -/
def epochRemoveUptoRow : OpenClaim := { program := "ytphfaiagkgkiaaa", sum := "56d7e886b83d49a50c84fd7f37555a2f90341b143daeecb6590b226f2b9700ad", func := "flitting/flittinglaw13.EpochRemove", spec := "epochRemove", apart := false, narrowed := true }
def EpochRemoveUptoSaid : Prop := epochRemoveUptoRow.holds Try.pinned (OpenSpec.upto epochRemoveSpec)

/-- 'flittinglaw13.EpochWay', WHERE WHAT IT READS IS OF BULK AT MOST 1048576: true; the input reads as it did. -/
def epochWayUptoRow : OpenClaim := { program := "ytphfaiagkgkiaaa", sum := "56d7e886b83d49a50c84fd7f37555a2f90341b143daeecb6590b226f2b9700ad", func := "flitting/flittinglaw13.EpochWay", spec := "epochWay", apart := false, narrowed := true }
def EpochWayUptoSaid : Prop := epochWayUptoRow.holds Try.pinned (OpenSpec.upto epochWaySpec)

/-- 'flittinglaw13.EpochNever', WHERE WHAT IT READS IS OF BULK AT MOST 1048576: true; the input reads as it did. -/
def epochNeverUptoRow : OpenClaim := { program := "ytphfaiagkgkiaaa", sum := "56d7e886b83d49a50c84fd7f37555a2f90341b143daeecb6590b226f2b9700ad", func := "flitting/flittinglaw13.EpochNever", spec := "epochNever", apart := false, narrowed := true }
def EpochNeverUptoSaid : Prop := epochNeverUptoRow.holds Try.pinned (OpenSpec.upto epochNeverSpec)

end Rows
end Go.Proofs.Ytphfaiagkgkiaaa
