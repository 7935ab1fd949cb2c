/-
  No cell of these rows narrows 'for every input' (looked for: loops, veiled, ifaces, maps, wideKeys, modest, calm, conditions, laid).
  DERIVED. THE GIVEN ROWS OF THIS SEAT. 5 by the template 'for every input the law returns true; each argument reads behind the call as it read before'; 0 by the template 'total and deterministic' (their statements: YtckehfbaaaladaaTotals.lean).
  GIVEN WITH THE SEED: the statements are not yours to turn. If you find one false, say at which input.
  Laid BY PROGRAM, IN A SANDBOX (cutbox-rows.mjs): the forced cells as the released guide's own fill.sh prints them over the translation 5db27d16e9afa35f… (all of the seat's roots in one cut). By AI agents, Wed Nov 11 2026. No macro, syntax, notation, axiom, sorry.
-/
import Derived.Test.YtckehfbaaaladaaChecked
import GoSem.Claim
import GoSem.ClaimJoined
import GoSem.ClaimMapViews
import Derived.JoinedTies
import Derived.KernelRfl
namespace Go.Proofs.Ytckehfbaaaladaa
/- THE CELL 'sum', in the pinned program and in every row, IS THE sha256 OF THE DUMP (.gsa) THAT YtckehfbaaaladaaProg.lean LOADS. Nothing in Lean hashes anything: it is a label: what it is worth is what the hold of that sum in a sandbox is worth. -/
noncomputable def Try.pinned : Pinned := { name := "ytckehfbaaaladaa", sum := "5db27d16e9afa35f84caab174d4c4cc7a013a967e45dc5bbe834bf03e1ff393f", checked := Try.checked }
namespace Rows
def none {H : Type} : Left H := { results := [], args := [] }

/-- 'flittinglaw02.MatTimes': WHATEVER THE INPUT: true; the input reads as it did. -/
def matTimesSpec : ChangeSpec := { name := "matTimes", fn := fun _ => fun
  | [d1, d2] => { results := [.lit (.bool true)], args := [d1, d2] }
  | _ => none }
def matTimesRow : OpenClaim := { program := "ytckehfbaaaladaa", sum := "5db27d16e9afa35f84caab174d4c4cc7a013a967e45dc5bbe834bf03e1ff393f", func := "flitting/flittinglaw02.MatTimes", spec := "matTimes", unfollowed := true, recurses := true, apart := false }
def MatTimesSaid : Prop := matTimesRow.holds Try.pinned (OpenSpec.ofChange matTimesSpec)

/-- ITS FALSE NEIGHBOUR: 'it returns false'. Refute it at one input. -/
def matTimesWrong : ChangeSpec := { name := "matTimes", fn := fun _ => fun
  | [d1, d2] => { results := [.lit (.bool false)], args := [d1, d2] }
  | _ => none }
def MatTimesWrongFalsely : Prop := matTimesRow.holds Try.pinned (OpenSpec.ofChange matTimesWrong)

/-- 'flittinglaw02.MatInvert': WHATEVER THE INPUT: true; the input reads as it did. -/
def matInvertSpec : ChangeSpec := { name := "matInvert", fn := fun _ => fun
  | [d] => { results := [.lit (.bool true)], args := [d] }
  | _ => none }
def matInvertRow : OpenClaim := { program := "ytckehfbaaaladaa", sum := "5db27d16e9afa35f84caab174d4c4cc7a013a967e45dc5bbe834bf03e1ff393f", func := "flitting/flittinglaw02.MatInvert", spec := "matInvert", unfollowed := true, recurses := true, apart := false }
def MatInvertSaid : Prop := matInvertRow.holds Try.pinned (OpenSpec.ofChange matInvertSpec)

/-- ITS FALSE NEIGHBOUR: 'it returns false'. Refute it at one input. -/
def matInvertWrong : ChangeSpec := { name := "matInvert", fn := fun _ => fun
  | [d] => { results := [.lit (.bool false)], args := [d] }
  | _ => none }
def MatInvertWrongFalsely : Prop := matInvertRow.holds Try.pinned (OpenSpec.ofChange matInvertWrong)

/-- 'flittinglaw02.MatCode': WHATEVER THE INPUT: true; the input reads as it did. -/
def matCodeSpec : ChangeSpec := { name := "matCode", fn := fun _ => fun
  | [d1, d2] => { results := [.lit (.bool true)], args := [d1, d2] }
  | _ => none }
def matCodeRow : OpenClaim := { program := "ytckehfbaaaladaa", sum := "5db27d16e9afa35f84caab174d4c4cc7a013a967e45dc5bbe834bf03e1ff393f", func := "flitting/flittinglaw02.MatCode", spec := "matCode", unfollowed := true, recurses := true, apart := false }
def MatCodeSaid : Prop := matCodeRow.holds Try.pinned (OpenSpec.ofChange matCodeSpec)

/-- ITS FALSE NEIGHBOUR: 'it returns false'. Refute it at one input. -/
def matCodeWrong : ChangeSpec := { name := "matCode", fn := fun _ => fun
  | [d1, d2] => { results := [.lit (.bool false)], args := [d1, d2] }
  | _ => none }
def MatCodeWrongFalsely : Prop := matCodeRow.holds Try.pinned (OpenSpec.ofChange matCodeWrong)

/-- 'flittinglaw02.MatAny': WHATEVER THE INPUT: true; the input reads as it did. -/
def matAnySpec : ChangeSpec := { name := "matAny", fn := fun _ => fun
  | [d1, d2, d3] => { results := [.lit (.bool true)], args := [d1, d2, d3] }
  | _ => none }
def matAnyRow : OpenClaim := { program := "ytckehfbaaaladaa", sum := "5db27d16e9afa35f84caab174d4c4cc7a013a967e45dc5bbe834bf03e1ff393f", func := "flitting/flittinglaw02.MatAny", spec := "matAny", unfollowed := true, recurses := true, apart := false }
def MatAnySaid : Prop := matAnyRow.holds Try.pinned (OpenSpec.ofChange matAnySpec)

/-- ITS FALSE NEIGHBOUR: 'it returns false'. Refute it at one input. -/
def matAnyWrong : ChangeSpec := { name := "matAny", fn := fun _ => fun
  | [d1, d2, d3] => { results := [.lit (.bool false)], args := [d1, d2, d3] }
  | _ => none }
def MatAnyWrongFalsely : Prop := matAnyRow.holds Try.pinned (OpenSpec.ofChange matAnyWrong)

/-- 'flittinglaw02.MatUnit': WHATEVER THE INPUT: true; the input reads as it did. -/
def matUnitSpec : ChangeSpec := { name := "matUnit", fn := fun _ => fun
  | [d1, d2, d3] => { results := [.lit (.bool true)], args := [d1, d2, d3] }
  | _ => none }
def matUnitRow : OpenClaim := { program := "ytckehfbaaaladaa", sum := "5db27d16e9afa35f84caab174d4c4cc7a013a967e45dc5bbe834bf03e1ff393f", func := "flitting/flittinglaw02.MatUnit", spec := "matUnit", unfollowed := true, recurses := true, apart := false }
def MatUnitSaid : Prop := matUnitRow.holds Try.pinned (OpenSpec.ofChange matUnitSpec)

/-- ITS FALSE NEIGHBOUR: 'it returns false'. Refute it at one input. -/
def matUnitWrong : ChangeSpec := { name := "matUnit", fn := fun _ => fun
  | [d1, d2, d3] => { results := [.lit (.bool false)], args := [d1, d2, d3] }
  | _ => none }
def MatUnitWrongFalsely : Prop := matUnitRow.holds Try.pinned (OpenSpec.ofChange matUnitWrong)

/- THE SECOND FORM. 'bulk': how many values and letters a reading holds, each counted each time it is reached (what is shared counts as often as it is met; a slice's spare places count too). A statement '..UptoSaid' is the law's where the arguments, and the package variables that the reading takes, are together of bulk at most 1048576: NARROWER than '..Said'. Prove '..Said' where nothing that the law and all that it calls make is longer than what came in: it says more and counts as full. Else prove '..UptoSaid'. A law counts once. -/
mutual
def uptoBulk {H : Type} : DataW H → Nat
  | .lit (.string bytes) => bytes.length + 1
  | .lit _ => 1
  | .nil => 1
  | .ptr d => uptoBulk d + 1
  | .slice elems spare => uptoBulkAll elems + uptoBulkAll spare + 1
  | .agg parts => uptoBulkAll parts + 1
  | .iface _ d => uptoBulk d + 1
  | .map entries => uptoBulkEntries entries + 1
  | .held _ => 1
def uptoBulkAll {H : Type} : List (DataW H) → Nat
  | [] => 0
  | d :: r => uptoBulk d + uptoBulkAll r
def uptoBulkEntries {H : Type} : List (Lit × DataW H) → Nat
  | [] => 0
  | x :: r => uptoBulkEntry x + uptoBulkEntries r
def uptoBulkEntry {H : Type} : Lit × DataW H → Nat
  | (.string bytes, d) => bytes.length + uptoBulk d + 1
  | (_, d) => uptoBulk d + 1
 end
def uptoSmall : (H : Type) → List (DataW H) → Bool := fun _ ds => decide (uptoBulkAll ds ≤ 1048576)
def OpenSpec.upto (s : _root_.Go.ChangeSpec) : _root_.Go.OpenSpec := { _root_.Go.OpenSpec.ofChange s with cond := some uptoSmall }

/-- 'flittinglaw02.MatTimes', WHERE WHAT IT READS IS OF BULK AT MOST 1048576: true; the input reads as it did. -/
def matTimesUptoRow : OpenClaim := { program := "ytckehfbaaaladaa", sum := "5db27d16e9afa35f84caab174d4c4cc7a013a967e45dc5bbe834bf03e1ff393f", func := "flitting/flittinglaw02.MatTimes", spec := "matTimes", unfollowed := true, recurses := true, apart := false, narrowed := true }
def MatTimesUptoSaid : Prop := matTimesUptoRow.holds Try.pinned (OpenSpec.upto matTimesSpec)

/-- 'flittinglaw02.MatInvert', WHERE WHAT IT READS IS OF BULK AT MOST 1048576: true; the input reads as it did. -/
def matInvertUptoRow : OpenClaim := { program := "ytckehfbaaaladaa", sum := "5db27d16e9afa35f84caab174d4c4cc7a013a967e45dc5bbe834bf03e1ff393f", func := "flitting/flittinglaw02.MatInvert", spec := "matInvert", unfollowed := true, recurses := true, apart := false, narrowed := true }
def MatInvertUptoSaid : Prop := matInvertUptoRow.holds Try.pinned (OpenSpec.upto matInvertSpec)

/-- 'flittinglaw02.MatCode', WHERE WHAT IT READS IS OF BULK AT MOST 1048576: true; the input reads as it did. -/
def matCodeUptoRow : OpenClaim := { program := "ytckehfbaaaladaa", sum := "5db27d16e9afa35f84caab174d4c4cc7a013a967e45dc5bbe834bf03e1ff393f", func := "flitting/flittinglaw02.MatCode", spec := "matCode", unfollowed := true, recurses := true, apart := false, narrowed := true }
def MatCodeUptoSaid : Prop := matCodeUptoRow.holds Try.pinned (OpenSpec.upto matCodeSpec)

/-- 'flittinglaw02.MatAny', WHERE WHAT IT READS IS OF BULK AT MOST 1048576: true; the input reads as it did. -/
def matAnyUptoRow : OpenClaim := { program := "ytckehfbaaaladaa", sum := "5db27d16e9afa35f84caab174d4c4cc7a013a967e45dc5bbe834bf03e1ff393f", func := "flitting/flittinglaw02.MatAny", spec := "matAny", unfollowed := true, recurses := true, apart := false, narrowed := true }
def MatAnyUptoSaid : Prop := matAnyUptoRow.holds Try.pinned (OpenSpec.upto matAnySpec)

/-- 'flittinglaw02.MatUnit', WHERE WHAT IT READS IS OF BULK AT MOST 1048576: true; the input reads as it did. -/
def matUnitUptoRow : OpenClaim := { program := "ytckehfbaaaladaa", sum := "5db27d16e9afa35f84caab174d4c4cc7a013a967e45dc5bbe834bf03e1ff393f", func := "flitting/flittinglaw02.MatUnit", spec := "matUnit", unfollowed := true, recurses := true, apart := false, narrowed := true }
def MatUnitUptoSaid : Prop := matUnitUptoRow.holds Try.pinned (OpenSpec.upto matUnitSpec)

end Rows
end Go.Proofs.Ytckehfbaaaladaa
