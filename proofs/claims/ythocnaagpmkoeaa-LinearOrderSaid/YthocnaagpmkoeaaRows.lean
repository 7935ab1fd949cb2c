/-
  No cell of these rows narrows 'for every input' (looked for: loops, veiled, ifaces, maps, wideKeys, modest, calm, conditions, laid).
  DERIVED. THE GIVEN ROWS OF THIS SEAT. 3 by the template 'for every input the law returns true; each argument reads behind the call as it read before'; 0 by the template 'total and deterministic' (their statements: YthocnaagpmkoeaaTotals.lean).
  GIVEN WITH THE SEED: the statements are not yours to turn. If you find one false, say at which input.
  Laid BY PROGRAM, IN A SANDBOX (cutbox-rows.mjs): the forced cells as the released guide's own fill.sh prints them over the translation 68e2bfcf51ccb155… (all of the seat's roots in one cut). By AI agents, Wed Nov 11 2026. No macro, syntax, notation, axiom, sorry.
-/
import Derived.Test.YthocnaagpmkoeaaChecked
import GoSem.Claim
import GoSem.ClaimJoined
import GoSem.ClaimMapViews
import Derived.JoinedTies
import Derived.KernelRfl
namespace Go.Proofs.Ythocnaagpmkoeaa
/- THE CELL 'sum', in the pinned program and in every row, IS THE sha256 OF THE DUMP (.gsa) THAT YthocnaagpmkoeaaProg.lean LOADS. Nothing in Lean hashes anything: it is a label: what it is worth is what the hold of that sum in a sandbox is worth. -/
noncomputable def Try.pinned : Pinned := { name := "ythocnaagpmkoeaa", sum := "68e2bfcf51ccb155e553a4652b46b0df8241a930142ee52cc906c0224c9e9bf9", checked := Try.checked }
namespace Rows
def none {H : Type} : Left H := { results := [], args := [] }

/-- 'flittinglaw22.LinearOrder': WHATEVER THE INPUT: true; the input reads as it did. -/
def linearOrderSpec : ChangeSpec := { name := "linearOrder", fn := fun _ => fun
  | [d1, d2, d3] => { results := [.lit (.bool true)], args := [d1, d2, d3] }
  | _ => none }
def linearOrderRow : OpenClaim := { program := "ythocnaagpmkoeaa", sum := "68e2bfcf51ccb155e553a4652b46b0df8241a930142ee52cc906c0224c9e9bf9", func := "flitting/flittinglaw22.LinearOrder", spec := "linearOrder", unfollowed := true, recurses := true, apart := false }
def LinearOrderSaid : Prop := linearOrderRow.holds Try.pinned (OpenSpec.ofChange linearOrderSpec)

/-- ITS FALSE NEIGHBOUR: 'it returns false'. Refute it at one input. -/
def linearOrderWrong : ChangeSpec := { name := "linearOrder", fn := fun _ => fun
  | [d1, d2, d3] => { results := [.lit (.bool false)], args := [d1, d2, d3] }
  | _ => none }
def LinearOrderWrongFalsely : Prop := linearOrderRow.holds Try.pinned (OpenSpec.ofChange linearOrderWrong)

/-- 'flittinglaw22.LinearNone': WHATEVER THE INPUT: true; the input reads as it did. -/
def linearNoneSpec : ChangeSpec := { name := "linearNone", fn := fun _ => fun
  | [d] => { results := [.lit (.bool true)], args := [d] }
  | _ => none }
def linearNoneRow : OpenClaim := { program := "ythocnaagpmkoeaa", sum := "68e2bfcf51ccb155e553a4652b46b0df8241a930142ee52cc906c0224c9e9bf9", func := "flitting/flittinglaw22.LinearNone", spec := "linearNone", unfollowed := true, recurses := true, apart := false }
def LinearNoneSaid : Prop := linearNoneRow.holds Try.pinned (OpenSpec.ofChange linearNoneSpec)

/-- ITS FALSE NEIGHBOUR: 'it returns false'. Refute it at one input. -/
def linearNoneWrong : ChangeSpec := { name := "linearNone", fn := fun _ => fun
  | [d] => { results := [.lit (.bool false)], args := [d] }
  | _ => none }
def LinearNoneWrongFalsely : Prop := linearNoneRow.holds Try.pinned (OpenSpec.ofChange linearNoneWrong)

/-- 'flittinglaw22.LinearStale': WHATEVER THE INPUT: true; the input reads as it did. -/
def linearStaleSpec : ChangeSpec := { name := "linearStale", fn := fun _ => fun
  | [d1, d2, d3] => { results := [.lit (.bool true)], args := [d1, d2, d3] }
  | _ => none }
def linearStaleRow : OpenClaim := { program := "ythocnaagpmkoeaa", sum := "68e2bfcf51ccb155e553a4652b46b0df8241a930142ee52cc906c0224c9e9bf9", func := "flitting/flittinglaw22.LinearStale", spec := "linearStale", unfollowed := true, recurses := true, apart := false }
def LinearStaleSaid : Prop := linearStaleRow.holds Try.pinned (OpenSpec.ofChange linearStaleSpec)

/-- ITS FALSE NEIGHBOUR: 'it returns false'. Refute it at one input. -/
def linearStaleWrong : ChangeSpec := { name := "linearStale", fn := fun _ => fun
  | [d1, d2, d3] => { results := [.lit (.bool false)], args := [d1, d2, d3] }
  | _ => none }
def LinearStaleWrongFalsely : Prop := linearStaleRow.holds Try.pinned (OpenSpec.ofChange linearStaleWrong)

/- THE SECOND FORM. 'bulk': how many values and letters a reading holds, each counted each time it is reached (what is shared counts as often as it is met; a slice's spare places count too). A statement '..UptoSaid' is the law's where the arguments, and the package variables that the reading takes, are together of bulk at most 1048576: NARROWER than '..Said'. Prove '..Said' where nothing that the law and all that it calls make is longer than what came in: it says more and counts as full. Else prove '..UptoSaid'. A law counts once. -/
mutual
def uptoBulk {H : Type} : DataW H → Nat
  | .lit (.string bytes) => bytes.length + 1
  | .lit _ => 1
  | .nil => 1
  | .ptr d => uptoBulk d + 1
  | .slice elems spare => uptoBulkAll elems + uptoBulkAll spare + 1
  | .agg parts => uptoBulkAll parts + 1
  | .iface _ d => uptoBulk d + 1
  | .map entries => uptoBulkEntries entries + 1
  | .held _ => 1
def uptoBulkAll {H : Type} : List (DataW H) → Nat
  | [] => 0
  | d :: r => uptoBulk d + uptoBulkAll r
def uptoBulkEntries {H : Type} : List (Lit × DataW H) → Nat
  | [] => 0
  | x :: r => uptoBulkEntry x + uptoBulkEntries r
def uptoBulkEntry {H : Type} : Lit × DataW H → Nat
  | (.string bytes, d) => bytes.length + uptoBulk d + 1
  | (_, d) => uptoBulk d + 1
 end
def uptoSmall : (H : Type) → List (DataW H) → Bool := fun _ ds => decide (uptoBulkAll ds ≤ 1048576)
def OpenSpec.upto (s : _root_.Go.ChangeSpec) : _root_.Go.OpenSpec := { _root_.Go.OpenSpec.ofChange s with cond := some uptoSmall }

/-- 'flittinglaw22.LinearOrder', WHERE WHAT IT READS IS OF BULK AT MOST 1048576: true; the input reads as it did. -/
def linearOrderUptoRow : OpenClaim := { program := "ythocnaagpmkoeaa", sum := "68e2bfcf51ccb155e553a4652b46b0df8241a930142ee52cc906c0224c9e9bf9", func := "flitting/flittinglaw22.LinearOrder", spec := "linearOrder", unfollowed := true, recurses := true, apart := false, narrowed := true }
def LinearOrderUptoSaid : Prop := linearOrderUptoRow.holds Try.pinned (OpenSpec.upto linearOrderSpec)

/-- 'flittinglaw22.LinearNone', WHERE WHAT IT READS IS OF BULK AT MOST 1048576: true; the input reads as it did. -/
def linearNoneUptoRow : OpenClaim := { program := "ythocnaagpmkoeaa", sum := "68e2bfcf51ccb155e553a4652b46b0df8241a930142ee52cc906c0224c9e9bf9", func := "flitting/flittinglaw22.LinearNone", spec := "linearNone", unfollowed := true, recurses := true, apart := false, narrowed := true }
def LinearNoneUptoSaid : Prop := linearNoneUptoRow.holds Try.pinned (OpenSpec.upto linearNoneSpec)

/-- 'flittinglaw22.LinearStale', WHERE WHAT IT READS IS OF BULK AT MOST 1048576: true; the input reads as it did. -/
def linearStaleUptoRow : OpenClaim := { program := "ythocnaagpmkoeaa", sum := "68e2bfcf51ccb155e553a4652b46b0df8241a930142ee52cc906c0224c9e9bf9", func := "flitting/flittinglaw22.LinearStale", spec := "linearStale", unfollowed := true, recurses := true, apart := false, narrowed := true }
def LinearStaleUptoSaid : Prop := linearStaleUptoRow.holds Try.pinned (OpenSpec.upto linearStaleSpec)

end Rows
end Go.Proofs.Ythocnaagpmkoeaa
