/-
  No cell of these rows narrows 'for every input' (looked for: loops, veiled, ifaces, maps, wideKeys, modest, calm, conditions, laid).
  DERIVED. THE GIVEN ROWS OF THIS SEAT. 5 by the template 'for every input the law returns true; each argument reads behind the call as it read before'; 0 by the template 'total and deterministic' (their statements: YtpncaggdngijnaaTotals.lean).
  GIVEN WITH THE SEED: the statements are not yours to turn. If you find one false, say at which input.
  Laid BY PROGRAM, IN A SANDBOX (cutbox-rows.mjs): the forced cells as the released guide's own fill.sh prints them over the translation 76022ebada9ace07… (all of the seat's roots in one cut). By AI agents, Wed Nov 11 2026. No macro, syntax, notation, axiom, sorry.
-/
import Derived.Test.YtpncaggdngijnaaChecked
import GoSem.Claim
import GoSem.ClaimJoined
import GoSem.ClaimMapViews
import Derived.JoinedTies
import Derived.KernelRfl
namespace Go.Proofs.Ytpncaggdngijnaa
/- THE CELL 'sum', in the pinned program and in every row, IS THE sha256 OF THE DUMP (.gsa) THAT YtpncaggdngijnaaProg.lean LOADS. Nothing in Lean hashes anything: it is a label: what it is worth is what the hold of that sum in a sandbox is worth. -/
noncomputable def Try.pinned : Pinned := { name := "ytpncaggdngijnaa", sum := "76022ebada9ace07972b739073d78201f6e7ed46d43471365ec68cee541e90ba", checked := Try.checked }
namespace Rows
def none {H : Type} : Left H := { results := [], args := [] }

/-- 'flittinglaw16.StripeCount': WHATEVER THE INPUT: true; the input reads as it did. -/
def stripeCountSpec : ChangeSpec := { name := "stripeCount", fn := fun _ => fun
  | [d1, d2] => { results := [.lit (.bool true)], args := [d1, d2] }
  | _ => none }
def stripeCountRow : OpenClaim := { program := "ytpncaggdngijnaa", sum := "76022ebada9ace07972b739073d78201f6e7ed46d43471365ec68cee541e90ba", func := "flitting/flittinglaw16.StripeCount", spec := "stripeCount", inPlace := ["internal/bytealg.MakeNoZero"], unfollowed := true, recurses := true, apart := false }
def StripeCountSaid : Prop := stripeCountRow.holds Try.pinned (OpenSpec.ofChange stripeCountSpec)

/-- ITS FALSE NEIGHBOUR: 'it returns false'. Refute it at one input. -/
def stripeCountWrong : ChangeSpec := { name := "stripeCount", fn := fun _ => fun
  | [d1, d2] => { results := [.lit (.bool false)], args := [d1, d2] }
  | _ => none }
def StripeCountWrongFalsely : Prop := stripeCountRow.holds Try.pinned (OpenSpec.ofChange stripeCountWrong)

/-- 'flittinglaw16.StripeBack': WHATEVER THE INPUT: true; the input reads as it did. -/
def stripeBackSpec : ChangeSpec := { name := "stripeBack", fn := fun _ => fun
  | [d1, d2] => { results := [.lit (.bool true)], args := [d1, d2] }
  | _ => none }
def stripeBackRow : OpenClaim := { program := "ytpncaggdngijnaa", sum := "76022ebada9ace07972b739073d78201f6e7ed46d43471365ec68cee541e90ba", func := "flitting/flittinglaw16.StripeBack", spec := "stripeBack", inPlace := ["internal/bytealg.MakeNoZero"], unfollowed := true, recurses := true, apart := false }
def StripeBackSaid : Prop := stripeBackRow.holds Try.pinned (OpenSpec.ofChange stripeBackSpec)

/-- ITS FALSE NEIGHBOUR: 'it returns false'. Refute it at one input. -/
def stripeBackWrong : ChangeSpec := { name := "stripeBack", fn := fun _ => fun
  | [d1, d2] => { results := [.lit (.bool false)], args := [d1, d2] }
  | _ => none }
def StripeBackWrongFalsely : Prop := stripeBackRow.holds Try.pinned (OpenSpec.ofChange stripeBackWrong)

/-- 'flittinglaw16.StripeJoin': WHATEVER THE INPUT: true; the input reads as it did. -/
def stripeJoinSpec : ChangeSpec := { name := "stripeJoin", fn := fun _ => fun
  | [d1, d2] => { results := [.lit (.bool true)], args := [d1, d2] }
  | _ => none }
def stripeJoinRow : OpenClaim := { program := "ytpncaggdngijnaa", sum := "76022ebada9ace07972b739073d78201f6e7ed46d43471365ec68cee541e90ba", func := "flitting/flittinglaw16.StripeJoin", spec := "stripeJoin", inPlace := ["internal/bytealg.MakeNoZero"], unfollowed := true, recurses := true, apart := false }
def StripeJoinSaid : Prop := stripeJoinRow.holds Try.pinned (OpenSpec.ofChange stripeJoinSpec)

/-- ITS FALSE NEIGHBOUR: 'it returns false'. Refute it at one input. -/
def stripeJoinWrong : ChangeSpec := { name := "stripeJoin", fn := fun _ => fun
  | [d1, d2] => { results := [.lit (.bool false)], args := [d1, d2] }
  | _ => none }
def StripeJoinWrongFalsely : Prop := stripeJoinRow.holds Try.pinned (OpenSpec.ofChange stripeJoinWrong)

/-- 'flittinglaw16.StripeNone': WHATEVER THE INPUT: true; the input reads as it did. -/
def stripeNoneSpec : ChangeSpec := { name := "stripeNone", fn := fun _ => fun
  | [d1, d2] => { results := [.lit (.bool true)], args := [d1, d2] }
  | _ => none }
def stripeNoneRow : OpenClaim := { program := "ytpncaggdngijnaa", sum := "76022ebada9ace07972b739073d78201f6e7ed46d43471365ec68cee541e90ba", func := "flitting/flittinglaw16.StripeNone", spec := "stripeNone", inPlace := ["internal/bytealg.MakeNoZero"], unfollowed := true, recurses := true, apart := false }
def StripeNoneSaid : Prop := stripeNoneRow.holds Try.pinned (OpenSpec.ofChange stripeNoneSpec)

/-- ITS FALSE NEIGHBOUR: 'it returns false'. Refute it at one input. -/
def stripeNoneWrong : ChangeSpec := { name := "stripeNone", fn := fun _ => fun
  | [d1, d2] => { results := [.lit (.bool false)], args := [d1, d2] }
  | _ => none }
def StripeNoneWrongFalsely : Prop := stripeNoneRow.holds Try.pinned (OpenSpec.ofChange stripeNoneWrong)

/-- 'flittinglaw16.StripeFew': WHATEVER THE INPUT: true; the input reads as it did. -/
def stripeFewSpec : ChangeSpec := { name := "stripeFew", fn := fun _ => fun
  | [d1, d2] => { results := [.lit (.bool true)], args := [d1, d2] }
  | _ => none }
def stripeFewRow : OpenClaim := { program := "ytpncaggdngijnaa", sum := "76022ebada9ace07972b739073d78201f6e7ed46d43471365ec68cee541e90ba", func := "flitting/flittinglaw16.StripeFew", spec := "stripeFew", inPlace := ["internal/bytealg.MakeNoZero"], unfollowed := true, recurses := true, apart := false }
def StripeFewSaid : Prop := stripeFewRow.holds Try.pinned (OpenSpec.ofChange stripeFewSpec)

/-- ITS FALSE NEIGHBOUR: 'it returns false'. Refute it at one input. -/
def stripeFewWrong : ChangeSpec := { name := "stripeFew", fn := fun _ => fun
  | [d1, d2] => { results := [.lit (.bool false)], args := [d1, d2] }
  | _ => none }
def StripeFewWrongFalsely : Prop := stripeFewRow.holds Try.pinned (OpenSpec.ofChange stripeFewWrong)

/- THE SECOND FORM. 'bulk': how many values and letters a reading holds, each counted each time it is reached (what is shared counts as often as it is met; a slice's spare places count too). A statement '..UptoSaid' is the law's where the arguments, and the package variables that the reading takes, are together of bulk at most 1048576: NARROWER than '..Said'. Prove '..Said' where nothing that the law and all that it calls make is longer than what came in: it says more and counts as full. Else prove '..UptoSaid'. A law counts once. -/
mutual
def uptoBulk {H : Type} : DataW H → Nat
  | .lit (.string bytes) => bytes.length + 1
  | .lit _ => 1
  | .nil => 1
  | .ptr d => uptoBulk d + 1
  | .slice elems spare => uptoBulkAll elems + uptoBulkAll spare + 1
  | .agg parts => uptoBulkAll parts + 1
  | .iface _ d => uptoBulk d + 1
  | .map entries => uptoBulkEntries entries + 1
  | .held _ => 1
def uptoBulkAll {H : Type} : List (DataW H) → Nat
  | [] => 0
  | d :: r => uptoBulk d + uptoBulkAll r
def uptoBulkEntries {H : Type} : List (Lit × DataW H) → Nat
  | [] => 0
  | x :: r => uptoBulkEntry x + uptoBulkEntries r
def uptoBulkEntry {H : Type} : Lit × DataW H → Nat
  | (.string bytes, d) => bytes.length + uptoBulk d + 1
  | (_, d) => uptoBulk d + 1
 end
def uptoSmall : (H : Type) → List (DataW H) → Bool := fun _ ds => decide (uptoBulkAll ds ≤ 1048576)
def OpenSpec.upto (s : _root_.Go.ChangeSpec) : _root_.Go.OpenSpec := { _root_.Go.OpenSpec.ofChange s with cond := some uptoSmall }

/-- 'flittinglaw16.StripeCount', WHERE WHAT IT READS IS OF BULK AT MOST 1048576: true; the input reads as it did. -/
def stripeCountUptoRow : OpenClaim := { program := "ytpncaggdngijnaa", sum := "76022ebada9ace07972b739073d78201f6e7ed46d43471365ec68cee541e90ba", func := "flitting/flittinglaw16.StripeCount", spec := "stripeCount", inPlace := ["internal/bytealg.MakeNoZero"], unfollowed := true, recurses := true, apart := false, narrowed := true }
def StripeCountUptoSaid : Prop := stripeCountUptoRow.holds Try.pinned (OpenSpec.upto stripeCountSpec)

/-- 'flittinglaw16.StripeBack', WHERE WHAT IT READS IS OF BULK AT MOST 1048576: true; the input reads as it did. -/
def stripeBackUptoRow : OpenClaim := { program := "ytpncaggdngijnaa", sum := "76022ebada9ace07972b739073d78201f6e7ed46d43471365ec68cee541e90ba", func := "flitting/flittinglaw16.StripeBack", spec := "stripeBack", inPlace := ["internal/bytealg.MakeNoZero"], unfollowed := true, recurses := true, apart := false, narrowed := true }
def StripeBackUptoSaid : Prop := stripeBackUptoRow.holds Try.pinned (OpenSpec.upto stripeBackSpec)

/-- 'flittinglaw16.StripeJoin', WHERE WHAT IT READS IS OF BULK AT MOST 1048576: true; the input reads as it did. -/
def stripeJoinUptoRow : OpenClaim := { program := "ytpncaggdngijnaa", sum := "76022ebada9ace07972b739073d78201f6e7ed46d43471365ec68cee541e90ba", func := "flitting/flittinglaw16.StripeJoin", spec := "stripeJoin", inPlace := ["internal/bytealg.MakeNoZero"], unfollowed := true, recurses := true, apart := false, narrowed := true }
def StripeJoinUptoSaid : Prop := stripeJoinUptoRow.holds Try.pinned (OpenSpec.upto stripeJoinSpec)

/-- 'flittinglaw16.StripeNone', WHERE WHAT IT READS IS OF BULK AT MOST 1048576: true; the input reads as it did. -/
def stripeNoneUptoRow : OpenClaim := { program := "ytpncaggdngijnaa", sum := "76022ebada9ace07972b739073d78201f6e7ed46d43471365ec68cee541e90ba", func := "flitting/flittinglaw16.StripeNone", spec := "stripeNone", inPlace := ["internal/bytealg.MakeNoZero"], unfollowed := true, recurses := true, apart := false, narrowed := true }
def StripeNoneUptoSaid : Prop := stripeNoneUptoRow.holds Try.pinned (OpenSpec.upto stripeNoneSpec)

/-- 'flittinglaw16.StripeFew', WHERE WHAT IT READS IS OF BULK AT MOST 1048576: true; the input reads as it did. -/
def stripeFewUptoRow : OpenClaim := { program := "ytpncaggdngijnaa", sum := "76022ebada9ace07972b739073d78201f6e7ed46d43471365ec68cee541e90ba", func := "flitting/flittinglaw16.StripeFew", spec := "stripeFew", inPlace := ["internal/bytealg.MakeNoZero"], unfollowed := true, recurses := true, apart := false, narrowed := true }
def StripeFewUptoSaid : Prop := stripeFewUptoRow.holds Try.pinned (OpenSpec.upto stripeFewSpec)

end Rows
end Go.Proofs.Ytpncaggdngijnaa
