/-
  NARROWER THAN 'FOR EVERY INPUT', by the rows' own cells (each row's printed sentence says how): RankOrder: laid · RankTargets: laid · RankFew: laid · RankNear: laid · RankSpreads: laid.
  DERIVED. THE GIVEN ROWS OF THIS SEAT. 5 by the template 'for every input the law returns true; each argument reads behind the call as it read before'; 0 by the template 'total and deterministic' (their statements: YtohlphmjhmcpoaaDoorTotals.lean).
  GIVEN WITH THE SEED: the statements are not yours to turn. If you find one false, say at which input.
  Laid BY PROGRAM, IN A SANDBOX (cutbox-rows.mjs): the forced cells as the released guide's own fill.sh prints them over the translation 9ab055c0ed7236b3… (all of the seat's roots in one cut). By AI agents, Wed Nov 11 2026. No macro, syntax, notation, axiom, sorry.
-/
import Derived.Test.YtohlphmjhmcpoaaDoorChecked
import GoSem.Claim
import GoSem.ClaimJoined
import GoSem.ClaimMapViews
import Derived.JoinedTies
import Derived.KernelRfl
namespace Go.Proofs.YtohlphmjhmcpoaaDoor
/- THE CELL 'sum', in the pinned program and in every row, IS THE sha256 OF THE DUMP (.gsa) THAT YtohlphmjhmcpoaaDoorProg.lean LOADS. Nothing in Lean hashes anything: it is a label: what it is worth is what the hold of that sum in a sandbox is worth. -/
noncomputable def Tryd.pinned : Pinned := { name := "ytohlphmjhmcpoaadoor", sum := "9ab055c0ed7236b3ddcd4cbdeaac0bf04e941782ad78fbcca9d87866bbd4ec32", checked := Tryd.checked }
namespace Rows
def none {H : Type} : Left H := { results := [], args := [] }

/- WHAT THE LISTED PACKAGE-LEVEL VARIABLES READ AS WHEN THE CALL BEGINS. Each datum BY PROGRAM (the guide's laid-datum.mjs) off the statement by which the dump's own 'gosem.cut.vars' lays the variable. In a bare row this is a premise. The card (YtohlphmjhmcpoaaDoorCards.lean) ties it to the program's text. -/
def laid_flitting_hash_turns {H : Type} : DataW H := .agg [.lit (.int .u32 1116352408), .lit (.int .u32 1899447441), .lit (.int .u32 3049323471), .lit (.int .u32 3921009573), .lit (.int .u32 961987163), .lit (.int .u32 1508970993), .lit (.int .u32 2453635748), .lit (.int .u32 2870763221), .lit (.int .u32 3624381080), .lit (.int .u32 310598401), .lit (.int .u32 607225278), .lit (.int .u32 1426881987), .lit (.int .u32 1925078388), .lit (.int .u32 2162078206), .lit (.int .u32 2614888103), .lit (.int .u32 3248222580), .lit (.int .u32 3835390401), .lit (.int .u32 4022224774), .lit (.int .u32 264347078), .lit (.int .u32 604807628), .lit (.int .u32 770255983), .lit (.int .u32 1249150122), .lit (.int .u32 1555081692), .lit (.int .u32 1996064986), .lit (.int .u32 2554220882), .lit (.int .u32 2821834349), .lit (.int .u32 2952996808), .lit (.int .u32 3210313671), .lit (.int .u32 3336571891), .lit (.int .u32 3584528711), .lit (.int .u32 113926993), .lit (.int .u32 338241895), .lit (.int .u32 666307205), .lit (.int .u32 773529912), .lit (.int .u32 1294757372), .lit (.int .u32 1396182291), .lit (.int .u32 1695183700), .lit (.int .u32 1986661051), .lit (.int .u32 2177026350), .lit (.int .u32 2456956037), .lit (.int .u32 2730485921), .lit (.int .u32 2820302411), .lit (.int .u32 3259730800), .lit (.int .u32 3345764771), .lit (.int .u32 3516065817), .lit (.int .u32 3600352804), .lit (.int .u32 4094571909), .lit (.int .u32 275423344), .lit (.int .u32 430227734), .lit (.int .u32 506948616), .lit (.int .u32 659060556), .lit (.int .u32 883997877), .lit (.int .u32 958139571), .lit (.int .u32 1322822218), .lit (.int .u32 1537002063), .lit (.int .u32 1747873779), .lit (.int .u32 1955562222), .lit (.int .u32 2024104815), .lit (.int .u32 2227730452), .lit (.int .u32 2361852424), .lit (.int .u32 2428436474), .lit (.int .u32 2756734187), .lit (.int .u32 3204031479), .lit (.int .u32 3329325298)]

/-- 'flittinglaw12.RankOrder': WHATEVER THE INPUT: true; the input reads as it did. -/
def rankOrderSpec : ChangeSpec := { name := "rankOrder", fn := fun _ => fun
  | [d1, d2] => { results := [.lit (.bool true)], args := [d1, d2] }
  | _ => none }
def rankOrderRow : OpenClaim := { program := "ytohlphmjhmcpoaadoor", sum := "9ab055c0ed7236b3ddcd4cbdeaac0bf04e941782ad78fbcca9d87866bbd4ec32", func := "flitting/flittinglaw12.RankOrder", spec := "rankOrder", unfollowed := true, recurses := true, named := ["flitting/hash.turns"], apart := false, laid := [("flitting/hash.turns", laid_flitting_hash_turns)] }
def RankOrderSaid : Prop := rankOrderRow.holds Tryd.pinned (OpenSpec.ofChange rankOrderSpec)

/-- ITS FALSE NEIGHBOUR: 'it returns false'. Refute it at one input. -/
def rankOrderWrong : ChangeSpec := { name := "rankOrder", fn := fun _ => fun
  | [d1, d2] => { results := [.lit (.bool false)], args := [d1, d2] }
  | _ => none }
def RankOrderWrongFalsely : Prop := rankOrderRow.holds Tryd.pinned (OpenSpec.ofChange rankOrderWrong)

/-- 'flittinglaw12.RankTargets': WHATEVER THE INPUT: true; the input reads as it did. -/
def rankTargetsSpec : ChangeSpec := { name := "rankTargets", fn := fun _ => fun
  | [d1, d2, d3] => { results := [.lit (.bool true)], args := [d1, d2, d3] }
  | _ => none }
def rankTargetsRow : OpenClaim := { program := "ytohlphmjhmcpoaadoor", sum := "9ab055c0ed7236b3ddcd4cbdeaac0bf04e941782ad78fbcca9d87866bbd4ec32", func := "flitting/flittinglaw12.RankTargets", spec := "rankTargets", unfollowed := true, recurses := true, named := ["flitting/hash.turns"], apart := false, laid := [("flitting/hash.turns", laid_flitting_hash_turns)] }
def RankTargetsSaid : Prop := rankTargetsRow.holds Tryd.pinned (OpenSpec.ofChange rankTargetsSpec)

/-- ITS FALSE NEIGHBOUR: 'it returns false'. Refute it at one input. -/
def rankTargetsWrong : ChangeSpec := { name := "rankTargets", fn := fun _ => fun
  | [d1, d2, d3] => { results := [.lit (.bool false)], args := [d1, d2, d3] }
  | _ => none }
def RankTargetsWrongFalsely : Prop := rankTargetsRow.holds Tryd.pinned (OpenSpec.ofChange rankTargetsWrong)

/-- 'flittinglaw12.RankFew': WHATEVER THE INPUT: true; the input reads as it did. -/
def rankFewSpec : ChangeSpec := { name := "rankFew", fn := fun _ => fun
  | [d1, d2, d3, d4] => { results := [.lit (.bool true)], args := [d1, d2, d3, d4] }
  | _ => none }
def rankFewRow : OpenClaim := { program := "ytohlphmjhmcpoaadoor", sum := "9ab055c0ed7236b3ddcd4cbdeaac0bf04e941782ad78fbcca9d87866bbd4ec32", func := "flitting/flittinglaw12.RankFew", spec := "rankFew", unfollowed := true, recurses := true, named := ["flitting/hash.turns"], apart := false, laid := [("flitting/hash.turns", laid_flitting_hash_turns)] }
def RankFewSaid : Prop := rankFewRow.holds Tryd.pinned (OpenSpec.ofChange rankFewSpec)

/-- ITS FALSE NEIGHBOUR: 'it returns false'. Refute it at one input. -/
def rankFewWrong : ChangeSpec := { name := "rankFew", fn := fun _ => fun
  | [d1, d2, d3, d4] => { results := [.lit (.bool false)], args := [d1, d2, d3, d4] }
  | _ => none }
def RankFewWrongFalsely : Prop := rankFewRow.holds Tryd.pinned (OpenSpec.ofChange rankFewWrong)

/-- 'flittinglaw12.RankNear': WHATEVER THE INPUT: true; the input reads as it did. -/
def rankNearSpec : ChangeSpec := { name := "rankNear", fn := fun _ => fun
  | [d1, d2] => { results := [.lit (.bool true)], args := [d1, d2] }
  | _ => none }
def rankNearRow : OpenClaim := { program := "ytohlphmjhmcpoaadoor", sum := "9ab055c0ed7236b3ddcd4cbdeaac0bf04e941782ad78fbcca9d87866bbd4ec32", func := "flitting/flittinglaw12.RankNear", spec := "rankNear", unfollowed := true, recurses := true, named := ["flitting/hash.turns"], apart := false, laid := [("flitting/hash.turns", laid_flitting_hash_turns)] }
def RankNearSaid : Prop := rankNearRow.holds Tryd.pinned (OpenSpec.ofChange rankNearSpec)

/-- ITS FALSE NEIGHBOUR: 'it returns false'. Refute it at one input. -/
def rankNearWrong : ChangeSpec := { name := "rankNear", fn := fun _ => fun
  | [d1, d2] => { results := [.lit (.bool false)], args := [d1, d2] }
  | _ => none }
def RankNearWrongFalsely : Prop := rankNearRow.holds Tryd.pinned (OpenSpec.ofChange rankNearWrong)

/-- 'flittinglaw12.RankSpreads': WHATEVER THE INPUT: true; the input reads as it did. -/
def rankSpreadsSpec : ChangeSpec := { name := "rankSpreads", fn := fun _ => fun
  | [d] => { results := [.lit (.bool true)], args := [d] }
  | _ => none }
def rankSpreadsRow : OpenClaim := { program := "ytohlphmjhmcpoaadoor", sum := "9ab055c0ed7236b3ddcd4cbdeaac0bf04e941782ad78fbcca9d87866bbd4ec32", func := "flitting/flittinglaw12.RankSpreads", spec := "rankSpreads", unfollowed := true, recurses := true, named := ["flitting/hash.turns"], apart := false, laid := [("flitting/hash.turns", laid_flitting_hash_turns)] }
def RankSpreadsSaid : Prop := rankSpreadsRow.holds Tryd.pinned (OpenSpec.ofChange rankSpreadsSpec)

/-- ITS FALSE NEIGHBOUR: 'it returns false'. Refute it at one input. -/
def rankSpreadsWrong : ChangeSpec := { name := "rankSpreads", fn := fun _ => fun
  | [d] => { results := [.lit (.bool false)], args := [d] }
  | _ => none }
def RankSpreadsWrongFalsely : Prop := rankSpreadsRow.holds Tryd.pinned (OpenSpec.ofChange rankSpreadsWrong)

/- THE SECOND FORM. 'bulk': how many values and letters a reading holds, each counted each time it is reached (what is shared counts as often as it is met; a slice's spare places count too). A statement '..UptoSaid' is the law's where the arguments, and the package variables that the reading takes, are together of bulk at most 1048576: NARROWER than '..Said'. Prove '..Said' where nothing that the law and all that it calls make is longer than what came in: it says more and counts as full. Else prove '..UptoSaid'. A law counts once. -/
mutual
def uptoBulk {H : Type} : DataW H → Nat
  | .lit (.string bytes) => bytes.length + 1
  | .lit _ => 1
  | .nil => 1
  | .ptr d => uptoBulk d + 1
  | .slice elems spare => uptoBulkAll elems + uptoBulkAll spare + 1
  | .agg parts => uptoBulkAll parts + 1
  | .iface _ d => uptoBulk d + 1
  | .map entries => uptoBulkEntries entries + 1
  | .held _ => 1
def uptoBulkAll {H : Type} : List (DataW H) → Nat
  | [] => 0
  | d :: r => uptoBulk d + uptoBulkAll r
def uptoBulkEntries {H : Type} : List (Lit × DataW H) → Nat
  | [] => 0
  | x :: r => uptoBulkEntry x + uptoBulkEntries r
def uptoBulkEntry {H : Type} : Lit × DataW H → Nat
  | (.string bytes, d) => bytes.length + uptoBulk d + 1
  | (_, d) => uptoBulk d + 1
 end
def uptoSmall : (H : Type) → List (DataW H) → Bool := fun _ ds => decide (uptoBulkAll ds ≤ 1048576)
def OpenSpec.upto (s : _root_.Go.ChangeSpec) : _root_.Go.OpenSpec := { _root_.Go.OpenSpec.ofChange s with cond := some uptoSmall }

/-- 'flittinglaw12.RankOrder', WHERE WHAT IT READS IS OF BULK AT MOST 1048576: true; the input reads as it did. -/
def rankOrderUptoRow : OpenClaim := { program := "ytohlphmjhmcpoaadoor", sum := "9ab055c0ed7236b3ddcd4cbdeaac0bf04e941782ad78fbcca9d87866bbd4ec32", func := "flitting/flittinglaw12.RankOrder", spec := "rankOrder", unfollowed := true, recurses := true, named := ["flitting/hash.turns"], apart := false, laid := [("flitting/hash.turns", laid_flitting_hash_turns)], narrowed := true }
def RankOrderUptoSaid : Prop := rankOrderUptoRow.holds Tryd.pinned (OpenSpec.upto rankOrderSpec)

/-- 'flittinglaw12.RankTargets', WHERE WHAT IT READS IS OF BULK AT MOST 1048576: true; the input reads as it did. -/
def rankTargetsUptoRow : OpenClaim := { program := "ytohlphmjhmcpoaadoor", sum := "9ab055c0ed7236b3ddcd4cbdeaac0bf04e941782ad78fbcca9d87866bbd4ec32", func := "flitting/flittinglaw12.RankTargets", spec := "rankTargets", unfollowed := true, recurses := true, named := ["flitting/hash.turns"], apart := false, laid := [("flitting/hash.turns", laid_flitting_hash_turns)], narrowed := true }
def RankTargetsUptoSaid : Prop := rankTargetsUptoRow.holds Tryd.pinned (OpenSpec.upto rankTargetsSpec)

/-- 'flittinglaw12.RankFew', WHERE WHAT IT READS IS OF BULK AT MOST 1048576: true; the input reads as it did. -/
def rankFewUptoRow : OpenClaim := { program := "ytohlphmjhmcpoaadoor", sum := "9ab055c0ed7236b3ddcd4cbdeaac0bf04e941782ad78fbcca9d87866bbd4ec32", func := "flitting/flittinglaw12.RankFew", spec := "rankFew", unfollowed := true, recurses := true, named := ["flitting/hash.turns"], apart := false, laid := [("flitting/hash.turns", laid_flitting_hash_turns)], narrowed := true }
def RankFewUptoSaid : Prop := rankFewUptoRow.holds Tryd.pinned (OpenSpec.upto rankFewSpec)

/-- 'flittinglaw12.RankNear', WHERE WHAT IT READS IS OF BULK AT MOST 1048576: true; the input reads as it did. -/
def rankNearUptoRow : OpenClaim := { program := "ytohlphmjhmcpoaadoor", sum := "9ab055c0ed7236b3ddcd4cbdeaac0bf04e941782ad78fbcca9d87866bbd4ec32", func := "flitting/flittinglaw12.RankNear", spec := "rankNear", unfollowed := true, recurses := true, named := ["flitting/hash.turns"], apart := false, laid := [("flitting/hash.turns", laid_flitting_hash_turns)], narrowed := true }
def RankNearUptoSaid : Prop := rankNearUptoRow.holds Tryd.pinned (OpenSpec.upto rankNearSpec)

/-- 'flittinglaw12.RankSpreads', WHERE WHAT IT READS IS OF BULK AT MOST 1048576: true; the input reads as it did. -/
def rankSpreadsUptoRow : OpenClaim := { program := "ytohlphmjhmcpoaadoor", sum := "9ab055c0ed7236b3ddcd4cbdeaac0bf04e941782ad78fbcca9d87866bbd4ec32", func := "flitting/flittinglaw12.RankSpreads", spec := "rankSpreads", unfollowed := true, recurses := true, named := ["flitting/hash.turns"], apart := false, laid := [("flitting/hash.turns", laid_flitting_hash_turns)], narrowed := true }
def RankSpreadsUptoSaid : Prop := rankSpreadsUptoRow.holds Tryd.pinned (OpenSpec.upto rankSpreadsSpec)

end Rows
end Go.Proofs.YtohlphmjhmcpoaaDoor
