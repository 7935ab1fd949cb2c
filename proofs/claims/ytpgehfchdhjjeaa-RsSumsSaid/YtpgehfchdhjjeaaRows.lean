/-
  No cell of these rows narrows 'for every input' (looked for: loops, veiled, ifaces, maps, wideKeys, modest, calm, conditions, laid).
  DERIVED. THE GIVEN ROWS OF THIS SEAT. 6 by the template 'for every input the law returns true; each argument reads behind the call as it read before'; 0 by the template 'total and deterministic' (their statements: YtpgehfchdhjjeaaTotals.lean).
  GIVEN WITH THE SEED: the statements are not yours to turn. If you find one false, say at which input.
  Laid BY PROGRAM, IN A SANDBOX (cutbox-rows.mjs): the forced cells as the released guide's own fill.sh prints them over the translation 7c97a6a388c30e69… (all of the seat's roots in one cut). By AI agents, Wed Nov 11 2026. No macro, syntax, notation, axiom, sorry.
-/
import Derived.Test.YtpgehfchdhjjeaaChecked
import GoSem.Claim
import GoSem.ClaimJoined
import GoSem.ClaimMapViews
import Derived.JoinedTies
import Derived.KernelRfl
namespace Go.Proofs.Ytpgehfchdhjjeaa
/- THE CELL 'sum', in the pinned program and in every row, IS THE sha256 OF THE DUMP (.gsa) THAT YtpgehfchdhjjeaaProg.lean LOADS. Nothing in Lean hashes anything: it is a label: what it is worth is what the hold of that sum in a sandbox is worth. -/
noncomputable def Try.pinned : Pinned := { name := "ytpgehfchdhjjeaa", sum := "7c97a6a388c30e6938844bea2cbc5b4cc61d78af84f788cb77a348e222750719", checked := Try.checked }
namespace Rows
def none {H : Type} : Left H := { results := [], args := [] }

/-- 'flittinglaw03.RsEncode': WHATEVER THE INPUT: true; the input reads as it did. -/
def rsEncodeSpec : ChangeSpec := { name := "rsEncode", fn := fun _ => fun
  | [d1, d2, d3] => { results := [.lit (.bool true)], args := [d1, d2, d3] }
  | _ => none }
def rsEncodeRow : OpenClaim := { program := "ytpgehfchdhjjeaa", sum := "7c97a6a388c30e6938844bea2cbc5b4cc61d78af84f788cb77a348e222750719", func := "flitting/flittinglaw03.RsEncode", spec := "rsEncode", inPlace := ["internal/bytealg.MakeNoZero"], unfollowed := true, recurses := true, apart := false }
def RsEncodeSaid : Prop := rsEncodeRow.holds Try.pinned (OpenSpec.ofChange rsEncodeSpec)

/-- ITS FALSE NEIGHBOUR: 'it returns false'. Refute it at one input. -/
def rsEncodeWrong : ChangeSpec := { name := "rsEncode", fn := fun _ => fun
  | [d1, d2, d3] => { results := [.lit (.bool false)], args := [d1, d2, d3] }
  | _ => none }
def RsEncodeWrongFalsely : Prop := rsEncodeRow.holds Try.pinned (OpenSpec.ofChange rsEncodeWrong)

/-- 'flittinglaw03.RsDecode': WHATEVER THE INPUT: true; the input reads as it did. -/
def rsDecodeSpec : ChangeSpec := { name := "rsDecode", fn := fun _ => fun
  | [d1, d2, d3] => { results := [.lit (.bool true)], args := [d1, d2, d3] }
  | _ => none }
def rsDecodeRow : OpenClaim := { program := "ytpgehfchdhjjeaa", sum := "7c97a6a388c30e6938844bea2cbc5b4cc61d78af84f788cb77a348e222750719", func := "flitting/flittinglaw03.RsDecode", spec := "rsDecode", inPlace := ["internal/bytealg.MakeNoZero"], unfollowed := true, recurses := true, apart := false }
def RsDecodeSaid : Prop := rsDecodeRow.holds Try.pinned (OpenSpec.ofChange rsDecodeSpec)

/-- ITS FALSE NEIGHBOUR: 'it returns false'. Refute it at one input. -/
def rsDecodeWrong : ChangeSpec := { name := "rsDecode", fn := fun _ => fun
  | [d1, d2, d3] => { results := [.lit (.bool false)], args := [d1, d2, d3] }
  | _ => none }
def RsDecodeWrongFalsely : Prop := rsDecodeRow.holds Try.pinned (OpenSpec.ofChange rsDecodeWrong)

/-- 'flittinglaw03.RsSums': WHATEVER THE INPUT: true; the input reads as it did. -/
def rsSumsSpec : ChangeSpec := { name := "rsSums", fn := fun _ => fun
  | [d1, d2, d3, d4] => { results := [.lit (.bool true)], args := [d1, d2, d3, d4] }
  | _ => none }
def rsSumsRow : OpenClaim := { program := "ytpgehfchdhjjeaa", sum := "7c97a6a388c30e6938844bea2cbc5b4cc61d78af84f788cb77a348e222750719", func := "flitting/flittinglaw03.RsSums", spec := "rsSums", inPlace := ["internal/bytealg.MakeNoZero"], unfollowed := true, recurses := true, apart := false }
def RsSumsSaid : Prop := rsSumsRow.holds Try.pinned (OpenSpec.ofChange rsSumsSpec)

/-- ITS FALSE NEIGHBOUR: 'it returns false'. Refute it at one input. -/
def rsSumsWrong : ChangeSpec := { name := "rsSums", fn := fun _ => fun
  | [d1, d2, d3, d4] => { results := [.lit (.bool false)], args := [d1, d2, d3, d4] }
  | _ => none }
def RsSumsWrongFalsely : Prop := rsSumsRow.holds Try.pinned (OpenSpec.ofChange rsSumsWrong)

/-- 'flittinglaw03.RsFar': WHATEVER THE INPUT: true; the input reads as it did. -/
def rsFarSpec : ChangeSpec := { name := "rsFar", fn := fun _ => fun
  | [d1, d2, d3, d4, d5] => { results := [.lit (.bool true)], args := [d1, d2, d3, d4, d5] }
  | _ => none }
def rsFarRow : OpenClaim := { program := "ytpgehfchdhjjeaa", sum := "7c97a6a388c30e6938844bea2cbc5b4cc61d78af84f788cb77a348e222750719", func := "flitting/flittinglaw03.RsFar", spec := "rsFar", inPlace := ["internal/bytealg.MakeNoZero"], unfollowed := true, recurses := true, apart := false }
def RsFarSaid : Prop := rsFarRow.holds Try.pinned (OpenSpec.ofChange rsFarSpec)

/-- ITS FALSE NEIGHBOUR: 'it returns false'. Refute it at one input. -/
def rsFarWrong : ChangeSpec := { name := "rsFar", fn := fun _ => fun
  | [d1, d2, d3, d4, d5] => { results := [.lit (.bool false)], args := [d1, d2, d3, d4, d5] }
  | _ => none }
def RsFarWrongFalsely : Prop := rsFarRow.holds Try.pinned (OpenSpec.ofChange rsFarWrong)

/-- 'flittinglaw03.RsAny': WHATEVER THE INPUT: true; the input reads as it did. -/
def rsAnySpec : ChangeSpec := { name := "rsAny", fn := fun _ => fun
  | [d1, d2, d3, d4, d5] => { results := [.lit (.bool true)], args := [d1, d2, d3, d4, d5] }
  | _ => none }
def rsAnyRow : OpenClaim := { program := "ytpgehfchdhjjeaa", sum := "7c97a6a388c30e6938844bea2cbc5b4cc61d78af84f788cb77a348e222750719", func := "flitting/flittinglaw03.RsAny", spec := "rsAny", inPlace := ["internal/bytealg.MakeNoZero"], unfollowed := true, recurses := true, apart := false }
def RsAnySaid : Prop := rsAnyRow.holds Try.pinned (OpenSpec.ofChange rsAnySpec)

/-- ITS FALSE NEIGHBOUR: 'it returns false'. Refute it at one input. -/
def rsAnyWrong : ChangeSpec := { name := "rsAny", fn := fun _ => fun
  | [d1, d2, d3, d4, d5] => { results := [.lit (.bool false)], args := [d1, d2, d3, d4, d5] }
  | _ => none }
def RsAnyWrongFalsely : Prop := rsAnyRow.holds Try.pinned (OpenSpec.ofChange rsAnyWrong)

/-- 'flittinglaw03.RsRebuild': WHATEVER THE INPUT: true; the input reads as it did. -/
def rsRebuildSpec : ChangeSpec := { name := "rsRebuild", fn := fun _ => fun
  | [d1, d2, d3, d4] => { results := [.lit (.bool true)], args := [d1, d2, d3, d4] }
  | _ => none }
def rsRebuildRow : OpenClaim := { program := "ytpgehfchdhjjeaa", sum := "7c97a6a388c30e6938844bea2cbc5b4cc61d78af84f788cb77a348e222750719", func := "flitting/flittinglaw03.RsRebuild", spec := "rsRebuild", inPlace := ["internal/bytealg.MakeNoZero"], unfollowed := true, recurses := true, apart := false }
def RsRebuildSaid : Prop := rsRebuildRow.holds Try.pinned (OpenSpec.ofChange rsRebuildSpec)

/-- ITS FALSE NEIGHBOUR: 'it returns false'. Refute it at one input. -/
def rsRebuildWrong : ChangeSpec := { name := "rsRebuild", fn := fun _ => fun
  | [d1, d2, d3, d4] => { results := [.lit (.bool false)], args := [d1, d2, d3, d4] }
  | _ => none }
def RsRebuildWrongFalsely : Prop := rsRebuildRow.holds Try.pinned (OpenSpec.ofChange rsRebuildWrong)

/- THE SECOND FORM. 'bulk': how many values and letters a reading holds, each counted each time it is reached (what is shared counts as often as it is met; a slice's spare places count too). A statement '..UptoSaid' is the law's where the arguments, and the package variables that the reading takes, are together of bulk at most 1048576: NARROWER than '..Said'. Prove '..Said' where nothing that the law and all that it calls make is longer than what came in: it says more and counts as full. Else prove '..UptoSaid'. A law counts once. -/
mutual
def uptoBulk {H : Type} : DataW H → Nat
  | .lit (.string bytes) => bytes.length + 1
  | .lit _ => 1
  | .nil => 1
  | .ptr d => uptoBulk d + 1
  | .slice elems spare => uptoBulkAll elems + uptoBulkAll spare + 1
  | .agg parts => uptoBulkAll parts + 1
  | .iface _ d => uptoBulk d + 1
  | .map entries => uptoBulkEntries entries + 1
  | .held _ => 1
def uptoBulkAll {H : Type} : List (DataW H) → Nat
  | [] => 0
  | d :: r => uptoBulk d + uptoBulkAll r
def uptoBulkEntries {H : Type} : List (Lit × DataW H) → Nat
  | [] => 0
  | x :: r => uptoBulkEntry x + uptoBulkEntries r
def uptoBulkEntry {H : Type} : Lit × DataW H → Nat
  | (.string bytes, d) => bytes.length + uptoBulk d + 1
  | (_, d) => uptoBulk d + 1
 end
def uptoSmall : (H : Type) → List (DataW H) → Bool := fun _ ds => decide (uptoBulkAll ds ≤ 1048576)
def OpenSpec.upto (s : _root_.Go.ChangeSpec) : _root_.Go.OpenSpec := { _root_.Go.OpenSpec.ofChange s with cond := some uptoSmall }

/-- 'flittinglaw03.RsEncode', WHERE WHAT IT READS IS OF BULK AT MOST 1048576: true; the input reads as it did. -/
def rsEncodeUptoRow : OpenClaim := { program := "ytpgehfchdhjjeaa", sum := "7c97a6a388c30e6938844bea2cbc5b4cc61d78af84f788cb77a348e222750719", func := "flitting/flittinglaw03.RsEncode", spec := "rsEncode", inPlace := ["internal/bytealg.MakeNoZero"], unfollowed := true, recurses := true, apart := false, narrowed := true }
def RsEncodeUptoSaid : Prop := rsEncodeUptoRow.holds Try.pinned (OpenSpec.upto rsEncodeSpec)

/-- 'flittinglaw03.RsDecode', WHERE WHAT IT READS IS OF BULK AT MOST 1048576: true; the input reads as it did. -/
def rsDecodeUptoRow : OpenClaim := { program := "ytpgehfchdhjjeaa", sum := "7c97a6a388c30e6938844bea2cbc5b4cc61d78af84f788cb77a348e222750719", func := "flitting/flittinglaw03.RsDecode", spec := "rsDecode", inPlace := ["internal/bytealg.MakeNoZero"], unfollowed := true, recurses := true, apart := false, narrowed := true }
def RsDecodeUptoSaid : Prop := rsDecodeUptoRow.holds Try.pinned (OpenSpec.upto rsDecodeSpec)

/-- 'flittinglaw03.RsSums', WHERE WHAT IT READS IS OF BULK AT MOST 1048576: true; the input reads as it did. -/
def rsSumsUptoRow : OpenClaim := { program := "ytpgehfchdhjjeaa", sum := "7c97a6a388c30e6938844bea2cbc5b4cc61d78af84f788cb77a348e222750719", func := "flitting/flittinglaw03.RsSums", spec := "rsSums", inPlace := ["internal/bytealg.MakeNoZero"], unfollowed := true, recurses := true, apart := false, narrowed := true }
def RsSumsUptoSaid : Prop := rsSumsUptoRow.holds Try.pinned (OpenSpec.upto rsSumsSpec)

/-- 'flittinglaw03.RsFar', WHERE WHAT IT READS IS OF BULK AT MOST 1048576: true; the input reads as it did. -/
def rsFarUptoRow : OpenClaim := { program := "ytpgehfchdhjjeaa", sum := "7c97a6a388c30e6938844bea2cbc5b4cc61d78af84f788cb77a348e222750719", func := "flitting/flittinglaw03.RsFar", spec := "rsFar", inPlace := ["internal/bytealg.MakeNoZero"], unfollowed := true, recurses := true, apart := false, narrowed := true }
def RsFarUptoSaid : Prop := rsFarUptoRow.holds Try.pinned (OpenSpec.upto rsFarSpec)

/-- 'flittinglaw03.RsAny', WHERE WHAT IT READS IS OF BULK AT MOST 1048576: true; the input reads as it did. -/
def rsAnyUptoRow : OpenClaim := { program := "ytpgehfchdhjjeaa", sum := "7c97a6a388c30e6938844bea2cbc5b4cc61d78af84f788cb77a348e222750719", func := "flitting/flittinglaw03.RsAny", spec := "rsAny", inPlace := ["internal/bytealg.MakeNoZero"], unfollowed := true, recurses := true, apart := false, narrowed := true }
def RsAnyUptoSaid : Prop := rsAnyUptoRow.holds Try.pinned (OpenSpec.upto rsAnySpec)

/-- 'flittinglaw03.RsRebuild', WHERE WHAT IT READS IS OF BULK AT MOST 1048576: true; the input reads as it did. -/
def rsRebuildUptoRow : OpenClaim := { program := "ytpgehfchdhjjeaa", sum := "7c97a6a388c30e6938844bea2cbc5b4cc61d78af84f788cb77a348e222750719", func := "flitting/flittinglaw03.RsRebuild", spec := "rsRebuild", inPlace := ["internal/bytealg.MakeNoZero"], unfollowed := true, recurses := true, apart := false, narrowed := true }
def RsRebuildUptoSaid : Prop := rsRebuildUptoRow.holds Try.pinned (OpenSpec.upto rsRebuildSpec)

end Rows
end Go.Proofs.Ytpgehfchdhjjeaa
