/-
  No cell of these rows narrows 'for every input' (looked for: loops, veiled, ifaces, maps, wideKeys, modest, calm, conditions, laid).
  DERIVED. THE GIVEN ROWS OF THIS SEAT. 5 by the template 'for every input the law returns true; each argument reads behind the call as it read before'; 0 by the template 'total and deterministic' (their statements: YtemmhjghlmhheaaTotals.lean).
  GIVEN WITH THE SEED: the statements are not yours to turn. If you find one false, say at which input.
  Laid BY PROGRAM, IN A SANDBOX (cutbox-rows.mjs): the forced cells as the released guide's own fill.sh prints them over the translation 306004e384fe0b4f… (all of the seat's roots in one cut). By AI agents, Wed Nov 11 2026. No macro, syntax, notation, axiom, sorry.
-/
import Derived.Test.YtemmhjghlmhheaaChecked
import GoSem.Claim
import GoSem.ClaimJoined
import GoSem.ClaimMapViews
import Derived.JoinedTies
import Derived.KernelRfl
namespace Go.Proofs.Ytemmhjghlmhheaa
/- THE CELL 'sum', in the pinned program and in every row, IS THE sha256 OF THE DUMP (.gsa) THAT YtemmhjghlmhheaaProg.lean LOADS. Nothing in Lean hashes anything: it is a label: what it is worth is what the hold of that sum in a sandbox is worth. -/
noncomputable def Try.pinned : Pinned := { name := "ytemmhjghlmhheaa", sum := "306004e384fe0b4f6882268f4d9010b6764f158f368ebcf1ff678b4cb563a0d9", checked := Try.checked }
namespace Rows
def none {H : Type} : Left H := { results := [], args := [] }

/-- 'flittinglaw06.DriveKeeps': WHATEVER THE INPUT: true; the input reads as it did. -/
def driveKeepsSpec : ChangeSpec := { name := "driveKeeps", fn := fun _ => fun
  | [d1, d2] => { results := [.lit (.bool true)], args := [d1, d2] }
  | _ => none }
def driveKeepsRow : OpenClaim := { program := "ytemmhjghlmhheaa", sum := "306004e384fe0b4f6882268f4d9010b6764f158f368ebcf1ff678b4cb563a0d9", func := "flitting/flittinglaw06.DriveKeeps", spec := "driveKeeps", apart := false }
def DriveKeepsSaid : Prop := driveKeepsRow.holds Try.pinned (OpenSpec.ofChange driveKeepsSpec)

/-- ITS FALSE NEIGHBOUR: 'it returns false'. Refute it at one input. -/
def driveKeepsWrong : ChangeSpec := { name := "driveKeeps", fn := fun _ => fun
  | [d1, d2] => { results := [.lit (.bool false)], args := [d1, d2] }
  | _ => none }
def DriveKeepsWrongFalsely : Prop := driveKeepsRow.holds Try.pinned (OpenSpec.ofChange driveKeepsWrong)

/-- 'flittinglaw06.DriveFlush': WHATEVER THE INPUT: true; the input reads as it did. -/
def driveFlushSpec : ChangeSpec := { name := "driveFlush", fn := fun _ => fun
  | [d1, d2, d3] => { results := [.lit (.bool true)], args := [d1, d2, d3] }
  | _ => none }
def driveFlushRow : OpenClaim := { program := "ytemmhjghlmhheaa", sum := "306004e384fe0b4f6882268f4d9010b6764f158f368ebcf1ff678b4cb563a0d9", func := "flitting/flittinglaw06.DriveFlush", spec := "driveFlush", apart := false }
def DriveFlushSaid : Prop := driveFlushRow.holds Try.pinned (OpenSpec.ofChange driveFlushSpec)

/-- ITS FALSE NEIGHBOUR: 'it returns false'. Refute it at one input. -/
def driveFlushWrong : ChangeSpec := { name := "driveFlush", fn := fun _ => fun
  | [d1, d2, d3] => { results := [.lit (.bool false)], args := [d1, d2, d3] }
  | _ => none }
def DriveFlushWrongFalsely : Prop := driveFlushRow.holds Try.pinned (OpenSpec.ofChange driveFlushWrong)

/-- 'flittinglaw06.DrivePlays': WHATEVER THE INPUT: true; the input reads as it did. -/
def drivePlaysSpec : ChangeSpec := { name := "drivePlays", fn := fun _ => fun
  | [d1, d2] => { results := [.lit (.bool true)], args := [d1, d2] }
  | _ => none }
def drivePlaysRow : OpenClaim := { program := "ytemmhjghlmhheaa", sum := "306004e384fe0b4f6882268f4d9010b6764f158f368ebcf1ff678b4cb563a0d9", func := "flitting/flittinglaw06.DrivePlays", spec := "drivePlays", apart := false }
def DrivePlaysSaid : Prop := drivePlaysRow.holds Try.pinned (OpenSpec.ofChange drivePlaysSpec)

/-- ITS FALSE NEIGHBOUR: 'it returns false'. Refute it at one input. -/
def drivePlaysWrong : ChangeSpec := { name := "drivePlays", fn := fun _ => fun
  | [d1, d2] => { results := [.lit (.bool false)], args := [d1, d2] }
  | _ => none }
def DrivePlaysWrongFalsely : Prop := drivePlaysRow.holds Try.pinned (OpenSpec.ofChange drivePlaysWrong)

/-- 'flittinglaw06.DriveNone': WHATEVER THE INPUT: true; the input reads as it did. -/
def driveNoneSpec : ChangeSpec := { name := "driveNone", fn := fun _ => fun
  | [d1, d2] => { results := [.lit (.bool true)], args := [d1, d2] }
  | _ => none }
def driveNoneRow : OpenClaim := { program := "ytemmhjghlmhheaa", sum := "306004e384fe0b4f6882268f4d9010b6764f158f368ebcf1ff678b4cb563a0d9", func := "flitting/flittinglaw06.DriveNone", spec := "driveNone", apart := false }
def DriveNoneSaid : Prop := driveNoneRow.holds Try.pinned (OpenSpec.ofChange driveNoneSpec)

/-- ITS FALSE NEIGHBOUR: 'it returns false'. Refute it at one input. -/
def driveNoneWrong : ChangeSpec := { name := "driveNone", fn := fun _ => fun
  | [d1, d2] => { results := [.lit (.bool false)], args := [d1, d2] }
  | _ => none }
def DriveNoneWrongFalsely : Prop := driveNoneRow.holds Try.pinned (OpenSpec.ofChange driveNoneWrong)

/-- 'flittinglaw06.DriveLost': WHATEVER THE INPUT: true; the input reads as it did. -/
def driveLostSpec : ChangeSpec := { name := "driveLost", fn := fun _ => fun
  | [d1, d2, d3] => { results := [.lit (.bool true)], args := [d1, d2, d3] }
  | _ => none }
def driveLostRow : OpenClaim := { program := "ytemmhjghlmhheaa", sum := "306004e384fe0b4f6882268f4d9010b6764f158f368ebcf1ff678b4cb563a0d9", func := "flitting/flittinglaw06.DriveLost", spec := "driveLost", apart := false }
def DriveLostSaid : Prop := driveLostRow.holds Try.pinned (OpenSpec.ofChange driveLostSpec)

/-- ITS FALSE NEIGHBOUR: 'it returns false'. Refute it at one input. -/
def driveLostWrong : ChangeSpec := { name := "driveLost", fn := fun _ => fun
  | [d1, d2, d3] => { results := [.lit (.bool false)], args := [d1, d2, d3] }
  | _ => none }
def DriveLostWrongFalsely : Prop := driveLostRow.holds Try.pinned (OpenSpec.ofChange driveLostWrong)

/- THE SECOND FORM. 'bulk': how many values and letters a reading holds, each counted each time it is reached (what is shared counts as often as it is met; a slice's spare places count too). A statement '..UptoSaid' is the law's where the arguments, and the package variables that the reading takes, are together of bulk at most 1048576: NARROWER than '..Said'. Prove '..Said' where nothing that the law and all that it calls make is longer than what came in: it says more and counts as full. Else prove '..UptoSaid'. A law counts once. -/
mutual
def uptoBulk {H : Type} : DataW H → Nat
  | .lit (.string bytes) => bytes.length + 1
  | .lit _ => 1
  | .nil => 1
  | .ptr d => uptoBulk d + 1
  | .slice elems spare => uptoBulkAll elems + uptoBulkAll spare + 1
  | .agg parts => uptoBulkAll parts + 1
  | .iface _ d => uptoBulk d + 1
  | .map entries => uptoBulkEntries entries + 1
  | .held _ => 1
def uptoBulkAll {H : Type} : List (DataW H) → Nat
  | [] => 0
  | d :: r => uptoBulk d + uptoBulkAll r
def uptoBulkEntries {H : Type} : List (Lit × DataW H) → Nat
  | [] => 0
  | x :: r => uptoBulkEntry x + uptoBulkEntries r
def uptoBulkEntry {H : Type} : Lit × DataW H → Nat
  | (.string bytes, d) => bytes.length + uptoBulk d + 1
  | (_, d) => uptoBulk d + 1
 end
def uptoSmall : (H : Type) → List (DataW H) → Bool := fun _ ds => decide (uptoBulkAll ds ≤ 1048576)
def OpenSpec.upto (s : _root_.Go.ChangeSpec) : _root_.Go.OpenSpec := { _root_.Go.OpenSpec.ofChange s with cond := some uptoSmall }

/-- 'flittinglaw06.DriveKeeps', WHERE WHAT IT READS IS OF BULK AT MOST 1048576: true; the input reads as it did. -/
def driveKeepsUptoRow : OpenClaim := { program := "ytemmhjghlmhheaa", sum := "306004e384fe0b4f6882268f4d9010b6764f158f368ebcf1ff678b4cb563a0d9", func := "flitting/flittinglaw06.DriveKeeps", spec := "driveKeeps", apart := false, narrowed := true }
def DriveKeepsUptoSaid : Prop := driveKeepsUptoRow.holds Try.pinned (OpenSpec.upto driveKeepsSpec)

/-- 'flittinglaw06.DriveFlush', WHERE WHAT IT READS IS OF BULK AT MOST 1048576: true; the input reads as it did. -/
def driveFlushUptoRow : OpenClaim := { program := "ytemmhjghlmhheaa", sum := "306004e384fe0b4f6882268f4d9010b6764f158f368ebcf1ff678b4cb563a0d9", func := "flitting/flittinglaw06.DriveFlush", spec := "driveFlush", apart := false, narrowed := true }
def DriveFlushUptoSaid : Prop := driveFlushUptoRow.holds Try.pinned (OpenSpec.upto driveFlushSpec)

/-- 'flittinglaw06.DrivePlays', WHERE WHAT IT READS IS OF BULK AT MOST 1048576: true; the input reads as it did. -/
def drivePlaysUptoRow : OpenClaim := { program := "ytemmhjghlmhheaa", sum := "306004e384fe0b4f6882268f4d9010b6764f158f368ebcf1ff678b4cb563a0d9", func := "flitting/flittinglaw06.DrivePlays", spec := "drivePlays", apart := false, narrowed := true }
def DrivePlaysUptoSaid : Prop := drivePlaysUptoRow.holds Try.pinned (OpenSpec.upto drivePlaysSpec)

/-- 'flittinglaw06.DriveNone', WHERE WHAT IT READS IS OF BULK AT MOST 1048576: true; the input reads as it did. -/
def driveNoneUptoRow : OpenClaim := { program := "ytemmhjghlmhheaa", sum := "306004e384fe0b4f6882268f4d9010b6764f158f368ebcf1ff678b4cb563a0d9", func := "flitting/flittinglaw06.DriveNone", spec := "driveNone", apart := false, narrowed := true }
def DriveNoneUptoSaid : Prop := driveNoneUptoRow.holds Try.pinned (OpenSpec.upto driveNoneSpec)

/-- 'flittinglaw06.DriveLost', WHERE WHAT IT READS IS OF BULK AT MOST 1048576: true; the input reads as it did. -/
def driveLostUptoRow : OpenClaim := { program := "ytemmhjghlmhheaa", sum := "306004e384fe0b4f6882268f4d9010b6764f158f368ebcf1ff678b4cb563a0d9", func := "flitting/flittinglaw06.DriveLost", spec := "driveLost", apart := false, narrowed := true }
def DriveLostUptoSaid : Prop := driveLostUptoRow.holds Try.pinned (OpenSpec.upto driveLostSpec)

end Rows
end Go.Proofs.Ytemmhjghlmhheaa
