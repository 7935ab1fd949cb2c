/-
  No cell of these rows narrows 'for every input' (looked for: loops, veiled, ifaces, maps, wideKeys, modest, calm, conditions, laid).
  DERIVED. THE GIVEN ROWS OF THIS SEAT. 4 by the template 'for every input the law returns true; each argument reads behind the call as it read before'; 0 by the template 'total and deterministic' (their statements: YtfcfiojkkpnhlaaTotals.lean).
  GIVEN WITH THE SEED: the statements are not yours to turn. If you find one false, say at which input.
  Laid BY PROGRAM, IN A SANDBOX (cutbox-rows.mjs): the forced cells as the released guide's own fill.sh prints them over the translation 53f49b2bdb18aad1… (all of the seat's roots in one cut). By AI agents, Wed Nov 11 2026. No macro, syntax, notation, axiom, sorry.
-/
import Derived.Test.YtfcfiojkkpnhlaaChecked
import GoSem.Claim
import GoSem.ClaimJoined
import GoSem.ClaimMapViews
import Derived.JoinedTies
import Derived.KernelRfl
namespace Go.Proofs.Ytfcfiojkkpnhlaa
/- THE CELL 'sum', in the pinned program and in every row, IS THE sha256 OF THE DUMP (.gsa) THAT YtfcfiojkkpnhlaaProg.lean LOADS. Nothing in Lean hashes anything: it is a label: what it is worth is what the hold of that sum in a sandbox is worth. -/
noncomputable def Try.pinned : Pinned := { name := "ytfcfiojkkpnhlaa", sum := "53f49b2bdb18aad17ef15204d3438c3fce1bf37bbd7adcdb319f513389eeeb94", checked := Try.checked }
namespace Rows
def none {H : Type} : Left H := { results := [], args := [] }

/-- 'flittinglaw21.HistAdds': WHATEVER THE INPUT: true; the input reads as it did. -/
def histAddsSpec : ChangeSpec := { name := "histAdds", fn := fun _ => fun
  | [d] => { results := [.lit (.bool true)], args := [d] }
  | _ => none }
def histAddsRow : OpenClaim := { program := "ytfcfiojkkpnhlaa", sum := "53f49b2bdb18aad17ef15204d3438c3fce1bf37bbd7adcdb319f513389eeeb94", func := "flitting/flittinglaw21.HistAdds", spec := "histAdds", apart := false }
def HistAddsSaid : Prop := histAddsRow.holds Try.pinned (OpenSpec.ofChange histAddsSpec)

/-- ITS FALSE NEIGHBOUR: 'it returns false'. Refute it at one input. -/
def histAddsWrong : ChangeSpec := { name := "histAdds", fn := fun _ => fun
  | [d] => { results := [.lit (.bool false)], args := [d] }
  | _ => none }
def HistAddsWrongFalsely : Prop := histAddsRow.holds Try.pinned (OpenSpec.ofChange histAddsWrong)

/-- 'flittinglaw21.HistOwn': WHATEVER THE INPUT: true; the input reads as it did. -/
def histOwnSpec : ChangeSpec := { name := "histOwn", fn := fun _ => fun
  | [d] => { results := [.lit (.bool true)], args := [d] }
  | _ => none }
def histOwnRow : OpenClaim := { program := "ytfcfiojkkpnhlaa", sum := "53f49b2bdb18aad17ef15204d3438c3fce1bf37bbd7adcdb319f513389eeeb94", func := "flitting/flittinglaw21.HistOwn", spec := "histOwn", apart := false }
def HistOwnSaid : Prop := histOwnRow.holds Try.pinned (OpenSpec.ofChange histOwnSpec)

/-- ITS FALSE NEIGHBOUR: 'it returns false'. Refute it at one input. -/
def histOwnWrong : ChangeSpec := { name := "histOwn", fn := fun _ => fun
  | [d] => { results := [.lit (.bool false)], args := [d] }
  | _ => none }
def HistOwnWrongFalsely : Prop := histOwnRow.holds Try.pinned (OpenSpec.ofChange histOwnWrong)

/-- 'flittinglaw21.HistNone': WHATEVER THE INPUT: true; the input reads as it did. -/
def histNoneSpec : ChangeSpec := { name := "histNone", fn := fun _ => fun
  | [d1, d2] => { results := [.lit (.bool true)], args := [d1, d2] }
  | _ => none }
def histNoneRow : OpenClaim := { program := "ytfcfiojkkpnhlaa", sum := "53f49b2bdb18aad17ef15204d3438c3fce1bf37bbd7adcdb319f513389eeeb94", func := "flitting/flittinglaw21.HistNone", spec := "histNone", apart := false }
def HistNoneSaid : Prop := histNoneRow.holds Try.pinned (OpenSpec.ofChange histNoneSpec)

/-- ITS FALSE NEIGHBOUR: 'it returns false'. Refute it at one input. -/
def histNoneWrong : ChangeSpec := { name := "histNone", fn := fun _ => fun
  | [d1, d2] => { results := [.lit (.bool false)], args := [d1, d2] }
  | _ => none }
def HistNoneWrongFalsely : Prop := histNoneRow.holds Try.pinned (OpenSpec.ofChange histNoneWrong)

/-- 'flittinglaw21.HistOnce': WHATEVER THE INPUT: true; the input reads as it did. -/
def histOnceSpec : ChangeSpec := { name := "histOnce", fn := fun _ => fun
  | [d1, d2] => { results := [.lit (.bool true)], args := [d1, d2] }
  | _ => none }
def histOnceRow : OpenClaim := { program := "ytfcfiojkkpnhlaa", sum := "53f49b2bdb18aad17ef15204d3438c3fce1bf37bbd7adcdb319f513389eeeb94", func := "flitting/flittinglaw21.HistOnce", spec := "histOnce", apart := false }
def HistOnceSaid : Prop := histOnceRow.holds Try.pinned (OpenSpec.ofChange histOnceSpec)

/-- ITS FALSE NEIGHBOUR: 'it returns false'. Refute it at one input. -/
def histOnceWrong : ChangeSpec := { name := "histOnce", fn := fun _ => fun
  | [d1, d2] => { results := [.lit (.bool false)], args := [d1, d2] }
  | _ => none }
def HistOnceWrongFalsely : Prop := histOnceRow.holds Try.pinned (OpenSpec.ofChange histOnceWrong)

/- THE SECOND FORM. 'bulk': how many values and letters a reading holds, each counted each time it is reached (what is shared counts as often as it is met; a slice's spare places count too). A statement '..UptoSaid' is the law's where the arguments, and the package variables that the reading takes, are together of bulk at most 1048576: NARROWER than '..Said'. Prove '..Said' where nothing that the law and all that it calls make is longer than what came in: it says more and counts as full. Else prove '..UptoSaid'. A law counts once. -/
mutual
def uptoBulk {H : Type} : DataW H → Nat
  | .lit (.string bytes) => bytes.length + 1
  | .lit _ => 1
  | .nil => 1
  | .ptr d => uptoBulk d + 1
  | .slice elems spare => uptoBulkAll elems + uptoBulkAll spare + 1
  | .agg parts => uptoBulkAll parts + 1
  | .iface _ d => uptoBulk d + 1
  | .map entries => uptoBulkEntries entries + 1
  | .held _ => 1
def uptoBulkAll {H : Type} : List (DataW H) → Nat
  | [] => 0
  | d :: r => uptoBulk d + uptoBulkAll r
def uptoBulkEntries {H : Type} : List (Lit × DataW H) → Nat
  | [] => 0
  | x :: r => uptoBulkEntry x + uptoBulkEntries r
def uptoBulkEntry {H : Type} : Lit × DataW H → Nat
  | (.string bytes, d) => bytes.length + uptoBulk d + 1
  | (_, d) => uptoBulk d + 1
 end
def uptoSmall : (H : Type) → List (DataW H) → Bool := fun _ ds => decide (uptoBulkAll ds ≤ 1048576)
def OpenSpec.upto (s : _root_.Go.ChangeSpec) : _root_.Go.OpenSpec := { _root_.Go.OpenSpec.ofChange s with cond := some uptoSmall }

/-- 'flittinglaw21.HistAdds', WHERE WHAT IT READS IS OF BULK AT MOST 1048576: true; the input reads as it did. -/
def histAddsUptoRow : OpenClaim := { program := "ytfcfiojkkpnhlaa", sum := "53f49b2bdb18aad17ef15204d3438c3fce1bf37bbd7adcdb319f513389eeeb94", func := "flitting/flittinglaw21.HistAdds", spec := "histAdds", apart := false, narrowed := true }
def HistAddsUptoSaid : Prop := histAddsUptoRow.holds Try.pinned (OpenSpec.upto histAddsSpec)

/-- 'flittinglaw21.HistOwn', WHERE WHAT IT READS IS OF BULK AT MOST 1048576: true; the input reads as it did. -/
def histOwnUptoRow : OpenClaim := { program := "ytfcfiojkkpnhlaa", sum := "53f49b2bdb18aad17ef15204d3438c3fce1bf37bbd7adcdb319f513389eeeb94", func := "flitting/flittinglaw21.HistOwn", spec := "histOwn", apart := false, narrowed := true }
def HistOwnUptoSaid : Prop := histOwnUptoRow.holds Try.pinned (OpenSpec.upto histOwnSpec)

/-- 'flittinglaw21.HistNone', WHERE WHAT IT READS IS OF BULK AT MOST 1048576: true; the input reads as it did. -/
def histNoneUptoRow : OpenClaim := { program := "ytfcfiojkkpnhlaa", sum := "53f49b2bdb18aad17ef15204d3438c3fce1bf37bbd7adcdb319f513389eeeb94", func := "flitting/flittinglaw21.HistNone", spec := "histNone", apart := false, narrowed := true }
def HistNoneUptoSaid : Prop := histNoneUptoRow.holds Try.pinned (OpenSpec.upto histNoneSpec)

/-- 'flittinglaw21.HistOnce', WHERE WHAT IT READS IS OF BULK AT MOST 1048576: true; the input reads as it did. -/
def histOnceUptoRow : OpenClaim := { program := "ytfcfiojkkpnhlaa", sum := "53f49b2bdb18aad17ef15204d3438c3fce1bf37bbd7adcdb319f513389eeeb94", func := "flitting/flittinglaw21.HistOnce", spec := "histOnce", apart := false, narrowed := true }
def HistOnceUptoSaid : Prop := histOnceUptoRow.holds Try.pinned (OpenSpec.upto histOnceSpec)

end Rows
end Go.Proofs.Ytfcfiojkkpnhlaa
