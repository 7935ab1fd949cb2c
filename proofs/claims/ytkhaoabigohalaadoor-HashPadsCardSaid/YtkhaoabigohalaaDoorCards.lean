/-
  DERIVED. GIVEN WITH THE SEED: THE CARDS: each row of YtkhaoabigohalaaDoorRows.lean that lists a variable, with what it lists TIED to the program's text (the seventh form; the later family's looks); each row that meets fmt, with fmt's text TOLD by the authors' own Lean function (tested against real Go, not proved from fmt's source: count such statements apart). THE CARD IS WHAT COUNTS. Prove the row's statement (the work); the ties are given (YtkhaoabigohalaaDoorTie.lean); close each card by the builder's one call (the guide's Derived/Test/ToyasCard.lean, 'card_holds'). Laid BY PROGRAM, IN A SANDBOX (cutbox-door.mjs). By AI agents, Wed Nov 11 2026. No macro, syntax, notation, axiom, sorry.
-/
import Derived.Test.YtkhaoabigohalaaDoorRows
import GoSem.ClaimSeven
namespace Go.Proofs.YtkhaoabigohalaaDoor
namespace Rows

/-- THE TIED CARD OF 'flittinglaw05.HashSum'. -/
def hashSumCard : Claim7 := { stood := { row := hashSumRow, standIns := [], harness := (true, "586e0ffbc06151f0d22fa13332643dcb49f94165401418baafa7b85a43d55fbd"), looks := false }, kinds := [], alts := [], laidByText := true, laidKinds := [.data], laidTests := true, laidLooks := .later }
def HashSumCardSaid : Prop := Claim7.holds Tryd.pinned (.plain (OpenSpec.ofChange hashSumSpec)) hashSumCard

/-- THE TIED CARD OF 'flittinglaw05.HashPads'. -/
def hashPadsCard : Claim7 := { stood := { row := hashPadsRow, standIns := [], harness := (true, "586e0ffbc06151f0d22fa13332643dcb49f94165401418baafa7b85a43d55fbd"), looks := false }, kinds := [], alts := [], laidByText := true, laidKinds := [.data], laidTests := true, laidLooks := .later }
def HashPadsCardSaid : Prop := Claim7.holds Tryd.pinned (.plain (OpenSpec.ofChange hashPadsSpec)) hashPadsCard

/-- THE TIED CARD OF 'flittinglaw05.HashWeight'. -/
def hashWeightCard : Claim7 := { stood := { row := hashWeightRow, standIns := [], harness := (true, "586e0ffbc06151f0d22fa13332643dcb49f94165401418baafa7b85a43d55fbd"), looks := false }, kinds := [], alts := [], laidByText := true, laidKinds := [.data], laidTests := true, laidLooks := .later }
def HashWeightCardSaid : Prop := Claim7.holds Tryd.pinned (.plain (OpenSpec.ofChange hashWeightSpec)) hashWeightCard

/-- THE SECOND FORM's CARD OF 'flittinglaw05.HashSum'. -/
def hashSumUptoCard : Claim7 := { stood := { row := hashSumUptoRow, standIns := [], harness := (true, "586e0ffbc06151f0d22fa13332643dcb49f94165401418baafa7b85a43d55fbd"), looks := false }, kinds := [], alts := [], laidByText := true, laidKinds := [.data], laidTests := true, laidLooks := .later }
def HashSumUptoCardSaid : Prop := Claim7.holds Tryd.pinned (.plain (OpenSpec.upto hashSumSpec)) hashSumUptoCard

/-- THE SECOND FORM's CARD OF 'flittinglaw05.HashPads'. -/
def hashPadsUptoCard : Claim7 := { stood := { row := hashPadsUptoRow, standIns := [], harness := (true, "586e0ffbc06151f0d22fa13332643dcb49f94165401418baafa7b85a43d55fbd"), looks := false }, kinds := [], alts := [], laidByText := true, laidKinds := [.data], laidTests := true, laidLooks := .later }
def HashPadsUptoCardSaid : Prop := Claim7.holds Tryd.pinned (.plain (OpenSpec.upto hashPadsSpec)) hashPadsUptoCard

/-- THE SECOND FORM's CARD OF 'flittinglaw05.HashWeight'. -/
def hashWeightUptoCard : Claim7 := { stood := { row := hashWeightUptoRow, standIns := [], harness := (true, "586e0ffbc06151f0d22fa13332643dcb49f94165401418baafa7b85a43d55fbd"), looks := false }, kinds := [], alts := [], laidByText := true, laidKinds := [.data], laidTests := true, laidLooks := .later }
def HashWeightUptoCardSaid : Prop := Claim7.holds Tryd.pinned (.plain (OpenSpec.upto hashWeightSpec)) hashWeightUptoCard
end Rows
end Go.Proofs.YtkhaoabigohalaaDoor
