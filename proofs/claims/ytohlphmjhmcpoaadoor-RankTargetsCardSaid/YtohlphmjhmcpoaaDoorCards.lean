/-
  DERIVED. GIVEN WITH THE SEED: THE CARDS: each row of YtohlphmjhmcpoaaDoorRows.lean that lists a variable, with what it lists TIED to the program's text (the seventh form; the later family's looks); each row that meets fmt, with fmt's text TOLD by the authors' own Lean function (tested against real Go, not proved from fmt's source: count such statements apart). THE CARD IS WHAT COUNTS. Prove the row's statement (the work); the ties are given (YtohlphmjhmcpoaaDoorTie.lean); close each card by the builder's one call (the guide's Derived/Test/ToyasCard.lean, 'card_holds'). Laid BY PROGRAM, IN A SANDBOX (cutbox-door.mjs). By AI agents, Wed Nov 11 2026. No macro, syntax, notation, axiom, sorry.
-/
import Derived.Test.YtohlphmjhmcpoaaDoorRows
import GoSem.ClaimSeven
namespace Go.Proofs.YtohlphmjhmcpoaaDoor
namespace Rows

/-- THE TIED CARD OF 'flittinglaw12.RankOrder'. -/
def rankOrderCard : Claim7 := { stood := { row := rankOrderRow, standIns := [], harness := (true, "28627fb01292499d8a71421165fecae35bcf07b32305fb4fe6d4a21ce51da524"), looks := false }, kinds := [], alts := [], laidByText := true, laidKinds := [.data], laidTests := true, laidLooks := .later }
def RankOrderCardSaid : Prop := Claim7.holds Tryd.pinned (.plain (OpenSpec.ofChange rankOrderSpec)) rankOrderCard

/-- THE TIED CARD OF 'flittinglaw12.RankTargets'. -/
def rankTargetsCard : Claim7 := { stood := { row := rankTargetsRow, standIns := [], harness := (true, "28627fb01292499d8a71421165fecae35bcf07b32305fb4fe6d4a21ce51da524"), looks := false }, kinds := [], alts := [], laidByText := true, laidKinds := [.data], laidTests := true, laidLooks := .later }
def RankTargetsCardSaid : Prop := Claim7.holds Tryd.pinned (.plain (OpenSpec.ofChange rankTargetsSpec)) rankTargetsCard

/-- THE TIED CARD OF 'flittinglaw12.RankFew'. -/
def rankFewCard : Claim7 := { stood := { row := rankFewRow, standIns := [], harness := (true, "28627fb01292499d8a71421165fecae35bcf07b32305fb4fe6d4a21ce51da524"), looks := false }, kinds := [], alts := [], laidByText := true, laidKinds := [.data], laidTests := true, laidLooks := .later }
def RankFewCardSaid : Prop := Claim7.holds Tryd.pinned (.plain (OpenSpec.ofChange rankFewSpec)) rankFewCard

/-- THE TIED CARD OF 'flittinglaw12.RankNear'. -/
def rankNearCard : Claim7 := { stood := { row := rankNearRow, standIns := [], harness := (true, "28627fb01292499d8a71421165fecae35bcf07b32305fb4fe6d4a21ce51da524"), looks := false }, kinds := [], alts := [], laidByText := true, laidKinds := [.data], laidTests := true, laidLooks := .later }
def RankNearCardSaid : Prop := Claim7.holds Tryd.pinned (.plain (OpenSpec.ofChange rankNearSpec)) rankNearCard

/-- THE TIED CARD OF 'flittinglaw12.RankSpreads'. -/
def rankSpreadsCard : Claim7 := { stood := { row := rankSpreadsRow, standIns := [], harness := (true, "28627fb01292499d8a71421165fecae35bcf07b32305fb4fe6d4a21ce51da524"), looks := false }, kinds := [], alts := [], laidByText := true, laidKinds := [.data], laidTests := true, laidLooks := .later }
def RankSpreadsCardSaid : Prop := Claim7.holds Tryd.pinned (.plain (OpenSpec.ofChange rankSpreadsSpec)) rankSpreadsCard

/-- THE SECOND FORM's CARD OF 'flittinglaw12.RankOrder'. -/
def rankOrderUptoCard : Claim7 := { stood := { row := rankOrderUptoRow, standIns := [], harness := (true, "28627fb01292499d8a71421165fecae35bcf07b32305fb4fe6d4a21ce51da524"), looks := false }, kinds := [], alts := [], laidByText := true, laidKinds := [.data], laidTests := true, laidLooks := .later }
def RankOrderUptoCardSaid : Prop := Claim7.holds Tryd.pinned (.plain (OpenSpec.upto rankOrderSpec)) rankOrderUptoCard

/-- THE SECOND FORM's CARD OF 'flittinglaw12.RankTargets'. -/
def rankTargetsUptoCard : Claim7 := { stood := { row := rankTargetsUptoRow, standIns := [], harness := (true, "28627fb01292499d8a71421165fecae35bcf07b32305fb4fe6d4a21ce51da524"), looks := false }, kinds := [], alts := [], laidByText := true, laidKinds := [.data], laidTests := true, laidLooks := .later }
def RankTargetsUptoCardSaid : Prop := Claim7.holds Tryd.pinned (.plain (OpenSpec.upto rankTargetsSpec)) rankTargetsUptoCard

/-- THE SECOND FORM's CARD OF 'flittinglaw12.RankFew'. -/
def rankFewUptoCard : Claim7 := { stood := { row := rankFewUptoRow, standIns := [], harness := (true, "28627fb01292499d8a71421165fecae35bcf07b32305fb4fe6d4a21ce51da524"), looks := false }, kinds := [], alts := [], laidByText := true, laidKinds := [.data], laidTests := true, laidLooks := .later }
def RankFewUptoCardSaid : Prop := Claim7.holds Tryd.pinned (.plain (OpenSpec.upto rankFewSpec)) rankFewUptoCard

/-- THE SECOND FORM's CARD OF 'flittinglaw12.RankNear'. -/
def rankNearUptoCard : Claim7 := { stood := { row := rankNearUptoRow, standIns := [], harness := (true, "28627fb01292499d8a71421165fecae35bcf07b32305fb4fe6d4a21ce51da524"), looks := false }, kinds := [], alts := [], laidByText := true, laidKinds := [.data], laidTests := true, laidLooks := .later }
def RankNearUptoCardSaid : Prop := Claim7.holds Tryd.pinned (.plain (OpenSpec.upto rankNearSpec)) rankNearUptoCard

/-- THE SECOND FORM's CARD OF 'flittinglaw12.RankSpreads'. -/
def rankSpreadsUptoCard : Claim7 := { stood := { row := rankSpreadsUptoRow, standIns := [], harness := (true, "28627fb01292499d8a71421165fecae35bcf07b32305fb4fe6d4a21ce51da524"), looks := false }, kinds := [], alts := [], laidByText := true, laidKinds := [.data], laidTests := true, laidLooks := .later }
def RankSpreadsUptoCardSaid : Prop := Claim7.holds Tryd.pinned (.plain (OpenSpec.upto rankSpreadsSpec)) rankSpreadsUptoCard
end Rows
end Go.Proofs.YtohlphmjhmcpoaaDoor
