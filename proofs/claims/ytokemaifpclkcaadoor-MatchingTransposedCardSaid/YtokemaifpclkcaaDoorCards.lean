/-
  DERIVED. GIVEN WITH THE SEED: THE CARDS: each row of YtokemaifpclkcaaDoorRows.lean that lists a variable, with what it lists TIED to the program's text (the seventh form; the later family's looks); each row that meets fmt, with fmt's text TOLD by the authors' own Lean function (tested against real Go, not proved from fmt's source: count such statements apart). THE CARD IS WHAT COUNTS. Prove the row's statement (the work); the ties are given (YtokemaifpclkcaaDoorTie.lean); close each card by the builder's one call (the guide's Derived/Test/ToyasCard.lean, 'card_holds'). Laid BY PROGRAM, IN A SANDBOX (cutbox-door.mjs). By AI agents, Wed Nov 11 2026. No macro, syntax, notation, axiom, sorry.
-/
import Derived.Test.YtokemaifpclkcaaDoorRows
import GoSem.ClaimSeven
namespace Go.Proofs.YtokemaifpclkcaaDoor
namespace Rows

/-- THE TIED CARD OF 'sparselaw13.MatchingMade'. -/
def matchingMadeCard : Claim7 := { stood := { row := matchingMadeRow, standIns := [], harness := (true, "859153cb83bb15ac6eb4161bafb10e68eea07de79fc5cd041a04d65ff49e57c5"), looks := false }, kinds := [], alts := [], laidByText := true, laidKinds := [.data], laidTests := true, laidLooks := .later }
def MatchingMadeCardSaid : Prop := Claim7.holds Tryd.pinned (.plain (OpenSpec.ofChange matchingMadeSpec)) matchingMadeCard

/-- THE TIED CARD OF 'sparselaw13.MatchingKonig'. -/
def matchingKonigCard : Claim7 := { stood := { row := matchingKonigRow, standIns := [], harness := (true, "859153cb83bb15ac6eb4161bafb10e68eea07de79fc5cd041a04d65ff49e57c5"), looks := false }, kinds := [], alts := [], laidByText := true, laidKinds := [.data], laidTests := true, laidLooks := .later }
def MatchingKonigCardSaid : Prop := Claim7.holds Tryd.pinned (.plain (OpenSpec.ofChange matchingKonigSpec)) matchingKonigCard

/-- THE TIED CARD OF 'sparselaw13.MatchingGreatest'. -/
def matchingGreatestCard : Claim7 := { stood := { row := matchingGreatestRow, standIns := [], harness := (true, "859153cb83bb15ac6eb4161bafb10e68eea07de79fc5cd041a04d65ff49e57c5"), looks := false }, kinds := [], alts := [], laidByText := true, laidKinds := [.data], laidTests := true, laidLooks := .later }
def MatchingGreatestCardSaid : Prop := Claim7.holds Tryd.pinned (.plain (OpenSpec.ofChange matchingGreatestSpec)) matchingGreatestCard

/-- THE TIED CARD OF 'sparselaw13.MatchingEntry'. -/
def matchingEntryCard : Claim7 := { stood := { row := matchingEntryRow, standIns := [], harness := (true, "859153cb83bb15ac6eb4161bafb10e68eea07de79fc5cd041a04d65ff49e57c5"), looks := false }, kinds := [], alts := [], laidByText := true, laidKinds := [.data], laidTests := true, laidLooks := .later }
def MatchingEntryCardSaid : Prop := Claim7.holds Tryd.pinned (.plain (OpenSpec.ofChange matchingEntrySpec)) matchingEntryCard

/-- THE TIED CARD OF 'sparselaw13.MatchingProof'. -/
def matchingProofCard : Claim7 := { stood := { row := matchingProofRow, standIns := [], harness := (true, "859153cb83bb15ac6eb4161bafb10e68eea07de79fc5cd041a04d65ff49e57c5"), looks := false }, kinds := [], alts := [], laidByText := true, laidKinds := [.data], laidTests := true, laidLooks := .later }
def MatchingProofCardSaid : Prop := Claim7.holds Tryd.pinned (.plain (OpenSpec.ofChange matchingProofSpec)) matchingProofCard

/-- THE TIED CARD OF 'sparselaw13.MatchingTransposed'. -/
def matchingTransposedCard : Claim7 := { stood := { row := matchingTransposedRow, standIns := [], harness := (true, "859153cb83bb15ac6eb4161bafb10e68eea07de79fc5cd041a04d65ff49e57c5"), looks := false }, kinds := [], alts := [], laidByText := true, laidKinds := [.data], laidTests := true, laidLooks := .later }
def MatchingTransposedCardSaid : Prop := Claim7.holds Tryd.pinned (.plain (OpenSpec.ofChange matchingTransposedSpec)) matchingTransposedCard

/-- THE SECOND FORM's CARD OF 'sparselaw13.MatchingMade'. -/
def matchingMadeUptoCard : Claim7 := { stood := { row := matchingMadeUptoRow, standIns := [], harness := (true, "859153cb83bb15ac6eb4161bafb10e68eea07de79fc5cd041a04d65ff49e57c5"), looks := false }, kinds := [], alts := [], laidByText := true, laidKinds := [.data], laidTests := true, laidLooks := .later }
def MatchingMadeUptoCardSaid : Prop := Claim7.holds Tryd.pinned (.plain (OpenSpec.upto matchingMadeSpec)) matchingMadeUptoCard

/-- THE SECOND FORM's CARD OF 'sparselaw13.MatchingKonig'. -/
def matchingKonigUptoCard : Claim7 := { stood := { row := matchingKonigUptoRow, standIns := [], harness := (true, "859153cb83bb15ac6eb4161bafb10e68eea07de79fc5cd041a04d65ff49e57c5"), looks := false }, kinds := [], alts := [], laidByText := true, laidKinds := [.data], laidTests := true, laidLooks := .later }
def MatchingKonigUptoCardSaid : Prop := Claim7.holds Tryd.pinned (.plain (OpenSpec.upto matchingKonigSpec)) matchingKonigUptoCard

/-- THE SECOND FORM's CARD OF 'sparselaw13.MatchingGreatest'. -/
def matchingGreatestUptoCard : Claim7 := { stood := { row := matchingGreatestUptoRow, standIns := [], harness := (true, "859153cb83bb15ac6eb4161bafb10e68eea07de79fc5cd041a04d65ff49e57c5"), looks := false }, kinds := [], alts := [], laidByText := true, laidKinds := [.data], laidTests := true, laidLooks := .later }
def MatchingGreatestUptoCardSaid : Prop := Claim7.holds Tryd.pinned (.plain (OpenSpec.upto matchingGreatestSpec)) matchingGreatestUptoCard

/-- THE SECOND FORM's CARD OF 'sparselaw13.MatchingEntry'. -/
def matchingEntryUptoCard : Claim7 := { stood := { row := matchingEntryUptoRow, standIns := [], harness := (true, "859153cb83bb15ac6eb4161bafb10e68eea07de79fc5cd041a04d65ff49e57c5"), looks := false }, kinds := [], alts := [], laidByText := true, laidKinds := [.data], laidTests := true, laidLooks := .later }
def MatchingEntryUptoCardSaid : Prop := Claim7.holds Tryd.pinned (.plain (OpenSpec.upto matchingEntrySpec)) matchingEntryUptoCard

/-- THE SECOND FORM's CARD OF 'sparselaw13.MatchingProof'. -/
def matchingProofUptoCard : Claim7 := { stood := { row := matchingProofUptoRow, standIns := [], harness := (true, "859153cb83bb15ac6eb4161bafb10e68eea07de79fc5cd041a04d65ff49e57c5"), looks := false }, kinds := [], alts := [], laidByText := true, laidKinds := [.data], laidTests := true, laidLooks := .later }
def MatchingProofUptoCardSaid : Prop := Claim7.holds Tryd.pinned (.plain (OpenSpec.upto matchingProofSpec)) matchingProofUptoCard

/-- THE SECOND FORM's CARD OF 'sparselaw13.MatchingTransposed'. -/
def matchingTransposedUptoCard : Claim7 := { stood := { row := matchingTransposedUptoRow, standIns := [], harness := (true, "859153cb83bb15ac6eb4161bafb10e68eea07de79fc5cd041a04d65ff49e57c5"), looks := false }, kinds := [], alts := [], laidByText := true, laidKinds := [.data], laidTests := true, laidLooks := .later }
def MatchingTransposedUptoCardSaid : Prop := Claim7.holds Tryd.pinned (.plain (OpenSpec.upto matchingTransposedSpec)) matchingTransposedUptoCard
end Rows
end Go.Proofs.YtokemaifpclkcaaDoor
