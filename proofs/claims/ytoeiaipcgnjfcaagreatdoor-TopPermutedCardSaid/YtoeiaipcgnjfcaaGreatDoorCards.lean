/-
  DERIVED. GIVEN WITH THE SEED: THE CARDS: each row of YtoeiaipcgnjfcaaGreatDoorRows.lean that lists a variable, with what it lists TIED to the program's text (the seventh form; the later family's looks); each row that meets fmt, with fmt's text TOLD by the authors' own Lean function (tested against real Go, not proved from fmt's source: count such statements apart). THE CARD IS WHAT COUNTS. Prove the row's statement (the work); the ties are given (YtoeiaipcgnjfcaaGreatDoorTie.lean); close each card by the builder's one call (the guide's Derived/Test/ToyasCard.lean, 'card_holds'). Laid BY PROGRAM, IN A SANDBOX (cutbox-door.mjs). By AI agents, Wed Nov 11 2026. No macro, syntax, notation, axiom, sorry.
-/
import Derived.Test.YtoeiaipcgnjfcaaGreatDoorRows
import GoSem.ClaimSeven
namespace Go.Proofs.YtoeiaipcgnjfcaaGreatDoor
namespace Rows

/-- THE TIED CARD OF 'sparsetop.TopStructural'. -/
def topStructuralCard : Claim7 := { stood := { row := topStructuralRow, standIns := [], harness := (true, "9d59d0e8a0d8aa681570f77d805b005f88d05320775d649584e20c7704f57eb6"), looks := false }, kinds := [], alts := [], laidByText := true, laidKinds := [.data], laidTests := true, laidLooks := .later }
def TopStructuralCardSaid : Prop := Claim7.holds Tryz.pinned (.plain (OpenSpec.ofChange topStructuralSpec)) topStructuralCard

/-- THE TIED CARD OF 'sparsetop.TopPermuted'. -/
def topPermutedCard : Claim7 := { stood := { row := topPermutedRow, standIns := [], harness := (true, "9d59d0e8a0d8aa681570f77d805b005f88d05320775d649584e20c7704f57eb6"), looks := false }, kinds := [], alts := [], laidByText := true, laidKinds := [.data], laidTests := true, laidLooks := .later }
def TopPermutedCardSaid : Prop := Claim7.holds Tryz.pinned (.plain (OpenSpec.ofChange topPermutedSpec)) topPermutedCard

/-- THE TIED CARD OF 'sparsetop.TopGershgorin'. -/
def topGershgorinCard : Claim7 := { stood := { row := topGershgorinRow, standIns := [], harness := (true, "9d59d0e8a0d8aa681570f77d805b005f88d05320775d649584e20c7704f57eb6"), looks := false }, kinds := [], alts := [], laidByText := true, laidKinds := [.data], laidTests := true, laidLooks := .later }
def TopGershgorinCardSaid : Prop := Claim7.holds Tryz.pinned (.plain (OpenSpec.ofChange topGershgorinSpec)) topGershgorinCard

/-- THE SECOND FORM's CARD OF 'sparsetop.TopStructural'. -/
def topStructuralUptoCard : Claim7 := { stood := { row := topStructuralUptoRow, standIns := [], harness := (true, "9d59d0e8a0d8aa681570f77d805b005f88d05320775d649584e20c7704f57eb6"), looks := false }, kinds := [], alts := [], laidByText := true, laidKinds := [.data], laidTests := true, laidLooks := .later }
def TopStructuralUptoCardSaid : Prop := Claim7.holds Tryz.pinned (.plain (OpenSpec.upto topStructuralSpec)) topStructuralUptoCard

/-- THE SECOND FORM's CARD OF 'sparsetop.TopPermuted'. -/
def topPermutedUptoCard : Claim7 := { stood := { row := topPermutedUptoRow, standIns := [], harness := (true, "9d59d0e8a0d8aa681570f77d805b005f88d05320775d649584e20c7704f57eb6"), looks := false }, kinds := [], alts := [], laidByText := true, laidKinds := [.data], laidTests := true, laidLooks := .later }
def TopPermutedUptoCardSaid : Prop := Claim7.holds Tryz.pinned (.plain (OpenSpec.upto topPermutedSpec)) topPermutedUptoCard

/-- THE SECOND FORM's CARD OF 'sparsetop.TopGershgorin'. -/
def topGershgorinUptoCard : Claim7 := { stood := { row := topGershgorinUptoRow, standIns := [], harness := (true, "9d59d0e8a0d8aa681570f77d805b005f88d05320775d649584e20c7704f57eb6"), looks := false }, kinds := [], alts := [], laidByText := true, laidKinds := [.data], laidTests := true, laidLooks := .later }
def TopGershgorinUptoCardSaid : Prop := Claim7.holds Tryz.pinned (.plain (OpenSpec.upto topGershgorinSpec)) topGershgorinUptoCard
end Rows
end Go.Proofs.YtoeiaipcgnjfcaaGreatDoor
