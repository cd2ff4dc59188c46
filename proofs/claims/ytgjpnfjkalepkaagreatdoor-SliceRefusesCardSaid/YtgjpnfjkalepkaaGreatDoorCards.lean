/-
  DERIVED. GIVEN WITH THE SEED: THE CARDS: each row of YtgjpnfjkalepkaaGreatDoorRows.lean that lists a variable, with what it lists TIED to the program's text (the seventh form; the later family's looks); each row that meets fmt, with fmt's text TOLD by the authors' own Lean function (tested against real Go, not proved from fmt's source: count such statements apart). THE CARD IS WHAT COUNTS. Prove the row's statement (the work); the ties are given (YtgjpnfjkalepkaaGreatDoorTie.lean); close each card by the builder's one call (the guide's Derived/Test/ToyasCard.lean, 'card_holds'). Laid BY PROGRAM, IN A SANDBOX (cutbox-door.mjs). By AI agents, Wed Nov 11 2026. No macro, syntax, notation, axiom, sorry.
-/
import Derived.Test.YtgjpnfjkalepkaaGreatDoorRows
import GoSem.ClaimSeven
namespace Go.Proofs.YtgjpnfjkalepkaaGreatDoor
namespace Rows

/-- THE TIED CARD OF 'sparselaw40.SliceIsolates'. -/
def sliceIsolatesCard : Claim7 := { stood := { row := sliceIsolatesRow, standIns := [], harness := (true, "9bd2ae04036722d72946a89407d3531d3adc4dd33420ef3d6a4841bbf02c8d4d"), looks := false }, kinds := [], alts := [], laidByText := true, laidKinds := [.data], laidTests := true, laidLooks := .later }
def SliceIsolatesCardSaid : Prop := Claim7.holds Tryz.pinned (.plain (OpenSpec.ofChange sliceIsolatesSpec)) sliceIsolatesCard

/-- THE TIED CARD OF 'sparselaw40.SliceKth'. -/
def sliceKthCard : Claim7 := { stood := { row := sliceKthRow, standIns := [], harness := (true, "9bd2ae04036722d72946a89407d3531d3adc4dd33420ef3d6a4841bbf02c8d4d"), looks := false }, kinds := [], alts := [], laidByText := true, laidKinds := [.data], laidTests := true, laidLooks := .later }
def SliceKthCardSaid : Prop := Claim7.holds Tryz.pinned (.plain (OpenSpec.ofChange sliceKthSpec)) sliceKthCard

/-- THE TIED CARD OF 'sparselaw40.SliceChecks'. -/
def sliceChecksCard : Claim7 := { stood := { row := sliceChecksRow, standIns := [], harness := (true, "9bd2ae04036722d72946a89407d3531d3adc4dd33420ef3d6a4841bbf02c8d4d"), looks := false }, kinds := [], alts := [], laidByText := true, laidKinds := [.data], laidTests := true, laidLooks := .later }
def SliceChecksCardSaid : Prop := Claim7.holds Tryz.pinned (.plain (OpenSpec.ofChange sliceChecksSpec)) sliceChecksCard

/-- THE TIED CARD OF 'sparselaw40.SliceSound'. -/
def sliceSoundCard : Claim7 := { stood := { row := sliceSoundRow, standIns := [], harness := (true, "9bd2ae04036722d72946a89407d3531d3adc4dd33420ef3d6a4841bbf02c8d4d"), looks := false }, kinds := [], alts := [], laidByText := true, laidKinds := [.data], laidTests := true, laidLooks := .later }
def SliceSoundCardSaid : Prop := Claim7.holds Tryz.pinned (.plain (OpenSpec.ofChange sliceSoundSpec)) sliceSoundCard

/-- THE TIED CARD OF 'sparselaw40.SliceDiagonal'. -/
def sliceDiagonalCard : Claim7 := { stood := { row := sliceDiagonalRow, standIns := [], harness := (true, "9bd2ae04036722d72946a89407d3531d3adc4dd33420ef3d6a4841bbf02c8d4d"), looks := false }, kinds := [], alts := [], laidByText := true, laidKinds := [.data], laidTests := true, laidLooks := .later }
def SliceDiagonalCardSaid : Prop := Claim7.holds Tryz.pinned (.plain (OpenSpec.ofChange sliceDiagonalSpec)) sliceDiagonalCard

/-- THE TIED CARD OF 'sparselaw40.SliceNarrows'. -/
def sliceNarrowsCard : Claim7 := { stood := { row := sliceNarrowsRow, standIns := [], harness := (true, "9bd2ae04036722d72946a89407d3531d3adc4dd33420ef3d6a4841bbf02c8d4d"), looks := false }, kinds := [], alts := [], laidByText := true, laidKinds := [.data], laidTests := true, laidLooks := .later }
def SliceNarrowsCardSaid : Prop := Claim7.holds Tryz.pinned (.plain (OpenSpec.ofChange sliceNarrowsSpec)) sliceNarrowsCard

/-- THE TIED CARD OF 'sparselaw40.SliceRefuses'. -/
def sliceRefusesCard : Claim7 := { stood := { row := sliceRefusesRow, standIns := [], harness := (true, "9bd2ae04036722d72946a89407d3531d3adc4dd33420ef3d6a4841bbf02c8d4d"), looks := false }, kinds := [], alts := [], laidByText := true, laidKinds := [.data], laidTests := true, laidLooks := .later }
def SliceRefusesCardSaid : Prop := Claim7.holds Tryz.pinned (.plain (OpenSpec.ofChange sliceRefusesSpec)) sliceRefusesCard

/-- THE SECOND FORM's CARD OF 'sparselaw40.SliceIsolates'. -/
def sliceIsolatesUptoCard : Claim7 := { stood := { row := sliceIsolatesUptoRow, standIns := [], harness := (true, "9bd2ae04036722d72946a89407d3531d3adc4dd33420ef3d6a4841bbf02c8d4d"), looks := false }, kinds := [], alts := [], laidByText := true, laidKinds := [.data], laidTests := true, laidLooks := .later }
def SliceIsolatesUptoCardSaid : Prop := Claim7.holds Tryz.pinned (.plain (OpenSpec.upto sliceIsolatesSpec)) sliceIsolatesUptoCard

/-- THE SECOND FORM's CARD OF 'sparselaw40.SliceKth'. -/
def sliceKthUptoCard : Claim7 := { stood := { row := sliceKthUptoRow, standIns := [], harness := (true, "9bd2ae04036722d72946a89407d3531d3adc4dd33420ef3d6a4841bbf02c8d4d"), looks := false }, kinds := [], alts := [], laidByText := true, laidKinds := [.data], laidTests := true, laidLooks := .later }
def SliceKthUptoCardSaid : Prop := Claim7.holds Tryz.pinned (.plain (OpenSpec.upto sliceKthSpec)) sliceKthUptoCard

/-- THE SECOND FORM's CARD OF 'sparselaw40.SliceChecks'. -/
def sliceChecksUptoCard : Claim7 := { stood := { row := sliceChecksUptoRow, standIns := [], harness := (true, "9bd2ae04036722d72946a89407d3531d3adc4dd33420ef3d6a4841bbf02c8d4d"), looks := false }, kinds := [], alts := [], laidByText := true, laidKinds := [.data], laidTests := true, laidLooks := .later }
def SliceChecksUptoCardSaid : Prop := Claim7.holds Tryz.pinned (.plain (OpenSpec.upto sliceChecksSpec)) sliceChecksUptoCard

/-- THE SECOND FORM's CARD OF 'sparselaw40.SliceSound'. -/
def sliceSoundUptoCard : Claim7 := { stood := { row := sliceSoundUptoRow, standIns := [], harness := (true, "9bd2ae04036722d72946a89407d3531d3adc4dd33420ef3d6a4841bbf02c8d4d"), looks := false }, kinds := [], alts := [], laidByText := true, laidKinds := [.data], laidTests := true, laidLooks := .later }
def SliceSoundUptoCardSaid : Prop := Claim7.holds Tryz.pinned (.plain (OpenSpec.upto sliceSoundSpec)) sliceSoundUptoCard

/-- THE SECOND FORM's CARD OF 'sparselaw40.SliceDiagonal'. -/
def sliceDiagonalUptoCard : Claim7 := { stood := { row := sliceDiagonalUptoRow, standIns := [], harness := (true, "9bd2ae04036722d72946a89407d3531d3adc4dd33420ef3d6a4841bbf02c8d4d"), looks := false }, kinds := [], alts := [], laidByText := true, laidKinds := [.data], laidTests := true, laidLooks := .later }
def SliceDiagonalUptoCardSaid : Prop := Claim7.holds Tryz.pinned (.plain (OpenSpec.upto sliceDiagonalSpec)) sliceDiagonalUptoCard

/-- THE SECOND FORM's CARD OF 'sparselaw40.SliceNarrows'. -/
def sliceNarrowsUptoCard : Claim7 := { stood := { row := sliceNarrowsUptoRow, standIns := [], harness := (true, "9bd2ae04036722d72946a89407d3531d3adc4dd33420ef3d6a4841bbf02c8d4d"), looks := false }, kinds := [], alts := [], laidByText := true, laidKinds := [.data], laidTests := true, laidLooks := .later }
def SliceNarrowsUptoCardSaid : Prop := Claim7.holds Tryz.pinned (.plain (OpenSpec.upto sliceNarrowsSpec)) sliceNarrowsUptoCard

/-- THE SECOND FORM's CARD OF 'sparselaw40.SliceRefuses'. -/
def sliceRefusesUptoCard : Claim7 := { stood := { row := sliceRefusesUptoRow, standIns := [], harness := (true, "9bd2ae04036722d72946a89407d3531d3adc4dd33420ef3d6a4841bbf02c8d4d"), looks := false }, kinds := [], alts := [], laidByText := true, laidKinds := [.data], laidTests := true, laidLooks := .later }
def SliceRefusesUptoCardSaid : Prop := Claim7.holds Tryz.pinned (.plain (OpenSpec.upto sliceRefusesSpec)) sliceRefusesUptoCard
end Rows
end Go.Proofs.YtgjpnfjkalepkaaGreatDoor
