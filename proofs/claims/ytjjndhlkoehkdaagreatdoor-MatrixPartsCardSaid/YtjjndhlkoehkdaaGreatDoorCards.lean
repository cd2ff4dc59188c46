/-
  DERIVED. GIVEN WITH THE SEED: THE CARDS: each row of YtjjndhlkoehkdaaGreatDoorRows.lean that lists a variable, with what it lists TIED to the program's text (the seventh form; the later family's looks); each row that meets fmt, with fmt's text TOLD by the authors' own Lean function (tested against real Go, not proved from fmt's source: count such statements apart). THE CARD IS WHAT COUNTS. Prove the row's statement (the work); the ties are given (YtjjndhlkoehkdaaGreatDoorTie.lean); close each card by the builder's one call (the guide's Derived/Test/ToyasCard.lean, 'card_holds'). Laid BY PROGRAM, IN A SANDBOX (cutbox-door.mjs). By AI agents, Wed Nov 11 2026. No macro, syntax, notation, axiom, sorry.
-/
import Derived.Test.YtjjndhlkoehkdaaGreatDoorRows
import GoSem.ClaimSeven
namespace Go.Proofs.YtjjndhlkoehkdaaGreatDoor
namespace Rows

/-- THE TIED CARD OF 'sparselaw09.MatrixBuilt'. -/
def matrixBuiltCard : Claim7 := { stood := { row := matrixBuiltRow, standIns := [], harness := (true, "0763cd43defbd36ff89b7ac93597ae3c70d028363aad958699f61e5393047b51"), looks := false }, kinds := [], alts := [], laidByText := true, laidKinds := [.data], laidTests := true, laidLooks := .later }
def MatrixBuiltCardSaid : Prop := Claim7.holds Tryz.pinned (.plain (OpenSpec.ofChange matrixBuiltSpec)) matrixBuiltCard

/-- THE TIED CARD OF 'sparselaw09.MatrixProducts'. -/
def matrixProductsCard : Claim7 := { stood := { row := matrixProductsRow, standIns := [], harness := (true, "0763cd43defbd36ff89b7ac93597ae3c70d028363aad958699f61e5393047b51"), looks := false }, kinds := [], alts := [], laidByText := true, laidKinds := [.data], laidTests := true, laidLooks := .later }
def MatrixProductsCardSaid : Prop := Claim7.holds Tryz.pinned (.plain (OpenSpec.ofChange matrixProductsSpec)) matrixProductsCard

/-- THE TIED CARD OF 'sparselaw09.MatrixAdjoint'. -/
def matrixAdjointCard : Claim7 := { stood := { row := matrixAdjointRow, standIns := [], harness := (true, "0763cd43defbd36ff89b7ac93597ae3c70d028363aad958699f61e5393047b51"), looks := false }, kinds := [], alts := [], laidByText := true, laidKinds := [.data], laidTests := true, laidLooks := .later }
def MatrixAdjointCardSaid : Prop := Claim7.holds Tryz.pinned (.plain (OpenSpec.ofChange matrixAdjointSpec)) matrixAdjointCard

/-- THE TIED CARD OF 'sparselaw09.MatrixWhole'. -/
def matrixWholeCard : Claim7 := { stood := { row := matrixWholeRow, standIns := [], harness := (true, "0763cd43defbd36ff89b7ac93597ae3c70d028363aad958699f61e5393047b51"), looks := false }, kinds := [], alts := [], laidByText := true, laidKinds := [.data], laidTests := true, laidLooks := .later }
def MatrixWholeCardSaid : Prop := Claim7.holds Tryz.pinned (.plain (OpenSpec.ofChange matrixWholeSpec)) matrixWholeCard

/-- THE TIED CARD OF 'sparselaw09.MatrixShifted'. -/
def matrixShiftedCard : Claim7 := { stood := { row := matrixShiftedRow, standIns := [], harness := (true, "0763cd43defbd36ff89b7ac93597ae3c70d028363aad958699f61e5393047b51"), looks := false }, kinds := [], alts := [], laidByText := true, laidKinds := [.data], laidTests := true, laidLooks := .later }
def MatrixShiftedCardSaid : Prop := Claim7.holds Tryz.pinned (.plain (OpenSpec.ofChange matrixShiftedSpec)) matrixShiftedCard

/-- THE TIED CARD OF 'sparselaw09.MatrixParts'. -/
def matrixPartsCard : Claim7 := { stood := { row := matrixPartsRow, standIns := [], harness := (true, "0763cd43defbd36ff89b7ac93597ae3c70d028363aad958699f61e5393047b51"), looks := false }, kinds := [], alts := [], laidByText := true, laidKinds := [.data], laidTests := true, laidLooks := .later }
def MatrixPartsCardSaid : Prop := Claim7.holds Tryz.pinned (.plain (OpenSpec.ofChange matrixPartsSpec)) matrixPartsCard

/-- THE TIED CARD OF 'sparselaw09.MatrixScales'. -/
def matrixScalesCard : Claim7 := { stood := { row := matrixScalesRow, standIns := [], harness := (true, "0763cd43defbd36ff89b7ac93597ae3c70d028363aad958699f61e5393047b51"), looks := false }, kinds := [], alts := [], laidByText := true, laidKinds := [.data], laidTests := true, laidLooks := .later }
def MatrixScalesCardSaid : Prop := Claim7.holds Tryz.pinned (.plain (OpenSpec.ofChange matrixScalesSpec)) matrixScalesCard

/-- THE SECOND FORM's CARD OF 'sparselaw09.MatrixBuilt'. -/
def matrixBuiltUptoCard : Claim7 := { stood := { row := matrixBuiltUptoRow, standIns := [], harness := (true, "0763cd43defbd36ff89b7ac93597ae3c70d028363aad958699f61e5393047b51"), looks := false }, kinds := [], alts := [], laidByText := true, laidKinds := [.data], laidTests := true, laidLooks := .later }
def MatrixBuiltUptoCardSaid : Prop := Claim7.holds Tryz.pinned (.plain (OpenSpec.upto matrixBuiltSpec)) matrixBuiltUptoCard

/-- THE SECOND FORM's CARD OF 'sparselaw09.MatrixProducts'. -/
def matrixProductsUptoCard : Claim7 := { stood := { row := matrixProductsUptoRow, standIns := [], harness := (true, "0763cd43defbd36ff89b7ac93597ae3c70d028363aad958699f61e5393047b51"), looks := false }, kinds := [], alts := [], laidByText := true, laidKinds := [.data], laidTests := true, laidLooks := .later }
def MatrixProductsUptoCardSaid : Prop := Claim7.holds Tryz.pinned (.plain (OpenSpec.upto matrixProductsSpec)) matrixProductsUptoCard

/-- THE SECOND FORM's CARD OF 'sparselaw09.MatrixAdjoint'. -/
def matrixAdjointUptoCard : Claim7 := { stood := { row := matrixAdjointUptoRow, standIns := [], harness := (true, "0763cd43defbd36ff89b7ac93597ae3c70d028363aad958699f61e5393047b51"), looks := false }, kinds := [], alts := [], laidByText := true, laidKinds := [.data], laidTests := true, laidLooks := .later }
def MatrixAdjointUptoCardSaid : Prop := Claim7.holds Tryz.pinned (.plain (OpenSpec.upto matrixAdjointSpec)) matrixAdjointUptoCard

/-- THE SECOND FORM's CARD OF 'sparselaw09.MatrixWhole'. -/
def matrixWholeUptoCard : Claim7 := { stood := { row := matrixWholeUptoRow, standIns := [], harness := (true, "0763cd43defbd36ff89b7ac93597ae3c70d028363aad958699f61e5393047b51"), looks := false }, kinds := [], alts := [], laidByText := true, laidKinds := [.data], laidTests := true, laidLooks := .later }
def MatrixWholeUptoCardSaid : Prop := Claim7.holds Tryz.pinned (.plain (OpenSpec.upto matrixWholeSpec)) matrixWholeUptoCard

/-- THE SECOND FORM's CARD OF 'sparselaw09.MatrixShifted'. -/
def matrixShiftedUptoCard : Claim7 := { stood := { row := matrixShiftedUptoRow, standIns := [], harness := (true, "0763cd43defbd36ff89b7ac93597ae3c70d028363aad958699f61e5393047b51"), looks := false }, kinds := [], alts := [], laidByText := true, laidKinds := [.data], laidTests := true, laidLooks := .later }
def MatrixShiftedUptoCardSaid : Prop := Claim7.holds Tryz.pinned (.plain (OpenSpec.upto matrixShiftedSpec)) matrixShiftedUptoCard

/-- THE SECOND FORM's CARD OF 'sparselaw09.MatrixParts'. -/
def matrixPartsUptoCard : Claim7 := { stood := { row := matrixPartsUptoRow, standIns := [], harness := (true, "0763cd43defbd36ff89b7ac93597ae3c70d028363aad958699f61e5393047b51"), looks := false }, kinds := [], alts := [], laidByText := true, laidKinds := [.data], laidTests := true, laidLooks := .later }
def MatrixPartsUptoCardSaid : Prop := Claim7.holds Tryz.pinned (.plain (OpenSpec.upto matrixPartsSpec)) matrixPartsUptoCard

/-- THE SECOND FORM's CARD OF 'sparselaw09.MatrixScales'. -/
def matrixScalesUptoCard : Claim7 := { stood := { row := matrixScalesUptoRow, standIns := [], harness := (true, "0763cd43defbd36ff89b7ac93597ae3c70d028363aad958699f61e5393047b51"), looks := false }, kinds := [], alts := [], laidByText := true, laidKinds := [.data], laidTests := true, laidLooks := .later }
def MatrixScalesUptoCardSaid : Prop := Claim7.holds Tryz.pinned (.plain (OpenSpec.upto matrixScalesSpec)) matrixScalesUptoCard
end Rows
end Go.Proofs.YtjjndhlkoehkdaaGreatDoor
