/-
  DERIVED. GIVEN WITH THE SEED: THE CARDS: each row of YtajikfmcbmhclaaGreatDoorRows.lean that lists a variable, with what it lists TIED to the program's text (the seventh form; the later family's looks); each row that meets fmt, with fmt's text TOLD by the authors' own Lean function (tested against real Go, not proved from fmt's source: count such statements apart). THE CARD IS WHAT COUNTS. Prove the row's statement (the work); the ties are given (YtajikfmcbmhclaaGreatDoorTie.lean); close each card by the builder's one call (the guide's Derived/Test/ToyasCard.lean, 'card_holds'). Laid BY PROGRAM, IN A SANDBOX (cutbox-door.mjs). By AI agents, Wed Nov 11 2026. No macro, syntax, notation, axiom, sorry.
-/
import Derived.Test.YtajikfmcbmhclaaGreatDoorRows
import GoSem.ClaimSeven
namespace Go.Proofs.YtajikfmcbmhclaaGreatDoor
namespace Rows

/-- THE TIED CARD OF 'sparselaw09.MatrixRound'. -/
def matrixRoundCard : Claim7 := { stood := { row := matrixRoundRow, standIns := [], harness := (true, "e2f0e6f84a517749cd6c4a6b0b51d04fde3e8bcd3f50353f637b66ce64a4e635"), looks := false }, kinds := [], alts := [], laidByText := true, laidKinds := [.data], laidTests := true, laidLooks := .later }
def MatrixRoundCardSaid : Prop := Claim7.holds Tryz.pinned (.plain (OpenSpec.ofChange matrixRoundSpec)) matrixRoundCard

/-- THE TIED CARD OF 'sparselaw09.MatrixMoves'. -/
def matrixMovesCard : Claim7 := { stood := { row := matrixMovesRow, standIns := [], harness := (true, "e2f0e6f84a517749cd6c4a6b0b51d04fde3e8bcd3f50353f637b66ce64a4e635"), looks := false }, kinds := [], alts := [], laidByText := true, laidKinds := [.data], laidTests := true, laidLooks := .later }
def MatrixMovesCardSaid : Prop := Claim7.holds Tryz.pinned (.plain (OpenSpec.ofChange matrixMovesSpec)) matrixMovesCard

/-- THE TIED CARD OF 'sparselaw09.MatrixTriangles'. -/
def matrixTrianglesCard : Claim7 := { stood := { row := matrixTrianglesRow, standIns := [], harness := (true, "e2f0e6f84a517749cd6c4a6b0b51d04fde3e8bcd3f50353f637b66ce64a4e635"), looks := false }, kinds := [], alts := [], laidByText := true, laidKinds := [.data], laidTests := true, laidLooks := .later }
def MatrixTrianglesCardSaid : Prop := Claim7.holds Tryz.pinned (.plain (OpenSpec.ofChange matrixTrianglesSpec)) matrixTrianglesCard

/-- THE SECOND FORM's CARD OF 'sparselaw09.MatrixRound'. -/
def matrixRoundUptoCard : Claim7 := { stood := { row := matrixRoundUptoRow, standIns := [], harness := (true, "e2f0e6f84a517749cd6c4a6b0b51d04fde3e8bcd3f50353f637b66ce64a4e635"), looks := false }, kinds := [], alts := [], laidByText := true, laidKinds := [.data], laidTests := true, laidLooks := .later }
def MatrixRoundUptoCardSaid : Prop := Claim7.holds Tryz.pinned (.plain (OpenSpec.upto matrixRoundSpec)) matrixRoundUptoCard

/-- THE SECOND FORM's CARD OF 'sparselaw09.MatrixMoves'. -/
def matrixMovesUptoCard : Claim7 := { stood := { row := matrixMovesUptoRow, standIns := [], harness := (true, "e2f0e6f84a517749cd6c4a6b0b51d04fde3e8bcd3f50353f637b66ce64a4e635"), looks := false }, kinds := [], alts := [], laidByText := true, laidKinds := [.data], laidTests := true, laidLooks := .later }
def MatrixMovesUptoCardSaid : Prop := Claim7.holds Tryz.pinned (.plain (OpenSpec.upto matrixMovesSpec)) matrixMovesUptoCard

/-- THE SECOND FORM's CARD OF 'sparselaw09.MatrixTriangles'. -/
def matrixTrianglesUptoCard : Claim7 := { stood := { row := matrixTrianglesUptoRow, standIns := [], harness := (true, "e2f0e6f84a517749cd6c4a6b0b51d04fde3e8bcd3f50353f637b66ce64a4e635"), looks := false }, kinds := [], alts := [], laidByText := true, laidKinds := [.data], laidTests := true, laidLooks := .later }
def MatrixTrianglesUptoCardSaid : Prop := Claim7.holds Tryz.pinned (.plain (OpenSpec.upto matrixTrianglesSpec)) matrixTrianglesUptoCard
end Rows
end Go.Proofs.YtajikfmcbmhclaaGreatDoor
