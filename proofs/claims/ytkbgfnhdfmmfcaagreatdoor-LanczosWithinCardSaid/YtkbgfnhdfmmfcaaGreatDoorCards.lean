/-
  DERIVED. GIVEN WITH THE SEED: THE CARDS: each row of YtkbgfnhdfmmfcaaGreatDoorRows.lean that lists a variable, with what it lists TIED to the program's text (the seventh form; the later family's looks); each row that meets fmt, with fmt's text TOLD by the authors' own Lean function (tested against real Go, not proved from fmt's source: count such statements apart). THE CARD IS WHAT COUNTS. Prove the row's statement (the work); the ties are given (YtkbgfnhdfmmfcaaGreatDoorTie.lean); close each card by the builder's one call (the guide's Derived/Test/ToyasCard.lean, 'card_holds'). Laid BY PROGRAM, IN A SANDBOX (cutbox-door.mjs). By AI agents, Wed Nov 11 2026. No macro, syntax, notation, axiom, sorry.
-/
import Derived.Test.YtkbgfnhdfmmfcaaGreatDoorRows
import GoSem.ClaimSeven
namespace Go.Proofs.YtkbgfnhdfmmfcaaGreatDoor
namespace Rows

/-- THE TIED CARD OF 'sparselaw38.LanczosRuns'. -/
def lanczosRunsCard : Claim7 := { stood := { row := lanczosRunsRow, standIns := [], harness := (true, "3e49bbf93bc434d8cc85d591b516ba55f735f315f6e2ef24e2a1ab0407c5db8d"), looks := false }, kinds := [], alts := [], laidByText := true, laidKinds := [.data], laidTests := true, laidLooks := .later }
def LanczosRunsCardSaid : Prop := Claim7.holds Tryz.pinned (.plain (OpenSpec.ofChange lanczosRunsSpec)) lanczosRunsCard

/-- THE TIED CARD OF 'sparselaw38.LanczosRefuses'. -/
def lanczosRefusesCard : Claim7 := { stood := { row := lanczosRefusesRow, standIns := [], harness := (true, "3e49bbf93bc434d8cc85d591b516ba55f735f315f6e2ef24e2a1ab0407c5db8d"), looks := false }, kinds := [], alts := [], laidByText := true, laidKinds := [.data], laidTests := true, laidLooks := .later }
def LanczosRefusesCardSaid : Prop := Claim7.holds Tryz.pinned (.plain (OpenSpec.ofChange lanczosRefusesSpec)) lanczosRefusesCard

/-- THE TIED CARD OF 'sparselaw38.LanczosUnit'. -/
def lanczosUnitCard : Claim7 := { stood := { row := lanczosUnitRow, standIns := [], harness := (true, "3e49bbf93bc434d8cc85d591b516ba55f735f315f6e2ef24e2a1ab0407c5db8d"), looks := false }, kinds := [], alts := [], laidByText := true, laidKinds := [.data], laidTests := true, laidLooks := .later }
def LanczosUnitCardSaid : Prop := Claim7.holds Tryz.pinned (.plain (OpenSpec.ofChange lanczosUnitSpec)) lanczosUnitCard

/-- THE TIED CARD OF 'sparselaw38.LanczosDiagonal'. -/
def lanczosDiagonalCard : Claim7 := { stood := { row := lanczosDiagonalRow, standIns := [], harness := (true, "3e49bbf93bc434d8cc85d591b516ba55f735f315f6e2ef24e2a1ab0407c5db8d"), looks := false }, kinds := [], alts := [], laidByText := true, laidKinds := [.data], laidTests := true, laidLooks := .later }
def LanczosDiagonalCardSaid : Prop := Claim7.holds Tryz.pinned (.plain (OpenSpec.ofChange lanczosDiagonalSpec)) lanczosDiagonalCard

/-- THE TIED CARD OF 'sparselaw38.LanczosMeasures'. -/
def lanczosMeasuresCard : Claim7 := { stood := { row := lanczosMeasuresRow, standIns := [], harness := (true, "3e49bbf93bc434d8cc85d591b516ba55f735f315f6e2ef24e2a1ab0407c5db8d"), looks := false }, kinds := [], alts := [], laidByText := true, laidKinds := [.data], laidTests := true, laidLooks := .later }
def LanczosMeasuresCardSaid : Prop := Claim7.holds Tryz.pinned (.plain (OpenSpec.ofChange lanczosMeasuresSpec)) lanczosMeasuresCard

/-- THE TIED CARD OF 'sparselaw38.LanczosRitz'. -/
def lanczosRitzCard : Claim7 := { stood := { row := lanczosRitzRow, standIns := [], harness := (true, "3e49bbf93bc434d8cc85d591b516ba55f735f315f6e2ef24e2a1ab0407c5db8d"), looks := false }, kinds := [], alts := [], laidByText := true, laidKinds := [.data], laidTests := true, laidLooks := .later }
def LanczosRitzCardSaid : Prop := Claim7.holds Tryz.pinned (.plain (OpenSpec.ofChange lanczosRitzSpec)) lanczosRitzCard

/-- THE TIED CARD OF 'sparselaw38.LanczosWithin'. -/
def lanczosWithinCard : Claim7 := { stood := { row := lanczosWithinRow, standIns := [], harness := (true, "3e49bbf93bc434d8cc85d591b516ba55f735f315f6e2ef24e2a1ab0407c5db8d"), looks := false }, kinds := [], alts := [], laidByText := true, laidKinds := [.data], laidTests := true, laidLooks := .later }
def LanczosWithinCardSaid : Prop := Claim7.holds Tryz.pinned (.plain (OpenSpec.ofChange lanczosWithinSpec)) lanczosWithinCard

/-- THE SECOND FORM's CARD OF 'sparselaw38.LanczosRuns'. -/
def lanczosRunsUptoCard : Claim7 := { stood := { row := lanczosRunsUptoRow, standIns := [], harness := (true, "3e49bbf93bc434d8cc85d591b516ba55f735f315f6e2ef24e2a1ab0407c5db8d"), looks := false }, kinds := [], alts := [], laidByText := true, laidKinds := [.data], laidTests := true, laidLooks := .later }
def LanczosRunsUptoCardSaid : Prop := Claim7.holds Tryz.pinned (.plain (OpenSpec.upto lanczosRunsSpec)) lanczosRunsUptoCard

/-- THE SECOND FORM's CARD OF 'sparselaw38.LanczosRefuses'. -/
def lanczosRefusesUptoCard : Claim7 := { stood := { row := lanczosRefusesUptoRow, standIns := [], harness := (true, "3e49bbf93bc434d8cc85d591b516ba55f735f315f6e2ef24e2a1ab0407c5db8d"), looks := false }, kinds := [], alts := [], laidByText := true, laidKinds := [.data], laidTests := true, laidLooks := .later }
def LanczosRefusesUptoCardSaid : Prop := Claim7.holds Tryz.pinned (.plain (OpenSpec.upto lanczosRefusesSpec)) lanczosRefusesUptoCard

/-- THE SECOND FORM's CARD OF 'sparselaw38.LanczosUnit'. -/
def lanczosUnitUptoCard : Claim7 := { stood := { row := lanczosUnitUptoRow, standIns := [], harness := (true, "3e49bbf93bc434d8cc85d591b516ba55f735f315f6e2ef24e2a1ab0407c5db8d"), looks := false }, kinds := [], alts := [], laidByText := true, laidKinds := [.data], laidTests := true, laidLooks := .later }
def LanczosUnitUptoCardSaid : Prop := Claim7.holds Tryz.pinned (.plain (OpenSpec.upto lanczosUnitSpec)) lanczosUnitUptoCard

/-- THE SECOND FORM's CARD OF 'sparselaw38.LanczosDiagonal'. -/
def lanczosDiagonalUptoCard : Claim7 := { stood := { row := lanczosDiagonalUptoRow, standIns := [], harness := (true, "3e49bbf93bc434d8cc85d591b516ba55f735f315f6e2ef24e2a1ab0407c5db8d"), looks := false }, kinds := [], alts := [], laidByText := true, laidKinds := [.data], laidTests := true, laidLooks := .later }
def LanczosDiagonalUptoCardSaid : Prop := Claim7.holds Tryz.pinned (.plain (OpenSpec.upto lanczosDiagonalSpec)) lanczosDiagonalUptoCard

/-- THE SECOND FORM's CARD OF 'sparselaw38.LanczosMeasures'. -/
def lanczosMeasuresUptoCard : Claim7 := { stood := { row := lanczosMeasuresUptoRow, standIns := [], harness := (true, "3e49bbf93bc434d8cc85d591b516ba55f735f315f6e2ef24e2a1ab0407c5db8d"), looks := false }, kinds := [], alts := [], laidByText := true, laidKinds := [.data], laidTests := true, laidLooks := .later }
def LanczosMeasuresUptoCardSaid : Prop := Claim7.holds Tryz.pinned (.plain (OpenSpec.upto lanczosMeasuresSpec)) lanczosMeasuresUptoCard

/-- THE SECOND FORM's CARD OF 'sparselaw38.LanczosRitz'. -/
def lanczosRitzUptoCard : Claim7 := { stood := { row := lanczosRitzUptoRow, standIns := [], harness := (true, "3e49bbf93bc434d8cc85d591b516ba55f735f315f6e2ef24e2a1ab0407c5db8d"), looks := false }, kinds := [], alts := [], laidByText := true, laidKinds := [.data], laidTests := true, laidLooks := .later }
def LanczosRitzUptoCardSaid : Prop := Claim7.holds Tryz.pinned (.plain (OpenSpec.upto lanczosRitzSpec)) lanczosRitzUptoCard

/-- THE SECOND FORM's CARD OF 'sparselaw38.LanczosWithin'. -/
def lanczosWithinUptoCard : Claim7 := { stood := { row := lanczosWithinUptoRow, standIns := [], harness := (true, "3e49bbf93bc434d8cc85d591b516ba55f735f315f6e2ef24e2a1ab0407c5db8d"), looks := false }, kinds := [], alts := [], laidByText := true, laidKinds := [.data], laidTests := true, laidLooks := .later }
def LanczosWithinUptoCardSaid : Prop := Claim7.holds Tryz.pinned (.plain (OpenSpec.upto lanczosWithinSpec)) lanczosWithinUptoCard
end Rows
end Go.Proofs.YtkbgfnhdfmmfcaaGreatDoor
