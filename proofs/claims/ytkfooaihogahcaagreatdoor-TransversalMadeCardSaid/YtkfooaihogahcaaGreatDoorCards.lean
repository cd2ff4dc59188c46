/-
  DERIVED. GIVEN WITH THE SEED: THE CARDS: each row of YtkfooaihogahcaaGreatDoorRows.lean that lists a variable, with what it lists TIED to the program's text (the seventh form; the later family's looks); each row that meets fmt, with fmt's text TOLD by the authors' own Lean function (tested against real Go, not proved from fmt's source: count such statements apart). THE CARD IS WHAT COUNTS. Prove the row's statement (the work); the ties are given (YtkfooaihogahcaaGreatDoorTie.lean); close each card by the builder's one call (the guide's Derived/Test/ToyasCard.lean, 'card_holds'). Laid BY PROGRAM, IN A SANDBOX (cutbox-door.mjs). By AI agents, Wed Nov 11 2026. No macro, syntax, notation, axiom, sorry.
-/
import Derived.Test.YtkfooaihogahcaaGreatDoorRows
import GoSem.ClaimSeven
namespace Go.Proofs.YtkfooaihogahcaaGreatDoor
namespace Rows

/-- THE TIED CARD OF 'sparselaw14.TransversalInvariant'. -/
def transversalInvariantCard : Claim7 := { stood := { row := transversalInvariantRow, standIns := [], harness := (true, "c01b0fa3131cd9c09563c906774e438d888cb3b206207d1d2456e52a95aacd96"), looks := false }, kinds := [], alts := [], laidByText := true, laidKinds := [.data], laidTests := true, laidLooks := .later }
def TransversalInvariantCardSaid : Prop := Claim7.holds Tryz.pinned (.plain (OpenSpec.ofChange transversalInvariantSpec)) transversalInvariantCard

/-- THE TIED CARD OF 'sparselaw14.TransversalExact'. -/
def transversalExactCard : Claim7 := { stood := { row := transversalExactRow, standIns := [], harness := (true, "c01b0fa3131cd9c09563c906774e438d888cb3b206207d1d2456e52a95aacd96"), looks := false }, kinds := [], alts := [], laidByText := true, laidKinds := [.data], laidTests := true, laidLooks := .later }
def TransversalExactCardSaid : Prop := Claim7.holds Tryz.pinned (.plain (OpenSpec.ofChange transversalExactSpec)) transversalExactCard

/-- THE TIED CARD OF 'sparselaw14.TransversalMade'. -/
def transversalMadeCard : Claim7 := { stood := { row := transversalMadeRow, standIns := [], harness := (true, "c01b0fa3131cd9c09563c906774e438d888cb3b206207d1d2456e52a95aacd96"), looks := false }, kinds := [], alts := [], laidByText := true, laidKinds := [.data], laidTests := true, laidLooks := .later }
def TransversalMadeCardSaid : Prop := Claim7.holds Tryz.pinned (.plain (OpenSpec.ofChange transversalMadeSpec)) transversalMadeCard

/-- THE TIED CARD OF 'sparselaw14.TransversalScaled'. -/
def transversalScaledCard : Claim7 := { stood := { row := transversalScaledRow, standIns := [], harness := (true, "c01b0fa3131cd9c09563c906774e438d888cb3b206207d1d2456e52a95aacd96"), looks := false }, kinds := [], alts := [], laidByText := true, laidKinds := [.data], laidTests := true, laidLooks := .later }
def TransversalScaledCardSaid : Prop := Claim7.holds Tryz.pinned (.plain (OpenSpec.ofChange transversalScaledSpec)) transversalScaledCard

/-- THE SECOND FORM's CARD OF 'sparselaw14.TransversalInvariant'. -/
def transversalInvariantUptoCard : Claim7 := { stood := { row := transversalInvariantUptoRow, standIns := [], harness := (true, "c01b0fa3131cd9c09563c906774e438d888cb3b206207d1d2456e52a95aacd96"), looks := false }, kinds := [], alts := [], laidByText := true, laidKinds := [.data], laidTests := true, laidLooks := .later }
def TransversalInvariantUptoCardSaid : Prop := Claim7.holds Tryz.pinned (.plain (OpenSpec.upto transversalInvariantSpec)) transversalInvariantUptoCard

/-- THE SECOND FORM's CARD OF 'sparselaw14.TransversalExact'. -/
def transversalExactUptoCard : Claim7 := { stood := { row := transversalExactUptoRow, standIns := [], harness := (true, "c01b0fa3131cd9c09563c906774e438d888cb3b206207d1d2456e52a95aacd96"), looks := false }, kinds := [], alts := [], laidByText := true, laidKinds := [.data], laidTests := true, laidLooks := .later }
def TransversalExactUptoCardSaid : Prop := Claim7.holds Tryz.pinned (.plain (OpenSpec.upto transversalExactSpec)) transversalExactUptoCard

/-- THE SECOND FORM's CARD OF 'sparselaw14.TransversalMade'. -/
def transversalMadeUptoCard : Claim7 := { stood := { row := transversalMadeUptoRow, standIns := [], harness := (true, "c01b0fa3131cd9c09563c906774e438d888cb3b206207d1d2456e52a95aacd96"), looks := false }, kinds := [], alts := [], laidByText := true, laidKinds := [.data], laidTests := true, laidLooks := .later }
def TransversalMadeUptoCardSaid : Prop := Claim7.holds Tryz.pinned (.plain (OpenSpec.upto transversalMadeSpec)) transversalMadeUptoCard

/-- THE SECOND FORM's CARD OF 'sparselaw14.TransversalScaled'. -/
def transversalScaledUptoCard : Claim7 := { stood := { row := transversalScaledUptoRow, standIns := [], harness := (true, "c01b0fa3131cd9c09563c906774e438d888cb3b206207d1d2456e52a95aacd96"), looks := false }, kinds := [], alts := [], laidByText := true, laidKinds := [.data], laidTests := true, laidLooks := .later }
def TransversalScaledUptoCardSaid : Prop := Claim7.holds Tryz.pinned (.plain (OpenSpec.upto transversalScaledSpec)) transversalScaledUptoCard
end Rows
end Go.Proofs.YtkfooaihogahcaaGreatDoor
