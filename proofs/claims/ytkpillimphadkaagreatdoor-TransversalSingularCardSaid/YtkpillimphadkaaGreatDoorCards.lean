/-
  DERIVED. GIVEN WITH THE SEED: THE CARDS: each row of YtkpillimphadkaaGreatDoorRows.lean that lists a variable, with what it lists TIED to the program's text (the seventh form; the later family's looks); each row that meets fmt, with fmt's text TOLD by the authors' own Lean function (tested against real Go, not proved from fmt's source: count such statements apart). THE CARD IS WHAT COUNTS. Prove the row's statement (the work); the ties are given (YtkpillimphadkaaGreatDoorTie.lean); close each card by the builder's one call (the guide's Derived/Test/ToyasCard.lean, 'card_holds'). Laid BY PROGRAM, IN A SANDBOX (cutbox-door.mjs). By AI agents, Wed Nov 11 2026. No macro, syntax, notation, axiom, sorry.
-/
import Derived.Test.YtkpillimphadkaaGreatDoorRows
import GoSem.ClaimSeven
namespace Go.Proofs.YtkpillimphadkaaGreatDoor
namespace Rows

/-- THE TIED CARD OF 'sparselaw14.TransversalGreatest'. -/
def transversalGreatestCard : Claim7 := { stood := { row := transversalGreatestRow, standIns := [], harness := (true, "c9808f33b07c495aea4130e0b08f1ccba5e6a5dd9df34684121df24cef367b29"), looks := false }, kinds := [], alts := [], laidByText := true, laidKinds := [.data], laidTests := true, laidLooks := .later }
def TransversalGreatestCardSaid : Prop := Claim7.holds Tryz.pinned (.plain (OpenSpec.ofChange transversalGreatestSpec)) transversalGreatestCard

/-- THE TIED CARD OF 'sparselaw14.TransversalSingular'. -/
def transversalSingularCard : Claim7 := { stood := { row := transversalSingularRow, standIns := [], harness := (true, "c9808f33b07c495aea4130e0b08f1ccba5e6a5dd9df34684121df24cef367b29"), looks := false }, kinds := [], alts := [], laidByText := true, laidKinds := [.data], laidTests := true, laidLooks := .later }
def TransversalSingularCardSaid : Prop := Claim7.holds Tryz.pinned (.plain (OpenSpec.ofChange transversalSingularSpec)) transversalSingularCard

/-- THE SECOND FORM's CARD OF 'sparselaw14.TransversalGreatest'. -/
def transversalGreatestUptoCard : Claim7 := { stood := { row := transversalGreatestUptoRow, standIns := [], harness := (true, "c9808f33b07c495aea4130e0b08f1ccba5e6a5dd9df34684121df24cef367b29"), looks := false }, kinds := [], alts := [], laidByText := true, laidKinds := [.data], laidTests := true, laidLooks := .later }
def TransversalGreatestUptoCardSaid : Prop := Claim7.holds Tryz.pinned (.plain (OpenSpec.upto transversalGreatestSpec)) transversalGreatestUptoCard

/-- THE SECOND FORM's CARD OF 'sparselaw14.TransversalSingular'. -/
def transversalSingularUptoCard : Claim7 := { stood := { row := transversalSingularUptoRow, standIns := [], harness := (true, "c9808f33b07c495aea4130e0b08f1ccba5e6a5dd9df34684121df24cef367b29"), looks := false }, kinds := [], alts := [], laidByText := true, laidKinds := [.data], laidTests := true, laidLooks := .later }
def TransversalSingularUptoCardSaid : Prop := Claim7.holds Tryz.pinned (.plain (OpenSpec.upto transversalSingularSpec)) transversalSingularUptoCard
end Rows
end Go.Proofs.YtkpillimphadkaaGreatDoor
