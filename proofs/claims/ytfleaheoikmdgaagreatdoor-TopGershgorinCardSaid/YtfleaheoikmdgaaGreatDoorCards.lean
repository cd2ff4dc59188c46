/-
  DERIVED. GIVEN WITH THE SEED: THE CARDS: each row of YtfleaheoikmdgaaGreatDoorRows.lean that lists a variable, with what it lists TIED to the program's text (the seventh form; the later family's looks); each row that meets fmt, with fmt's text TOLD by the authors' own Lean function (tested against real Go, not proved from fmt's source: count such statements apart). THE CARD IS WHAT COUNTS. Prove the row's statement (the work); the ties are given (YtfleaheoikmdgaaGreatDoorTie.lean); close each card by the builder's one call (the guide's Derived/Test/ToyasCard.lean, 'card_holds'). Laid BY PROGRAM, IN A SANDBOX (cutbox-door.mjs). By AI agents, Wed Nov 11 2026. No macro, syntax, notation, axiom, sorry.
-/
import Derived.Test.YtfleaheoikmdgaaGreatDoorRows
import GoSem.ClaimSeven
namespace Go.Proofs.YtfleaheoikmdgaaGreatDoor
namespace Rows

/-- THE TIED CARD OF 'sparsetop.TopGershgorin'. -/
def topGershgorinCard : Claim7 := { stood := { row := topGershgorinRow, standIns := [], harness := (true, "0a053eabb105e38855f72321953c01d0fad6984a8f160092e332c64533dcaa4e"), looks := false }, kinds := [], alts := [], laidByText := true, laidKinds := [.data], laidTests := true, laidLooks := .later }
def TopGershgorinCardSaid : Prop := Claim7.holds Tryz.pinned (.plain (OpenSpec.ofChange topGershgorinSpec)) topGershgorinCard

/-- THE SECOND FORM's CARD OF 'sparsetop.TopGershgorin'. -/
def topGershgorinUptoCard : Claim7 := { stood := { row := topGershgorinUptoRow, standIns := [], harness := (true, "0a053eabb105e38855f72321953c01d0fad6984a8f160092e332c64533dcaa4e"), looks := false }, kinds := [], alts := [], laidByText := true, laidKinds := [.data], laidTests := true, laidLooks := .later }
def TopGershgorinUptoCardSaid : Prop := Claim7.holds Tryz.pinned (.plain (OpenSpec.upto topGershgorinSpec)) topGershgorinUptoCard
end Rows
end Go.Proofs.YtfleaheoikmdgaaGreatDoor
