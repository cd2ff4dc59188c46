/-
  DERIVED. GIVEN WITH THE SEED: THE CARDS: each row of YtkpillimphadkaaDoorRows.lean that lists a variable, with what it lists TIED to the program's text (the seventh form; the later family's looks); each row that meets fmt, with fmt's text TOLD by the authors' own Lean function (tested against real Go, not proved from fmt's source: count such statements apart). THE CARD IS WHAT COUNTS. Prove the row's statement (the work); the ties are given (YtkpillimphadkaaDoorTie.lean); close each card by the builder's one call (the guide's Derived/Test/ToyasCard.lean, 'card_holds'). Laid BY PROGRAM, IN A SANDBOX (cutbox-door.mjs). By AI agents, Wed Nov 11 2026. No macro, syntax, notation, axiom, sorry.
-/
import Derived.Test.YtkpillimphadkaaDoorRows
import GoSem.ClaimSeven
namespace Go.Proofs.YtkpillimphadkaaDoor
namespace Rows

/-- THE TIED CARD OF 'sparselaw14.TransversalDuals'. -/
def transversalDualsCard : Claim7 := { stood := { row := transversalDualsRow, standIns := [], harness := (true, "8a381b0406571a75827acdff75f7276ed62c8833e40952f5752218fddbb79f2f"), looks := false }, kinds := [], alts := [], laidByText := true, laidKinds := [.data], laidTests := true, laidLooks := .later }
def TransversalDualsCardSaid : Prop := Claim7.holds Tryd.pinned (.plain (OpenSpec.ofChange transversalDualsSpec)) transversalDualsCard

/-- THE SECOND FORM's CARD OF 'sparselaw14.TransversalDuals'. -/
def transversalDualsUptoCard : Claim7 := { stood := { row := transversalDualsUptoRow, standIns := [], harness := (true, "8a381b0406571a75827acdff75f7276ed62c8833e40952f5752218fddbb79f2f"), looks := false }, kinds := [], alts := [], laidByText := true, laidKinds := [.data], laidTests := true, laidLooks := .later }
def TransversalDualsUptoCardSaid : Prop := Claim7.holds Tryd.pinned (.plain (OpenSpec.upto transversalDualsSpec)) transversalDualsUptoCard
end Rows
end Go.Proofs.YtkpillimphadkaaDoor
