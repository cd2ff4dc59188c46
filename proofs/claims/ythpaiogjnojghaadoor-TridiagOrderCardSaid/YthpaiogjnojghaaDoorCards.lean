/-
  DERIVED. GIVEN WITH THE SEED: THE CARDS: each row of YthpaiogjnojghaaDoorRows.lean that lists a variable, with what it lists TIED to the program's text (the seventh form; the later family's looks); each row that meets fmt, with fmt's text TOLD by the authors' own Lean function (tested against real Go, not proved from fmt's source: count such statements apart). THE CARD IS WHAT COUNTS. Prove the row's statement (the work); the ties are given (YthpaiogjnojghaaDoorTie.lean); close each card by the builder's one call (the guide's Derived/Test/ToyasCard.lean, 'card_holds'). Laid BY PROGRAM, IN A SANDBOX (cutbox-door.mjs). By AI agents, Wed Nov 11 2026. No macro, syntax, notation, axiom, sorry.
-/
import Derived.Test.YthpaiogjnojghaaDoorRows
import GoSem.ClaimSeven
namespace Go.Proofs.YthpaiogjnojghaaDoor
namespace Rows

/-- THE TIED CARD OF 'sparselaw37.TridiagKeys'. -/
def tridiagKeysCard : Claim7 := { stood := { row := tridiagKeysRow, standIns := [], harness := (true, "16f50c6be9492917a094cdb05f1890aa4ed9df047ffff4792225daeed00fa2e9"), looks := false }, kinds := [], alts := [], laidByText := true, laidKinds := [.data], laidTests := true, laidLooks := .later }
def TridiagKeysCardSaid : Prop := Claim7.holds Tryd.pinned (.plain (OpenSpec.ofChange tridiagKeysSpec)) tridiagKeysCard

/-- THE TIED CARD OF 'sparselaw37.TridiagOrder'. -/
def tridiagOrderCard : Claim7 := { stood := { row := tridiagOrderRow, standIns := [], harness := (true, "16f50c6be9492917a094cdb05f1890aa4ed9df047ffff4792225daeed00fa2e9"), looks := false }, kinds := [], alts := [], laidByText := true, laidKinds := [.data], laidTests := true, laidLooks := .later }
def TridiagOrderCardSaid : Prop := Claim7.holds Tryd.pinned (.plain (OpenSpec.ofChange tridiagOrderSpec)) tridiagOrderCard

/-- THE SECOND FORM's CARD OF 'sparselaw37.TridiagKeys'. -/
def tridiagKeysUptoCard : Claim7 := { stood := { row := tridiagKeysUptoRow, standIns := [], harness := (true, "16f50c6be9492917a094cdb05f1890aa4ed9df047ffff4792225daeed00fa2e9"), looks := false }, kinds := [], alts := [], laidByText := true, laidKinds := [.data], laidTests := true, laidLooks := .later }
def TridiagKeysUptoCardSaid : Prop := Claim7.holds Tryd.pinned (.plain (OpenSpec.upto tridiagKeysSpec)) tridiagKeysUptoCard

/-- THE SECOND FORM's CARD OF 'sparselaw37.TridiagOrder'. -/
def tridiagOrderUptoCard : Claim7 := { stood := { row := tridiagOrderUptoRow, standIns := [], harness := (true, "16f50c6be9492917a094cdb05f1890aa4ed9df047ffff4792225daeed00fa2e9"), looks := false }, kinds := [], alts := [], laidByText := true, laidKinds := [.data], laidTests := true, laidLooks := .later }
def TridiagOrderUptoCardSaid : Prop := Claim7.holds Tryd.pinned (.plain (OpenSpec.upto tridiagOrderSpec)) tridiagOrderUptoCard
end Rows
end Go.Proofs.YthpaiogjnojghaaDoor
