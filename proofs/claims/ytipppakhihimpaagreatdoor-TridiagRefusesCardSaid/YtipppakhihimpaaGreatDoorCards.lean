/-
  DERIVED. GIVEN WITH THE SEED: THE CARDS: each row of YtipppakhihimpaaGreatDoorRows.lean that lists a variable, with what it lists TIED to the program's text (the seventh form; the later family's looks); each row that meets fmt, with fmt's text TOLD by the authors' own Lean function (tested against real Go, not proved from fmt's source: count such statements apart). THE CARD IS WHAT COUNTS. Prove the row's statement (the work); the ties are given (YtipppakhihimpaaGreatDoorTie.lean); close each card by the builder's one call (the guide's Derived/Test/ToyasCard.lean, 'card_holds'). Laid BY PROGRAM, IN A SANDBOX (cutbox-door.mjs). By AI agents, Wed Nov 11 2026. No macro, syntax, notation, axiom, sorry.
-/
import Derived.Test.YtipppakhihimpaaGreatDoorRows
import GoSem.ClaimSeven
namespace Go.Proofs.YtipppakhihimpaaGreatDoor
namespace Rows

/-- THE TIED CARD OF 'sparselaw37.TridiagCounts'. -/
def tridiagCountsCard : Claim7 := { stood := { row := tridiagCountsRow, standIns := [], harness := (true, "11ce902022d50501044bc944184d30304ad1bbadb9e1c7d5e1167eb41fc2684b"), looks := false }, kinds := [], alts := [], laidByText := true, laidKinds := [.data], laidTests := true, laidLooks := .later }
def TridiagCountsCardSaid : Prop := Claim7.holds Tryz.pinned (.plain (OpenSpec.ofChange tridiagCountsSpec)) tridiagCountsCard

/-- THE TIED CARD OF 'sparselaw37.TridiagMonotone'. -/
def tridiagMonotoneCard : Claim7 := { stood := { row := tridiagMonotoneRow, standIns := [], harness := (true, "11ce902022d50501044bc944184d30304ad1bbadb9e1c7d5e1167eb41fc2684b"), looks := false }, kinds := [], alts := [], laidByText := true, laidKinds := [.data], laidTests := true, laidLooks := .later }
def TridiagMonotoneCardSaid : Prop := Claim7.holds Tryz.pinned (.plain (OpenSpec.ofChange tridiagMonotoneSpec)) tridiagMonotoneCard

/-- THE TIED CARD OF 'sparselaw37.TridiagKth'. -/
def tridiagKthCard : Claim7 := { stood := { row := tridiagKthRow, standIns := [], harness := (true, "11ce902022d50501044bc944184d30304ad1bbadb9e1c7d5e1167eb41fc2684b"), looks := false }, kinds := [], alts := [], laidByText := true, laidKinds := [.data], laidTests := true, laidLooks := .later }
def TridiagKthCardSaid : Prop := Claim7.holds Tryz.pinned (.plain (OpenSpec.ofChange tridiagKthSpec)) tridiagKthCard

/-- THE TIED CARD OF 'sparselaw37.TridiagBounds'. -/
def tridiagBoundsCard : Claim7 := { stood := { row := tridiagBoundsRow, standIns := [], harness := (true, "11ce902022d50501044bc944184d30304ad1bbadb9e1c7d5e1167eb41fc2684b"), looks := false }, kinds := [], alts := [], laidByText := true, laidKinds := [.data], laidTests := true, laidLooks := .later }
def TridiagBoundsCardSaid : Prop := Claim7.holds Tryz.pinned (.plain (OpenSpec.ofChange tridiagBoundsSpec)) tridiagBoundsCard

/-- THE TIED CARD OF 'sparselaw37.TridiagRefuses'. -/
def tridiagRefusesCard : Claim7 := { stood := { row := tridiagRefusesRow, standIns := [], harness := (true, "11ce902022d50501044bc944184d30304ad1bbadb9e1c7d5e1167eb41fc2684b"), looks := false }, kinds := [], alts := [], laidByText := true, laidKinds := [.data], laidTests := true, laidLooks := .later }
def TridiagRefusesCardSaid : Prop := Claim7.holds Tryz.pinned (.plain (OpenSpec.ofChange tridiagRefusesSpec)) tridiagRefusesCard

/-- THE SECOND FORM's CARD OF 'sparselaw37.TridiagCounts'. -/
def tridiagCountsUptoCard : Claim7 := { stood := { row := tridiagCountsUptoRow, standIns := [], harness := (true, "11ce902022d50501044bc944184d30304ad1bbadb9e1c7d5e1167eb41fc2684b"), looks := false }, kinds := [], alts := [], laidByText := true, laidKinds := [.data], laidTests := true, laidLooks := .later }
def TridiagCountsUptoCardSaid : Prop := Claim7.holds Tryz.pinned (.plain (OpenSpec.upto tridiagCountsSpec)) tridiagCountsUptoCard

/-- THE SECOND FORM's CARD OF 'sparselaw37.TridiagMonotone'. -/
def tridiagMonotoneUptoCard : Claim7 := { stood := { row := tridiagMonotoneUptoRow, standIns := [], harness := (true, "11ce902022d50501044bc944184d30304ad1bbadb9e1c7d5e1167eb41fc2684b"), looks := false }, kinds := [], alts := [], laidByText := true, laidKinds := [.data], laidTests := true, laidLooks := .later }
def TridiagMonotoneUptoCardSaid : Prop := Claim7.holds Tryz.pinned (.plain (OpenSpec.upto tridiagMonotoneSpec)) tridiagMonotoneUptoCard

/-- THE SECOND FORM's CARD OF 'sparselaw37.TridiagKth'. -/
def tridiagKthUptoCard : Claim7 := { stood := { row := tridiagKthUptoRow, standIns := [], harness := (true, "11ce902022d50501044bc944184d30304ad1bbadb9e1c7d5e1167eb41fc2684b"), looks := false }, kinds := [], alts := [], laidByText := true, laidKinds := [.data], laidTests := true, laidLooks := .later }
def TridiagKthUptoCardSaid : Prop := Claim7.holds Tryz.pinned (.plain (OpenSpec.upto tridiagKthSpec)) tridiagKthUptoCard

/-- THE SECOND FORM's CARD OF 'sparselaw37.TridiagBounds'. -/
def tridiagBoundsUptoCard : Claim7 := { stood := { row := tridiagBoundsUptoRow, standIns := [], harness := (true, "11ce902022d50501044bc944184d30304ad1bbadb9e1c7d5e1167eb41fc2684b"), looks := false }, kinds := [], alts := [], laidByText := true, laidKinds := [.data], laidTests := true, laidLooks := .later }
def TridiagBoundsUptoCardSaid : Prop := Claim7.holds Tryz.pinned (.plain (OpenSpec.upto tridiagBoundsSpec)) tridiagBoundsUptoCard

/-- THE SECOND FORM's CARD OF 'sparselaw37.TridiagRefuses'. -/
def tridiagRefusesUptoCard : Claim7 := { stood := { row := tridiagRefusesUptoRow, standIns := [], harness := (true, "11ce902022d50501044bc944184d30304ad1bbadb9e1c7d5e1167eb41fc2684b"), looks := false }, kinds := [], alts := [], laidByText := true, laidKinds := [.data], laidTests := true, laidLooks := .later }
def TridiagRefusesUptoCardSaid : Prop := Claim7.holds Tryz.pinned (.plain (OpenSpec.upto tridiagRefusesSpec)) tridiagRefusesUptoCard
end Rows
end Go.Proofs.YtipppakhihimpaaGreatDoor
