/-
  DERIVED. GIVEN WITH THE SEED: THE CARDS: each row of YtikppifemlpjlaaGreatDoorRows.lean that lists a variable, with what it lists TIED to the program's text (the seventh form; the later family's looks); each row that meets fmt, with fmt's text TOLD by the authors' own Lean function (tested against real Go, not proved from fmt's source: count such statements apart). THE CARD IS WHAT COUNTS. Prove the row's statement (the work); the ties are given (YtikppifemlpjlaaGreatDoorTie.lean); close each card by the builder's one call (the guide's Derived/Test/ToyasCard.lean, 'card_holds'). Laid BY PROGRAM, IN A SANDBOX (cutbox-door.mjs). By AI agents, Wed Nov 11 2026. No macro, syntax, notation, axiom, sorry.
-/
import Derived.Test.YtikppifemlpjlaaGreatDoorRows
import GoSem.ClaimSeven
namespace Go.Proofs.YtikppifemlpjlaaGreatDoor
namespace Rows

/-- THE TIED CARD OF 'sparselaw39.InertiaCertain'. -/
def inertiaCertainCard : Claim7 := { stood := { row := inertiaCertainRow, standIns := [], harness := (true, "ce5cdbab336ca4ad60b45f88628705a26296b8905724c7fb7847bfd49b66b221"), looks := false }, kinds := [], alts := [], laidByText := true, laidKinds := [.data], laidTests := true, laidLooks := .later }
def InertiaCertainCardSaid : Prop := Claim7.holds Tryz.pinned (.plain (OpenSpec.ofChange inertiaCertainSpec)) inertiaCertainCard

/-- THE TIED CARD OF 'sparselaw39.InertiaSound'. -/
def inertiaSoundCard : Claim7 := { stood := { row := inertiaSoundRow, standIns := [], harness := (true, "ce5cdbab336ca4ad60b45f88628705a26296b8905724c7fb7847bfd49b66b221"), looks := false }, kinds := [], alts := [], laidByText := true, laidKinds := [.data], laidTests := true, laidLooks := .later }
def InertiaSoundCardSaid : Prop := Claim7.holds Tryz.pinned (.plain (OpenSpec.ofChange inertiaSoundSpec)) inertiaSoundCard

/-- THE TIED CARD OF 'sparselaw39.InertiaLaws'. -/
def inertiaLawsCard : Claim7 := { stood := { row := inertiaLawsRow, standIns := [], harness := (true, "ce5cdbab336ca4ad60b45f88628705a26296b8905724c7fb7847bfd49b66b221"), looks := false }, kinds := [], alts := [], laidByText := true, laidKinds := [.data], laidTests := true, laidLooks := .later }
def InertiaLawsCardSaid : Prop := Claim7.holds Tryz.pinned (.plain (OpenSpec.ofChange inertiaLawsSpec)) inertiaLawsCard

/-- THE TIED CARD OF 'sparselaw39.InertiaMonotone'. -/
def inertiaMonotoneCard : Claim7 := { stood := { row := inertiaMonotoneRow, standIns := [], harness := (true, "ce5cdbab336ca4ad60b45f88628705a26296b8905724c7fb7847bfd49b66b221"), looks := false }, kinds := [], alts := [], laidByText := true, laidKinds := [.data], laidTests := true, laidLooks := .later }
def InertiaMonotoneCardSaid : Prop := Claim7.holds Tryz.pinned (.plain (OpenSpec.ofChange inertiaMonotoneSpec)) inertiaMonotoneCard

/-- THE TIED CARD OF 'sparselaw39.InertiaBlocks'. -/
def inertiaBlocksCard : Claim7 := { stood := { row := inertiaBlocksRow, standIns := [], harness := (true, "ce5cdbab336ca4ad60b45f88628705a26296b8905724c7fb7847bfd49b66b221"), looks := false }, kinds := [], alts := [], laidByText := true, laidKinds := [.data], laidTests := true, laidLooks := .later }
def InertiaBlocksCardSaid : Prop := Claim7.holds Tryz.pinned (.plain (OpenSpec.ofChange inertiaBlocksSpec)) inertiaBlocksCard

/-- THE TIED CARD OF 'sparselaw39.InertiaSearches'. -/
def inertiaSearchesCard : Claim7 := { stood := { row := inertiaSearchesRow, standIns := [], harness := (true, "ce5cdbab336ca4ad60b45f88628705a26296b8905724c7fb7847bfd49b66b221"), looks := false }, kinds := [], alts := [], laidByText := true, laidKinds := [.data], laidTests := true, laidLooks := .later }
def InertiaSearchesCardSaid : Prop := Claim7.holds Tryz.pinned (.plain (OpenSpec.ofChange inertiaSearchesSpec)) inertiaSearchesCard

/-- THE TIED CARD OF 'sparselaw39.InertiaCounts'. -/
def inertiaCountsCard : Claim7 := { stood := { row := inertiaCountsRow, standIns := [], harness := (true, "ce5cdbab336ca4ad60b45f88628705a26296b8905724c7fb7847bfd49b66b221"), looks := false }, kinds := [], alts := [], laidByText := true, laidKinds := [.data], laidTests := true, laidLooks := .later }
def InertiaCountsCardSaid : Prop := Claim7.holds Tryz.pinned (.plain (OpenSpec.ofChange inertiaCountsSpec)) inertiaCountsCard

/-- THE TIED CARD OF 'sparselaw39.InertiaRefuses'. -/
def inertiaRefusesCard : Claim7 := { stood := { row := inertiaRefusesRow, standIns := [], harness := (true, "ce5cdbab336ca4ad60b45f88628705a26296b8905724c7fb7847bfd49b66b221"), looks := false }, kinds := [], alts := [], laidByText := true, laidKinds := [.data], laidTests := true, laidLooks := .later }
def InertiaRefusesCardSaid : Prop := Claim7.holds Tryz.pinned (.plain (OpenSpec.ofChange inertiaRefusesSpec)) inertiaRefusesCard

/-- THE SECOND FORM's CARD OF 'sparselaw39.InertiaCertain'. -/
def inertiaCertainUptoCard : Claim7 := { stood := { row := inertiaCertainUptoRow, standIns := [], harness := (true, "ce5cdbab336ca4ad60b45f88628705a26296b8905724c7fb7847bfd49b66b221"), looks := false }, kinds := [], alts := [], laidByText := true, laidKinds := [.data], laidTests := true, laidLooks := .later }
def InertiaCertainUptoCardSaid : Prop := Claim7.holds Tryz.pinned (.plain (OpenSpec.upto inertiaCertainSpec)) inertiaCertainUptoCard

/-- THE SECOND FORM's CARD OF 'sparselaw39.InertiaSound'. -/
def inertiaSoundUptoCard : Claim7 := { stood := { row := inertiaSoundUptoRow, standIns := [], harness := (true, "ce5cdbab336ca4ad60b45f88628705a26296b8905724c7fb7847bfd49b66b221"), looks := false }, kinds := [], alts := [], laidByText := true, laidKinds := [.data], laidTests := true, laidLooks := .later }
def InertiaSoundUptoCardSaid : Prop := Claim7.holds Tryz.pinned (.plain (OpenSpec.upto inertiaSoundSpec)) inertiaSoundUptoCard

/-- THE SECOND FORM's CARD OF 'sparselaw39.InertiaLaws'. -/
def inertiaLawsUptoCard : Claim7 := { stood := { row := inertiaLawsUptoRow, standIns := [], harness := (true, "ce5cdbab336ca4ad60b45f88628705a26296b8905724c7fb7847bfd49b66b221"), looks := false }, kinds := [], alts := [], laidByText := true, laidKinds := [.data], laidTests := true, laidLooks := .later }
def InertiaLawsUptoCardSaid : Prop := Claim7.holds Tryz.pinned (.plain (OpenSpec.upto inertiaLawsSpec)) inertiaLawsUptoCard

/-- THE SECOND FORM's CARD OF 'sparselaw39.InertiaMonotone'. -/
def inertiaMonotoneUptoCard : Claim7 := { stood := { row := inertiaMonotoneUptoRow, standIns := [], harness := (true, "ce5cdbab336ca4ad60b45f88628705a26296b8905724c7fb7847bfd49b66b221"), looks := false }, kinds := [], alts := [], laidByText := true, laidKinds := [.data], laidTests := true, laidLooks := .later }
def InertiaMonotoneUptoCardSaid : Prop := Claim7.holds Tryz.pinned (.plain (OpenSpec.upto inertiaMonotoneSpec)) inertiaMonotoneUptoCard

/-- THE SECOND FORM's CARD OF 'sparselaw39.InertiaBlocks'. -/
def inertiaBlocksUptoCard : Claim7 := { stood := { row := inertiaBlocksUptoRow, standIns := [], harness := (true, "ce5cdbab336ca4ad60b45f88628705a26296b8905724c7fb7847bfd49b66b221"), looks := false }, kinds := [], alts := [], laidByText := true, laidKinds := [.data], laidTests := true, laidLooks := .later }
def InertiaBlocksUptoCardSaid : Prop := Claim7.holds Tryz.pinned (.plain (OpenSpec.upto inertiaBlocksSpec)) inertiaBlocksUptoCard

/-- THE SECOND FORM's CARD OF 'sparselaw39.InertiaSearches'. -/
def inertiaSearchesUptoCard : Claim7 := { stood := { row := inertiaSearchesUptoRow, standIns := [], harness := (true, "ce5cdbab336ca4ad60b45f88628705a26296b8905724c7fb7847bfd49b66b221"), looks := false }, kinds := [], alts := [], laidByText := true, laidKinds := [.data], laidTests := true, laidLooks := .later }
def InertiaSearchesUptoCardSaid : Prop := Claim7.holds Tryz.pinned (.plain (OpenSpec.upto inertiaSearchesSpec)) inertiaSearchesUptoCard

/-- THE SECOND FORM's CARD OF 'sparselaw39.InertiaCounts'. -/
def inertiaCountsUptoCard : Claim7 := { stood := { row := inertiaCountsUptoRow, standIns := [], harness := (true, "ce5cdbab336ca4ad60b45f88628705a26296b8905724c7fb7847bfd49b66b221"), looks := false }, kinds := [], alts := [], laidByText := true, laidKinds := [.data], laidTests := true, laidLooks := .later }
def InertiaCountsUptoCardSaid : Prop := Claim7.holds Tryz.pinned (.plain (OpenSpec.upto inertiaCountsSpec)) inertiaCountsUptoCard

/-- THE SECOND FORM's CARD OF 'sparselaw39.InertiaRefuses'. -/
def inertiaRefusesUptoCard : Claim7 := { stood := { row := inertiaRefusesUptoRow, standIns := [], harness := (true, "ce5cdbab336ca4ad60b45f88628705a26296b8905724c7fb7847bfd49b66b221"), looks := false }, kinds := [], alts := [], laidByText := true, laidKinds := [.data], laidTests := true, laidLooks := .later }
def InertiaRefusesUptoCardSaid : Prop := Claim7.holds Tryz.pinned (.plain (OpenSpec.upto inertiaRefusesSpec)) inertiaRefusesUptoCard
end Rows
end Go.Proofs.YtikppifemlpjlaaGreatDoor
