/-
  NARROWER THAN 'FOR EVERY INPUT', by the rows' own cells (each row's printed sentence says how): InertiaCertain: laid · InertiaSound: laid · InertiaLaws: laid · InertiaMonotone: laid · InertiaBlocks: laid · InertiaSearches: laid · InertiaCounts: laid · InertiaRefuses: laid.
  DERIVED. THE GIVEN ROWS OF THIS SEAT. 8 by the template 'for every input the law returns true; each argument reads behind the call as it read before'; 0 by the template 'total and deterministic' (their statements: YtikppifemlpjlaaGreatDoorTotals.lean).
  GIVEN WITH THE SEED: the statements are not yours to turn. If you find one false, say at which input.
  Laid BY PROGRAM, IN A SANDBOX (cutbox-rows.mjs): the forced cells as the released guide's own fill.sh prints them over the translation a21151c948ab51d9… (all of the seat's roots in one cut). By AI agents, Wed Nov 11 2026. No macro, syntax, notation, axiom, sorry.
-/
import Derived.Test.YtikppifemlpjlaaGreatDoorChecked
import GoSem.Claim
import GoSem.ClaimJoined
import GoSem.ClaimMapViews
import Derived.JoinedTies
import Derived.KernelRfl
namespace Go.Proofs.YtikppifemlpjlaaGreatDoor
/- THE CELL 'sum', in the pinned program and in every row, IS THE sha256 OF THE DUMP (.gsa) THAT YtikppifemlpjlaaGreatDoorProg.lean LOADS. Nothing in Lean hashes anything: it is a label: what it is worth is what the hold of that sum in a sandbox is worth. -/
noncomputable def Tryz.pinned : Pinned := { name := "ytikppifemlpjlaagreatdoor", sum := "a21151c948ab51d9b1a78bc4ccb6968665d8f7b19440dfd28aaf986153576705", checked := Tryz.checked }
namespace Rows
def none {H : Type} : Left H := { results := [], args := [] }

/- WHAT THE LISTED PACKAGE-LEVEL VARIABLES READ AS WHEN THE CALL BEGINS. Each datum BY PROGRAM (the guide's laid-datum.mjs) off the statement by which the dump's own 'gosem.cut.vars' lays the variable. In a bare row this is a premise. The card (YtikppifemlpjlaaGreatDoorCards.lean) ties it to the program's text. -/
def laid_math_bits_deBruijn32tab {H : Type} : DataW H := .agg [.lit (.int .u8 0), .lit (.int .u8 1), .lit (.int .u8 28), .lit (.int .u8 2), .lit (.int .u8 29), .lit (.int .u8 14), .lit (.int .u8 24), .lit (.int .u8 3), .lit (.int .u8 30), .lit (.int .u8 22), .lit (.int .u8 20), .lit (.int .u8 15), .lit (.int .u8 25), .lit (.int .u8 17), .lit (.int .u8 4), .lit (.int .u8 8), .lit (.int .u8 31), .lit (.int .u8 27), .lit (.int .u8 13), .lit (.int .u8 23), .lit (.int .u8 21), .lit (.int .u8 19), .lit (.int .u8 16), .lit (.int .u8 7), .lit (.int .u8 26), .lit (.int .u8 12), .lit (.int .u8 18), .lit (.int .u8 6), .lit (.int .u8 11), .lit (.int .u8 5), .lit (.int .u8 10), .lit (.int .u8 9)]

/-- 'sparselaw39.InertiaCertain': WHATEVER THE INPUT: true; the input reads as it did. -/
def inertiaCertainSpec : ChangeSpec := { name := "inertiaCertain", fn := fun _ => fun
  | [d1, d2, d3, d4, d5, d6] => { results := [.lit (.bool true)], args := [d1, d2, d3, d4, d5, d6] }
  | _ => none }
def inertiaCertainRow : OpenClaim := { program := "ytikppifemlpjlaagreatdoor", sum := "a21151c948ab51d9b1a78bc4ccb6968665d8f7b19440dfd28aaf986153576705", func := "sparse/sparselaw39.InertiaCertain", spec := "inertiaCertain", unfollowed := true, recurses := true, named := ["math/bits.deBruijn32tab"], apart := false, laid := [("math/bits.deBruijn32tab", laid_math_bits_deBruijn32tab)] }
def InertiaCertainSaid : Prop := inertiaCertainRow.holds Tryz.pinned (OpenSpec.ofChange inertiaCertainSpec)

/-- ITS FALSE NEIGHBOUR: 'it returns false'. Refute it at one input. -/
def inertiaCertainWrong : ChangeSpec := { name := "inertiaCertain", fn := fun _ => fun
  | [d1, d2, d3, d4, d5, d6] => { results := [.lit (.bool false)], args := [d1, d2, d3, d4, d5, d6] }
  | _ => none }
def InertiaCertainWrongFalsely : Prop := inertiaCertainRow.holds Tryz.pinned (OpenSpec.ofChange inertiaCertainWrong)

/-- 'sparselaw39.InertiaSound': WHATEVER THE INPUT: true; the input reads as it did. -/
def inertiaSoundSpec : ChangeSpec := { name := "inertiaSound", fn := fun _ => fun
  | [d1, d2, d3, d4, d5, d6] => { results := [.lit (.bool true)], args := [d1, d2, d3, d4, d5, d6] }
  | _ => none }
def inertiaSoundRow : OpenClaim := { program := "ytikppifemlpjlaagreatdoor", sum := "a21151c948ab51d9b1a78bc4ccb6968665d8f7b19440dfd28aaf986153576705", func := "sparse/sparselaw39.InertiaSound", spec := "inertiaSound", unfollowed := true, recurses := true, named := ["math/bits.deBruijn32tab"], apart := false, laid := [("math/bits.deBruijn32tab", laid_math_bits_deBruijn32tab)] }
def InertiaSoundSaid : Prop := inertiaSoundRow.holds Tryz.pinned (OpenSpec.ofChange inertiaSoundSpec)

/-- ITS FALSE NEIGHBOUR: 'it returns false'. Refute it at one input. -/
def inertiaSoundWrong : ChangeSpec := { name := "inertiaSound", fn := fun _ => fun
  | [d1, d2, d3, d4, d5, d6] => { results := [.lit (.bool false)], args := [d1, d2, d3, d4, d5, d6] }
  | _ => none }
def InertiaSoundWrongFalsely : Prop := inertiaSoundRow.holds Tryz.pinned (OpenSpec.ofChange inertiaSoundWrong)

/-- 'sparselaw39.InertiaLaws': WHATEVER THE INPUT: true; the input reads as it did. -/
def inertiaLawsSpec : ChangeSpec := { name := "inertiaLaws", fn := fun _ => fun
  | [d1, d2, d3, d4] => { results := [.lit (.bool true)], args := [d1, d2, d3, d4] }
  | _ => none }
def inertiaLawsRow : OpenClaim := { program := "ytikppifemlpjlaagreatdoor", sum := "a21151c948ab51d9b1a78bc4ccb6968665d8f7b19440dfd28aaf986153576705", func := "sparse/sparselaw39.InertiaLaws", spec := "inertiaLaws", unfollowed := true, recurses := true, named := ["math/bits.deBruijn32tab"], apart := false, laid := [("math/bits.deBruijn32tab", laid_math_bits_deBruijn32tab)] }
def InertiaLawsSaid : Prop := inertiaLawsRow.holds Tryz.pinned (OpenSpec.ofChange inertiaLawsSpec)

/-- ITS FALSE NEIGHBOUR: 'it returns false'. Refute it at one input. -/
def inertiaLawsWrong : ChangeSpec := { name := "inertiaLaws", fn := fun _ => fun
  | [d1, d2, d3, d4] => { results := [.lit (.bool false)], args := [d1, d2, d3, d4] }
  | _ => none }
def InertiaLawsWrongFalsely : Prop := inertiaLawsRow.holds Tryz.pinned (OpenSpec.ofChange inertiaLawsWrong)

/-- 'sparselaw39.InertiaMonotone': WHATEVER THE INPUT: true; the input reads as it did. -/
def inertiaMonotoneSpec : ChangeSpec := { name := "inertiaMonotone", fn := fun _ => fun
  | [d1, d2, d3, d4, d5] => { results := [.lit (.bool true)], args := [d1, d2, d3, d4, d5] }
  | _ => none }
def inertiaMonotoneRow : OpenClaim := { program := "ytikppifemlpjlaagreatdoor", sum := "a21151c948ab51d9b1a78bc4ccb6968665d8f7b19440dfd28aaf986153576705", func := "sparse/sparselaw39.InertiaMonotone", spec := "inertiaMonotone", unfollowed := true, recurses := true, named := ["math/bits.deBruijn32tab"], apart := false, laid := [("math/bits.deBruijn32tab", laid_math_bits_deBruijn32tab)] }
def InertiaMonotoneSaid : Prop := inertiaMonotoneRow.holds Tryz.pinned (OpenSpec.ofChange inertiaMonotoneSpec)

/-- ITS FALSE NEIGHBOUR: 'it returns false'. Refute it at one input. -/
def inertiaMonotoneWrong : ChangeSpec := { name := "inertiaMonotone", fn := fun _ => fun
  | [d1, d2, d3, d4, d5] => { results := [.lit (.bool false)], args := [d1, d2, d3, d4, d5] }
  | _ => none }
def InertiaMonotoneWrongFalsely : Prop := inertiaMonotoneRow.holds Tryz.pinned (OpenSpec.ofChange inertiaMonotoneWrong)

/-- 'sparselaw39.InertiaBlocks': WHATEVER THE INPUT: true; the input reads as it did. -/
def inertiaBlocksSpec : ChangeSpec := { name := "inertiaBlocks", fn := fun _ => fun
  | [d1, d2, d3, d4, d5, d6] => { results := [.lit (.bool true)], args := [d1, d2, d3, d4, d5, d6] }
  | _ => none }
def inertiaBlocksRow : OpenClaim := { program := "ytikppifemlpjlaagreatdoor", sum := "a21151c948ab51d9b1a78bc4ccb6968665d8f7b19440dfd28aaf986153576705", func := "sparse/sparselaw39.InertiaBlocks", spec := "inertiaBlocks", unfollowed := true, recurses := true, named := ["math/bits.deBruijn32tab"], apart := false, laid := [("math/bits.deBruijn32tab", laid_math_bits_deBruijn32tab)] }
def InertiaBlocksSaid : Prop := inertiaBlocksRow.holds Tryz.pinned (OpenSpec.ofChange inertiaBlocksSpec)

/-- ITS FALSE NEIGHBOUR: 'it returns false'. Refute it at one input. -/
def inertiaBlocksWrong : ChangeSpec := { name := "inertiaBlocks", fn := fun _ => fun
  | [d1, d2, d3, d4, d5, d6] => { results := [.lit (.bool false)], args := [d1, d2, d3, d4, d5, d6] }
  | _ => none }
def InertiaBlocksWrongFalsely : Prop := inertiaBlocksRow.holds Tryz.pinned (OpenSpec.ofChange inertiaBlocksWrong)

/-- 'sparselaw39.InertiaSearches': WHATEVER THE INPUT: true; the input reads as it did. -/
def inertiaSearchesSpec : ChangeSpec := { name := "inertiaSearches", fn := fun _ => fun
  | [d1, d2, d3, d4, d5] => { results := [.lit (.bool true)], args := [d1, d2, d3, d4, d5] }
  | _ => none }
def inertiaSearchesRow : OpenClaim := { program := "ytikppifemlpjlaagreatdoor", sum := "a21151c948ab51d9b1a78bc4ccb6968665d8f7b19440dfd28aaf986153576705", func := "sparse/sparselaw39.InertiaSearches", spec := "inertiaSearches", unfollowed := true, recurses := true, named := ["math/bits.deBruijn32tab"], apart := false, laid := [("math/bits.deBruijn32tab", laid_math_bits_deBruijn32tab)] }
def InertiaSearchesSaid : Prop := inertiaSearchesRow.holds Tryz.pinned (OpenSpec.ofChange inertiaSearchesSpec)

/-- ITS FALSE NEIGHBOUR: 'it returns false'. Refute it at one input. -/
def inertiaSearchesWrong : ChangeSpec := { name := "inertiaSearches", fn := fun _ => fun
  | [d1, d2, d3, d4, d5] => { results := [.lit (.bool false)], args := [d1, d2, d3, d4, d5] }
  | _ => none }
def InertiaSearchesWrongFalsely : Prop := inertiaSearchesRow.holds Tryz.pinned (OpenSpec.ofChange inertiaSearchesWrong)

/-- 'sparselaw39.InertiaCounts': WHATEVER THE INPUT: true; the input reads as it did. -/
def inertiaCountsSpec : ChangeSpec := { name := "inertiaCounts", fn := fun _ => fun
  | [d1, d2, d3, d4, d5] => { results := [.lit (.bool true)], args := [d1, d2, d3, d4, d5] }
  | _ => none }
def inertiaCountsRow : OpenClaim := { program := "ytikppifemlpjlaagreatdoor", sum := "a21151c948ab51d9b1a78bc4ccb6968665d8f7b19440dfd28aaf986153576705", func := "sparse/sparselaw39.InertiaCounts", spec := "inertiaCounts", unfollowed := true, recurses := true, named := ["math/bits.deBruijn32tab"], apart := false, laid := [("math/bits.deBruijn32tab", laid_math_bits_deBruijn32tab)] }
def InertiaCountsSaid : Prop := inertiaCountsRow.holds Tryz.pinned (OpenSpec.ofChange inertiaCountsSpec)

/-- ITS FALSE NEIGHBOUR: 'it returns false'. Refute it at one input. -/
def inertiaCountsWrong : ChangeSpec := { name := "inertiaCounts", fn := fun _ => fun
  | [d1, d2, d3, d4, d5] => { results := [.lit (.bool false)], args := [d1, d2, d3, d4, d5] }
  | _ => none }
def InertiaCountsWrongFalsely : Prop := inertiaCountsRow.holds Tryz.pinned (OpenSpec.ofChange inertiaCountsWrong)

/-- 'sparselaw39.InertiaRefuses': WHATEVER THE INPUT: true; the input reads as it did. -/
def inertiaRefusesSpec : ChangeSpec := { name := "inertiaRefuses", fn := fun _ => fun
  | [d1, d2, d3, d4, d5, d6] => { results := [.lit (.bool true)], args := [d1, d2, d3, d4, d5, d6] }
  | _ => none }
def inertiaRefusesRow : OpenClaim := { program := "ytikppifemlpjlaagreatdoor", sum := "a21151c948ab51d9b1a78bc4ccb6968665d8f7b19440dfd28aaf986153576705", func := "sparse/sparselaw39.InertiaRefuses", spec := "inertiaRefuses", unfollowed := true, recurses := true, named := ["math/bits.deBruijn32tab"], apart := false, laid := [("math/bits.deBruijn32tab", laid_math_bits_deBruijn32tab)] }
def InertiaRefusesSaid : Prop := inertiaRefusesRow.holds Tryz.pinned (OpenSpec.ofChange inertiaRefusesSpec)

/-- ITS FALSE NEIGHBOUR: 'it returns false'. Refute it at one input. -/
def inertiaRefusesWrong : ChangeSpec := { name := "inertiaRefuses", fn := fun _ => fun
  | [d1, d2, d3, d4, d5, d6] => { results := [.lit (.bool false)], args := [d1, d2, d3, d4, d5, d6] }
  | _ => none }
def InertiaRefusesWrongFalsely : Prop := inertiaRefusesRow.holds Tryz.pinned (OpenSpec.ofChange inertiaRefusesWrong)

/- THE SECOND FORM. 'bulk': how many values and letters a reading holds, each counted each time it is reached (what is shared counts as often as it is met; a slice's spare places count too). A statement '..UptoSaid' is the law's where the arguments, and the package variables that the reading takes, are together of bulk at most 1048576: NARROWER than '..Said'. Prove '..Said' where nothing that the law and all that it calls make is longer than what came in: it says more and counts as full. Else prove '..UptoSaid'. A law counts once. -/
mutual
def uptoBulk {H : Type} : DataW H → Nat
  | .lit (.string bytes) => bytes.length + 1
  | .lit _ => 1
  | .nil => 1
  | .ptr d => uptoBulk d + 1
  | .slice elems spare => uptoBulkAll elems + uptoBulkAll spare + 1
  | .agg parts => uptoBulkAll parts + 1
  | .iface _ d => uptoBulk d + 1
  | .map entries => uptoBulkEntries entries + 1
  | .held _ => 1
def uptoBulkAll {H : Type} : List (DataW H) → Nat
  | [] => 0
  | d :: r => uptoBulk d + uptoBulkAll r
def uptoBulkEntries {H : Type} : List (Lit × DataW H) → Nat
  | [] => 0
  | x :: r => uptoBulkEntry x + uptoBulkEntries r
def uptoBulkEntry {H : Type} : Lit × DataW H → Nat
  | (.string bytes, d) => bytes.length + uptoBulk d + 1
  | (_, d) => uptoBulk d + 1
 end
def uptoSmall : (H : Type) → List (DataW H) → Bool := fun _ ds => decide (uptoBulkAll ds ≤ 1048576)
def OpenSpec.upto (s : _root_.Go.ChangeSpec) : _root_.Go.OpenSpec := { _root_.Go.OpenSpec.ofChange s with cond := some uptoSmall }

/-- 'sparselaw39.InertiaCertain', WHERE WHAT IT READS IS OF BULK AT MOST 1048576: true; the input reads as it did. -/
def inertiaCertainUptoRow : OpenClaim := { program := "ytikppifemlpjlaagreatdoor", sum := "a21151c948ab51d9b1a78bc4ccb6968665d8f7b19440dfd28aaf986153576705", func := "sparse/sparselaw39.InertiaCertain", spec := "inertiaCertain", unfollowed := true, recurses := true, named := ["math/bits.deBruijn32tab"], apart := false, laid := [("math/bits.deBruijn32tab", laid_math_bits_deBruijn32tab)], narrowed := true }
def InertiaCertainUptoSaid : Prop := inertiaCertainUptoRow.holds Tryz.pinned (OpenSpec.upto inertiaCertainSpec)

/-- 'sparselaw39.InertiaSound', WHERE WHAT IT READS IS OF BULK AT MOST 1048576: true; the input reads as it did. -/
def inertiaSoundUptoRow : OpenClaim := { program := "ytikppifemlpjlaagreatdoor", sum := "a21151c948ab51d9b1a78bc4ccb6968665d8f7b19440dfd28aaf986153576705", func := "sparse/sparselaw39.InertiaSound", spec := "inertiaSound", unfollowed := true, recurses := true, named := ["math/bits.deBruijn32tab"], apart := false, laid := [("math/bits.deBruijn32tab", laid_math_bits_deBruijn32tab)], narrowed := true }
def InertiaSoundUptoSaid : Prop := inertiaSoundUptoRow.holds Tryz.pinned (OpenSpec.upto inertiaSoundSpec)

/-- 'sparselaw39.InertiaLaws', WHERE WHAT IT READS IS OF BULK AT MOST 1048576: true; the input reads as it did. -/
def inertiaLawsUptoRow : OpenClaim := { program := "ytikppifemlpjlaagreatdoor", sum := "a21151c948ab51d9b1a78bc4ccb6968665d8f7b19440dfd28aaf986153576705", func := "sparse/sparselaw39.InertiaLaws", spec := "inertiaLaws", unfollowed := true, recurses := true, named := ["math/bits.deBruijn32tab"], apart := false, laid := [("math/bits.deBruijn32tab", laid_math_bits_deBruijn32tab)], narrowed := true }
def InertiaLawsUptoSaid : Prop := inertiaLawsUptoRow.holds Tryz.pinned (OpenSpec.upto inertiaLawsSpec)

/-- 'sparselaw39.InertiaMonotone', WHERE WHAT IT READS IS OF BULK AT MOST 1048576: true; the input reads as it did. -/
def inertiaMonotoneUptoRow : OpenClaim := { program := "ytikppifemlpjlaagreatdoor", sum := "a21151c948ab51d9b1a78bc4ccb6968665d8f7b19440dfd28aaf986153576705", func := "sparse/sparselaw39.InertiaMonotone", spec := "inertiaMonotone", unfollowed := true, recurses := true, named := ["math/bits.deBruijn32tab"], apart := false, laid := [("math/bits.deBruijn32tab", laid_math_bits_deBruijn32tab)], narrowed := true }
def InertiaMonotoneUptoSaid : Prop := inertiaMonotoneUptoRow.holds Tryz.pinned (OpenSpec.upto inertiaMonotoneSpec)

/-- 'sparselaw39.InertiaBlocks', WHERE WHAT IT READS IS OF BULK AT MOST 1048576: true; the input reads as it did. -/
def inertiaBlocksUptoRow : OpenClaim := { program := "ytikppifemlpjlaagreatdoor", sum := "a21151c948ab51d9b1a78bc4ccb6968665d8f7b19440dfd28aaf986153576705", func := "sparse/sparselaw39.InertiaBlocks", spec := "inertiaBlocks", unfollowed := true, recurses := true, named := ["math/bits.deBruijn32tab"], apart := false, laid := [("math/bits.deBruijn32tab", laid_math_bits_deBruijn32tab)], narrowed := true }
def InertiaBlocksUptoSaid : Prop := inertiaBlocksUptoRow.holds Tryz.pinned (OpenSpec.upto inertiaBlocksSpec)

/-- 'sparselaw39.InertiaSearches', WHERE WHAT IT READS IS OF BULK AT MOST 1048576: true; the input reads as it did. -/
def inertiaSearchesUptoRow : OpenClaim := { program := "ytikppifemlpjlaagreatdoor", sum := "a21151c948ab51d9b1a78bc4ccb6968665d8f7b19440dfd28aaf986153576705", func := "sparse/sparselaw39.InertiaSearches", spec := "inertiaSearches", unfollowed := true, recurses := true, named := ["math/bits.deBruijn32tab"], apart := false, laid := [("math/bits.deBruijn32tab", laid_math_bits_deBruijn32tab)], narrowed := true }
def InertiaSearchesUptoSaid : Prop := inertiaSearchesUptoRow.holds Tryz.pinned (OpenSpec.upto inertiaSearchesSpec)

/-- 'sparselaw39.InertiaCounts', WHERE WHAT IT READS IS OF BULK AT MOST 1048576: true; the input reads as it did. -/
def inertiaCountsUptoRow : OpenClaim := { program := "ytikppifemlpjlaagreatdoor", sum := "a21151c948ab51d9b1a78bc4ccb6968665d8f7b19440dfd28aaf986153576705", func := "sparse/sparselaw39.InertiaCounts", spec := "inertiaCounts", unfollowed := true, recurses := true, named := ["math/bits.deBruijn32tab"], apart := false, laid := [("math/bits.deBruijn32tab", laid_math_bits_deBruijn32tab)], narrowed := true }
def InertiaCountsUptoSaid : Prop := inertiaCountsUptoRow.holds Tryz.pinned (OpenSpec.upto inertiaCountsSpec)

/-- 'sparselaw39.InertiaRefuses', WHERE WHAT IT READS IS OF BULK AT MOST 1048576: true; the input reads as it did. -/
def inertiaRefusesUptoRow : OpenClaim := { program := "ytikppifemlpjlaagreatdoor", sum := "a21151c948ab51d9b1a78bc4ccb6968665d8f7b19440dfd28aaf986153576705", func := "sparse/sparselaw39.InertiaRefuses", spec := "inertiaRefuses", unfollowed := true, recurses := true, named := ["math/bits.deBruijn32tab"], apart := false, laid := [("math/bits.deBruijn32tab", laid_math_bits_deBruijn32tab)], narrowed := true }
def InertiaRefusesUptoSaid : Prop := inertiaRefusesUptoRow.holds Tryz.pinned (OpenSpec.upto inertiaRefusesSpec)

end Rows
end Go.Proofs.YtikppifemlpjlaaGreatDoor
