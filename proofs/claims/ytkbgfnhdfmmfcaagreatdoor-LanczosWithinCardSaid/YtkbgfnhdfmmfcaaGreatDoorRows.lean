/-
  NARROWER THAN 'FOR EVERY INPUT', by the rows' own cells (each row's printed sentence says how): LanczosRuns: laid · LanczosRefuses: laid · LanczosUnit: laid · LanczosDiagonal: laid · LanczosMeasures: laid · LanczosRitz: laid · LanczosWithin: laid.
  DERIVED. THE GIVEN ROWS OF THIS SEAT. 7 by the template 'for every input the law returns true; each argument reads behind the call as it read before'; 0 by the template 'total and deterministic' (their statements: YtkbgfnhdfmmfcaaGreatDoorTotals.lean).
  GIVEN WITH THE SEED: the statements are not yours to turn. If you find one false, say at which input.
  Laid BY PROGRAM, IN A SANDBOX (cutbox-rows.mjs): the forced cells as the released guide's own fill.sh prints them over the translation 3d784cd9b8fa95bd… (all of the seat's roots in one cut). By AI agents, Wed Nov 11 2026. No macro, syntax, notation, axiom, sorry.
-/
import Derived.Test.YtkbgfnhdfmmfcaaGreatDoorChecked
import GoSem.Claim
import GoSem.ClaimJoined
import GoSem.ClaimMapViews
import Derived.JoinedTies
import Derived.KernelRfl
namespace Go.Proofs.YtkbgfnhdfmmfcaaGreatDoor
/- THE CELL 'sum', in the pinned program and in every row, IS THE sha256 OF THE DUMP (.gsa) THAT YtkbgfnhdfmmfcaaGreatDoorProg.lean LOADS. Nothing in Lean hashes anything: it is a label: what it is worth is what the hold of that sum in a sandbox is worth. -/
noncomputable def Tryz.pinned : Pinned := { name := "ytkbgfnhdfmmfcaagreatdoor", sum := "3d784cd9b8fa95bd528d15c2ddb1e19bf8d0eae34122bfe346985f9a507f521e", checked := Tryz.checked }
namespace Rows
def none {H : Type} : Left H := { results := [], args := [] }

/- WHAT THE LISTED PACKAGE-LEVEL VARIABLES READ AS WHEN THE CALL BEGINS. Each datum BY PROGRAM (the guide's laid-datum.mjs) off the statement by which the dump's own 'gosem.cut.vars' lays the variable. In a bare row this is a premise. The card (YtkbgfnhdfmmfcaaGreatDoorCards.lean) ties it to the program's text. -/
def laid_math_bits_deBruijn32tab {H : Type} : DataW H := .agg [.lit (.int .u8 0), .lit (.int .u8 1), .lit (.int .u8 28), .lit (.int .u8 2), .lit (.int .u8 29), .lit (.int .u8 14), .lit (.int .u8 24), .lit (.int .u8 3), .lit (.int .u8 30), .lit (.int .u8 22), .lit (.int .u8 20), .lit (.int .u8 15), .lit (.int .u8 25), .lit (.int .u8 17), .lit (.int .u8 4), .lit (.int .u8 8), .lit (.int .u8 31), .lit (.int .u8 27), .lit (.int .u8 13), .lit (.int .u8 23), .lit (.int .u8 21), .lit (.int .u8 19), .lit (.int .u8 16), .lit (.int .u8 7), .lit (.int .u8 26), .lit (.int .u8 12), .lit (.int .u8 18), .lit (.int .u8 6), .lit (.int .u8 11), .lit (.int .u8 5), .lit (.int .u8 10), .lit (.int .u8 9)]

/-- 'sparselaw38.LanczosRuns': WHATEVER THE INPUT: true; the input reads as it did. -/
def lanczosRunsSpec : ChangeSpec := { name := "lanczosRuns", fn := fun _ => fun
  | [d1, d2, d3, d4, d5] => { results := [.lit (.bool true)], args := [d1, d2, d3, d4, d5] }
  | _ => none }
def lanczosRunsRow : OpenClaim := { program := "ytkbgfnhdfmmfcaagreatdoor", sum := "3d784cd9b8fa95bd528d15c2ddb1e19bf8d0eae34122bfe346985f9a507f521e", func := "sparse/sparselaw38.LanczosRuns", spec := "lanczosRuns", unfollowed := true, recurses := true, named := ["math/bits.deBruijn32tab"], apart := false, laid := [("math/bits.deBruijn32tab", laid_math_bits_deBruijn32tab)] }
def LanczosRunsSaid : Prop := lanczosRunsRow.holds Tryz.pinned (OpenSpec.ofChange lanczosRunsSpec)

/-- ITS FALSE NEIGHBOUR: 'it returns false'. Refute it at one input. -/
def lanczosRunsWrong : ChangeSpec := { name := "lanczosRuns", fn := fun _ => fun
  | [d1, d2, d3, d4, d5] => { results := [.lit (.bool false)], args := [d1, d2, d3, d4, d5] }
  | _ => none }
def LanczosRunsWrongFalsely : Prop := lanczosRunsRow.holds Tryz.pinned (OpenSpec.ofChange lanczosRunsWrong)

/-- 'sparselaw38.LanczosRefuses': WHATEVER THE INPUT: true; the input reads as it did. -/
def lanczosRefusesSpec : ChangeSpec := { name := "lanczosRefuses", fn := fun _ => fun
  | [d1, d2, d3, d4, d5, d6] => { results := [.lit (.bool true)], args := [d1, d2, d3, d4, d5, d6] }
  | _ => none }
def lanczosRefusesRow : OpenClaim := { program := "ytkbgfnhdfmmfcaagreatdoor", sum := "3d784cd9b8fa95bd528d15c2ddb1e19bf8d0eae34122bfe346985f9a507f521e", func := "sparse/sparselaw38.LanczosRefuses", spec := "lanczosRefuses", unfollowed := true, recurses := true, named := ["math/bits.deBruijn32tab"], apart := false, laid := [("math/bits.deBruijn32tab", laid_math_bits_deBruijn32tab)] }
def LanczosRefusesSaid : Prop := lanczosRefusesRow.holds Tryz.pinned (OpenSpec.ofChange lanczosRefusesSpec)

/-- ITS FALSE NEIGHBOUR: 'it returns false'. Refute it at one input. -/
def lanczosRefusesWrong : ChangeSpec := { name := "lanczosRefuses", fn := fun _ => fun
  | [d1, d2, d3, d4, d5, d6] => { results := [.lit (.bool false)], args := [d1, d2, d3, d4, d5, d6] }
  | _ => none }
def LanczosRefusesWrongFalsely : Prop := lanczosRefusesRow.holds Tryz.pinned (OpenSpec.ofChange lanczosRefusesWrong)

/-- 'sparselaw38.LanczosUnit': WHATEVER THE INPUT: true; the input reads as it did. -/
def lanczosUnitSpec : ChangeSpec := { name := "lanczosUnit", fn := fun _ => fun
  | [d1, d2, d3] => { results := [.lit (.bool true)], args := [d1, d2, d3] }
  | _ => none }
def lanczosUnitRow : OpenClaim := { program := "ytkbgfnhdfmmfcaagreatdoor", sum := "3d784cd9b8fa95bd528d15c2ddb1e19bf8d0eae34122bfe346985f9a507f521e", func := "sparse/sparselaw38.LanczosUnit", spec := "lanczosUnit", unfollowed := true, recurses := true, named := ["math/bits.deBruijn32tab"], apart := false, laid := [("math/bits.deBruijn32tab", laid_math_bits_deBruijn32tab)] }
def LanczosUnitSaid : Prop := lanczosUnitRow.holds Tryz.pinned (OpenSpec.ofChange lanczosUnitSpec)

/-- ITS FALSE NEIGHBOUR: 'it returns false'. Refute it at one input. -/
def lanczosUnitWrong : ChangeSpec := { name := "lanczosUnit", fn := fun _ => fun
  | [d1, d2, d3] => { results := [.lit (.bool false)], args := [d1, d2, d3] }
  | _ => none }
def LanczosUnitWrongFalsely : Prop := lanczosUnitRow.holds Tryz.pinned (OpenSpec.ofChange lanczosUnitWrong)

/-- 'sparselaw38.LanczosDiagonal': WHATEVER THE INPUT: true; the input reads as it did. -/
def lanczosDiagonalSpec : ChangeSpec := { name := "lanczosDiagonal", fn := fun _ => fun
  | [d1, d2, d3, d4] => { results := [.lit (.bool true)], args := [d1, d2, d3, d4] }
  | _ => none }
def lanczosDiagonalRow : OpenClaim := { program := "ytkbgfnhdfmmfcaagreatdoor", sum := "3d784cd9b8fa95bd528d15c2ddb1e19bf8d0eae34122bfe346985f9a507f521e", func := "sparse/sparselaw38.LanczosDiagonal", spec := "lanczosDiagonal", unfollowed := true, recurses := true, named := ["math/bits.deBruijn32tab"], apart := false, laid := [("math/bits.deBruijn32tab", laid_math_bits_deBruijn32tab)] }
def LanczosDiagonalSaid : Prop := lanczosDiagonalRow.holds Tryz.pinned (OpenSpec.ofChange lanczosDiagonalSpec)

/-- ITS FALSE NEIGHBOUR: 'it returns false'. Refute it at one input. -/
def lanczosDiagonalWrong : ChangeSpec := { name := "lanczosDiagonal", fn := fun _ => fun
  | [d1, d2, d3, d4] => { results := [.lit (.bool false)], args := [d1, d2, d3, d4] }
  | _ => none }
def LanczosDiagonalWrongFalsely : Prop := lanczosDiagonalRow.holds Tryz.pinned (OpenSpec.ofChange lanczosDiagonalWrong)

/-- 'sparselaw38.LanczosMeasures': WHATEVER THE INPUT: true; the input reads as it did. -/
def lanczosMeasuresSpec : ChangeSpec := { name := "lanczosMeasures", fn := fun _ => fun
  | [d1, d2, d3, d4, d5, d6] => { results := [.lit (.bool true)], args := [d1, d2, d3, d4, d5, d6] }
  | _ => none }
def lanczosMeasuresRow : OpenClaim := { program := "ytkbgfnhdfmmfcaagreatdoor", sum := "3d784cd9b8fa95bd528d15c2ddb1e19bf8d0eae34122bfe346985f9a507f521e", func := "sparse/sparselaw38.LanczosMeasures", spec := "lanczosMeasures", unfollowed := true, recurses := true, named := ["math/bits.deBruijn32tab"], apart := false, laid := [("math/bits.deBruijn32tab", laid_math_bits_deBruijn32tab)] }
def LanczosMeasuresSaid : Prop := lanczosMeasuresRow.holds Tryz.pinned (OpenSpec.ofChange lanczosMeasuresSpec)

/-- ITS FALSE NEIGHBOUR: 'it returns false'. Refute it at one input. -/
def lanczosMeasuresWrong : ChangeSpec := { name := "lanczosMeasures", fn := fun _ => fun
  | [d1, d2, d3, d4, d5, d6] => { results := [.lit (.bool false)], args := [d1, d2, d3, d4, d5, d6] }
  | _ => none }
def LanczosMeasuresWrongFalsely : Prop := lanczosMeasuresRow.holds Tryz.pinned (OpenSpec.ofChange lanczosMeasuresWrong)

/-- 'sparselaw38.LanczosRitz': WHATEVER THE INPUT: true; the input reads as it did. -/
def lanczosRitzSpec : ChangeSpec := { name := "lanczosRitz", fn := fun _ => fun
  | [d1, d2, d3, d4] => { results := [.lit (.bool true)], args := [d1, d2, d3, d4] }
  | _ => none }
def lanczosRitzRow : OpenClaim := { program := "ytkbgfnhdfmmfcaagreatdoor", sum := "3d784cd9b8fa95bd528d15c2ddb1e19bf8d0eae34122bfe346985f9a507f521e", func := "sparse/sparselaw38.LanczosRitz", spec := "lanczosRitz", unfollowed := true, recurses := true, named := ["math/bits.deBruijn32tab"], apart := false, laid := [("math/bits.deBruijn32tab", laid_math_bits_deBruijn32tab)] }
def LanczosRitzSaid : Prop := lanczosRitzRow.holds Tryz.pinned (OpenSpec.ofChange lanczosRitzSpec)

/-- ITS FALSE NEIGHBOUR: 'it returns false'. Refute it at one input. -/
def lanczosRitzWrong : ChangeSpec := { name := "lanczosRitz", fn := fun _ => fun
  | [d1, d2, d3, d4] => { results := [.lit (.bool false)], args := [d1, d2, d3, d4] }
  | _ => none }
def LanczosRitzWrongFalsely : Prop := lanczosRitzRow.holds Tryz.pinned (OpenSpec.ofChange lanczosRitzWrong)

/-- 'sparselaw38.LanczosWithin': WHATEVER THE INPUT: true; the input reads as it did. -/
def lanczosWithinSpec : ChangeSpec := { name := "lanczosWithin", fn := fun _ => fun
  | [d1, d2, d3] => { results := [.lit (.bool true)], args := [d1, d2, d3] }
  | _ => none }
def lanczosWithinRow : OpenClaim := { program := "ytkbgfnhdfmmfcaagreatdoor", sum := "3d784cd9b8fa95bd528d15c2ddb1e19bf8d0eae34122bfe346985f9a507f521e", func := "sparse/sparselaw38.LanczosWithin", spec := "lanczosWithin", unfollowed := true, recurses := true, named := ["math/bits.deBruijn32tab"], apart := false, laid := [("math/bits.deBruijn32tab", laid_math_bits_deBruijn32tab)] }
def LanczosWithinSaid : Prop := lanczosWithinRow.holds Tryz.pinned (OpenSpec.ofChange lanczosWithinSpec)

/-- ITS FALSE NEIGHBOUR: 'it returns false'. Refute it at one input. -/
def lanczosWithinWrong : ChangeSpec := { name := "lanczosWithin", fn := fun _ => fun
  | [d1, d2, d3] => { results := [.lit (.bool false)], args := [d1, d2, d3] }
  | _ => none }
def LanczosWithinWrongFalsely : Prop := lanczosWithinRow.holds Tryz.pinned (OpenSpec.ofChange lanczosWithinWrong)

/- THE SECOND FORM. 'bulk': how many values and letters a reading holds, each counted each time it is reached (what is shared counts as often as it is met; a slice's spare places count too). A statement '..UptoSaid' is the law's where the arguments, and the package variables that the reading takes, are together of bulk at most 1048576: NARROWER than '..Said'. Prove '..Said' where nothing that the law and all that it calls make is longer than what came in: it says more and counts as full. Else prove '..UptoSaid'. A law counts once. -/
mutual
def uptoBulk {H : Type} : DataW H → Nat
  | .lit (.string bytes) => bytes.length + 1
  | .lit _ => 1
  | .nil => 1
  | .ptr d => uptoBulk d + 1
  | .slice elems spare => uptoBulkAll elems + uptoBulkAll spare + 1
  | .agg parts => uptoBulkAll parts + 1
  | .iface _ d => uptoBulk d + 1
  | .map entries => uptoBulkEntries entries + 1
  | .held _ => 1
def uptoBulkAll {H : Type} : List (DataW H) → Nat
  | [] => 0
  | d :: r => uptoBulk d + uptoBulkAll r
def uptoBulkEntries {H : Type} : List (Lit × DataW H) → Nat
  | [] => 0
  | x :: r => uptoBulkEntry x + uptoBulkEntries r
def uptoBulkEntry {H : Type} : Lit × DataW H → Nat
  | (.string bytes, d) => bytes.length + uptoBulk d + 1
  | (_, d) => uptoBulk d + 1
 end
def uptoSmall : (H : Type) → List (DataW H) → Bool := fun _ ds => decide (uptoBulkAll ds ≤ 1048576)
def OpenSpec.upto (s : _root_.Go.ChangeSpec) : _root_.Go.OpenSpec := { _root_.Go.OpenSpec.ofChange s with cond := some uptoSmall }

/-- 'sparselaw38.LanczosRuns', WHERE WHAT IT READS IS OF BULK AT MOST 1048576: true; the input reads as it did. -/
def lanczosRunsUptoRow : OpenClaim := { program := "ytkbgfnhdfmmfcaagreatdoor", sum := "3d784cd9b8fa95bd528d15c2ddb1e19bf8d0eae34122bfe346985f9a507f521e", func := "sparse/sparselaw38.LanczosRuns", spec := "lanczosRuns", unfollowed := true, recurses := true, named := ["math/bits.deBruijn32tab"], apart := false, laid := [("math/bits.deBruijn32tab", laid_math_bits_deBruijn32tab)], narrowed := true }
def LanczosRunsUptoSaid : Prop := lanczosRunsUptoRow.holds Tryz.pinned (OpenSpec.upto lanczosRunsSpec)

/-- 'sparselaw38.LanczosRefuses', WHERE WHAT IT READS IS OF BULK AT MOST 1048576: true; the input reads as it did. -/
def lanczosRefusesUptoRow : OpenClaim := { program := "ytkbgfnhdfmmfcaagreatdoor", sum := "3d784cd9b8fa95bd528d15c2ddb1e19bf8d0eae34122bfe346985f9a507f521e", func := "sparse/sparselaw38.LanczosRefuses", spec := "lanczosRefuses", unfollowed := true, recurses := true, named := ["math/bits.deBruijn32tab"], apart := false, laid := [("math/bits.deBruijn32tab", laid_math_bits_deBruijn32tab)], narrowed := true }
def LanczosRefusesUptoSaid : Prop := lanczosRefusesUptoRow.holds Tryz.pinned (OpenSpec.upto lanczosRefusesSpec)

/-- 'sparselaw38.LanczosUnit', WHERE WHAT IT READS IS OF BULK AT MOST 1048576: true; the input reads as it did. -/
def lanczosUnitUptoRow : OpenClaim := { program := "ytkbgfnhdfmmfcaagreatdoor", sum := "3d784cd9b8fa95bd528d15c2ddb1e19bf8d0eae34122bfe346985f9a507f521e", func := "sparse/sparselaw38.LanczosUnit", spec := "lanczosUnit", unfollowed := true, recurses := true, named := ["math/bits.deBruijn32tab"], apart := false, laid := [("math/bits.deBruijn32tab", laid_math_bits_deBruijn32tab)], narrowed := true }
def LanczosUnitUptoSaid : Prop := lanczosUnitUptoRow.holds Tryz.pinned (OpenSpec.upto lanczosUnitSpec)

/-- 'sparselaw38.LanczosDiagonal', WHERE WHAT IT READS IS OF BULK AT MOST 1048576: true; the input reads as it did. -/
def lanczosDiagonalUptoRow : OpenClaim := { program := "ytkbgfnhdfmmfcaagreatdoor", sum := "3d784cd9b8fa95bd528d15c2ddb1e19bf8d0eae34122bfe346985f9a507f521e", func := "sparse/sparselaw38.LanczosDiagonal", spec := "lanczosDiagonal", unfollowed := true, recurses := true, named := ["math/bits.deBruijn32tab"], apart := false, laid := [("math/bits.deBruijn32tab", laid_math_bits_deBruijn32tab)], narrowed := true }
def LanczosDiagonalUptoSaid : Prop := lanczosDiagonalUptoRow.holds Tryz.pinned (OpenSpec.upto lanczosDiagonalSpec)

/-- 'sparselaw38.LanczosMeasures', WHERE WHAT IT READS IS OF BULK AT MOST 1048576: true; the input reads as it did. -/
def lanczosMeasuresUptoRow : OpenClaim := { program := "ytkbgfnhdfmmfcaagreatdoor", sum := "3d784cd9b8fa95bd528d15c2ddb1e19bf8d0eae34122bfe346985f9a507f521e", func := "sparse/sparselaw38.LanczosMeasures", spec := "lanczosMeasures", unfollowed := true, recurses := true, named := ["math/bits.deBruijn32tab"], apart := false, laid := [("math/bits.deBruijn32tab", laid_math_bits_deBruijn32tab)], narrowed := true }
def LanczosMeasuresUptoSaid : Prop := lanczosMeasuresUptoRow.holds Tryz.pinned (OpenSpec.upto lanczosMeasuresSpec)

/-- 'sparselaw38.LanczosRitz', WHERE WHAT IT READS IS OF BULK AT MOST 1048576: true; the input reads as it did. -/
def lanczosRitzUptoRow : OpenClaim := { program := "ytkbgfnhdfmmfcaagreatdoor", sum := "3d784cd9b8fa95bd528d15c2ddb1e19bf8d0eae34122bfe346985f9a507f521e", func := "sparse/sparselaw38.LanczosRitz", spec := "lanczosRitz", unfollowed := true, recurses := true, named := ["math/bits.deBruijn32tab"], apart := false, laid := [("math/bits.deBruijn32tab", laid_math_bits_deBruijn32tab)], narrowed := true }
def LanczosRitzUptoSaid : Prop := lanczosRitzUptoRow.holds Tryz.pinned (OpenSpec.upto lanczosRitzSpec)

/-- 'sparselaw38.LanczosWithin', WHERE WHAT IT READS IS OF BULK AT MOST 1048576: true; the input reads as it did. -/
def lanczosWithinUptoRow : OpenClaim := { program := "ytkbgfnhdfmmfcaagreatdoor", sum := "3d784cd9b8fa95bd528d15c2ddb1e19bf8d0eae34122bfe346985f9a507f521e", func := "sparse/sparselaw38.LanczosWithin", spec := "lanczosWithin", unfollowed := true, recurses := true, named := ["math/bits.deBruijn32tab"], apart := false, laid := [("math/bits.deBruijn32tab", laid_math_bits_deBruijn32tab)], narrowed := true }
def LanczosWithinUptoSaid : Prop := lanczosWithinUptoRow.holds Tryz.pinned (OpenSpec.upto lanczosWithinSpec)

end Rows
end Go.Proofs.YtkbgfnhdfmmfcaaGreatDoor
