/-
  NARROWER THAN 'FOR EVERY INPUT', by the rows' own cells (each row's printed sentence says how): MatrixBuilt: laid · MatrixProducts: laid · MatrixAdjoint: laid · MatrixWhole: laid · MatrixShifted: laid · MatrixParts: laid · MatrixScales: laid.
  DERIVED. THE GIVEN ROWS OF THIS SEAT. 7 by the template 'for every input the law returns true; each argument reads behind the call as it read before'; 0 by the template 'total and deterministic' (their statements: YtjjndhlkoehkdaaGreatDoorTotals.lean).
  GIVEN WITH THE SEED: the statements are not yours to turn. If you find one false, say at which input.
  Laid BY PROGRAM, IN A SANDBOX (cutbox-rows.mjs): the forced cells as the released guide's own fill.sh prints them over the translation 968f7568dc895dae… (all of the seat's roots in one cut). By AI agents, Wed Nov 11 2026. No macro, syntax, notation, axiom, sorry.
-/
import Derived.Test.YtjjndhlkoehkdaaGreatDoorChecked
import GoSem.Claim
import GoSem.ClaimJoined
import GoSem.ClaimMapViews
import Derived.JoinedTies
import Derived.KernelRfl
namespace Go.Proofs.YtjjndhlkoehkdaaGreatDoor
/- THE CELL 'sum', in the pinned program and in every row, IS THE sha256 OF THE DUMP (.gsa) THAT YtjjndhlkoehkdaaGreatDoorProg.lean LOADS. Nothing in Lean hashes anything: it is a label: what it is worth is what the hold of that sum in a sandbox is worth. -/
noncomputable def Tryz.pinned : Pinned := { name := "ytjjndhlkoehkdaagreatdoor", sum := "968f7568dc895dae2235b5e25d34f5f9731837d2bfde64ca76a7dd49c608d109", checked := Tryz.checked }
namespace Rows
def none {H : Type} : Left H := { results := [], args := [] }

/- WHAT THE LISTED PACKAGE-LEVEL VARIABLES READ AS WHEN THE CALL BEGINS. Each datum BY PROGRAM (the guide's laid-datum.mjs) off the statement by which the dump's own 'gosem.cut.vars' lays the variable. In a bare row this is a premise. The card (YtjjndhlkoehkdaaGreatDoorCards.lean) ties it to the program's text. -/
def laid_math_bits_deBruijn32tab {H : Type} : DataW H := .agg [.lit (.int .u8 0), .lit (.int .u8 1), .lit (.int .u8 28), .lit (.int .u8 2), .lit (.int .u8 29), .lit (.int .u8 14), .lit (.int .u8 24), .lit (.int .u8 3), .lit (.int .u8 30), .lit (.int .u8 22), .lit (.int .u8 20), .lit (.int .u8 15), .lit (.int .u8 25), .lit (.int .u8 17), .lit (.int .u8 4), .lit (.int .u8 8), .lit (.int .u8 31), .lit (.int .u8 27), .lit (.int .u8 13), .lit (.int .u8 23), .lit (.int .u8 21), .lit (.int .u8 19), .lit (.int .u8 16), .lit (.int .u8 7), .lit (.int .u8 26), .lit (.int .u8 12), .lit (.int .u8 18), .lit (.int .u8 6), .lit (.int .u8 11), .lit (.int .u8 5), .lit (.int .u8 10), .lit (.int .u8 9)]

/-- 'sparselaw09.MatrixBuilt': WHATEVER THE INPUT: true; the input reads as it did. -/
def matrixBuiltSpec : ChangeSpec := { name := "matrixBuilt", fn := fun _ => fun
  | [d1, d2, d3] => { results := [.lit (.bool true)], args := [d1, d2, d3] }
  | _ => none }
def matrixBuiltRow : OpenClaim := { program := "ytjjndhlkoehkdaagreatdoor", sum := "968f7568dc895dae2235b5e25d34f5f9731837d2bfde64ca76a7dd49c608d109", func := "sparse/sparselaw09.MatrixBuilt", spec := "matrixBuilt", unfollowed := true, recurses := true, named := ["math/bits.deBruijn32tab"], apart := false, laid := [("math/bits.deBruijn32tab", laid_math_bits_deBruijn32tab)] }
def MatrixBuiltSaid : Prop := matrixBuiltRow.holds Tryz.pinned (OpenSpec.ofChange matrixBuiltSpec)

/-- ITS FALSE NEIGHBOUR: 'it returns false'. Refute it at one input. -/
def matrixBuiltWrong : ChangeSpec := { name := "matrixBuilt", fn := fun _ => fun
  | [d1, d2, d3] => { results := [.lit (.bool false)], args := [d1, d2, d3] }
  | _ => none }
def MatrixBuiltWrongFalsely : Prop := matrixBuiltRow.holds Tryz.pinned (OpenSpec.ofChange matrixBuiltWrong)

/-- 'sparselaw09.MatrixProducts': WHATEVER THE INPUT: true; the input reads as it did. -/
def matrixProductsSpec : ChangeSpec := { name := "matrixProducts", fn := fun _ => fun
  | [d1, d2] => { results := [.lit (.bool true)], args := [d1, d2] }
  | _ => none }
def matrixProductsRow : OpenClaim := { program := "ytjjndhlkoehkdaagreatdoor", sum := "968f7568dc895dae2235b5e25d34f5f9731837d2bfde64ca76a7dd49c608d109", func := "sparse/sparselaw09.MatrixProducts", spec := "matrixProducts", unfollowed := true, recurses := true, named := ["math/bits.deBruijn32tab"], apart := false, laid := [("math/bits.deBruijn32tab", laid_math_bits_deBruijn32tab)] }
def MatrixProductsSaid : Prop := matrixProductsRow.holds Tryz.pinned (OpenSpec.ofChange matrixProductsSpec)

/-- ITS FALSE NEIGHBOUR: 'it returns false'. Refute it at one input. -/
def matrixProductsWrong : ChangeSpec := { name := "matrixProducts", fn := fun _ => fun
  | [d1, d2] => { results := [.lit (.bool false)], args := [d1, d2] }
  | _ => none }
def MatrixProductsWrongFalsely : Prop := matrixProductsRow.holds Tryz.pinned (OpenSpec.ofChange matrixProductsWrong)

/-- 'sparselaw09.MatrixAdjoint': WHATEVER THE INPUT: true; the input reads as it did. -/
def matrixAdjointSpec : ChangeSpec := { name := "matrixAdjoint", fn := fun _ => fun
  | [d1, d2, d3, d4, d5, d6] => { results := [.lit (.bool true)], args := [d1, d2, d3, d4, d5, d6] }
  | _ => none }
def matrixAdjointRow : OpenClaim := { program := "ytjjndhlkoehkdaagreatdoor", sum := "968f7568dc895dae2235b5e25d34f5f9731837d2bfde64ca76a7dd49c608d109", func := "sparse/sparselaw09.MatrixAdjoint", spec := "matrixAdjoint", unfollowed := true, recurses := true, named := ["math/bits.deBruijn32tab"], apart := false, laid := [("math/bits.deBruijn32tab", laid_math_bits_deBruijn32tab)] }
def MatrixAdjointSaid : Prop := matrixAdjointRow.holds Tryz.pinned (OpenSpec.ofChange matrixAdjointSpec)

/-- ITS FALSE NEIGHBOUR: 'it returns false'. Refute it at one input. -/
def matrixAdjointWrong : ChangeSpec := { name := "matrixAdjoint", fn := fun _ => fun
  | [d1, d2, d3, d4, d5, d6] => { results := [.lit (.bool false)], args := [d1, d2, d3, d4, d5, d6] }
  | _ => none }
def MatrixAdjointWrongFalsely : Prop := matrixAdjointRow.holds Tryz.pinned (OpenSpec.ofChange matrixAdjointWrong)

/-- 'sparselaw09.MatrixWhole': WHATEVER THE INPUT: true; the input reads as it did. -/
def matrixWholeSpec : ChangeSpec := { name := "matrixWhole", fn := fun _ => fun
  | [d1, d2, d3] => { results := [.lit (.bool true)], args := [d1, d2, d3] }
  | _ => none }
def matrixWholeRow : OpenClaim := { program := "ytjjndhlkoehkdaagreatdoor", sum := "968f7568dc895dae2235b5e25d34f5f9731837d2bfde64ca76a7dd49c608d109", func := "sparse/sparselaw09.MatrixWhole", spec := "matrixWhole", unfollowed := true, recurses := true, named := ["math/bits.deBruijn32tab"], apart := false, laid := [("math/bits.deBruijn32tab", laid_math_bits_deBruijn32tab)] }
def MatrixWholeSaid : Prop := matrixWholeRow.holds Tryz.pinned (OpenSpec.ofChange matrixWholeSpec)

/-- ITS FALSE NEIGHBOUR: 'it returns false'. Refute it at one input. -/
def matrixWholeWrong : ChangeSpec := { name := "matrixWhole", fn := fun _ => fun
  | [d1, d2, d3] => { results := [.lit (.bool false)], args := [d1, d2, d3] }
  | _ => none }
def MatrixWholeWrongFalsely : Prop := matrixWholeRow.holds Tryz.pinned (OpenSpec.ofChange matrixWholeWrong)

/-- 'sparselaw09.MatrixShifted': WHATEVER THE INPUT: true; the input reads as it did. -/
def matrixShiftedSpec : ChangeSpec := { name := "matrixShifted", fn := fun _ => fun
  | [d1, d2, d3] => { results := [.lit (.bool true)], args := [d1, d2, d3] }
  | _ => none }
def matrixShiftedRow : OpenClaim := { program := "ytjjndhlkoehkdaagreatdoor", sum := "968f7568dc895dae2235b5e25d34f5f9731837d2bfde64ca76a7dd49c608d109", func := "sparse/sparselaw09.MatrixShifted", spec := "matrixShifted", unfollowed := true, recurses := true, named := ["math/bits.deBruijn32tab"], apart := false, laid := [("math/bits.deBruijn32tab", laid_math_bits_deBruijn32tab)] }
def MatrixShiftedSaid : Prop := matrixShiftedRow.holds Tryz.pinned (OpenSpec.ofChange matrixShiftedSpec)

/-- ITS FALSE NEIGHBOUR: 'it returns false'. Refute it at one input. -/
def matrixShiftedWrong : ChangeSpec := { name := "matrixShifted", fn := fun _ => fun
  | [d1, d2, d3] => { results := [.lit (.bool false)], args := [d1, d2, d3] }
  | _ => none }
def MatrixShiftedWrongFalsely : Prop := matrixShiftedRow.holds Tryz.pinned (OpenSpec.ofChange matrixShiftedWrong)

/-- 'sparselaw09.MatrixParts': WHATEVER THE INPUT: true; the input reads as it did. -/
def matrixPartsSpec : ChangeSpec := { name := "matrixParts", fn := fun _ => fun
  | [d1, d2, d3] => { results := [.lit (.bool true)], args := [d1, d2, d3] }
  | _ => none }
def matrixPartsRow : OpenClaim := { program := "ytjjndhlkoehkdaagreatdoor", sum := "968f7568dc895dae2235b5e25d34f5f9731837d2bfde64ca76a7dd49c608d109", func := "sparse/sparselaw09.MatrixParts", spec := "matrixParts", unfollowed := true, recurses := true, named := ["math/bits.deBruijn32tab"], apart := false, laid := [("math/bits.deBruijn32tab", laid_math_bits_deBruijn32tab)] }
def MatrixPartsSaid : Prop := matrixPartsRow.holds Tryz.pinned (OpenSpec.ofChange matrixPartsSpec)

/-- ITS FALSE NEIGHBOUR: 'it returns false'. Refute it at one input. -/
def matrixPartsWrong : ChangeSpec := { name := "matrixParts", fn := fun _ => fun
  | [d1, d2, d3] => { results := [.lit (.bool false)], args := [d1, d2, d3] }
  | _ => none }
def MatrixPartsWrongFalsely : Prop := matrixPartsRow.holds Tryz.pinned (OpenSpec.ofChange matrixPartsWrong)

/-- 'sparselaw09.MatrixScales': WHATEVER THE INPUT: true; the input reads as it did. -/
def matrixScalesSpec : ChangeSpec := { name := "matrixScales", fn := fun _ => fun
  | [d1, d2, d3, d4] => { results := [.lit (.bool true)], args := [d1, d2, d3, d4] }
  | _ => none }
def matrixScalesRow : OpenClaim := { program := "ytjjndhlkoehkdaagreatdoor", sum := "968f7568dc895dae2235b5e25d34f5f9731837d2bfde64ca76a7dd49c608d109", func := "sparse/sparselaw09.MatrixScales", spec := "matrixScales", unfollowed := true, recurses := true, named := ["math/bits.deBruijn32tab"], apart := false, laid := [("math/bits.deBruijn32tab", laid_math_bits_deBruijn32tab)] }
def MatrixScalesSaid : Prop := matrixScalesRow.holds Tryz.pinned (OpenSpec.ofChange matrixScalesSpec)

/-- ITS FALSE NEIGHBOUR: 'it returns false'. Refute it at one input. -/
def matrixScalesWrong : ChangeSpec := { name := "matrixScales", fn := fun _ => fun
  | [d1, d2, d3, d4] => { results := [.lit (.bool false)], args := [d1, d2, d3, d4] }
  | _ => none }
def MatrixScalesWrongFalsely : Prop := matrixScalesRow.holds Tryz.pinned (OpenSpec.ofChange matrixScalesWrong)

/- THE SECOND FORM. 'bulk': how many values and letters a reading holds, each counted each time it is reached (what is shared counts as often as it is met; a slice's spare places count too). A statement '..UptoSaid' is the law's where the arguments, and the package variables that the reading takes, are together of bulk at most 1048576: NARROWER than '..Said'. Prove '..Said' where nothing that the law and all that it calls make is longer than what came in: it says more and counts as full. Else prove '..UptoSaid'. A law counts once. -/
mutual
def uptoBulk {H : Type} : DataW H → Nat
  | .lit (.string bytes) => bytes.length + 1
  | .lit _ => 1
  | .nil => 1
  | .ptr d => uptoBulk d + 1
  | .slice elems spare => uptoBulkAll elems + uptoBulkAll spare + 1
  | .agg parts => uptoBulkAll parts + 1
  | .iface _ d => uptoBulk d + 1
  | .map entries => uptoBulkEntries entries + 1
  | .held _ => 1
def uptoBulkAll {H : Type} : List (DataW H) → Nat
  | [] => 0
  | d :: r => uptoBulk d + uptoBulkAll r
def uptoBulkEntries {H : Type} : List (Lit × DataW H) → Nat
  | [] => 0
  | x :: r => uptoBulkEntry x + uptoBulkEntries r
def uptoBulkEntry {H : Type} : Lit × DataW H → Nat
  | (.string bytes, d) => bytes.length + uptoBulk d + 1
  | (_, d) => uptoBulk d + 1
 end
def uptoSmall : (H : Type) → List (DataW H) → Bool := fun _ ds => decide (uptoBulkAll ds ≤ 1048576)
def OpenSpec.upto (s : _root_.Go.ChangeSpec) : _root_.Go.OpenSpec := { _root_.Go.OpenSpec.ofChange s with cond := some uptoSmall }

/-- 'sparselaw09.MatrixBuilt', WHERE WHAT IT READS IS OF BULK AT MOST 1048576: true; the input reads as it did. -/
def matrixBuiltUptoRow : OpenClaim := { program := "ytjjndhlkoehkdaagreatdoor", sum := "968f7568dc895dae2235b5e25d34f5f9731837d2bfde64ca76a7dd49c608d109", func := "sparse/sparselaw09.MatrixBuilt", spec := "matrixBuilt", unfollowed := true, recurses := true, named := ["math/bits.deBruijn32tab"], apart := false, laid := [("math/bits.deBruijn32tab", laid_math_bits_deBruijn32tab)], narrowed := true }
def MatrixBuiltUptoSaid : Prop := matrixBuiltUptoRow.holds Tryz.pinned (OpenSpec.upto matrixBuiltSpec)

/-- 'sparselaw09.MatrixProducts', WHERE WHAT IT READS IS OF BULK AT MOST 1048576: true; the input reads as it did. -/
def matrixProductsUptoRow : OpenClaim := { program := "ytjjndhlkoehkdaagreatdoor", sum := "968f7568dc895dae2235b5e25d34f5f9731837d2bfde64ca76a7dd49c608d109", func := "sparse/sparselaw09.MatrixProducts", spec := "matrixProducts", unfollowed := true, recurses := true, named := ["math/bits.deBruijn32tab"], apart := false, laid := [("math/bits.deBruijn32tab", laid_math_bits_deBruijn32tab)], narrowed := true }
def MatrixProductsUptoSaid : Prop := matrixProductsUptoRow.holds Tryz.pinned (OpenSpec.upto matrixProductsSpec)

/-- 'sparselaw09.MatrixAdjoint', WHERE WHAT IT READS IS OF BULK AT MOST 1048576: true; the input reads as it did. -/
def matrixAdjointUptoRow : OpenClaim := { program := "ytjjndhlkoehkdaagreatdoor", sum := "968f7568dc895dae2235b5e25d34f5f9731837d2bfde64ca76a7dd49c608d109", func := "sparse/sparselaw09.MatrixAdjoint", spec := "matrixAdjoint", unfollowed := true, recurses := true, named := ["math/bits.deBruijn32tab"], apart := false, laid := [("math/bits.deBruijn32tab", laid_math_bits_deBruijn32tab)], narrowed := true }
def MatrixAdjointUptoSaid : Prop := matrixAdjointUptoRow.holds Tryz.pinned (OpenSpec.upto matrixAdjointSpec)

/-- 'sparselaw09.MatrixWhole', WHERE WHAT IT READS IS OF BULK AT MOST 1048576: true; the input reads as it did. -/
def matrixWholeUptoRow : OpenClaim := { program := "ytjjndhlkoehkdaagreatdoor", sum := "968f7568dc895dae2235b5e25d34f5f9731837d2bfde64ca76a7dd49c608d109", func := "sparse/sparselaw09.MatrixWhole", spec := "matrixWhole", unfollowed := true, recurses := true, named := ["math/bits.deBruijn32tab"], apart := false, laid := [("math/bits.deBruijn32tab", laid_math_bits_deBruijn32tab)], narrowed := true }
def MatrixWholeUptoSaid : Prop := matrixWholeUptoRow.holds Tryz.pinned (OpenSpec.upto matrixWholeSpec)

/-- 'sparselaw09.MatrixShifted', WHERE WHAT IT READS IS OF BULK AT MOST 1048576: true; the input reads as it did. -/
def matrixShiftedUptoRow : OpenClaim := { program := "ytjjndhlkoehkdaagreatdoor", sum := "968f7568dc895dae2235b5e25d34f5f9731837d2bfde64ca76a7dd49c608d109", func := "sparse/sparselaw09.MatrixShifted", spec := "matrixShifted", unfollowed := true, recurses := true, named := ["math/bits.deBruijn32tab"], apart := false, laid := [("math/bits.deBruijn32tab", laid_math_bits_deBruijn32tab)], narrowed := true }
def MatrixShiftedUptoSaid : Prop := matrixShiftedUptoRow.holds Tryz.pinned (OpenSpec.upto matrixShiftedSpec)

/-- 'sparselaw09.MatrixParts', WHERE WHAT IT READS IS OF BULK AT MOST 1048576: true; the input reads as it did. -/
def matrixPartsUptoRow : OpenClaim := { program := "ytjjndhlkoehkdaagreatdoor", sum := "968f7568dc895dae2235b5e25d34f5f9731837d2bfde64ca76a7dd49c608d109", func := "sparse/sparselaw09.MatrixParts", spec := "matrixParts", unfollowed := true, recurses := true, named := ["math/bits.deBruijn32tab"], apart := false, laid := [("math/bits.deBruijn32tab", laid_math_bits_deBruijn32tab)], narrowed := true }
def MatrixPartsUptoSaid : Prop := matrixPartsUptoRow.holds Tryz.pinned (OpenSpec.upto matrixPartsSpec)

/-- 'sparselaw09.MatrixScales', WHERE WHAT IT READS IS OF BULK AT MOST 1048576: true; the input reads as it did. -/
def matrixScalesUptoRow : OpenClaim := { program := "ytjjndhlkoehkdaagreatdoor", sum := "968f7568dc895dae2235b5e25d34f5f9731837d2bfde64ca76a7dd49c608d109", func := "sparse/sparselaw09.MatrixScales", spec := "matrixScales", unfollowed := true, recurses := true, named := ["math/bits.deBruijn32tab"], apart := false, laid := [("math/bits.deBruijn32tab", laid_math_bits_deBruijn32tab)], narrowed := true }
def MatrixScalesUptoSaid : Prop := matrixScalesUptoRow.holds Tryz.pinned (OpenSpec.upto matrixScalesSpec)

end Rows
end Go.Proofs.YtjjndhlkoehkdaaGreatDoor
