/-
  NARROWER THAN 'FOR EVERY INPUT', by the rows' own cells (each row's printed sentence says how): SliceIsolates: laid · SliceKth: laid · SliceChecks: laid · SliceSound: laid · SliceDiagonal: laid · SliceNarrows: laid · SliceRefuses: laid.
  DERIVED. THE GIVEN ROWS OF THIS SEAT. 7 by the template 'for every input the law returns true; each argument reads behind the call as it read before'; 0 by the template 'total and deterministic' (their statements: YtgjpnfjkalepkaaGreatDoorTotals.lean).
  GIVEN WITH THE SEED: the statements are not yours to turn. If you find one false, say at which input.
  Laid BY PROGRAM, IN A SANDBOX (cutbox-rows.mjs): the forced cells as the released guide's own fill.sh prints them over the translation cc1db59dcb6e0a66… (all of the seat's roots in one cut). By AI agents, Wed Nov 11 2026. No macro, syntax, notation, axiom, sorry.
-/
import Derived.Test.YtgjpnfjkalepkaaGreatDoorChecked
import GoSem.Claim
import GoSem.ClaimJoined
import GoSem.ClaimMapViews
import Derived.JoinedTies
import Derived.KernelRfl
namespace Go.Proofs.YtgjpnfjkalepkaaGreatDoor
/- THE CELL 'sum', in the pinned program and in every row, IS THE sha256 OF THE DUMP (.gsa) THAT YtgjpnfjkalepkaaGreatDoorProg.lean LOADS. Nothing in Lean hashes anything: it is a label: what it is worth is what the hold of that sum in a sandbox is worth. -/
noncomputable def Tryz.pinned : Pinned := { name := "ytgjpnfjkalepkaagreatdoor", sum := "cc1db59dcb6e0a6641eaba865d7ef20c5890293c0f1e14b975249a66e32f9f2c", checked := Tryz.checked }
namespace Rows
def none {H : Type} : Left H := { results := [], args := [] }

/- WHAT THE LISTED PACKAGE-LEVEL VARIABLES READ AS WHEN THE CALL BEGINS. Each datum BY PROGRAM (the guide's laid-datum.mjs) off the statement by which the dump's own 'gosem.cut.vars' lays the variable. In a bare row this is a premise. The card (YtgjpnfjkalepkaaGreatDoorCards.lean) ties it to the program's text. -/
def laid_math_bits_deBruijn32tab {H : Type} : DataW H := .agg [.lit (.int .u8 0), .lit (.int .u8 1), .lit (.int .u8 28), .lit (.int .u8 2), .lit (.int .u8 29), .lit (.int .u8 14), .lit (.int .u8 24), .lit (.int .u8 3), .lit (.int .u8 30), .lit (.int .u8 22), .lit (.int .u8 20), .lit (.int .u8 15), .lit (.int .u8 25), .lit (.int .u8 17), .lit (.int .u8 4), .lit (.int .u8 8), .lit (.int .u8 31), .lit (.int .u8 27), .lit (.int .u8 13), .lit (.int .u8 23), .lit (.int .u8 21), .lit (.int .u8 19), .lit (.int .u8 16), .lit (.int .u8 7), .lit (.int .u8 26), .lit (.int .u8 12), .lit (.int .u8 18), .lit (.int .u8 6), .lit (.int .u8 11), .lit (.int .u8 5), .lit (.int .u8 10), .lit (.int .u8 9)]

/-- 'sparselaw40.SliceIsolates': WHATEVER THE INPUT: true; the input reads as it did. -/
def sliceIsolatesSpec : ChangeSpec := { name := "sliceIsolates", fn := fun _ => fun
  | [d1, d2, d3, d4, d5] => { results := [.lit (.bool true)], args := [d1, d2, d3, d4, d5] }
  | _ => none }
def sliceIsolatesRow : OpenClaim := { program := "ytgjpnfjkalepkaagreatdoor", sum := "cc1db59dcb6e0a6641eaba865d7ef20c5890293c0f1e14b975249a66e32f9f2c", func := "sparse/sparselaw40.SliceIsolates", spec := "sliceIsolates", unfollowed := true, recurses := true, named := ["math/bits.deBruijn32tab"], apart := false, laid := [("math/bits.deBruijn32tab", laid_math_bits_deBruijn32tab)] }
def SliceIsolatesSaid : Prop := sliceIsolatesRow.holds Tryz.pinned (OpenSpec.ofChange sliceIsolatesSpec)

/-- ITS FALSE NEIGHBOUR: 'it returns false'. Refute it at one input. -/
def sliceIsolatesWrong : ChangeSpec := { name := "sliceIsolates", fn := fun _ => fun
  | [d1, d2, d3, d4, d5] => { results := [.lit (.bool false)], args := [d1, d2, d3, d4, d5] }
  | _ => none }
def SliceIsolatesWrongFalsely : Prop := sliceIsolatesRow.holds Tryz.pinned (OpenSpec.ofChange sliceIsolatesWrong)

/-- 'sparselaw40.SliceKth': WHATEVER THE INPUT: true; the input reads as it did. -/
def sliceKthSpec : ChangeSpec := { name := "sliceKth", fn := fun _ => fun
  | [d1, d2, d3, d4] => { results := [.lit (.bool true)], args := [d1, d2, d3, d4] }
  | _ => none }
def sliceKthRow : OpenClaim := { program := "ytgjpnfjkalepkaagreatdoor", sum := "cc1db59dcb6e0a6641eaba865d7ef20c5890293c0f1e14b975249a66e32f9f2c", func := "sparse/sparselaw40.SliceKth", spec := "sliceKth", unfollowed := true, recurses := true, named := ["math/bits.deBruijn32tab"], apart := false, laid := [("math/bits.deBruijn32tab", laid_math_bits_deBruijn32tab)] }
def SliceKthSaid : Prop := sliceKthRow.holds Tryz.pinned (OpenSpec.ofChange sliceKthSpec)

/-- ITS FALSE NEIGHBOUR: 'it returns false'. Refute it at one input. -/
def sliceKthWrong : ChangeSpec := { name := "sliceKth", fn := fun _ => fun
  | [d1, d2, d3, d4] => { results := [.lit (.bool false)], args := [d1, d2, d3, d4] }
  | _ => none }
def SliceKthWrongFalsely : Prop := sliceKthRow.holds Tryz.pinned (OpenSpec.ofChange sliceKthWrong)

/-- 'sparselaw40.SliceChecks': WHATEVER THE INPUT: true; the input reads as it did. -/
def sliceChecksSpec : ChangeSpec := { name := "sliceChecks", fn := fun _ => fun
  | [d1, d2, d3, d4, d5, d6, d7] => { results := [.lit (.bool true)], args := [d1, d2, d3, d4, d5, d6, d7] }
  | _ => none }
def sliceChecksRow : OpenClaim := { program := "ytgjpnfjkalepkaagreatdoor", sum := "cc1db59dcb6e0a6641eaba865d7ef20c5890293c0f1e14b975249a66e32f9f2c", func := "sparse/sparselaw40.SliceChecks", spec := "sliceChecks", unfollowed := true, recurses := true, named := ["math/bits.deBruijn32tab"], apart := false, laid := [("math/bits.deBruijn32tab", laid_math_bits_deBruijn32tab)] }
def SliceChecksSaid : Prop := sliceChecksRow.holds Tryz.pinned (OpenSpec.ofChange sliceChecksSpec)

/-- ITS FALSE NEIGHBOUR: 'it returns false'. Refute it at one input. -/
def sliceChecksWrong : ChangeSpec := { name := "sliceChecks", fn := fun _ => fun
  | [d1, d2, d3, d4, d5, d6, d7] => { results := [.lit (.bool false)], args := [d1, d2, d3, d4, d5, d6, d7] }
  | _ => none }
def SliceChecksWrongFalsely : Prop := sliceChecksRow.holds Tryz.pinned (OpenSpec.ofChange sliceChecksWrong)

/-- 'sparselaw40.SliceSound': WHATEVER THE INPUT: true; the input reads as it did. -/
def sliceSoundSpec : ChangeSpec := { name := "sliceSound", fn := fun _ => fun
  | [d1, d2, d3, d4, d5] => { results := [.lit (.bool true)], args := [d1, d2, d3, d4, d5] }
  | _ => none }
def sliceSoundRow : OpenClaim := { program := "ytgjpnfjkalepkaagreatdoor", sum := "cc1db59dcb6e0a6641eaba865d7ef20c5890293c0f1e14b975249a66e32f9f2c", func := "sparse/sparselaw40.SliceSound", spec := "sliceSound", unfollowed := true, recurses := true, named := ["math/bits.deBruijn32tab"], apart := false, laid := [("math/bits.deBruijn32tab", laid_math_bits_deBruijn32tab)] }
def SliceSoundSaid : Prop := sliceSoundRow.holds Tryz.pinned (OpenSpec.ofChange sliceSoundSpec)

/-- ITS FALSE NEIGHBOUR: 'it returns false'. Refute it at one input. -/
def sliceSoundWrong : ChangeSpec := { name := "sliceSound", fn := fun _ => fun
  | [d1, d2, d3, d4, d5] => { results := [.lit (.bool false)], args := [d1, d2, d3, d4, d5] }
  | _ => none }
def SliceSoundWrongFalsely : Prop := sliceSoundRow.holds Tryz.pinned (OpenSpec.ofChange sliceSoundWrong)

/-- 'sparselaw40.SliceDiagonal': WHATEVER THE INPUT: true; the input reads as it did. -/
def sliceDiagonalSpec : ChangeSpec := { name := "sliceDiagonal", fn := fun _ => fun
  | [d1, d2, d3] => { results := [.lit (.bool true)], args := [d1, d2, d3] }
  | _ => none }
def sliceDiagonalRow : OpenClaim := { program := "ytgjpnfjkalepkaagreatdoor", sum := "cc1db59dcb6e0a6641eaba865d7ef20c5890293c0f1e14b975249a66e32f9f2c", func := "sparse/sparselaw40.SliceDiagonal", spec := "sliceDiagonal", unfollowed := true, recurses := true, named := ["math/bits.deBruijn32tab"], apart := false, laid := [("math/bits.deBruijn32tab", laid_math_bits_deBruijn32tab)] }
def SliceDiagonalSaid : Prop := sliceDiagonalRow.holds Tryz.pinned (OpenSpec.ofChange sliceDiagonalSpec)

/-- ITS FALSE NEIGHBOUR: 'it returns false'. Refute it at one input. -/
def sliceDiagonalWrong : ChangeSpec := { name := "sliceDiagonal", fn := fun _ => fun
  | [d1, d2, d3] => { results := [.lit (.bool false)], args := [d1, d2, d3] }
  | _ => none }
def SliceDiagonalWrongFalsely : Prop := sliceDiagonalRow.holds Tryz.pinned (OpenSpec.ofChange sliceDiagonalWrong)

/-- 'sparselaw40.SliceNarrows': WHATEVER THE INPUT: true; the input reads as it did. -/
def sliceNarrowsSpec : ChangeSpec := { name := "sliceNarrows", fn := fun _ => fun
  | [d1, d2, d3, d4, d5, d6, d7] => { results := [.lit (.bool true)], args := [d1, d2, d3, d4, d5, d6, d7] }
  | _ => none }
def sliceNarrowsRow : OpenClaim := { program := "ytgjpnfjkalepkaagreatdoor", sum := "cc1db59dcb6e0a6641eaba865d7ef20c5890293c0f1e14b975249a66e32f9f2c", func := "sparse/sparselaw40.SliceNarrows", spec := "sliceNarrows", unfollowed := true, recurses := true, named := ["math/bits.deBruijn32tab"], apart := false, laid := [("math/bits.deBruijn32tab", laid_math_bits_deBruijn32tab)] }
def SliceNarrowsSaid : Prop := sliceNarrowsRow.holds Tryz.pinned (OpenSpec.ofChange sliceNarrowsSpec)

/-- ITS FALSE NEIGHBOUR: 'it returns false'. Refute it at one input. -/
def sliceNarrowsWrong : ChangeSpec := { name := "sliceNarrows", fn := fun _ => fun
  | [d1, d2, d3, d4, d5, d6, d7] => { results := [.lit (.bool false)], args := [d1, d2, d3, d4, d5, d6, d7] }
  | _ => none }
def SliceNarrowsWrongFalsely : Prop := sliceNarrowsRow.holds Tryz.pinned (OpenSpec.ofChange sliceNarrowsWrong)

/-- 'sparselaw40.SliceRefuses': WHATEVER THE INPUT: true; the input reads as it did. -/
def sliceRefusesSpec : ChangeSpec := { name := "sliceRefuses", fn := fun _ => fun
  | [d1, d2, d3, d4, d5, d6] => { results := [.lit (.bool true)], args := [d1, d2, d3, d4, d5, d6] }
  | _ => none }
def sliceRefusesRow : OpenClaim := { program := "ytgjpnfjkalepkaagreatdoor", sum := "cc1db59dcb6e0a6641eaba865d7ef20c5890293c0f1e14b975249a66e32f9f2c", func := "sparse/sparselaw40.SliceRefuses", spec := "sliceRefuses", unfollowed := true, recurses := true, named := ["math/bits.deBruijn32tab"], apart := false, laid := [("math/bits.deBruijn32tab", laid_math_bits_deBruijn32tab)] }
def SliceRefusesSaid : Prop := sliceRefusesRow.holds Tryz.pinned (OpenSpec.ofChange sliceRefusesSpec)

/-- ITS FALSE NEIGHBOUR: 'it returns false'. Refute it at one input. -/
def sliceRefusesWrong : ChangeSpec := { name := "sliceRefuses", fn := fun _ => fun
  | [d1, d2, d3, d4, d5, d6] => { results := [.lit (.bool false)], args := [d1, d2, d3, d4, d5, d6] }
  | _ => none }
def SliceRefusesWrongFalsely : Prop := sliceRefusesRow.holds Tryz.pinned (OpenSpec.ofChange sliceRefusesWrong)

/- THE SECOND FORM. 'bulk': how many values and letters a reading holds, each counted each time it is reached (what is shared counts as often as it is met; a slice's spare places count too). A statement '..UptoSaid' is the law's where the arguments, and the package variables that the reading takes, are together of bulk at most 1048576: NARROWER than '..Said'. Prove '..Said' where nothing that the law and all that it calls make is longer than what came in: it says more and counts as full. Else prove '..UptoSaid'. A law counts once. -/
mutual
def uptoBulk {H : Type} : DataW H → Nat
  | .lit (.string bytes) => bytes.length + 1
  | .lit _ => 1
  | .nil => 1
  | .ptr d => uptoBulk d + 1
  | .slice elems spare => uptoBulkAll elems + uptoBulkAll spare + 1
  | .agg parts => uptoBulkAll parts + 1
  | .iface _ d => uptoBulk d + 1
  | .map entries => uptoBulkEntries entries + 1
  | .held _ => 1
def uptoBulkAll {H : Type} : List (DataW H) → Nat
  | [] => 0
  | d :: r => uptoBulk d + uptoBulkAll r
def uptoBulkEntries {H : Type} : List (Lit × DataW H) → Nat
  | [] => 0
  | x :: r => uptoBulkEntry x + uptoBulkEntries r
def uptoBulkEntry {H : Type} : Lit × DataW H → Nat
  | (.string bytes, d) => bytes.length + uptoBulk d + 1
  | (_, d) => uptoBulk d + 1
 end
def uptoSmall : (H : Type) → List (DataW H) → Bool := fun _ ds => decide (uptoBulkAll ds ≤ 1048576)
def OpenSpec.upto (s : _root_.Go.ChangeSpec) : _root_.Go.OpenSpec := { _root_.Go.OpenSpec.ofChange s with cond := some uptoSmall }

/-- 'sparselaw40.SliceIsolates', WHERE WHAT IT READS IS OF BULK AT MOST 1048576: true; the input reads as it did. -/
def sliceIsolatesUptoRow : OpenClaim := { program := "ytgjpnfjkalepkaagreatdoor", sum := "cc1db59dcb6e0a6641eaba865d7ef20c5890293c0f1e14b975249a66e32f9f2c", func := "sparse/sparselaw40.SliceIsolates", spec := "sliceIsolates", unfollowed := true, recurses := true, named := ["math/bits.deBruijn32tab"], apart := false, laid := [("math/bits.deBruijn32tab", laid_math_bits_deBruijn32tab)], narrowed := true }
def SliceIsolatesUptoSaid : Prop := sliceIsolatesUptoRow.holds Tryz.pinned (OpenSpec.upto sliceIsolatesSpec)

/-- 'sparselaw40.SliceKth', WHERE WHAT IT READS IS OF BULK AT MOST 1048576: true; the input reads as it did. -/
def sliceKthUptoRow : OpenClaim := { program := "ytgjpnfjkalepkaagreatdoor", sum := "cc1db59dcb6e0a6641eaba865d7ef20c5890293c0f1e14b975249a66e32f9f2c", func := "sparse/sparselaw40.SliceKth", spec := "sliceKth", unfollowed := true, recurses := true, named := ["math/bits.deBruijn32tab"], apart := false, laid := [("math/bits.deBruijn32tab", laid_math_bits_deBruijn32tab)], narrowed := true }
def SliceKthUptoSaid : Prop := sliceKthUptoRow.holds Tryz.pinned (OpenSpec.upto sliceKthSpec)

/-- 'sparselaw40.SliceChecks', WHERE WHAT IT READS IS OF BULK AT MOST 1048576: true; the input reads as it did. -/
def sliceChecksUptoRow : OpenClaim := { program := "ytgjpnfjkalepkaagreatdoor", sum := "cc1db59dcb6e0a6641eaba865d7ef20c5890293c0f1e14b975249a66e32f9f2c", func := "sparse/sparselaw40.SliceChecks", spec := "sliceChecks", unfollowed := true, recurses := true, named := ["math/bits.deBruijn32tab"], apart := false, laid := [("math/bits.deBruijn32tab", laid_math_bits_deBruijn32tab)], narrowed := true }
def SliceChecksUptoSaid : Prop := sliceChecksUptoRow.holds Tryz.pinned (OpenSpec.upto sliceChecksSpec)

/-- 'sparselaw40.SliceSound', WHERE WHAT IT READS IS OF BULK AT MOST 1048576: true; the input reads as it did. -/
def sliceSoundUptoRow : OpenClaim := { program := "ytgjpnfjkalepkaagreatdoor", sum := "cc1db59dcb6e0a6641eaba865d7ef20c5890293c0f1e14b975249a66e32f9f2c", func := "sparse/sparselaw40.SliceSound", spec := "sliceSound", unfollowed := true, recurses := true, named := ["math/bits.deBruijn32tab"], apart := false, laid := [("math/bits.deBruijn32tab", laid_math_bits_deBruijn32tab)], narrowed := true }
def SliceSoundUptoSaid : Prop := sliceSoundUptoRow.holds Tryz.pinned (OpenSpec.upto sliceSoundSpec)

/-- 'sparselaw40.SliceDiagonal', WHERE WHAT IT READS IS OF BULK AT MOST 1048576: true; the input reads as it did. -/
def sliceDiagonalUptoRow : OpenClaim := { program := "ytgjpnfjkalepkaagreatdoor", sum := "cc1db59dcb6e0a6641eaba865d7ef20c5890293c0f1e14b975249a66e32f9f2c", func := "sparse/sparselaw40.SliceDiagonal", spec := "sliceDiagonal", unfollowed := true, recurses := true, named := ["math/bits.deBruijn32tab"], apart := false, laid := [("math/bits.deBruijn32tab", laid_math_bits_deBruijn32tab)], narrowed := true }
def SliceDiagonalUptoSaid : Prop := sliceDiagonalUptoRow.holds Tryz.pinned (OpenSpec.upto sliceDiagonalSpec)

/-- 'sparselaw40.SliceNarrows', WHERE WHAT IT READS IS OF BULK AT MOST 1048576: true; the input reads as it did. -/
def sliceNarrowsUptoRow : OpenClaim := { program := "ytgjpnfjkalepkaagreatdoor", sum := "cc1db59dcb6e0a6641eaba865d7ef20c5890293c0f1e14b975249a66e32f9f2c", func := "sparse/sparselaw40.SliceNarrows", spec := "sliceNarrows", unfollowed := true, recurses := true, named := ["math/bits.deBruijn32tab"], apart := false, laid := [("math/bits.deBruijn32tab", laid_math_bits_deBruijn32tab)], narrowed := true }
def SliceNarrowsUptoSaid : Prop := sliceNarrowsUptoRow.holds Tryz.pinned (OpenSpec.upto sliceNarrowsSpec)

/-- 'sparselaw40.SliceRefuses', WHERE WHAT IT READS IS OF BULK AT MOST 1048576: true; the input reads as it did. -/
def sliceRefusesUptoRow : OpenClaim := { program := "ytgjpnfjkalepkaagreatdoor", sum := "cc1db59dcb6e0a6641eaba865d7ef20c5890293c0f1e14b975249a66e32f9f2c", func := "sparse/sparselaw40.SliceRefuses", spec := "sliceRefuses", unfollowed := true, recurses := true, named := ["math/bits.deBruijn32tab"], apart := false, laid := [("math/bits.deBruijn32tab", laid_math_bits_deBruijn32tab)], narrowed := true }
def SliceRefusesUptoSaid : Prop := sliceRefusesUptoRow.holds Tryz.pinned (OpenSpec.upto sliceRefusesSpec)

end Rows
end Go.Proofs.YtgjpnfjkalepkaaGreatDoor
