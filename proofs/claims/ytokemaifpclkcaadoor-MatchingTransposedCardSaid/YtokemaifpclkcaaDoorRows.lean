/-
  NARROWER THAN 'FOR EVERY INPUT', by the rows' own cells (each row's printed sentence says how): MatchingMade: laid · MatchingKonig: laid · MatchingGreatest: laid · MatchingEntry: laid · MatchingProof: laid · MatchingTransposed: laid.
  DERIVED. THE GIVEN ROWS OF THIS SEAT. 6 by the template 'for every input the law returns true; each argument reads behind the call as it read before'; 0 by the template 'total and deterministic' (their statements: YtokemaifpclkcaaDoorTotals.lean).
  GIVEN WITH THE SEED: the statements are not yours to turn. If you find one false, say at which input.
  Laid BY PROGRAM, IN A SANDBOX (cutbox-rows.mjs): the forced cells as the released guide's own fill.sh prints them over the translation 3fd45e700af28c45… (all of the seat's roots in one cut). By AI agents, Wed Nov 11 2026. No macro, syntax, notation, axiom, sorry.
-/
import Derived.Test.YtokemaifpclkcaaDoorChecked
import GoSem.Claim
import GoSem.ClaimJoined
import GoSem.ClaimMapViews
import Derived.JoinedTies
import Derived.KernelRfl
namespace Go.Proofs.YtokemaifpclkcaaDoor
/- THE CELL 'sum', in the pinned program and in every row, IS THE sha256 OF THE DUMP (.gsa) THAT YtokemaifpclkcaaDoorProg.lean LOADS. Nothing in Lean hashes anything: it is a label: what it is worth is what the hold of that sum in a sandbox is worth. -/
noncomputable def Tryd.pinned : Pinned := { name := "ytokemaifpclkcaadoor", sum := "3fd45e700af28c45f55e1ac81e0d8bfa16a21f2ba3be3a0f3f8584eb3c93a1b1", checked := Tryd.checked }
namespace Rows
def none {H : Type} : Left H := { results := [], args := [] }

/- WHAT THE LISTED PACKAGE-LEVEL VARIABLES READ AS WHEN THE CALL BEGINS. Each datum BY PROGRAM (the guide's laid-datum.mjs) off the statement by which the dump's own 'gosem.cut.vars' lays the variable. In a bare row this is a premise. The card (YtokemaifpclkcaaDoorCards.lean) ties it to the program's text. -/
def laid_math_bits_deBruijn32tab {H : Type} : DataW H := .agg [.lit (.int .u8 0), .lit (.int .u8 1), .lit (.int .u8 28), .lit (.int .u8 2), .lit (.int .u8 29), .lit (.int .u8 14), .lit (.int .u8 24), .lit (.int .u8 3), .lit (.int .u8 30), .lit (.int .u8 22), .lit (.int .u8 20), .lit (.int .u8 15), .lit (.int .u8 25), .lit (.int .u8 17), .lit (.int .u8 4), .lit (.int .u8 8), .lit (.int .u8 31), .lit (.int .u8 27), .lit (.int .u8 13), .lit (.int .u8 23), .lit (.int .u8 21), .lit (.int .u8 19), .lit (.int .u8 16), .lit (.int .u8 7), .lit (.int .u8 26), .lit (.int .u8 12), .lit (.int .u8 18), .lit (.int .u8 6), .lit (.int .u8 11), .lit (.int .u8 5), .lit (.int .u8 10), .lit (.int .u8 9)]

/-- 'sparselaw13.MatchingMade': WHATEVER THE INPUT: true; the input reads as it did. -/
def matchingMadeSpec : ChangeSpec := { name := "matchingMade", fn := fun _ => fun
  | [d1, d2, d3] => { results := [.lit (.bool true)], args := [d1, d2, d3] }
  | _ => none }
def matchingMadeRow : OpenClaim := { program := "ytokemaifpclkcaadoor", sum := "3fd45e700af28c45f55e1ac81e0d8bfa16a21f2ba3be3a0f3f8584eb3c93a1b1", func := "sparse/sparselaw13.MatchingMade", spec := "matchingMade", unfollowed := true, recurses := true, named := ["math/bits.deBruijn32tab"], apart := false, laid := [("math/bits.deBruijn32tab", laid_math_bits_deBruijn32tab)] }
def MatchingMadeSaid : Prop := matchingMadeRow.holds Tryd.pinned (OpenSpec.ofChange matchingMadeSpec)

/-- ITS FALSE NEIGHBOUR: 'it returns false'. Refute it at one input. -/
def matchingMadeWrong : ChangeSpec := { name := "matchingMade", fn := fun _ => fun
  | [d1, d2, d3] => { results := [.lit (.bool false)], args := [d1, d2, d3] }
  | _ => none }
def MatchingMadeWrongFalsely : Prop := matchingMadeRow.holds Tryd.pinned (OpenSpec.ofChange matchingMadeWrong)

/-- 'sparselaw13.MatchingKonig': WHATEVER THE INPUT: true; the input reads as it did. -/
def matchingKonigSpec : ChangeSpec := { name := "matchingKonig", fn := fun _ => fun
  | [d1, d2, d3] => { results := [.lit (.bool true)], args := [d1, d2, d3] }
  | _ => none }
def matchingKonigRow : OpenClaim := { program := "ytokemaifpclkcaadoor", sum := "3fd45e700af28c45f55e1ac81e0d8bfa16a21f2ba3be3a0f3f8584eb3c93a1b1", func := "sparse/sparselaw13.MatchingKonig", spec := "matchingKonig", unfollowed := true, recurses := true, named := ["math/bits.deBruijn32tab"], apart := false, laid := [("math/bits.deBruijn32tab", laid_math_bits_deBruijn32tab)] }
def MatchingKonigSaid : Prop := matchingKonigRow.holds Tryd.pinned (OpenSpec.ofChange matchingKonigSpec)

/-- ITS FALSE NEIGHBOUR: 'it returns false'. Refute it at one input. -/
def matchingKonigWrong : ChangeSpec := { name := "matchingKonig", fn := fun _ => fun
  | [d1, d2, d3] => { results := [.lit (.bool false)], args := [d1, d2, d3] }
  | _ => none }
def MatchingKonigWrongFalsely : Prop := matchingKonigRow.holds Tryd.pinned (OpenSpec.ofChange matchingKonigWrong)

/-- 'sparselaw13.MatchingGreatest': WHATEVER THE INPUT: true; the input reads as it did. -/
def matchingGreatestSpec : ChangeSpec := { name := "matchingGreatest", fn := fun _ => fun
  | [d1, d2, d3, d4] => { results := [.lit (.bool true)], args := [d1, d2, d3, d4] }
  | _ => none }
def matchingGreatestRow : OpenClaim := { program := "ytokemaifpclkcaadoor", sum := "3fd45e700af28c45f55e1ac81e0d8bfa16a21f2ba3be3a0f3f8584eb3c93a1b1", func := "sparse/sparselaw13.MatchingGreatest", spec := "matchingGreatest", unfollowed := true, recurses := true, named := ["math/bits.deBruijn32tab"], apart := false, laid := [("math/bits.deBruijn32tab", laid_math_bits_deBruijn32tab)] }
def MatchingGreatestSaid : Prop := matchingGreatestRow.holds Tryd.pinned (OpenSpec.ofChange matchingGreatestSpec)

/-- ITS FALSE NEIGHBOUR: 'it returns false'. Refute it at one input. -/
def matchingGreatestWrong : ChangeSpec := { name := "matchingGreatest", fn := fun _ => fun
  | [d1, d2, d3, d4] => { results := [.lit (.bool false)], args := [d1, d2, d3, d4] }
  | _ => none }
def MatchingGreatestWrongFalsely : Prop := matchingGreatestRow.holds Tryd.pinned (OpenSpec.ofChange matchingGreatestWrong)

/-- 'sparselaw13.MatchingEntry': WHATEVER THE INPUT: true; the input reads as it did. -/
def matchingEntrySpec : ChangeSpec := { name := "matchingEntry", fn := fun _ => fun
  | [d1, d2, d3, d4, d5] => { results := [.lit (.bool true)], args := [d1, d2, d3, d4, d5] }
  | _ => none }
def matchingEntryRow : OpenClaim := { program := "ytokemaifpclkcaadoor", sum := "3fd45e700af28c45f55e1ac81e0d8bfa16a21f2ba3be3a0f3f8584eb3c93a1b1", func := "sparse/sparselaw13.MatchingEntry", spec := "matchingEntry", unfollowed := true, recurses := true, named := ["math/bits.deBruijn32tab"], apart := false, laid := [("math/bits.deBruijn32tab", laid_math_bits_deBruijn32tab)] }
def MatchingEntrySaid : Prop := matchingEntryRow.holds Tryd.pinned (OpenSpec.ofChange matchingEntrySpec)

/-- ITS FALSE NEIGHBOUR: 'it returns false'. Refute it at one input. -/
def matchingEntryWrong : ChangeSpec := { name := "matchingEntry", fn := fun _ => fun
  | [d1, d2, d3, d4, d5] => { results := [.lit (.bool false)], args := [d1, d2, d3, d4, d5] }
  | _ => none }
def MatchingEntryWrongFalsely : Prop := matchingEntryRow.holds Tryd.pinned (OpenSpec.ofChange matchingEntryWrong)

/-- 'sparselaw13.MatchingProof': WHATEVER THE INPUT: true; the input reads as it did. -/
def matchingProofSpec : ChangeSpec := { name := "matchingProof", fn := fun _ => fun
  | [d1, d2, d3] => { results := [.lit (.bool true)], args := [d1, d2, d3] }
  | _ => none }
def matchingProofRow : OpenClaim := { program := "ytokemaifpclkcaadoor", sum := "3fd45e700af28c45f55e1ac81e0d8bfa16a21f2ba3be3a0f3f8584eb3c93a1b1", func := "sparse/sparselaw13.MatchingProof", spec := "matchingProof", unfollowed := true, recurses := true, named := ["math/bits.deBruijn32tab"], apart := false, laid := [("math/bits.deBruijn32tab", laid_math_bits_deBruijn32tab)] }
def MatchingProofSaid : Prop := matchingProofRow.holds Tryd.pinned (OpenSpec.ofChange matchingProofSpec)

/-- ITS FALSE NEIGHBOUR: 'it returns false'. Refute it at one input. -/
def matchingProofWrong : ChangeSpec := { name := "matchingProof", fn := fun _ => fun
  | [d1, d2, d3] => { results := [.lit (.bool false)], args := [d1, d2, d3] }
  | _ => none }
def MatchingProofWrongFalsely : Prop := matchingProofRow.holds Tryd.pinned (OpenSpec.ofChange matchingProofWrong)

/-- 'sparselaw13.MatchingTransposed': WHATEVER THE INPUT: true; the input reads as it did. -/
def matchingTransposedSpec : ChangeSpec := { name := "matchingTransposed", fn := fun _ => fun
  | [d1, d2, d3, d4, d5] => { results := [.lit (.bool true)], args := [d1, d2, d3, d4, d5] }
  | _ => none }
def matchingTransposedRow : OpenClaim := { program := "ytokemaifpclkcaadoor", sum := "3fd45e700af28c45f55e1ac81e0d8bfa16a21f2ba3be3a0f3f8584eb3c93a1b1", func := "sparse/sparselaw13.MatchingTransposed", spec := "matchingTransposed", unfollowed := true, recurses := true, named := ["math/bits.deBruijn32tab"], apart := false, laid := [("math/bits.deBruijn32tab", laid_math_bits_deBruijn32tab)] }
def MatchingTransposedSaid : Prop := matchingTransposedRow.holds Tryd.pinned (OpenSpec.ofChange matchingTransposedSpec)

/-- ITS FALSE NEIGHBOUR: 'it returns false'. Refute it at one input. -/
def matchingTransposedWrong : ChangeSpec := { name := "matchingTransposed", fn := fun _ => fun
  | [d1, d2, d3, d4, d5] => { results := [.lit (.bool false)], args := [d1, d2, d3, d4, d5] }
  | _ => none }
def MatchingTransposedWrongFalsely : Prop := matchingTransposedRow.holds Tryd.pinned (OpenSpec.ofChange matchingTransposedWrong)

/- THE SECOND FORM. 'bulk': how many values and letters a reading holds, each counted each time it is reached (what is shared counts as often as it is met; a slice's spare places count too). A statement '..UptoSaid' is the law's where the arguments, and the package variables that the reading takes, are together of bulk at most 1048576: NARROWER than '..Said'. Prove '..Said' where nothing that the law and all that it calls make is longer than what came in: it says more and counts as full. Else prove '..UptoSaid'. A law counts once. -/
mutual
def uptoBulk {H : Type} : DataW H → Nat
  | .lit (.string bytes) => bytes.length + 1
  | .lit _ => 1
  | .nil => 1
  | .ptr d => uptoBulk d + 1
  | .slice elems spare => uptoBulkAll elems + uptoBulkAll spare + 1
  | .agg parts => uptoBulkAll parts + 1
  | .iface _ d => uptoBulk d + 1
  | .map entries => uptoBulkEntries entries + 1
  | .held _ => 1
def uptoBulkAll {H : Type} : List (DataW H) → Nat
  | [] => 0
  | d :: r => uptoBulk d + uptoBulkAll r
def uptoBulkEntries {H : Type} : List (Lit × DataW H) → Nat
  | [] => 0
  | x :: r => uptoBulkEntry x + uptoBulkEntries r
def uptoBulkEntry {H : Type} : Lit × DataW H → Nat
  | (.string bytes, d) => bytes.length + uptoBulk d + 1
  | (_, d) => uptoBulk d + 1
 end
def uptoSmall : (H : Type) → List (DataW H) → Bool := fun _ ds => decide (uptoBulkAll ds ≤ 1048576)
def OpenSpec.upto (s : _root_.Go.ChangeSpec) : _root_.Go.OpenSpec := { _root_.Go.OpenSpec.ofChange s with cond := some uptoSmall }

/-- 'sparselaw13.MatchingMade', WHERE WHAT IT READS IS OF BULK AT MOST 1048576: true; the input reads as it did. -/
def matchingMadeUptoRow : OpenClaim := { program := "ytokemaifpclkcaadoor", sum := "3fd45e700af28c45f55e1ac81e0d8bfa16a21f2ba3be3a0f3f8584eb3c93a1b1", func := "sparse/sparselaw13.MatchingMade", spec := "matchingMade", unfollowed := true, recurses := true, named := ["math/bits.deBruijn32tab"], apart := false, laid := [("math/bits.deBruijn32tab", laid_math_bits_deBruijn32tab)], narrowed := true }
def MatchingMadeUptoSaid : Prop := matchingMadeUptoRow.holds Tryd.pinned (OpenSpec.upto matchingMadeSpec)

/-- 'sparselaw13.MatchingKonig', WHERE WHAT IT READS IS OF BULK AT MOST 1048576: true; the input reads as it did. -/
def matchingKonigUptoRow : OpenClaim := { program := "ytokemaifpclkcaadoor", sum := "3fd45e700af28c45f55e1ac81e0d8bfa16a21f2ba3be3a0f3f8584eb3c93a1b1", func := "sparse/sparselaw13.MatchingKonig", spec := "matchingKonig", unfollowed := true, recurses := true, named := ["math/bits.deBruijn32tab"], apart := false, laid := [("math/bits.deBruijn32tab", laid_math_bits_deBruijn32tab)], narrowed := true }
def MatchingKonigUptoSaid : Prop := matchingKonigUptoRow.holds Tryd.pinned (OpenSpec.upto matchingKonigSpec)

/-- 'sparselaw13.MatchingGreatest', WHERE WHAT IT READS IS OF BULK AT MOST 1048576: true; the input reads as it did. -/
def matchingGreatestUptoRow : OpenClaim := { program := "ytokemaifpclkcaadoor", sum := "3fd45e700af28c45f55e1ac81e0d8bfa16a21f2ba3be3a0f3f8584eb3c93a1b1", func := "sparse/sparselaw13.MatchingGreatest", spec := "matchingGreatest", unfollowed := true, recurses := true, named := ["math/bits.deBruijn32tab"], apart := false, laid := [("math/bits.deBruijn32tab", laid_math_bits_deBruijn32tab)], narrowed := true }
def MatchingGreatestUptoSaid : Prop := matchingGreatestUptoRow.holds Tryd.pinned (OpenSpec.upto matchingGreatestSpec)

/-- 'sparselaw13.MatchingEntry', WHERE WHAT IT READS IS OF BULK AT MOST 1048576: true; the input reads as it did. -/
def matchingEntryUptoRow : OpenClaim := { program := "ytokemaifpclkcaadoor", sum := "3fd45e700af28c45f55e1ac81e0d8bfa16a21f2ba3be3a0f3f8584eb3c93a1b1", func := "sparse/sparselaw13.MatchingEntry", spec := "matchingEntry", unfollowed := true, recurses := true, named := ["math/bits.deBruijn32tab"], apart := false, laid := [("math/bits.deBruijn32tab", laid_math_bits_deBruijn32tab)], narrowed := true }
def MatchingEntryUptoSaid : Prop := matchingEntryUptoRow.holds Tryd.pinned (OpenSpec.upto matchingEntrySpec)

/-- 'sparselaw13.MatchingProof', WHERE WHAT IT READS IS OF BULK AT MOST 1048576: true; the input reads as it did. -/
def matchingProofUptoRow : OpenClaim := { program := "ytokemaifpclkcaadoor", sum := "3fd45e700af28c45f55e1ac81e0d8bfa16a21f2ba3be3a0f3f8584eb3c93a1b1", func := "sparse/sparselaw13.MatchingProof", spec := "matchingProof", unfollowed := true, recurses := true, named := ["math/bits.deBruijn32tab"], apart := false, laid := [("math/bits.deBruijn32tab", laid_math_bits_deBruijn32tab)], narrowed := true }
def MatchingProofUptoSaid : Prop := matchingProofUptoRow.holds Tryd.pinned (OpenSpec.upto matchingProofSpec)

/-- 'sparselaw13.MatchingTransposed', WHERE WHAT IT READS IS OF BULK AT MOST 1048576: true; the input reads as it did. -/
def matchingTransposedUptoRow : OpenClaim := { program := "ytokemaifpclkcaadoor", sum := "3fd45e700af28c45f55e1ac81e0d8bfa16a21f2ba3be3a0f3f8584eb3c93a1b1", func := "sparse/sparselaw13.MatchingTransposed", spec := "matchingTransposed", unfollowed := true, recurses := true, named := ["math/bits.deBruijn32tab"], apart := false, laid := [("math/bits.deBruijn32tab", laid_math_bits_deBruijn32tab)], narrowed := true }
def MatchingTransposedUptoSaid : Prop := matchingTransposedUptoRow.holds Tryd.pinned (OpenSpec.upto matchingTransposedSpec)

end Rows
end Go.Proofs.YtokemaifpclkcaaDoor
