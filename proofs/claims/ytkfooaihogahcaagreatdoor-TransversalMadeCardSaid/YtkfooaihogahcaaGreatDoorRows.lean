/-
  NARROWER THAN 'FOR EVERY INPUT', by the rows' own cells (each row's printed sentence says how): TransversalInvariant: laid · TransversalExact: laid · TransversalMade: laid · TransversalScaled: laid.
  DERIVED. THE GIVEN ROWS OF THIS SEAT. 4 by the template 'for every input the law returns true; each argument reads behind the call as it read before'; 0 by the template 'total and deterministic' (their statements: YtkfooaihogahcaaGreatDoorTotals.lean).
  GIVEN WITH THE SEED: the statements are not yours to turn. If you find one false, say at which input.
  Laid BY PROGRAM, IN A SANDBOX (cutbox-rows.mjs): the forced cells as the released guide's own fill.sh prints them over the translation db0c41ac13ca02ca… (all of the seat's roots in one cut). By AI agents, Wed Nov 11 2026. No macro, syntax, notation, axiom, sorry.
-/
import Derived.Test.YtkfooaihogahcaaGreatDoorChecked
import GoSem.Claim
import GoSem.ClaimJoined
import GoSem.ClaimMapViews
import Derived.JoinedTies
import Derived.KernelRfl
namespace Go.Proofs.YtkfooaihogahcaaGreatDoor
/- THE CELL 'sum', in the pinned program and in every row, IS THE sha256 OF THE DUMP (.gsa) THAT YtkfooaihogahcaaGreatDoorProg.lean LOADS. Nothing in Lean hashes anything: it is a label: what it is worth is what the hold of that sum in a sandbox is worth. -/
noncomputable def Tryz.pinned : Pinned := { name := "ytkfooaihogahcaagreatdoor", sum := "db0c41ac13ca02ca8691fcacb1187f53dee7f64aa934196cfb1f461da808536b", checked := Tryz.checked }
namespace Rows
def none {H : Type} : Left H := { results := [], args := [] }

/- WHAT THE LISTED PACKAGE-LEVEL VARIABLES READ AS WHEN THE CALL BEGINS. Each datum BY PROGRAM (the guide's laid-datum.mjs) off the statement by which the dump's own 'gosem.cut.vars' lays the variable. In a bare row this is a premise. The card (YtkfooaihogahcaaGreatDoorCards.lean) ties it to the program's text. -/
def laid_math_bits_deBruijn32tab {H : Type} : DataW H := .agg [.lit (.int .u8 0), .lit (.int .u8 1), .lit (.int .u8 28), .lit (.int .u8 2), .lit (.int .u8 29), .lit (.int .u8 14), .lit (.int .u8 24), .lit (.int .u8 3), .lit (.int .u8 30), .lit (.int .u8 22), .lit (.int .u8 20), .lit (.int .u8 15), .lit (.int .u8 25), .lit (.int .u8 17), .lit (.int .u8 4), .lit (.int .u8 8), .lit (.int .u8 31), .lit (.int .u8 27), .lit (.int .u8 13), .lit (.int .u8 23), .lit (.int .u8 21), .lit (.int .u8 19), .lit (.int .u8 16), .lit (.int .u8 7), .lit (.int .u8 26), .lit (.int .u8 12), .lit (.int .u8 18), .lit (.int .u8 6), .lit (.int .u8 11), .lit (.int .u8 5), .lit (.int .u8 10), .lit (.int .u8 9)]

/-- 'sparselaw14.TransversalInvariant': WHATEVER THE INPUT: true; the input reads as it did. -/
def transversalInvariantSpec : ChangeSpec := { name := "transversalInvariant", fn := fun _ => fun
  | [d1, d2, d3, d4] => { results := [.lit (.bool true)], args := [d1, d2, d3, d4] }
  | _ => none }
def transversalInvariantRow : OpenClaim := { program := "ytkfooaihogahcaagreatdoor", sum := "db0c41ac13ca02ca8691fcacb1187f53dee7f64aa934196cfb1f461da808536b", func := "sparse/sparselaw14.TransversalInvariant", spec := "transversalInvariant", unfollowed := true, recurses := true, named := ["math/bits.deBruijn32tab"], apart := false, laid := [("math/bits.deBruijn32tab", laid_math_bits_deBruijn32tab)] }
def TransversalInvariantSaid : Prop := transversalInvariantRow.holds Tryz.pinned (OpenSpec.ofChange transversalInvariantSpec)

/-- ITS FALSE NEIGHBOUR: 'it returns false'. Refute it at one input. -/
def transversalInvariantWrong : ChangeSpec := { name := "transversalInvariant", fn := fun _ => fun
  | [d1, d2, d3, d4] => { results := [.lit (.bool false)], args := [d1, d2, d3, d4] }
  | _ => none }
def TransversalInvariantWrongFalsely : Prop := transversalInvariantRow.holds Tryz.pinned (OpenSpec.ofChange transversalInvariantWrong)

/-- 'sparselaw14.TransversalExact': WHATEVER THE INPUT: true; the input reads as it did. -/
def transversalExactSpec : ChangeSpec := { name := "transversalExact", fn := fun _ => fun
  | [d1, d2] => { results := [.lit (.bool true)], args := [d1, d2] }
  | _ => none }
def transversalExactRow : OpenClaim := { program := "ytkfooaihogahcaagreatdoor", sum := "db0c41ac13ca02ca8691fcacb1187f53dee7f64aa934196cfb1f461da808536b", func := "sparse/sparselaw14.TransversalExact", spec := "transversalExact", unfollowed := true, recurses := true, named := ["math/bits.deBruijn32tab"], apart := false, laid := [("math/bits.deBruijn32tab", laid_math_bits_deBruijn32tab)] }
def TransversalExactSaid : Prop := transversalExactRow.holds Tryz.pinned (OpenSpec.ofChange transversalExactSpec)

/-- ITS FALSE NEIGHBOUR: 'it returns false'. Refute it at one input. -/
def transversalExactWrong : ChangeSpec := { name := "transversalExact", fn := fun _ => fun
  | [d1, d2] => { results := [.lit (.bool false)], args := [d1, d2] }
  | _ => none }
def TransversalExactWrongFalsely : Prop := transversalExactRow.holds Tryz.pinned (OpenSpec.ofChange transversalExactWrong)

/-- 'sparselaw14.TransversalMade': WHATEVER THE INPUT: true; the input reads as it did. -/
def transversalMadeSpec : ChangeSpec := { name := "transversalMade", fn := fun _ => fun
  | [d1, d2] => { results := [.lit (.bool true)], args := [d1, d2] }
  | _ => none }
def transversalMadeRow : OpenClaim := { program := "ytkfooaihogahcaagreatdoor", sum := "db0c41ac13ca02ca8691fcacb1187f53dee7f64aa934196cfb1f461da808536b", func := "sparse/sparselaw14.TransversalMade", spec := "transversalMade", unfollowed := true, recurses := true, named := ["math/bits.deBruijn32tab"], apart := false, laid := [("math/bits.deBruijn32tab", laid_math_bits_deBruijn32tab)] }
def TransversalMadeSaid : Prop := transversalMadeRow.holds Tryz.pinned (OpenSpec.ofChange transversalMadeSpec)

/-- ITS FALSE NEIGHBOUR: 'it returns false'. Refute it at one input. -/
def transversalMadeWrong : ChangeSpec := { name := "transversalMade", fn := fun _ => fun
  | [d1, d2] => { results := [.lit (.bool false)], args := [d1, d2] }
  | _ => none }
def TransversalMadeWrongFalsely : Prop := transversalMadeRow.holds Tryz.pinned (OpenSpec.ofChange transversalMadeWrong)

/-- 'sparselaw14.TransversalScaled': WHATEVER THE INPUT: true; the input reads as it did. -/
def transversalScaledSpec : ChangeSpec := { name := "transversalScaled", fn := fun _ => fun
  | [d1, d2] => { results := [.lit (.bool true)], args := [d1, d2] }
  | _ => none }
def transversalScaledRow : OpenClaim := { program := "ytkfooaihogahcaagreatdoor", sum := "db0c41ac13ca02ca8691fcacb1187f53dee7f64aa934196cfb1f461da808536b", func := "sparse/sparselaw14.TransversalScaled", spec := "transversalScaled", unfollowed := true, recurses := true, named := ["math/bits.deBruijn32tab"], apart := false, laid := [("math/bits.deBruijn32tab", laid_math_bits_deBruijn32tab)] }
def TransversalScaledSaid : Prop := transversalScaledRow.holds Tryz.pinned (OpenSpec.ofChange transversalScaledSpec)

/-- ITS FALSE NEIGHBOUR: 'it returns false'. Refute it at one input. -/
def transversalScaledWrong : ChangeSpec := { name := "transversalScaled", fn := fun _ => fun
  | [d1, d2] => { results := [.lit (.bool false)], args := [d1, d2] }
  | _ => none }
def TransversalScaledWrongFalsely : Prop := transversalScaledRow.holds Tryz.pinned (OpenSpec.ofChange transversalScaledWrong)

/- THE SECOND FORM. 'bulk': how many values and letters a reading holds, each counted each time it is reached (what is shared counts as often as it is met; a slice's spare places count too). A statement '..UptoSaid' is the law's where the arguments, and the package variables that the reading takes, are together of bulk at most 1048576: NARROWER than '..Said'. Prove '..Said' where nothing that the law and all that it calls make is longer than what came in: it says more and counts as full. Else prove '..UptoSaid'. A law counts once. -/
mutual
def uptoBulk {H : Type} : DataW H → Nat
  | .lit (.string bytes) => bytes.length + 1
  | .lit _ => 1
  | .nil => 1
  | .ptr d => uptoBulk d + 1
  | .slice elems spare => uptoBulkAll elems + uptoBulkAll spare + 1
  | .agg parts => uptoBulkAll parts + 1
  | .iface _ d => uptoBulk d + 1
  | .map entries => uptoBulkEntries entries + 1
  | .held _ => 1
def uptoBulkAll {H : Type} : List (DataW H) → Nat
  | [] => 0
  | d :: r => uptoBulk d + uptoBulkAll r
def uptoBulkEntries {H : Type} : List (Lit × DataW H) → Nat
  | [] => 0
  | x :: r => uptoBulkEntry x + uptoBulkEntries r
def uptoBulkEntry {H : Type} : Lit × DataW H → Nat
  | (.string bytes, d) => bytes.length + uptoBulk d + 1
  | (_, d) => uptoBulk d + 1
 end
def uptoSmall : (H : Type) → List (DataW H) → Bool := fun _ ds => decide (uptoBulkAll ds ≤ 1048576)
def OpenSpec.upto (s : _root_.Go.ChangeSpec) : _root_.Go.OpenSpec := { _root_.Go.OpenSpec.ofChange s with cond := some uptoSmall }

/-- 'sparselaw14.TransversalInvariant', WHERE WHAT IT READS IS OF BULK AT MOST 1048576: true; the input reads as it did. -/
def transversalInvariantUptoRow : OpenClaim := { program := "ytkfooaihogahcaagreatdoor", sum := "db0c41ac13ca02ca8691fcacb1187f53dee7f64aa934196cfb1f461da808536b", func := "sparse/sparselaw14.TransversalInvariant", spec := "transversalInvariant", unfollowed := true, recurses := true, named := ["math/bits.deBruijn32tab"], apart := false, laid := [("math/bits.deBruijn32tab", laid_math_bits_deBruijn32tab)], narrowed := true }
def TransversalInvariantUptoSaid : Prop := transversalInvariantUptoRow.holds Tryz.pinned (OpenSpec.upto transversalInvariantSpec)

/-- 'sparselaw14.TransversalExact', WHERE WHAT IT READS IS OF BULK AT MOST 1048576: true; the input reads as it did. -/
def transversalExactUptoRow : OpenClaim := { program := "ytkfooaihogahcaagreatdoor", sum := "db0c41ac13ca02ca8691fcacb1187f53dee7f64aa934196cfb1f461da808536b", func := "sparse/sparselaw14.TransversalExact", spec := "transversalExact", unfollowed := true, recurses := true, named := ["math/bits.deBruijn32tab"], apart := false, laid := [("math/bits.deBruijn32tab", laid_math_bits_deBruijn32tab)], narrowed := true }
def TransversalExactUptoSaid : Prop := transversalExactUptoRow.holds Tryz.pinned (OpenSpec.upto transversalExactSpec)

/-- 'sparselaw14.TransversalMade', WHERE WHAT IT READS IS OF BULK AT MOST 1048576: true; the input reads as it did. -/
def transversalMadeUptoRow : OpenClaim := { program := "ytkfooaihogahcaagreatdoor", sum := "db0c41ac13ca02ca8691fcacb1187f53dee7f64aa934196cfb1f461da808536b", func := "sparse/sparselaw14.TransversalMade", spec := "transversalMade", unfollowed := true, recurses := true, named := ["math/bits.deBruijn32tab"], apart := false, laid := [("math/bits.deBruijn32tab", laid_math_bits_deBruijn32tab)], narrowed := true }
def TransversalMadeUptoSaid : Prop := transversalMadeUptoRow.holds Tryz.pinned (OpenSpec.upto transversalMadeSpec)

/-- 'sparselaw14.TransversalScaled', WHERE WHAT IT READS IS OF BULK AT MOST 1048576: true; the input reads as it did. -/
def transversalScaledUptoRow : OpenClaim := { program := "ytkfooaihogahcaagreatdoor", sum := "db0c41ac13ca02ca8691fcacb1187f53dee7f64aa934196cfb1f461da808536b", func := "sparse/sparselaw14.TransversalScaled", spec := "transversalScaled", unfollowed := true, recurses := true, named := ["math/bits.deBruijn32tab"], apart := false, laid := [("math/bits.deBruijn32tab", laid_math_bits_deBruijn32tab)], narrowed := true }
def TransversalScaledUptoSaid : Prop := transversalScaledUptoRow.holds Tryz.pinned (OpenSpec.upto transversalScaledSpec)

end Rows
end Go.Proofs.YtkfooaihogahcaaGreatDoor
