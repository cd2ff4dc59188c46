/-
  NARROWER THAN 'FOR EVERY INPUT', by the rows' own cells (each row's printed sentence says how): TridiagCounts: laid · TridiagMonotone: laid · TridiagKth: laid · TridiagBounds: laid · TridiagRefuses: laid.
  DERIVED. THE GIVEN ROWS OF THIS SEAT. 5 by the template 'for every input the law returns true; each argument reads behind the call as it read before'; 0 by the template 'total and deterministic' (their statements: YtipppakhihimpaaGreatDoorTotals.lean).
  GIVEN WITH THE SEED: the statements are not yours to turn. If you find one false, say at which input.
  Laid BY PROGRAM, IN A SANDBOX (cutbox-rows.mjs): the forced cells as the released guide's own fill.sh prints them over the translation 10a002cc674a7119… (all of the seat's roots in one cut). By AI agents, Wed Nov 11 2026. No macro, syntax, notation, axiom, sorry.
-/
import Derived.Test.YtipppakhihimpaaGreatDoorChecked
import GoSem.Claim
import GoSem.ClaimJoined
import GoSem.ClaimMapViews
import Derived.JoinedTies
import Derived.KernelRfl
namespace Go.Proofs.YtipppakhihimpaaGreatDoor
/- THE CELL 'sum', in the pinned program and in every row, IS THE sha256 OF THE DUMP (.gsa) THAT YtipppakhihimpaaGreatDoorProg.lean LOADS. Nothing in Lean hashes anything: it is a label: what it is worth is what the hold of that sum in a sandbox is worth. -/
noncomputable def Tryz.pinned : Pinned := { name := "ytipppakhihimpaagreatdoor", sum := "10a002cc674a71191b8942824e93085f0c208190b57d3aa94848dd28670eba0d", checked := Tryz.checked }
namespace Rows
def none {H : Type} : Left H := { results := [], args := [] }

/- WHAT THE LISTED PACKAGE-LEVEL VARIABLES READ AS WHEN THE CALL BEGINS. Each datum BY PROGRAM (the guide's laid-datum.mjs) off the statement by which the dump's own 'gosem.cut.vars' lays the variable. In a bare row this is a premise. The card (YtipppakhihimpaaGreatDoorCards.lean) ties it to the program's text. -/
def laid_math_bits_deBruijn32tab {H : Type} : DataW H := .agg [.lit (.int .u8 0), .lit (.int .u8 1), .lit (.int .u8 28), .lit (.int .u8 2), .lit (.int .u8 29), .lit (.int .u8 14), .lit (.int .u8 24), .lit (.int .u8 3), .lit (.int .u8 30), .lit (.int .u8 22), .lit (.int .u8 20), .lit (.int .u8 15), .lit (.int .u8 25), .lit (.int .u8 17), .lit (.int .u8 4), .lit (.int .u8 8), .lit (.int .u8 31), .lit (.int .u8 27), .lit (.int .u8 13), .lit (.int .u8 23), .lit (.int .u8 21), .lit (.int .u8 19), .lit (.int .u8 16), .lit (.int .u8 7), .lit (.int .u8 26), .lit (.int .u8 12), .lit (.int .u8 18), .lit (.int .u8 6), .lit (.int .u8 11), .lit (.int .u8 5), .lit (.int .u8 10), .lit (.int .u8 9)]

/-- 'sparselaw37.TridiagCounts': WHATEVER THE INPUT: true; the input reads as it did. -/
def tridiagCountsSpec : ChangeSpec := { name := "tridiagCounts", fn := fun _ => fun
  | [d1, d2, d3, d4, d5] => { results := [.lit (.bool true)], args := [d1, d2, d3, d4, d5] }
  | _ => none }
def tridiagCountsRow : OpenClaim := { program := "ytipppakhihimpaagreatdoor", sum := "10a002cc674a71191b8942824e93085f0c208190b57d3aa94848dd28670eba0d", func := "sparse/sparselaw37.TridiagCounts", spec := "tridiagCounts", unfollowed := true, recurses := true, named := ["math/bits.deBruijn32tab"], apart := false, laid := [("math/bits.deBruijn32tab", laid_math_bits_deBruijn32tab)] }
def TridiagCountsSaid : Prop := tridiagCountsRow.holds Tryz.pinned (OpenSpec.ofChange tridiagCountsSpec)

/-- ITS FALSE NEIGHBOUR: 'it returns false'. Refute it at one input. -/
def tridiagCountsWrong : ChangeSpec := { name := "tridiagCounts", fn := fun _ => fun
  | [d1, d2, d3, d4, d5] => { results := [.lit (.bool false)], args := [d1, d2, d3, d4, d5] }
  | _ => none }
def TridiagCountsWrongFalsely : Prop := tridiagCountsRow.holds Tryz.pinned (OpenSpec.ofChange tridiagCountsWrong)

/-- 'sparselaw37.TridiagMonotone': WHATEVER THE INPUT: true; the input reads as it did. -/
def tridiagMonotoneSpec : ChangeSpec := { name := "tridiagMonotone", fn := fun _ => fun
  | [d1, d2, d3, d4, d5, d6] => { results := [.lit (.bool true)], args := [d1, d2, d3, d4, d5, d6] }
  | _ => none }
def tridiagMonotoneRow : OpenClaim := { program := "ytipppakhihimpaagreatdoor", sum := "10a002cc674a71191b8942824e93085f0c208190b57d3aa94848dd28670eba0d", func := "sparse/sparselaw37.TridiagMonotone", spec := "tridiagMonotone", unfollowed := true, recurses := true, named := ["math/bits.deBruijn32tab"], apart := false, laid := [("math/bits.deBruijn32tab", laid_math_bits_deBruijn32tab)] }
def TridiagMonotoneSaid : Prop := tridiagMonotoneRow.holds Tryz.pinned (OpenSpec.ofChange tridiagMonotoneSpec)

/-- ITS FALSE NEIGHBOUR: 'it returns false'. Refute it at one input. -/
def tridiagMonotoneWrong : ChangeSpec := { name := "tridiagMonotone", fn := fun _ => fun
  | [d1, d2, d3, d4, d5, d6] => { results := [.lit (.bool false)], args := [d1, d2, d3, d4, d5, d6] }
  | _ => none }
def TridiagMonotoneWrongFalsely : Prop := tridiagMonotoneRow.holds Tryz.pinned (OpenSpec.ofChange tridiagMonotoneWrong)

/-- 'sparselaw37.TridiagKth': WHATEVER THE INPUT: true; the input reads as it did. -/
def tridiagKthSpec : ChangeSpec := { name := "tridiagKth", fn := fun _ => fun
  | [d1, d2, d3, d4] => { results := [.lit (.bool true)], args := [d1, d2, d3, d4] }
  | _ => none }
def tridiagKthRow : OpenClaim := { program := "ytipppakhihimpaagreatdoor", sum := "10a002cc674a71191b8942824e93085f0c208190b57d3aa94848dd28670eba0d", func := "sparse/sparselaw37.TridiagKth", spec := "tridiagKth", unfollowed := true, recurses := true, named := ["math/bits.deBruijn32tab"], apart := false, laid := [("math/bits.deBruijn32tab", laid_math_bits_deBruijn32tab)] }
def TridiagKthSaid : Prop := tridiagKthRow.holds Tryz.pinned (OpenSpec.ofChange tridiagKthSpec)

/-- ITS FALSE NEIGHBOUR: 'it returns false'. Refute it at one input. -/
def tridiagKthWrong : ChangeSpec := { name := "tridiagKth", fn := fun _ => fun
  | [d1, d2, d3, d4] => { results := [.lit (.bool false)], args := [d1, d2, d3, d4] }
  | _ => none }
def TridiagKthWrongFalsely : Prop := tridiagKthRow.holds Tryz.pinned (OpenSpec.ofChange tridiagKthWrong)

/-- 'sparselaw37.TridiagBounds': WHATEVER THE INPUT: true; the input reads as it did. -/
def tridiagBoundsSpec : ChangeSpec := { name := "tridiagBounds", fn := fun _ => fun
  | [d1, d2, d3] => { results := [.lit (.bool true)], args := [d1, d2, d3] }
  | _ => none }
def tridiagBoundsRow : OpenClaim := { program := "ytipppakhihimpaagreatdoor", sum := "10a002cc674a71191b8942824e93085f0c208190b57d3aa94848dd28670eba0d", func := "sparse/sparselaw37.TridiagBounds", spec := "tridiagBounds", unfollowed := true, recurses := true, named := ["math/bits.deBruijn32tab"], apart := false, laid := [("math/bits.deBruijn32tab", laid_math_bits_deBruijn32tab)] }
def TridiagBoundsSaid : Prop := tridiagBoundsRow.holds Tryz.pinned (OpenSpec.ofChange tridiagBoundsSpec)

/-- ITS FALSE NEIGHBOUR: 'it returns false'. Refute it at one input. -/
def tridiagBoundsWrong : ChangeSpec := { name := "tridiagBounds", fn := fun _ => fun
  | [d1, d2, d3] => { results := [.lit (.bool false)], args := [d1, d2, d3] }
  | _ => none }
def TridiagBoundsWrongFalsely : Prop := tridiagBoundsRow.holds Tryz.pinned (OpenSpec.ofChange tridiagBoundsWrong)

/-- 'sparselaw37.TridiagRefuses': WHATEVER THE INPUT: true; the input reads as it did. -/
def tridiagRefusesSpec : ChangeSpec := { name := "tridiagRefuses", fn := fun _ => fun
  | [d1, d2, d3, d4, d5, d6] => { results := [.lit (.bool true)], args := [d1, d2, d3, d4, d5, d6] }
  | _ => none }
def tridiagRefusesRow : OpenClaim := { program := "ytipppakhihimpaagreatdoor", sum := "10a002cc674a71191b8942824e93085f0c208190b57d3aa94848dd28670eba0d", func := "sparse/sparselaw37.TridiagRefuses", spec := "tridiagRefuses", unfollowed := true, recurses := true, named := ["math/bits.deBruijn32tab"], apart := false, laid := [("math/bits.deBruijn32tab", laid_math_bits_deBruijn32tab)] }
def TridiagRefusesSaid : Prop := tridiagRefusesRow.holds Tryz.pinned (OpenSpec.ofChange tridiagRefusesSpec)

/-- ITS FALSE NEIGHBOUR: 'it returns false'. Refute it at one input. -/
def tridiagRefusesWrong : ChangeSpec := { name := "tridiagRefuses", fn := fun _ => fun
  | [d1, d2, d3, d4, d5, d6] => { results := [.lit (.bool false)], args := [d1, d2, d3, d4, d5, d6] }
  | _ => none }
def TridiagRefusesWrongFalsely : Prop := tridiagRefusesRow.holds Tryz.pinned (OpenSpec.ofChange tridiagRefusesWrong)

/- THE SECOND FORM. 'bulk': how many values and letters a reading holds, each counted each time it is reached (what is shared counts as often as it is met; a slice's spare places count too). A statement '..UptoSaid' is the law's where the arguments, and the package variables that the reading takes, are together of bulk at most 1048576: NARROWER than '..Said'. Prove '..Said' where nothing that the law and all that it calls make is longer than what came in: it says more and counts as full. Else prove '..UptoSaid'. A law counts once. -/
mutual
def uptoBulk {H : Type} : DataW H → Nat
  | .lit (.string bytes) => bytes.length + 1
  | .lit _ => 1
  | .nil => 1
  | .ptr d => uptoBulk d + 1
  | .slice elems spare => uptoBulkAll elems + uptoBulkAll spare + 1
  | .agg parts => uptoBulkAll parts + 1
  | .iface _ d => uptoBulk d + 1
  | .map entries => uptoBulkEntries entries + 1
  | .held _ => 1
def uptoBulkAll {H : Type} : List (DataW H) → Nat
  | [] => 0
  | d :: r => uptoBulk d + uptoBulkAll r
def uptoBulkEntries {H : Type} : List (Lit × DataW H) → Nat
  | [] => 0
  | x :: r => uptoBulkEntry x + uptoBulkEntries r
def uptoBulkEntry {H : Type} : Lit × DataW H → Nat
  | (.string bytes, d) => bytes.length + uptoBulk d + 1
  | (_, d) => uptoBulk d + 1
 end
def uptoSmall : (H : Type) → List (DataW H) → Bool := fun _ ds => decide (uptoBulkAll ds ≤ 1048576)
def OpenSpec.upto (s : _root_.Go.ChangeSpec) : _root_.Go.OpenSpec := { _root_.Go.OpenSpec.ofChange s with cond := some uptoSmall }

/-- 'sparselaw37.TridiagCounts', WHERE WHAT IT READS IS OF BULK AT MOST 1048576: true; the input reads as it did. -/
def tridiagCountsUptoRow : OpenClaim := { program := "ytipppakhihimpaagreatdoor", sum := "10a002cc674a71191b8942824e93085f0c208190b57d3aa94848dd28670eba0d", func := "sparse/sparselaw37.TridiagCounts", spec := "tridiagCounts", unfollowed := true, recurses := true, named := ["math/bits.deBruijn32tab"], apart := false, laid := [("math/bits.deBruijn32tab", laid_math_bits_deBruijn32tab)], narrowed := true }
def TridiagCountsUptoSaid : Prop := tridiagCountsUptoRow.holds Tryz.pinned (OpenSpec.upto tridiagCountsSpec)

/-- 'sparselaw37.TridiagMonotone', WHERE WHAT IT READS IS OF BULK AT MOST 1048576: true; the input reads as it did. -/
def tridiagMonotoneUptoRow : OpenClaim := { program := "ytipppakhihimpaagreatdoor", sum := "10a002cc674a71191b8942824e93085f0c208190b57d3aa94848dd28670eba0d", func := "sparse/sparselaw37.TridiagMonotone", spec := "tridiagMonotone", unfollowed := true, recurses := true, named := ["math/bits.deBruijn32tab"], apart := false, laid := [("math/bits.deBruijn32tab", laid_math_bits_deBruijn32tab)], narrowed := true }
def TridiagMonotoneUptoSaid : Prop := tridiagMonotoneUptoRow.holds Tryz.pinned (OpenSpec.upto tridiagMonotoneSpec)

/-- 'sparselaw37.TridiagKth', WHERE WHAT IT READS IS OF BULK AT MOST 1048576: true; the input reads as it did. -/
def tridiagKthUptoRow : OpenClaim := { program := "ytipppakhihimpaagreatdoor", sum := "10a002cc674a71191b8942824e93085f0c208190b57d3aa94848dd28670eba0d", func := "sparse/sparselaw37.TridiagKth", spec := "tridiagKth", unfollowed := true, recurses := true, named := ["math/bits.deBruijn32tab"], apart := false, laid := [("math/bits.deBruijn32tab", laid_math_bits_deBruijn32tab)], narrowed := true }
def TridiagKthUptoSaid : Prop := tridiagKthUptoRow.holds Tryz.pinned (OpenSpec.upto tridiagKthSpec)

/-- 'sparselaw37.TridiagBounds', WHERE WHAT IT READS IS OF BULK AT MOST 1048576: true; the input reads as it did. -/
def tridiagBoundsUptoRow : OpenClaim := { program := "ytipppakhihimpaagreatdoor", sum := "10a002cc674a71191b8942824e93085f0c208190b57d3aa94848dd28670eba0d", func := "sparse/sparselaw37.TridiagBounds", spec := "tridiagBounds", unfollowed := true, recurses := true, named := ["math/bits.deBruijn32tab"], apart := false, laid := [("math/bits.deBruijn32tab", laid_math_bits_deBruijn32tab)], narrowed := true }
def TridiagBoundsUptoSaid : Prop := tridiagBoundsUptoRow.holds Tryz.pinned (OpenSpec.upto tridiagBoundsSpec)

/-- 'sparselaw37.TridiagRefuses', WHERE WHAT IT READS IS OF BULK AT MOST 1048576: true; the input reads as it did. -/
def tridiagRefusesUptoRow : OpenClaim := { program := "ytipppakhihimpaagreatdoor", sum := "10a002cc674a71191b8942824e93085f0c208190b57d3aa94848dd28670eba0d", func := "sparse/sparselaw37.TridiagRefuses", spec := "tridiagRefuses", unfollowed := true, recurses := true, named := ["math/bits.deBruijn32tab"], apart := false, laid := [("math/bits.deBruijn32tab", laid_math_bits_deBruijn32tab)], narrowed := true }
def TridiagRefusesUptoSaid : Prop := tridiagRefusesUptoRow.holds Tryz.pinned (OpenSpec.upto tridiagRefusesSpec)

end Rows
end Go.Proofs.YtipppakhihimpaaGreatDoor
