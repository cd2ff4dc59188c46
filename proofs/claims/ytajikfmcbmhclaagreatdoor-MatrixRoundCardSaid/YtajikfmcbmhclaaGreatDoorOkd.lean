/- The plain functions are what the code does (by program: gen.py). -/
import Derived.Test.YtajikfmcbmhclaaGreatDoorOkc

/-! MwOk4 -/
set_option linter.unusedVariables false
set_option maxRecDepth 100000
namespace Go.Vs.F
open Go.Proofs
/-! 44 sparse/sparsekit.Perm -/
/-! 78 sparse/sparseref09.Stored -/
/-! 79 sparse/sparseref09.At -/
/-! 45 sparse/sparseref09.pick -/
/-! 20 sparse/sparseref09.Permute -/
/-! 21 sparse/matrix.Select -/
/-! 46 sparse/sparseref09.Range -/
/-! 80 sparse/sparsekit.In -/
/-! 47 sparse/sparseref09.Twice -/
/-! 22 sparse/sparseref09.Select -/
/-! 23 sparse/sparselaw09.alike -/
/-! 4 sparse/sparselaw09.MatrixMoves -/
/-! 48 sparse/sparsemake.At -/
/-! 24 sparse/sparsemake.Symmetric -/
/-! 116 slices.isNaN_int_ -/
/-! 81 slices.BinarySearch___int_int_ -/
/-! 49 sparse/matrix.at -/
/-! 117 sparse/float.Kind -/
/-! 82 sparse/float.nan -/
/-! 83 sparse/float.place -/
/-! 50 sparse/float.Cmp -/
/-! 25 sparse/matrix.Symmetric -/
/-! 5 sparse/sparselaw09.MatrixTriangles -/
end Go.Vs.F
