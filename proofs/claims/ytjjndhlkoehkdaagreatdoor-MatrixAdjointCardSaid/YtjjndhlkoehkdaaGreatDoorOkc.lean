/- The plain functions are what the code does (by program: gen.py). -/
import Derived.Test.YtjjndhlkoehkdaaGreatDoorOkb

/-! MxOk3 -/
set_option linter.unusedVariables false
set_option maxRecDepth 100000
namespace Go.Vs.F
open Go.Proofs
/-! 54 sparse/sparseref09.Scale -/
/-! 55 sparse/sparseref09.Shift -/
/-! 52 sparse/sparsekit.Matrix -/
/-! 13 sparse/sparselaw09.alike -/
/-! 9 sparse/sparselaw09.MatrixScales -/
end Go.Vs.F
