/-The plain functions are what the code does (by program:gen.py). -/
import Derived.Test.YtkfooaihogahcaaGreatDoorOkb
set_option linter.unusedVariables false
set_option maxRecDepth 100000
namespace Go.Vs.F
open Go.Proofs
end Go.Vs.F
