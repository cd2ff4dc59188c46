/-The plain functions are what the code does (by program:gen.py). -/
import Derived.Test.YtikppifemlpjlaaGreatDoorOkb
set_option linter.unusedVariables false
set_option maxRecDepth 100000
namespace Go.Vs.F
open Go.Proofs
open Tryz
section
variable (m:Nat)
end
end Go.Vs.F
