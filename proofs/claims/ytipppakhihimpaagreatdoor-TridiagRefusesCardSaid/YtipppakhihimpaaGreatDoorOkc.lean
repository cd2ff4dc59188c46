/-TridiagRefuses. -/
import Derived.Test.YtipppakhihimpaaGreatDoorOkb
import Derived.Test.YtipppakhihimpaaGreatDoorFn
set_option linter.unusedVariables false
set_option maxRecDepth 100000
namespace Go.Vs.F
open Go.Proofs
open Tryz
section
variable (m:Nat)
def sparselaw37_TridiagRefuses_H:Hints:=⟨[J [0,1,2,3,4,5],J' [(5,1)] [0,1,3,4,5,13,14],J' [(0,1)] [0,3,4,5,13,14,36],J' [(0,1)] [3,4,5,13,14],J' [(3,1)] [3,4,5,13,14,50],J' [(0,1)] [3,4,5,13,14],J' [(4,3)] [3,4,5,13,14],J' [(3,1)] [3,4,5,13,14,65],J' [(1,1)] [3,4,13,14],J' [(4,1)] [3,4,13,14,15,16],J' [(2,1),(4,1)] [4,13,14,15,16,17,18],J' [(0,1),(1,1),(3,1),(4,1),(5,1)] [4,13,14,94],J [12],J' [(3,1)] [4,13,14,19,20],J' [(3,1)] [4,13,14,19,20,21,22],J' [(0,1),(1,1),(2,1),(6,1)] [19,20,21,22,24],J [19,20,21,22,24,25],J [19,20,21,22,24,25,118],J [19,20,21,22,24,25],J' [(3,1),(4,1),(5,1),(8,1),(9,1),(10,1),(13,1)] [12]],[],[],[12],[],[[false]]⟩
abbrev sparselaw37_TridiagRefuses_A:List Sh:=[.a (.c (.imm (.int .u64))),sI,sI,sU,sI,sI]
abbrev sparselaw37_TridiagRefuses_S:Sh:= sB
abbrev sparselaw37_TridiagRefuses_U:List Sh:=[sD,sD,sD,sD,sD,sD]
def sparselaw37_TridiagRefuses_R:X3 sparselaw37_TridiagRefuses_A->Option (sparselaw37_TridiagRefuses_S.Val×X3 sparselaw37_TridiagRefuses_U):=fun(x:LI×Int×Int×Int×Int×Int×Unit)=>sparselaw37_TridiagRefusesB m x.1 x.2.1 x.2.2.1 x.2.2.2.1 x.2.2.2.2.1 x.2.2.2.2.2.1
def sparselaw37_TridiagRefuses_T:FunT:=⟨7,sparselaw37_TridiagRefuses_A,sparselaw37_TridiagRefuses_S,sparselaw37_TridiagRefuses_U,sparselaw37_TridiagRefuses_R m⟩
theorem sparselaw37_TridiagRefuses_ok:FO (sparselaw37_TridiagRefuses_T m):=fk sparselaw37_TridiagRefuses_H (sparselaw37_TridiagRefuses_T m) func7 (AllF.mem (l:=[g9T m,g21T m,g10T m,g11T m,g18T m,g19T m,g16T m,sparselaw37_awake_T m]) ⟨g9ok m,g21ok m,g10ok m,g11ok m,g18ok m,g19ok m,g16ok m,sparselaw37_awake_ok m,trivial⟩)
end
end Go.Vs.F
