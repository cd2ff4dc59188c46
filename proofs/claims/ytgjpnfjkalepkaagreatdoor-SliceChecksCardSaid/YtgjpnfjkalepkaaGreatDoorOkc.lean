/-The plain functions are what the code does (by program:gen.py). -/
import Derived.Test.YtgjpnfjkalepkaaGreatDoorOkb
set_option linter.unusedVariables false
set_option maxRecDepth 100000
namespace Go.Vs.F
open Go.Proofs
open Tryz
section
variable (m:Nat)
def sparselaw40_SliceChecks_H:Hints:=⟨[J [0,1,2,3,4,5,6],J' [(0,1),(1,1)] [2,3,4,5,6,15],J [2,3,4,5,6,15,16],J [2,3,4,5,6,15,16,17],J' [(5,1)] [2,3,4,5,6,15,16,17,42],J' [(0,1)] [2,3,4,5,6,15,16,17],J [2,3,4,5,6,15,16,17,18],J [2,3,4,5,6,15,16,17,18],J [2,3,4,5,6,15,16,17,18,71],J [2,3,4,5,6,15,16,17,18],J' [(0,1)] [2,3,4,5,6,15,16,17],J' [(2,1)] [5,6,15,16,19],J [5,6,15,16,19,89],J' [(0,1)] [6,15,16,19,21],J' [(0,1)] [15,16,19,21,95],J [15,16,19,21,95,96],J' [(1,1)] [15,16,19],J [15,16,19,21,95,106],J' [(1,1)] [15,16,19],J [15,16,19,21,95,112],J [15,16,19],J [15,16,19,21,132],J' [(2,1),(6,3)] [15,16,19],J' [(3,1)] [15,16,19,22,23],J' [(1,1),(3,1)] [15,19,22,23,24,25],J' [(3,1)] [15,19,22,23,24,25,26,27],J' [(1,1),(3,1)] [22,23,24,25,26,27,28,29],J' [(0,1),(1,1),(3,1),(4,1),(5,1),(8,1),(9,1),(10,1),(13,1),(14,1),(15,1),(18,1)] [14]],[(0,[2,3,4,5,6,15,16,17])],[(0,[5,6,15,16]),(1,[2,3,4,5,6,15,16,17]),(2,[15,16,19])],[14],[],[[false]]⟩
abbrev sparselaw40_SliceChecks_A:List Sh:=[.a (.c (.imm (.int .u64))),sI,sI,.a (.c (.imm (.int .u64))),sL,sI,sI]
abbrev sparselaw40_SliceChecks_S:Sh:= sB
abbrev sparselaw40_SliceChecks_U:List Sh:=[sD,sD,sD,sD,sD,sD,sD]
def sparselaw40_SliceChecks_R:Qw sparselaw40_SliceChecks_A->Option (sparselaw40_SliceChecks_S.Val×Qw sparselaw40_SliceChecks_U):=fun(x:LI×Int×Int×LI×LI×Int×Int×Unit)=>sparselaw40_SliceChecks m x.1 x.2.1 x.2.2.1 x.2.2.2.1 x.2.2.2.2.1 x.2.2.2.2.2.1 x.2.2.2.2.2.2.1
def sparselaw40_SliceChecks_T:FunT:=⟨5,sparselaw40_SliceChecks_A,sparselaw40_SliceChecks_S,sparselaw40_SliceChecks_U,sparselaw40_SliceChecks_R m⟩
noncomputable def sparselaw40_SliceChecks_C:Code:=codeOf f5
noncomputable def sparselaw40_SliceChecks_B0:Code:=qx sparselaw40_SliceChecks_C 0 0
theorem sparselaw40_SliceChecks_K:FL [sparselaw40_pick_T m,g19T m,g20T m,g18T m,g13T m,g21T m,g22T m,sparselaw40_awake_T m]:=AllF.mem ⟨sparselaw40_pick_ok m,g19ok m,g20ok m,g18ok m,g13ok m,g21ok m,g22ok m,sparselaw40_awake_ok m,trivial⟩
def sparselaw40_SliceChecks_L0_X:LT:=⟨0,[(2,sI),(3,.a (.c (.imm (.int .u64)))),(4,sL),(5,sI),(6,sI),(15,sX 0 [iI,iI,iM 1,iM 2,.nm 3 (.int .u64)]),(16,.a (.c (.nm 4 (.pr (.int .u64) (.pr (.int .u64) (.int .i64)))))),(17,sI)],[(.exit 0,[(5,sI),(6,sI),(15,sX 0 [iI,iI,iM 1,iM 2,.nm 3 (.int .u64)]),(16,.a (.c (.nm 4 (.pr (.int .u64) (.pr (.int .u64) (.int .i64))))))])],fun n (x:Int×LI×LI×Int×Int×(Int×Int×LI×LI×LI×Unit)×(List (Int×Int×Int))×Int×Unit)=>sparselaw40_SliceChecks_L0 m n x.1 x.2.1 x.2.2.1 x.2.2.2.1 x.2.2.2.2.1 x.2.2.2.2.2.1.1 x.2.2.2.2.2.1.2.1 x.2.2.2.2.2.1.2.2.1 x.2.2.2.2.2.1.2.2.2.1 x.2.2.2.2.2.1.2.2.2.2.1 x.2.2.2.2.2.2.1 x.2.2.2.2.2.2.2.1⟩
theorem sparselaw40_SliceChecks_L0_ok {E} (hE:EO E 186 sparselaw40_SliceChecks_H) (n):LO E sparselaw40_SliceChecks_B0 ((sparselaw40_SliceChecks_L0_X m).at n):=lk hE (sparselaw40_SliceChecks_K m) (sparselaw40_SliceChecks_L0_X m) n
theorem sparselaw40_SliceChecks_ok:FO (sparselaw40_SliceChecks_T m):=f1' sparselaw40_SliceChecks_H (sparselaw40_SliceChecks_T m) func5 (sparselaw40_SliceChecks_K m) fun _ h=>sparselaw40_SliceChecks_L0_ok m h m
end
end Go.Vs.F
