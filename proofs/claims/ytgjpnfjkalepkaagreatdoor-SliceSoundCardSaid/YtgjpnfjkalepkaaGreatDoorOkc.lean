/-The plain functions are what the code does (by program:gen.py). -/
import Derived.Test.YtgjpnfjkalepkaaGreatDoorOkb
set_option linter.unusedVariables false
set_option maxRecDepth 100000
namespace Go.Vs.F
open Go.Proofs
open Tryz
section
variable (m:Nat)
def sparselaw40_SliceSound_H:Hints:=⟨[J [0,1,2,3,4],J' [(0,1),(1,1)] [2,3,4,11],J' [(0,1),(1,1),(2,1),(4,1)] [11,12,13],J' [(4,1)] [11,12,13,14,15],J' [(0,1)] [11,12,13,14,56],J' [(0,1),(1,1),(3,1)] [16],J' [(0,1),(2,1)] [10],J [11,12,13,14,18],J [11,12,13,14,18,19],J [11,12,13,14,18,19,20],J [11,12,13,14,18,19,20,72],J' [(0,1)] [11,12,13,14,18,19,20],J' [(0,1),(2,1)] [11,12,13,14,18,20,21,22],J' [(6,1)] [11,12,13,14,18,20,21,22,23,24],J' [(6,1)] [11,12,13,14,18,20,21,22,23,24,25,26],J' [(0,1),(2,1),(3,1),(6,1),(7,1),(10,1),(12,1),(15,1)] [11,12,13,14,18,20,23,25,117],J [10],J' [(7,1)] [11,12,13,14,18,20,23,25,27],J' [(7,1)] [11,12,13,14,18,20,23,25,27,29],J' [(5,1),(6,1),(9,1),(17,1),(24,1),(30,1),(38,1),(47,1)] [11,12,13,14,18,20,193],J [10],J' [(0,1)] [11,12,13,14,18,20],J [11,12,13,14,18,19,20],J' [(1,1),(3,1)] [11,13,14,18,31],J' [(1,1),(3,1)] [11,14,18,31,33],J' [(1,1),(3,1)] [18,31,33,35,36],J' [(0,1),(1,1),(2,1),(5,1),(6,1),(9,1),(10,1),(13,1)] [10]],[(0,[11,12,13,14,18,19,20])],[(0,[11,12,13,14,18]),(1,[11,12,13,14,18,19,20])],[10],[],[[false]]⟩
abbrev sparselaw40_SliceSound_A:List Sh:=[.a (.c (.imm (.int .u64))),sI,sI,sU,sU]
abbrev sparselaw40_SliceSound_S:Sh:= sB
abbrev sparselaw40_SliceSound_U:List Sh:=[sD,sD,sD,sD,sD]
def sparselaw40_SliceSound_R:Qw sparselaw40_SliceSound_A->Option (sparselaw40_SliceSound_S.Val×Qw sparselaw40_SliceSound_U):=fun(x:LI×Int×Int×Int×Int×Unit)=>sparselaw40_SliceSound m x.1 x.2.1 x.2.2.1 x.2.2.2.1 x.2.2.2.2.1
def sparselaw40_SliceSound_T:FunT:=⟨6,sparselaw40_SliceSound_A,sparselaw40_SliceSound_S,sparselaw40_SliceSound_U,sparselaw40_SliceSound_R m⟩
noncomputable def sparselaw40_SliceSound_C:Code:=codeOf f6
noncomputable def sparselaw40_SliceSound_B0:Code:=qx sparselaw40_SliceSound_C 0 0
theorem sparselaw40_SliceSound_K:FL [sparselaw40_pick_T m,sparselaw40_ends_T m,g12T m,g23T m,sparselaw40_awake_T m,g24T m,g25T m,g21T m]:=AllF.mem ⟨sparselaw40_pick_ok m,sparselaw40_ends_ok m,g12ok m,g23ok m,sparselaw40_awake_ok m,g24ok m,g25ok m,g21ok m,trivial⟩
def sparselaw40_SliceSound_L0_X:LT:=⟨0,[(11,sX 0 [iI,iI,iM 1,iM 2,.nm 3 (.int .u64)]),(12,sU),(13,sU),(14,.a (.c (.nm 4 (.pr (.int .u64) (.pr (.int .u64) (.int .i64)))))),(18,sI),(19,sU),(20,sI)],[(.ret,[(10,sB)]),(.exit 0,[(11,sX 0 [iI,iI,iM 1,iM 2,.nm 3 (.int .u64)]),(12,sU),(13,sU),(14,.a (.c (.nm 4 (.pr (.int .u64) (.pr (.int .u64) (.int .i64)))))),(18,sI)])],fun n (x:(Int×Int×LI×LI×LI×Unit)×Int×Int×(List (Int×Int×Int))×Int×Int×Int×Unit)=>sparselaw40_SliceSound_L0 m n x.1.1 x.1.2.1 x.1.2.2.1 x.1.2.2.2.1 x.1.2.2.2.2.1 x.2.1 x.2.2.1 x.2.2.2.1 x.2.2.2.2.1 x.2.2.2.2.2.1 x.2.2.2.2.2.2.1⟩
theorem sparselaw40_SliceSound_L0_ok {E} (hE:EO E 240 sparselaw40_SliceSound_H) (n):LO E sparselaw40_SliceSound_B0 ((sparselaw40_SliceSound_L0_X m).at n):=lk hE (sparselaw40_SliceSound_K m) (sparselaw40_SliceSound_L0_X m) n
theorem sparselaw40_SliceSound_ok:FO (sparselaw40_SliceSound_T m):=f1' sparselaw40_SliceSound_H (sparselaw40_SliceSound_T m) func6 (sparselaw40_SliceSound_K m) fun _ h=>sparselaw40_SliceSound_L0_ok m h m
end
end Go.Vs.F
