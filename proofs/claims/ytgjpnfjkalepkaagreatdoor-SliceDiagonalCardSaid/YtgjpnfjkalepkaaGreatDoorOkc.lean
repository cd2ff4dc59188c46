/-The plain functions are what the code does (by program:gen.py). -/
import Derived.Test.YtgjpnfjkalepkaaGreatDoorOkb
set_option linter.unusedVariables false
set_option maxRecDepth 100000
namespace Go.Vs.F
open Go.Proofs
open Tryz
section
variable (m:Nat)
def g26H:Hints:=⟨[J [0,1,2,3],J [0,1,2,3,9],J [0,1,2,3,9,10],J [0,1,2,3,9,10,14],J' [(0,1)] [0,1,2,3,9,10],J' [(0,1)] [0,1,2,3,9,10],J' [(0,1)] [8]],[(0,[0,1,2,3,9,10])],[(0,[9]),(1,[0,1,2,3,9,10])],[8],[],[[true]]⟩
def g26T:FunT:=⟨26,[.a (.c (.imm (.int .u64))),sI,sI,sI],.a (.c (.nm 0 (.int .u64))),[sD,sD,sD,sD],fun x=>g26 m x.1 x.2.1 x.2.2.1 x.2.2.2.1⟩
noncomputable def g26C:Code:=codeOf f26
noncomputable def g26B0:Code:=qx g26C 0 0
theorem g26K:FL [g53T m,g19T m]:=AllF.mem ⟨g53ok m,g19ok m,trivial⟩
def g26L0X:LT:=⟨0,[(0,.a (.c (.imm (.int .u64)))),(1,sI),(2,sI),(3,sI),(9,.a (.c (.nm 0 (.int .u64)))),(10,sI)],[(.exit 0,[(9,.a (.c (.nm 0 (.int .u64))))])],fun n x=>g26L0 m n x.1 x.2.1 x.2.2.1 x.2.2.2.1 x.2.2.2.2.1 x.2.2.2.2.2.1⟩
theorem g26L0ok {E} (hE:EO E 28 g26H) (n):LO E g26B0 ((g26L0X m).at n):=lk hE (g26K m) (g26L0X m) n
theorem g26ok:FO (g26T m):=f1' g26H (g26T m) func26 (g26K m) fun _ h=>g26L0ok m h m
def sparselaw40_SliceDiagonal_H:Hints:=⟨[J [0,1,2],J' [(0,1),(1,1),(3,1),(6,2)] [7],J' [(0,2)] [7,8],J [7,8,9],J [7,8,9,27],J' [(0,1)] [7,8,9],J [7,8,9,10],J [7,8,9,10,33],J' [(10,1)] [7,8,9,10,11],J' [(0,1)] [7,8,9,10,48],J' [(0,1)] [7,8,9,10],J' [(15,2)] [7,8,9],J [7,8,13],J [7,8,13,69],J' [(0,1)] [7,8,13],J' [(0,2),(4,1)] [7,8,13,14,15],J' [(7,1)] [7,8,13,14,15,16,17],J' [(0,1),(2,1),(3,1),(6,1),(7,1),(10,1)] [7,8,13,103],J [6],J [6]],[(0,[7,8,9]),(2,[7,8,9,10]),(4,[7,8,13])],[(0,[7,8]),(1,[7,8,9]),(2,[7,8,9,10]),(3,[7,8,9,10]),(4,[]),(5,[7,8,13])],[6],[],[[false]]⟩
abbrev sparselaw40_SliceDiagonal_A:List Sh:=[.a (.c (.imm (.int .u64))),sI,sI]
abbrev sparselaw40_SliceDiagonal_S:Sh:= sB
abbrev sparselaw40_SliceDiagonal_U:List Sh:=[sD,sD,sD]
def sparselaw40_SliceDiagonal_R:Qw sparselaw40_SliceDiagonal_A->Option (sparselaw40_SliceDiagonal_S.Val×Qw sparselaw40_SliceDiagonal_U):=fun(x:LI×Int×Int×Unit)=>sparselaw40_SliceDiagonal m x.1 x.2.1 x.2.2.1
def sparselaw40_SliceDiagonal_T:FunT:=⟨7,sparselaw40_SliceDiagonal_A,sparselaw40_SliceDiagonal_S,sparselaw40_SliceDiagonal_U,sparselaw40_SliceDiagonal_R m⟩
noncomputable def sparselaw40_SliceDiagonal_C:Code:=codeOf f7
noncomputable def sparselaw40_SliceDiagonal_B0:Code:=qx sparselaw40_SliceDiagonal_C 0 0
noncomputable def sparselaw40_SliceDiagonal_B2:Code:=qx sparselaw40_SliceDiagonal_B0 0 0
noncomputable def sparselaw40_SliceDiagonal_B4:Code:=qx sparselaw40_SliceDiagonal_C 0 1
theorem sparselaw40_SliceDiagonal_K:FL [g18T m,g26T m,g23T m,sparselaw40_diagonal_T m,g16T m,sparselaw40_awake_T m]:=AllF.mem ⟨g18ok m,g26ok m,g23ok m,sparselaw40_diagonal_ok m,g16ok m,sparselaw40_awake_ok m,trivial⟩
def sparselaw40_SliceDiagonal_L2_X:LT:=⟨4,[(7,.a (.c (.imm (.int .u64)))),(8,.a (.c (.imm (.int .u64)))),(13,sI)],[(.ret,[(6,sB)]),(.exit 4,[])],fun n (x:LI×LI×Int×Unit)=>sparselaw40_SliceDiagonal_L2 m n x.1 x.2.1 x.2.2.1⟩
theorem sparselaw40_SliceDiagonal_L2_ok {E} (hE:EO E 105 sparselaw40_SliceDiagonal_H) (n):LO E sparselaw40_SliceDiagonal_B4 ((sparselaw40_SliceDiagonal_L2_X m).at n):=lk hE (sparselaw40_SliceDiagonal_K m) (sparselaw40_SliceDiagonal_L2_X m) n
def sparselaw40_SliceDiagonal_L1_X:LT:=⟨2,[(7,.a (.c (.imm (.int .u64)))),(8,.a (.c (.imm (.int .u64)))),(9,sI),(10,sI)],[(.exit 2,[(7,.a (.c (.imm (.int .u64)))),(8,.a (.c (.imm (.int .u64)))),(9,sI),(10,sI)])],fun n (x:LI×LI×Int×Int×Unit)=>sparselaw40_SliceDiagonal_L1 m n x.1 x.2.1 x.2.2.1 x.2.2.2.1⟩
theorem sparselaw40_SliceDiagonal_L1_ok {E} (hE:EO E 105 sparselaw40_SliceDiagonal_H) (n):LO E sparselaw40_SliceDiagonal_B2 ((sparselaw40_SliceDiagonal_L1_X m).at n):=lk hE (sparselaw40_SliceDiagonal_K m) (sparselaw40_SliceDiagonal_L1_X m) n
def sparselaw40_SliceDiagonal_L0_X:LT:=⟨0,[(7,.a (.c (.imm (.int .u64)))),(8,.a (.c (.imm (.int .u64)))),(9,sI)],[(.exit 0,[(7,.a (.c (.imm (.int .u64)))),(8,.a (.c (.imm (.int .u64))))])],fun n (x:LI×LI×Int×Unit)=>sparselaw40_SliceDiagonal_L0 m n x.1 x.2.1 x.2.2.1⟩
theorem sparselaw40_SliceDiagonal_L0_ok {E} (hE:EO E 105 sparselaw40_SliceDiagonal_H) (n):LO E sparselaw40_SliceDiagonal_B0 ((sparselaw40_SliceDiagonal_L0_X m).at n):=
 lok hmix htt hE (sparselaw40_SliceDiagonal_K m) (L:=[(sparselaw40_SliceDiagonal_L1_X m).at m]) (sparselaw40_SliceDiagonal_L0_X m) (l:=[(2,sparselaw40_SliceDiagonal_B2)]) kR (fun _ _=>⟨qj ⟨yb (sparselaw40_SliceDiagonal_L1_ok m hE m),trivial⟩,trivial⟩) (fun n x=>kR) (fun _=>kR) n
theorem sparselaw40_SliceDiagonal_ok:FO (sparselaw40_SliceDiagonal_T m):=
 fok hmix htt (H:=sparselaw40_SliceDiagonal_H) (sparselaw40_SliceDiagonal_T m) func7 kR (sparselaw40_SliceDiagonal_K m) (L:=[(sparselaw40_SliceDiagonal_L0_X m).at m,(sparselaw40_SliceDiagonal_L2_X m).at m]) (l:=[(0,sparselaw40_SliceDiagonal_B0),(4,sparselaw40_SliceDiagonal_B4)]) kR (fun _ hE _ _=>⟨qj ⟨yb (sparselaw40_SliceDiagonal_L0_ok m hE m),nb rfl,trivial⟩,qj ⟨nb rfl,yb (sparselaw40_SliceDiagonal_L2_ok m hE m),trivial⟩,trivial⟩) (fun x=>kR)
end
end Go.Vs.F
