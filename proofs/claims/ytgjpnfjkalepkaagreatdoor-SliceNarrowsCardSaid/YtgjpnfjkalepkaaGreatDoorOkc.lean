/-The plain functions are what the code does (by program:gen.py). -/
import Derived.Test.YtgjpnfjkalepkaaGreatDoorOkb
set_option linter.unusedVariables false
set_option maxRecDepth 100000
namespace Go.Vs.F
open Go.Proofs
open Tryz
section
variable (m:Nat)
def g28H:Hints:=⟨[J [2,3,4,6],J [2,3,4,6,8],J [2,3,4,6,8,13],J [2,3,4,6,8,16],J [2,3,4,6,8],J' [(2,1)] [2,3,4,6,8,23],J [2,3,4,6,8],J' [(3,1)] [2,3,4,6,8,30],J [2,3,4,6,8],J [2,3,4,6,8,46],J' [(1,1)] [6,7],J' [(0,1)] [3,4,6,49,50],J [3,4,6,49,50,51],J [3,4,6,49,50,56],J' [(5,1)] [3,4,6,9,49,50],J [3,4,6,9,49,50,69],J [6,7],J [3,4,6,9,49,50,69,71],J' [(0,1)] [3,4,6,49,50],J [3,4,6,9,49,50,77],J' [(0,1)] [3,4,6,49,50],J' [(1,1)] [3,4,6,49,50],J [6,7]],[(1,[3,4,6,49,50])],[(0,[2,3,4,6,8]),(1,[4,6]),(2,[3,4,6,49,50]),(3,[3,4,6,49,50])],[6,7],[],[[false,false,false],[false]]⟩
def g28T:FunT:=⟨28,[.a (.agg [(.int .i64),(.int .i64),(.imm (.int .i64)),(.imm (.int .i64)),(.imm (.int .u64))]),.a (.agg [(.int .u64),(.int .u64),(.int .i64)]),sI],.tup [(.agg [(.int .u64),(.int .u64),(.int .i64)]),(.c (.int .i64))],[sD,sD,sD],fun x=>g28 m x.1.1 x.1.2.1 x.1.2.2.1 x.1.2.2.2.1 x.1.2.2.2.2.1 x.2.1.1 x.2.1.2.1 x.2.1.2.2.1 x.2.2.1⟩
noncomputable def g28C:Code:=codeOf f28
noncomputable def g28B1:Code:=qx g28C 0 0
theorem g28K:FL [g33T m,g41T m,g42T m,g36T m,g34T m]:=AllF.mem ⟨g33ok m,g41ok m,g42ok m,g36ok m,g34ok m,trivial⟩
def g28L0X:LT:=⟨1,[(3,sX 0 [iI,iI,iL,iL,.imm (.int .u64)]),(4,sX 1 [iU,iU,iI]),(6,sX 2 [iU,iU,iI]),(49,sI),(50,sI)],[(.exit 1,[(4,sX 0 [iU,iU,iI]),(6,sX 1 [iU,iU,iI])]),(.ret,[(6,sX 0 [iU,iU,iI]),(7,sI)])],fun n x=>g28L0 m n x.1.1 x.1.2.1 x.1.2.2.1 x.1.2.2.2.1 x.1.2.2.2.2.1 x.2.1.1 x.2.1.2.1 x.2.1.2.2.1 x.2.2.1.1 x.2.2.1.2.1 x.2.2.1.2.2.1 x.2.2.2.1 x.2.2.2.2.1⟩
theorem g28L0ok {E} (hE:EO E 83 g28H) (n):LO E g28B1 ((g28L0X m).at n):=lk hE (g28K m) (g28L0X m) n
theorem g28ok:FO (g28T m):=f1' g28H (g28T m) func28 (g28K m) fun _ h=>g28L0ok m h m
def g29H:Hints:=⟨[J [2,3,4,6],J [2,3,4,6,8],J [2,3,4,6,8,16],J' [(1,1)] [6,7],J [2,3,4,6,19],J [6,7],J' [(2,1)] [2,3,4,6,27],J [6,7],J' [(3,1)] [2,3,4,6,35],J [6,7],J [2,3,4,6,9],J' [(3,1)] [2,3,4,6,9,61],J' [(0,1)] [2,3,4,6,9],J' [(5,1)] [2,3,4,6,9,10],J [2,3,4,6,9,10,12],J' [(2,1)] [2,3,4,6,9,10,12,84],J' [(0,1)] [2,3,4,6,9,10,86],J' [(0,1)] [2,3,4,6,9],J' [(0,1)] [2,3,4,6,9],J [6,7]],[(1,[2,3,4,6,9])],[(0,[2,3,4,6]),(1,[4,6]),(2,[2,3,4,6,9])],[6,7],[],[[false,false,false],[false]]⟩
def g29T:FunT:=⟨29,[.a (.agg [(.int .i64),(.int .i64),(.imm (.int .i64)),(.imm (.int .i64)),(.imm (.int .u64))]),.a (.agg [(.int .u64),(.int .u64),(.int .i64)]),sI],.tup [(.agg [(.int .u64),(.int .u64),(.int .i64)]),(.c (.int .i64))],[sD,sD,sD],fun x=>g29 m x.1.1 x.1.2.1 x.1.2.2.1 x.1.2.2.2.1 x.1.2.2.2.2.1 x.2.1.1 x.2.1.2.1 x.2.1.2.2.1 x.2.2.1⟩
noncomputable def g29C:Code:=codeOf f29
noncomputable def g29B1:Code:=qx g29C 0 0
theorem g29K:FL [g37T m,g38T m,g20T m,g54T m,g55T m]:=AllF.mem ⟨g37ok m,g38ok m,g20ok m,g54ok m,g55ok m,trivial⟩
def g29L0X:LT:=⟨1,[(2,sI),(3,sX 0 [iI,iI,iL,iL,.imm (.int .u64)]),(4,sX 1 [iU,iU,iI]),(6,sX 2 [iU,iU,iI]),(9,sI)],[(.exit 1,[(4,sX 0 [iU,iU,iI]),(6,sX 1 [iU,iU,iI])])],fun n x=>g29L0 m n x.1 x.2.1.1 x.2.1.2.1 x.2.1.2.2.1 x.2.1.2.2.2.1 x.2.1.2.2.2.2.1 x.2.2.1.1 x.2.2.1.2.1 x.2.2.1.2.2.1 x.2.2.2.1.1 x.2.2.2.1.2.1 x.2.2.2.1.2.2.1 x.2.2.2.2.1⟩
theorem g29L0ok {E} (hE:EO E 92 g29H) (n):LO E g29B1 ((g29L0X m).at n):=lk hE (g29K m) (g29L0X m) n
theorem g29ok:FO (g29T m):=f1' g29H (g29T m) func29 (g29K m) fun _ h=>g29L0ok m h m
def sparselaw40_SliceNarrows_H:Hints:=⟨[J [0,1,2,3,4,5,6],J' [(0,1),(1,1)] [2,3,4,5,6,15],J' [(0,1),(1,1),(2,1),(4,1)] [5,6,15,16,17],J [5,6,15,18],J [5,6,15,18,47],J' [(0,1)] [6,15,18],J' [(2,1)] [6,15,18,57],J [6,15,18],J' [(4,1)] [6,15,18,19,20],J' [(4,1)] [6,15,18,19,20,21,22],J' [(5,1)] [6,15,18,19,20,21,22,23,24],J' [(2,1),(5,1)] [19,20,21,22,23,24,25,26],J' [(3,1),(4,1),(5,1),(8,1),(13,1),(14,1),(15,1),(18,1)] [14]],[],[],[14],[],[[false]]⟩
abbrev sparselaw40_SliceNarrows_A:List Sh:=[.a (.c (.imm (.int .u64))),sI,sI,sU,sU,sI,sI]
abbrev sparselaw40_SliceNarrows_S:Sh:= sB
abbrev sparselaw40_SliceNarrows_U:List Sh:=[sD,sD,sD,sD,sD,sD,sD]
def sparselaw40_SliceNarrows_R:Qw sparselaw40_SliceNarrows_A->Option (sparselaw40_SliceNarrows_S.Val×Qw sparselaw40_SliceNarrows_U):=fun(x:LI×Int×Int×Int×Int×Int×Int×Unit)=>sparselaw40_SliceNarrows m x.1 x.2.1 x.2.2.1 x.2.2.2.1 x.2.2.2.2.1 x.2.2.2.2.2.1 x.2.2.2.2.2.2.1
def sparselaw40_SliceNarrows_T:FunT:=⟨8,sparselaw40_SliceNarrows_A,sparselaw40_SliceNarrows_S,sparselaw40_SliceNarrows_U,sparselaw40_SliceNarrows_R m⟩
theorem sparselaw40_SliceNarrows_ok:FO (sparselaw40_SliceNarrows_T m):=fk sparselaw40_SliceNarrows_H (sparselaw40_SliceNarrows_T m) func8 (AllF.mem (l:=[sparselaw40_pick_T m,sparselaw40_ends_T m,g20T m,g18T m,g28T m,g29T m,sparselaw40_awake_T m]) ⟨sparselaw40_pick_ok m,sparselaw40_ends_ok m,g20ok m,g18ok m,g28ok m,g29ok m,sparselaw40_awake_ok m,trivial⟩)
end
end Go.Vs.F
