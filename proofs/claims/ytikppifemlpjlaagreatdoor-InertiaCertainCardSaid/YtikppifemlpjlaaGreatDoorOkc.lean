/-The plain functions are what the code does (by program:gen.py). -/
import Derived.Test.YtikppifemlpjlaaGreatDoorOkb
set_option linter.unusedVariables false
set_option maxRecDepth 100000
namespace Go.Vs.F
open Go.Proofs
open Tryz
section
variable (m:Nat)
def g51H:Hints:=⟨[J [0,3,4],J [0,3,4,5],J [0,3,4,5,18],J' [(0,1)] [2,3,4,5],J [0,3,4,20,21,22],J [0,3,4,20,21,22,23],J [0,3,4,6,7,20,21,22],J' [(0,1)] [0,3,4,6,20,21,22,27,28,29],J [0,3,4,6,20,21,22,27,28,29,30],J [0,3,4,6,8,9,20,21,22,27,28,29],J' [(2,1)] [0,3,4,6,20,21,22,27,28,29,43],J [2,3,4,5],J' [(1,1)] [0,3,4,6,20,21,22,27,28,29],J' [(1,1)] [0,3,4,20,21,22],J [0,3,4,10],J' [(4,1)] [0,3,4,10,60],J' [(0,1)] [0,3,4,10],J [0,3,4,10,11],J' [(0,1)] [0,3,4,11,63,64,65],J [0,3,4,11,63,64,65,66],J [0,3,4,11,13,63,64,65],J [0,3,4,11,14,63,64,65],J [0,3,4,11,14,63,64,65,74],J' [(0,1)] [0,3,4,11,14,63,64,65],J [0,3,4,11,14,63,64,65,78],J' [(0,1)] [0,3,4,11,63,64,65],J' [(1,1)] [0,3,4,11,63,64,65],J' [(0,1)] [2,3,4,5]],[(0,[0,3,4,20,21,22]),(2,[0,3,4,6,20,21,22,27,28,29]),(4,[0,3,4,10]),(6,[0,3,4,11,63,64,65])],[(0,[0,3,4]),(1,[0,3,4,20,21,22]),(2,[0,3,4,20,21,22]),(3,[0,3,4,6,20,21,22,27,28,29]),(4,[0,3,4,10]),(5,[0,3,4,10]),(6,[0,3,4]),(7,[0,3,4,11,63,64,65])],[2,3,4,5],[],[[false],[false],[false],[false]]⟩
def g51T:FunT:=⟨51,[.a (.c (.imm (.sl false (.pr .bool (.sl false (.int .u32))))))],.tup [(.c (.int .i64)),(.c (.int .i64)),(.c (.int .i64)),(.c (.int .i64))],[sD],fun x=>g51 m x.1⟩
noncomputable def g51C:Code:=codeOf f51
noncomputable def g51B0:Code:=qp g51C 0 0
noncomputable def g51B2:Code:=qp g51B0 0 0
noncomputable def g51B4:Code:=qp g51C 0 1
noncomputable def g51B6:Code:=qp g51C 0 2
theorem g51K:FL [g87T m,g88T m,g90T m,g89T m,g91T m]:=AllF.mem ⟨g87ok m,g88ok m,g90ok m,g89ok m,g91ok m,trivial⟩
def g51L3X:LT:=⟨6,[(0,.a (.c (.imm (.sl false (.pr .bool (.sl false (.int .u32))))))),(3,sI),(4,sI),(11,sI),(63,.a (.c (.nm 0 (.pr .bool (.sl false (.int .u32)))))),(64,sI),(65,sI)],[(.exit 6,[(0,.a (.c (.imm (.sl false (.pr .bool (.sl false (.int .u32))))))),(3,sI),(4,sI)])],fun n x=>g51L3 m n x.1 x.2.1 x.2.2.1 x.2.2.2.1 x.2.2.2.2.1 x.2.2.2.2.2.1 x.2.2.2.2.2.2.1⟩
theorem g51L3ok {E} (hE:EO E 89 g51H) (n):LO E g51B6 ((g51L3X m).at n):=lk hE (g51K m) (g51L3X m) n
def g51L2X:LT:=⟨4,[(0,.a (.c (.imm (.sl false (.pr .bool (.sl false (.int .u32))))))),(3,sI),(4,sI),(10,.a (.c (.nm 0 (.pr .bool (.sl false (.int .u32))))))],[(.exit 4,[(0,.a (.c (.imm (.sl false (.pr .bool (.sl false (.int .u32))))))),(3,sI),(4,sI),(10,.a (.c (.nm 0 (.pr .bool (.sl false (.int .u32))))))])],fun n x=>g51L2 m n x.1 x.2.1 x.2.2.1 x.2.2.2.1⟩
theorem g51L2ok {E} (hE:EO E 89 g51H) (n):LO E g51B4 ((g51L2X m).at n):=lk hE (g51K m) (g51L2X m) n
def g51L1X:LT:=⟨2,[(0,.a (.c (.imm (.sl false (.pr .bool (.sl false (.int .u32))))))),(3,sI),(4,sI),(6,sI),(20,.a (.c (.imm (.sl false (.pr .bool (.sl false (.int .u32))))))),(21,sI),(22,sI),(27,.a (.c (.imm (.pr .bool (.sl false (.int .u32)))))),(28,sI),(29,sI)],[(.ret,[(2,sI),(3,sI),(4,sI),(5,sI)]),(.exit 2,[(0,.a (.c (.imm (.sl false (.pr .bool (.sl false (.int .u32))))))),(3,sI),(4,sI),(20,.a (.c (.imm (.sl false (.pr .bool (.sl false (.int .u32))))))),(21,sI),(22,sI)])],fun n x=>g51L1 m n x.1 x.2.1 x.2.2.1 x.2.2.2.1 x.2.2.2.2.1 x.2.2.2.2.2.1 x.2.2.2.2.2.2.1 x.2.2.2.2.2.2.2.1 x.2.2.2.2.2.2.2.2.1 x.2.2.2.2.2.2.2.2.2.1⟩
theorem g51L1ok {E} (hE:EO E 89 g51H) (n):LO E g51B2 ((g51L1X m).at n):=lk hE (g51K m) (g51L1X m) n
def g51L0X:LT:=⟨0,[(0,.a (.c (.imm (.sl false (.pr .bool (.sl false (.int .u32))))))),(3,sI),(4,sI),(20,.a (.c (.imm (.sl false (.pr .bool (.sl false (.int .u32))))))),(21,sI),(22,sI)],[(.ret,[(2,sI),(3,sI),(4,sI),(5,sI)]),(.exit 0,[(0,.a (.c (.imm (.sl false (.pr .bool (.sl false (.int .u32))))))),(3,sI),(4,sI)])],fun n x=>g51L0 m n x.1 x.2.1 x.2.2.1 x.2.2.2.1 x.2.2.2.2.1 x.2.2.2.2.2.1⟩
theorem g51L0ok {E} (hE:EO E 89 g51H) (n):LO E g51B0 ((g51L0X m).at n):=
 lok hmix htt hE (g51K m) (L:=[(g51L1X m).at m]) (g51L0X m) (l:=[(2,g51B2)]) kR (fun _ _=>⟨qi ⟨yb (g51L1ok m hE m),trivial⟩,trivial⟩) (fun n x=>kR) (fun _=>kR) n
theorem g51ok:FO (g51T m):=
 fok hmix htt (H:=g51H) (g51T m) func51 kR (g51K m) (L:=[(g51L0X m).at m,(g51L2X m).at m,(g51L3X m).at m]) (l:=[(0,g51B0),(4,g51B4),(6,g51B6)]) kR (fun _ hE _ _=>⟨qi ⟨yb (g51L0ok m hE m),nb rfl,nb rfl,trivial⟩,qi ⟨nb rfl,yb (g51L2ok m hE m),nb rfl,trivial⟩,qi ⟨nb rfl,nb rfl,yb (g51L3ok m hE m),trivial⟩,trivial⟩) (fun x=>kR)
def g20H:Hints:=⟨[J [1,2,4],J [1,2,4,6],J [1,2,4,6,15],J' [(1,1)] [4,5],J' [(1,1),(5,1)] [4,7,8,9,10],J' [(0,1),(1,1),(2,1),(4,1)] [4,5]],[],[],[4,5],[],[[false,false,false],[false]]⟩
def g20T:FunT:=⟨20,[.a (.agg [(.int .i64),(.int .i64),(.imm (.int .i64)),(.imm (.int .i64)),(.imm (.int .u64))]),sU],.tup [(.agg [(.int .i64),(.int .i64),(.int .i64)]),(.c (.int .i64))],[sD,sD],fun x=>g20 m x.1.1 x.1.2.1 x.1.2.2.1 x.1.2.2.2.1 x.1.2.2.2.2.1 x.2.1⟩
theorem g20ok:FO (g20T m):=fk g20H (g20T m) func20 (AllF.mem (l:=[g33T m,g35T m,g52T m,g51T m]) ⟨g33ok m,g35ok m,g52ok m,g51ok m,trivial⟩)
def g45H:Hints:=⟨[J [0],J' [(0,1)] [2]],[],[],[2],[],[[false]]⟩
def g45T:FunT:=⟨45,[sU],sB,[sD],fun x=>g45 m x.1⟩
theorem g45ok:FO (g45T m):=fk g45H (g45T m) func45 (AllF.mem (l:=[g46T m]) ⟨g46ok m,trivial⟩)
def g42H:Hints:=⟨[J [0],J [0,4],J [2],J' [(0,1)] [2]],[],[],[2],[],[[false]]⟩
def g42T:FunT:=⟨42,[sU],sU,[sD],fun x=>g42 m x.1⟩
theorem g42ok:FO (g42T m):=fk g42H (g42T m) func42 (AllF.mem (l:=[g45T m]) ⟨g45ok m,trivial⟩)
def g24H:Hints:=⟨[J [1,2],J [1,2,6],J [1,2,6,13],J' [(0,1)] [4,5],J [1,2,15],J [1,2,15,16],J [4,5],J [1,2,20],J [4,5],J' [(1,1),(3,1)] [7,8],J' [(5,1)] [4,5]],[],[(0,[1,2])],[4,5],[],[[false],[false]]⟩
def g24T:FunT:=⟨24,[.a (.agg [(.int .i64),(.int .i64),(.imm (.int .i64)),(.imm (.int .i64)),(.imm (.int .u64))]),sU],.tup [(.c (.int .i64)),(.c (.int .i64))],[sD,sD],fun x=>g24 m x.1.1 x.1.2.1 x.1.2.2.1 x.1.2.2.2.1 x.1.2.2.2.2.1 x.2.1⟩
theorem g24ok:FO (g24T m):=fk g24H (g24T m) func24 (AllF.mem (l:=[g33T m,g20T m]) ⟨g33ok m,g20ok m,trivial⟩)
def sparselaw39_awake_H:Hints:=⟨[J [],J [1],J' [(2,1)] [1,2,3],J' [(2,1)] [1,2,3,5,6],J' [(3,1)] [2,3,5,6,7,8],J' [(0,1),(2,1),(3,1),(6,1),(7,1),(10,1),(15,1),(16,1),(19,1),(20,1)] [0]],[],[],[0],[],[[false]]⟩
abbrev sparselaw39_awake_A:List Sh:=[]
abbrev sparselaw39_awake_S:Sh:= sB
abbrev sparselaw39_awake_U:List Sh:=[]
def sparselaw39_awake_R:X4 sparselaw39_awake_A->Option (sparselaw39_awake_S.Val×X4 sparselaw39_awake_U):=fun(x:Unit)=>sparselaw39_awake m
def sparselaw39_awake_T:FunT:=⟨15,sparselaw39_awake_A,sparselaw39_awake_S,sparselaw39_awake_U,sparselaw39_awake_R m⟩
theorem sparselaw39_awake_ok:FO (sparselaw39_awake_T m):=fk sparselaw39_awake_H (sparselaw39_awake_T m) func15 (AllF.mem (l:=[g20T m,g12T m,g42T m,g24T m]) ⟨g20ok m,g12ok m,g42ok m,g24ok m,trivial⟩)
def sparselaw39_InertiaCertain_H:Hints:=⟨[J [0,1,2,3,4,5],J' [(0,1),(1,1),(2,1),(3,1),(4,1),(6,1)] [5,13,14],J' [(2,1)] [5,13,14,41],J' [(0,1)] [5,13,14],J' [(4,1)] [5,13,14,15,16,17],J' [(4,1)] [5,13,14,15,16,17,18,19,20],J' [(6,1)] [5,13,14,15,16,17,18,19,20,21,22,23],J' [(1,1),(2,1),(6,1)] [15,16,17,18,19,20,21,22,23,24,25,26],J' [(3,1),(4,1),(5,1),(8,1),(9,1),(10,1),(13,1),(18,1),(19,1),(20,1),(23,1),(24,1),(25,1),(28,1)] [12]],[],[],[12],[],[[false]]⟩
abbrev sparselaw39_InertiaCertain_A:List Sh:=[.a (.c (.imm (.int .u64))),sI,sI,sU,sB,sI]
abbrev sparselaw39_InertiaCertain_S:Sh:= sB
abbrev sparselaw39_InertiaCertain_U:List Sh:=[sD,sD,sD,sD,sD,sD]
def sparselaw39_InertiaCertain_R:X4 sparselaw39_InertiaCertain_A->Option (sparselaw39_InertiaCertain_S.Val×X4 sparselaw39_InertiaCertain_U):=fun(x:LI×Int×Int×Int×Bool×Int×Unit)=>sparselaw39_InertiaCertain m x.1 x.2.1 x.2.2.1 x.2.2.2.1 x.2.2.2.2.1 x.2.2.2.2.2.1
def sparselaw39_InertiaCertain_T:FunT:=⟨3,sparselaw39_InertiaCertain_A,sparselaw39_InertiaCertain_S,sparselaw39_InertiaCertain_U,sparselaw39_InertiaCertain_R m⟩
theorem sparselaw39_InertiaCertain_ok:FO (sparselaw39_InertiaCertain_T m):=fk sparselaw39_InertiaCertain_H (sparselaw39_InertiaCertain_T m) func3 (AllF.mem (l:=[sparselaw39_pick_T m,g12T m,g13T m,g14T m,sparselaw39_awake_T m]) ⟨sparselaw39_pick_ok m,g12ok m,g13ok m,g14ok m,sparselaw39_awake_ok m,trivial⟩)
end
end Go.Vs.F
