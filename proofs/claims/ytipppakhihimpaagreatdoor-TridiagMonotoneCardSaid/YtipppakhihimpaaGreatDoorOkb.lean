/-The plain functions are what the code does (by program:gen.py). -/
import Derived.Test.YtipppakhihimpaaGreatDoorOka
set_option linter.unusedVariables false
set_option maxRecDepth 100000
namespace Go.Vs.F
open Go.Proofs
open Tryz
section
variable (m:Nat)
def g56H:Hints:=⟨[J [0,3,4],J [0,3,4,5],J [0,3,4,5,18],J' [(0,1)] [2,3,4,5],J [0,3,4,20,21,22],J [0,3,4,20,21,22,23],J [0,3,4,6,7,20,21,22],J' [(0,1)] [0,3,4,6,20,21,22,27,28,29],J [0,3,4,6,20,21,22,27,28,29,30],J [0,3,4,6,8,9,20,21,22,27,28,29],J' [(2,1)] [0,3,4,6,20,21,22,27,28,29,43],J [2,3,4,5],J' [(1,1)] [0,3,4,6,20,21,22,27,28,29],J' [(1,1)] [0,3,4,20,21,22],J [0,3,4,10],J' [(4,1)] [0,3,4,10,60],J' [(0,1)] [0,3,4,10],J [0,3,4,10,11],J' [(0,1)] [0,3,4,11,63,64,65],J [0,3,4,11,63,64,65,66],J [0,3,4,11,13,63,64,65],J [0,3,4,11,14,63,64,65],J [0,3,4,11,14,63,64,65,74],J' [(0,1)] [0,3,4,11,14,63,64,65],J [0,3,4,11,14,63,64,65,78],J' [(0,1)] [0,3,4,11,63,64,65],J' [(1,1)] [0,3,4,11,63,64,65],J' [(0,1)] [2,3,4,5]],[(0,[0,3,4,20,21,22]),(2,[0,3,4,6,20,21,22,27,28,29]),(4,[0,3,4,10]),(6,[0,3,4,11,63,64,65])],[(0,[0,3,4]),(1,[0,3,4,20,21,22]),(2,[0,3,4,20,21,22]),(3,[0,3,4,6,20,21,22,27,28,29]),(4,[0,3,4,10]),(5,[0,3,4,10]),(6,[0,3,4]),(7,[0,3,4,11,63,64,65])],[2,3,4,5],[],[[false],[false],[false],[false]]⟩
def g56T:FunT:=⟨56,[.a (.c (.imm (.sl false (.pr .bool (.sl false (.int .u32))))))],.tup [(.c (.int .i64)),(.c (.int .i64)),(.c (.int .i64)),(.c (.int .i64))],[sD],fun x=>g56 m x.1⟩
noncomputable def g56C:Code:=codeOf f56
noncomputable def g56B0:Code:=Q5 g56C 0 0
noncomputable def g56B2:Code:=Q5 g56B0 0 0
noncomputable def g56B4:Code:=Q5 g56C 0 1
noncomputable def g56B6:Code:=Q5 g56C 0 2
theorem g56K:FL [g92T m,g93T m,g95T m,g94T m,g96T m]:=AllF.mem ⟨g92ok m,g93ok m,g95ok m,g94ok m,g96ok m,trivial⟩
def g56L3X:LT:=⟨6,[(0,.a (.c (.imm (.sl false (.pr .bool (.sl false (.int .u32))))))),(3,sI),(4,sI),(11,sI),(63,.a (.c (.nm 0 (.pr .bool (.sl false (.int .u32)))))),(64,sI),(65,sI)],[(.exit 6,[(0,.a (.c (.imm (.sl false (.pr .bool (.sl false (.int .u32))))))),(3,sI),(4,sI)])],fun n x=>g56L3 m n x.1 x.2.1 x.2.2.1 x.2.2.2.1 x.2.2.2.2.1 x.2.2.2.2.2.1 x.2.2.2.2.2.2.1⟩
theorem g56L3ok {E} (hE:EO E 89 g56H) (n):LO E g56B6 ((g56L3X m).at n):=lk hE (g56K m) (g56L3X m) n
def g56L2X:LT:=⟨4,[(0,.a (.c (.imm (.sl false (.pr .bool (.sl false (.int .u32))))))),(3,sI),(4,sI),(10,.a (.c (.nm 0 (.pr .bool (.sl false (.int .u32))))))],[(.exit 4,[(0,.a (.c (.imm (.sl false (.pr .bool (.sl false (.int .u32))))))),(3,sI),(4,sI),(10,.a (.c (.nm 0 (.pr .bool (.sl false (.int .u32))))))])],fun n x=>g56L2 m n x.1 x.2.1 x.2.2.1 x.2.2.2.1⟩
theorem g56L2ok {E} (hE:EO E 89 g56H) (n):LO E g56B4 ((g56L2X m).at n):=lk hE (g56K m) (g56L2X m) n
def g56L1X:LT:=⟨2,[(0,.a (.c (.imm (.sl false (.pr .bool (.sl false (.int .u32))))))),(3,sI),(4,sI),(6,sI),(20,.a (.c (.imm (.sl false (.pr .bool (.sl false (.int .u32))))))),(21,sI),(22,sI),(27,.a (.c (.imm (.pr .bool (.sl false (.int .u32)))))),(28,sI),(29,sI)],[(.ret,[(2,sI),(3,sI),(4,sI),(5,sI)]),(.exit 2,[(0,.a (.c (.imm (.sl false (.pr .bool (.sl false (.int .u32))))))),(3,sI),(4,sI),(20,.a (.c (.imm (.sl false (.pr .bool (.sl false (.int .u32))))))),(21,sI),(22,sI)])],fun n x=>g56L1 m n x.1 x.2.1 x.2.2.1 x.2.2.2.1 x.2.2.2.2.1 x.2.2.2.2.2.1 x.2.2.2.2.2.2.1 x.2.2.2.2.2.2.2.1 x.2.2.2.2.2.2.2.2.1 x.2.2.2.2.2.2.2.2.2.1⟩
theorem g56L1ok {E} (hE:EO E 89 g56H) (n):LO E g56B2 ((g56L1X m).at n):=lk hE (g56K m) (g56L1X m) n
def g56L0X:LT:=⟨0,[(0,.a (.c (.imm (.sl false (.pr .bool (.sl false (.int .u32))))))),(3,sI),(4,sI),(20,.a (.c (.imm (.sl false (.pr .bool (.sl false (.int .u32))))))),(21,sI),(22,sI)],[(.ret,[(2,sI),(3,sI),(4,sI),(5,sI)]),(.exit 0,[(0,.a (.c (.imm (.sl false (.pr .bool (.sl false (.int .u32))))))),(3,sI),(4,sI)])],fun n x=>g56L0 m n x.1 x.2.1 x.2.2.1 x.2.2.2.1 x.2.2.2.2.1 x.2.2.2.2.2.1⟩
theorem g56L0ok {E} (hE:EO E 89 g56H) (n):LO E g56B0 ((g56L0X m).at n):=
 lok hmix htt hE (g56K m) (L:=[(g56L1X m).at m]) (g56L0X m) (l:=[(2,g56B2)]) kR (fun _ _=>⟨qm ⟨yb (g56L1ok m hE m),trivial⟩,trivial⟩) (fun n x=>kR) (fun _=>kR) n
theorem g56ok:FO (g56T m):=
 fok hmix htt (H:=g56H) (g56T m) func56 kR (g56K m) (L:=[(g56L0X m).at m,(g56L2X m).at m,(g56L3X m).at m]) (l:=[(0,g56B0),(4,g56B4),(6,g56B6)]) kR (fun _ hE _ _=>⟨qm ⟨yb (g56L0ok m hE m),nb rfl,nb rfl,trivial⟩,qm ⟨nb rfl,yb (g56L2ok m hE m),nb rfl,trivial⟩,qm ⟨nb rfl,nb rfl,yb (g56L3ok m hE m),trivial⟩,trivial⟩) (fun x=>kR)
def g24H:Hints:=⟨[J [0,1,2],J [0,1,2,11],J' [(0,1)] [6],J [0,1,2,16],J [6],J' [(0,1),(1,1),(2,1),(6,1)] [7,8],J' [(0,1),(1,1)] [6]],[],[(0,[0,1,2])],[6],[],[[false]]⟩
def g24T:FunT:=⟨24,[.a (.c (.imm (.int .u64))),.a (.c (.imm (.int .u64))),sU],sI,[sD,sD,sD],fun x=>g24 m x.1 x.2.1 x.2.2.1⟩
theorem g24ok:FO (g24T m):=fk g24H (g24T m) func24 (AllF.mem (l:=[g53T m,g58T m,g57T m,g56T m]) ⟨g53ok m,g58ok m,g57ok m,g56ok m,trivial⟩)
def g10H:Hints:=⟨[J [0,1,2],J [0,1,2,8],J [0,1,2,8,13],J' [(0,1)] [6,7],J [0,1,2,17],J [6,7],J' [(0,1),(1,1),(2,1)] [6,7]],[],[],[6,7],[],[[false],[false]]⟩
def g10T:FunT:=⟨10,[.a (.c (.imm (.int .u64))),.a (.c (.imm (.int .u64))),sU],.tup [(.c (.int .i64)),(.c (.int .i64))],[sD,sD,sD],fun x=>g10 m x.1 x.2.1 x.2.2.1⟩
theorem g10ok:FO (g10T m):=fk g10H (g10T m) func10 (AllF.mem (l:=[g22T m,g23T m,g24T m]) ⟨g22ok m,g23ok m,g24ok m,trivial⟩)
def g26H:Hints:=⟨[J [0],J [3,4],J' [(2,1)] [3,4,10],J [2],J [3,4,17],J [2],J' [(0,1),(2,1),(3,1)] [20],J [2],J [2]],[],[(0,[])],[2],[],[[false]]⟩
def g26T:FunT:=⟨26,[sU],sI,[sD],fun x=>g26 m x.1⟩
theorem g26ok:FO (g26T m):=fk g26H (g26T m) func26 noF
def g63H:Hints:=⟨[J [0],J' [(0,1)] [2]],[],[],[2],[],[[false]]⟩
def g63T:FunT:=⟨63,[sU],sB,[sD],fun x=>g63 m x.1⟩
theorem g63ok:FO (g63T m):=fk g63H (g63T m) func63 noF
def g32H:Hints:=⟨[J [0],J' [(0,1)] [2]],[],[],[2],[],[[false]]⟩
def g32T:FunT:=⟨32,[sU],sB,[sD],fun x=>g32 m x.1⟩
theorem g32ok:FO (g32T m):=fk g32H (g32T m) func32 (AllF.mem (l:=[g26T m]) ⟨g26ok m,trivial⟩)
def g15H:Hints:=⟨[J [0],J [0,4],J [2],J' [(0,1)] [2]],[],[],[2],[],[[false]]⟩
def g15T:FunT:=⟨15,[sU],sU,[sD],fun x=>g15 m x.1⟩
theorem g15ok:FO (g15T m):=fk g15H (g15T m) func15 (AllF.mem (l:=[g32T m]) ⟨g32ok m,trivial⟩)
def sparselaw37_awake_H:Hints:=⟨[J [],J [1,2],J' [(4,1)] [1,2,3,4],J' [(3,1)] [1,2,3,4,5,6],J' [(0,1),(1,1),(3,1)] [3,4,5,6,7,8],J' [(0,1),(2,1),(3,1),(6,1),(7,1),(10,1),(11,1),(14,1),(15,1),(18,1),(19,1)] [0]],[],[],[0],[],[[false]]⟩
abbrev sparselaw37_awake_A:List Sh:=[]
abbrev sparselaw37_awake_S:Sh:= sB
abbrev sparselaw37_awake_U:List Sh:=[]
def sparselaw37_awake_R:X3 sparselaw37_awake_A->Option (sparselaw37_awake_S.Val×X3 sparselaw37_awake_U):=fun(x:Unit)=>sparselaw37_awake m
def sparselaw37_awake_T:FunT:=⟨13,sparselaw37_awake_A,sparselaw37_awake_S,sparselaw37_awake_U,sparselaw37_awake_R m⟩
theorem sparselaw37_awake_ok:FO (sparselaw37_awake_T m):=fk sparselaw37_awake_H (sparselaw37_awake_T m) func13 (AllF.mem (l:=[g15T m,g10T m]) ⟨g15ok m,g10ok m,trivial⟩)
def g33H:Hints:=⟨[J [0],J [0,4],J' [(0,1)] [2],J' [(0,1)] [2]],[],[],[2],[],[[false]]⟩
def g33T:FunT:=⟨33,[sU],sI,[sD],fun x=>g33 m x.1⟩
theorem g33ok:FO (g33T m):=fk g33H (g33T m) func33 (AllF.mem (l:=[g63T m]) ⟨g63ok m,trivial⟩)
def g14H:Hints:=⟨[J [0,1],J' [(2,1)] [0,1,11],J [4,5],J [0,1,12],J [4,5],J' [(0,1),(2,1)] [18],J [4,5],J [4,5]],[],[(0,[])],[4,5],[],[[false],[false]]⟩
def g14T:FunT:=⟨14,[sU,sU],.tup [(.c (.int .i64)),(.c .bool)],[sD,sD],fun x=>g14 m x.1 x.2.1⟩
theorem g14ok:FO (g14T m):=fk g14H (g14T m) func14 (AllF.mem (l:=[g32T m,g33T m]) ⟨g32ok m,g33ok m,trivial⟩)
def sparselaw37_TridiagMonotone_H:Hints:=⟨[J [0,1,2,3,4,5],J' [(0,1),(1,1),(6,1)] [2,3,4,5,13,14],J' [(0,1),(3,1)] [5,13,14,15,16],J' [(3,1)] [5,13,14,15,16,17],J' [(0,1)] [5,13,14,15,16,53],J' [(0,1),(1,1)] [5,13,14,15,16],J [5,13,14,15,16,19],J [5,13,14,15,16,19,20],J' [(4,1)] [5,13,14,15,16,19,20,68],J' [(0,1)] [5,13,14,15,16,19,20],J [5,13,14,15,16,19,20,74],J [5,13,14,15,16,19,20],J' [(4,1)] [13,14,15,16,19,21,22],J' [(2,1),(4,1)] [13,14,15,19,21,22,23,24],J' [(1,1),(2,1),(4,1)] [13,14,21,22,23,24,25,26],J' [(3,1)] [13,14,21,22,23,24,25,26,27],J' [(1,1),(3,1)] [13,21,22,23,24,25,26,27,29],J' [(0,1),(2,1),(3,1),(6,1),(7,1),(10,1),(15,1),(17,1),(20,1),(21,1),(24,1),(25,1),(30,1),(34,1),(40,1)] [12]],[(0,[5,13,14,15,16,19,20])],[(0,[13,14,15,16,19]),(1,[5,13,14,15,16,19,20])],[12],[],[[false]]⟩
abbrev sparselaw37_TridiagMonotone_A:List Sh:=[.a (.c (.imm (.int .u64))),sI,sI,sU,sU,.a (.c (.imm .bool))]
abbrev sparselaw37_TridiagMonotone_S:Sh:= sB
abbrev sparselaw37_TridiagMonotone_U:List Sh:=[sD,sD,sD,sD,sD,sD]
def sparselaw37_TridiagMonotone_R:X3 sparselaw37_TridiagMonotone_A->Option (sparselaw37_TridiagMonotone_S.Val×X3 sparselaw37_TridiagMonotone_U):=fun(x:LI×Int×Int×Int×Int×List Bool×Unit)=>sparselaw37_TridiagMonotone m x.1 x.2.1 x.2.2.1 x.2.2.2.1 x.2.2.2.2.1 x.2.2.2.2.2.1
def sparselaw37_TridiagMonotone_T:FunT:=⟨4,sparselaw37_TridiagMonotone_A,sparselaw37_TridiagMonotone_S,sparselaw37_TridiagMonotone_U,sparselaw37_TridiagMonotone_R m⟩
noncomputable def sparselaw37_TridiagMonotone_C:Code:=codeOf f4
noncomputable def sparselaw37_TridiagMonotone_B0:Code:=Q5 sparselaw37_TridiagMonotone_C 0 0
theorem sparselaw37_TridiagMonotone_K:FL [g9T m,sparselaw37_pick_T m,g12T m,g14T m,g15T m,g10T m,sparselaw37_awake_T m]:=AllF.mem ⟨g9ok m,sparselaw37_pick_ok m,g12ok m,g14ok m,g15ok m,g10ok m,sparselaw37_awake_ok m,trivial⟩
def sparselaw37_TridiagMonotone_L0_X:LT:=⟨0,[(5,.a (.c (.imm .bool))),(13,.a (.c (.nm 0 (.int .u64)))),(14,.a (.c (.nm 1 (.int .u64)))),(15,sU),(16,sU),(19,.a (.c (.nm 2 (.int .u64)))),(20,sI)],[(.exit 0,[(13,.a (.c (.nm 0 (.int .u64)))),(14,.a (.c (.nm 1 (.int .u64)))),(15,sU),(16,sU),(19,.a (.c (.nm 2 (.int .u64))))])],fun n (x:List Bool×LI×LI×Int×Int×LI×Int×Unit)=>sparselaw37_TridiagMonotone_L0 m n x.1 x.2.1 x.2.2.1 x.2.2.2.1 x.2.2.2.2.1 x.2.2.2.2.2.1 x.2.2.2.2.2.2.1⟩
theorem sparselaw37_TridiagMonotone_L0_ok {E} (hE:EO E 159 sparselaw37_TridiagMonotone_H) (n):LO E sparselaw37_TridiagMonotone_B0 ((sparselaw37_TridiagMonotone_L0_X m).at n):=lk hE (sparselaw37_TridiagMonotone_K m) (sparselaw37_TridiagMonotone_L0_X m) n
theorem sparselaw37_TridiagMonotone_ok:FO (sparselaw37_TridiagMonotone_T m):=f1' sparselaw37_TridiagMonotone_H (sparselaw37_TridiagMonotone_T m) func4 (sparselaw37_TridiagMonotone_K m) fun _ h=>sparselaw37_TridiagMonotone_L0_ok m h m
end
end Go.Vs.F
