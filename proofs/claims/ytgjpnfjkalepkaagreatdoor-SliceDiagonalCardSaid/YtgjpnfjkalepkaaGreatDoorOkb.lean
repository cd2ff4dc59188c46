/-The plain functions are what the code does (by program:gen.py). -/
import Derived.Test.YtgjpnfjkalepkaaGreatDoorOka
set_option linter.unusedVariables false
set_option maxRecDepth 100000
namespace Go.Vs.F
open Go.Proofs
open Tryz
section
variable (m:Nat)
def g182H:Hints:=⟨[J [0,1],J' [(3,1)] [0,1,19],J [4],J [0,1,5],J' [(0,1)] [1,5,26,27,28],J [1,5,26,27,28,29],J [1,5,6,7,26,27,28],J [1,5,6,7,8,26,27,28],J [1,5,6,7,8,26,27,28,33,34,35],J [1,5,6,7,8,26,27,28,33,34,35,36],J [1,5,6,7,8,9,10,26,27,28,33,34,35],J' [(2,1),(13,1)] [1,5,6,7,9,11,26,27,28,33,34,35],J' [(2,1)] [1,5,6,7,11,26,27,28,33,34,35],J' [(0,1)] [1,5,6,7,8,26,27,28,33,34,35],J' [(1,1)] [1,5,6,7,8,26,27,28,33,34,35],J' [(1,1),(5,1)] [1,5,26,27,28],J' [(1,1)] [1,5,26,27,28],J' [(0,1)] [4]],[(0,[1,5,26,27,28]),(2,[1,5,6,7,8,26,27,28,33,34,35])],[(0,[5]),(1,[1,5,26,27,28]),(2,[1,5,6,8,26,27,28]),(3,[1,5,6,7,8,26,27,28,33,34,35])],[4],[],[[false]]⟩
def g182T:FunT:=⟨182,[.a (.c (.imm (.int .u32))),.a (.c (.imm (.int .u32)))],.a (.c (.imm (.int .u32))),[sD,sD],fun x=>g182 m x.1 x.2.1⟩
noncomputable def g182C:Code:=codeOf f182
noncomputable def g182B0:Code:=qx g182C 0 0
noncomputable def g182B2:Code:=qx g182B0 0 0
theorem g182K:FL [g143T m]:=AllF.mem ⟨g143ok m,trivial⟩
def g182L1X:LT:=⟨2,[(1,.a (.c (.imm (.int .u32)))),(5,.a (.c (.nm 0 (.int .u32)))),(6,sI),(7,.a (.c (.int .u32))),(8,sU),(26,.a (.c (.imm (.int .u32)))),(27,sI),(28,sI),(33,.a (.c (.imm (.int .u32)))),(34,sI),(35,sI)],[(.exit 2,[(1,.a (.c (.imm (.int .u32)))),(5,.a (.c (.nm 0 (.int .u32)))),(6,sI),(8,sU),(26,.a (.c (.imm (.int .u32)))),(27,sI),(28,sI)])],fun n x=>g182L1 m n x.1 x.2.1 x.2.2.1 x.2.2.2.1 x.2.2.2.2.1 x.2.2.2.2.2.1 x.2.2.2.2.2.2.1 x.2.2.2.2.2.2.2.1 x.2.2.2.2.2.2.2.2.1 x.2.2.2.2.2.2.2.2.2.1 x.2.2.2.2.2.2.2.2.2.2.1⟩
theorem g182L1ok {E} (hE:EO E 77 g182H) (n):LO E g182B2 ((g182L1X m).at n):=lk hE (g182K m) (g182L1X m) n
def g182L0X:LT:=⟨0,[(1,.a (.c (.imm (.int .u32)))),(5,.a (.c (.nm 0 (.int .u32)))),(26,.a (.c (.imm (.int .u32)))),(27,sI),(28,sI)],[(.exit 0,[(5,.a (.c (.nm 0 (.int .u32))))])],fun n x=>g182L0 m n x.1 x.2.1 x.2.2.1 x.2.2.2.1 x.2.2.2.2.1⟩
theorem g182L0ok {E} (hE:EO E 77 g182H) (n):LO E g182B0 ((g182L0X m).at n):=
 lok hmix htt hE (g182K m) (L:=[(g182L1X m).at m]) (g182L0X m) (l:=[(2,g182B2)]) kR (fun _ _=>⟨qj ⟨yb (g182L1ok m hE m),trivial⟩,trivial⟩) (fun n x=>kR) (fun _=>kR) n
theorem g182ok:FO (g182T m):=f1' g182H (g182T m) func182 (g182K m) fun _ h=>g182L0ok m h m
def g170H:Hints:=⟨[J [2,3,4],J [4]],[],[],[4],[],[[false,false]]⟩
def g170T:FunT:=⟨170,[.a (.agg [.bool,(.imm (.int .u32))]),.a (.agg [.bool,(.imm (.int .u32))])],.a (.agg [.bool,(.imm (.int .u32))]),[sD,sD],fun x=>g170 m x.1.1 x.1.2.1 x.2.1.1 x.2.1.2.1⟩
theorem g170ok:FO (g170T m):=fk g170H (g170T m) func170 (AllF.mem (l:=[g143T m,g182T m,g153T m]) ⟨g143ok m,g182ok m,g153ok m,trivial⟩)
def g146H:Hints:=⟨[J [0,1],J' [(0,6)] [0,1,5],J' [(0,1)] [1,5,13,14,15],J [1,5,13,14,15,16],J [1,5,7,13,14,15],J [1,5,7,8,13,14,15],J [1,5,7,8,13,14,15,20,21],J [1,5,7,8,13,14,15,20,21,22],J [1,5,7,8,9,13,14,15,20,21],J' [(0,2)] [1,5,7,8,9,10,13,14,15,20,21],J [1,5,7,8,9,10,13,14,15,20,21,24,25,26],J [1,5,7,8,9,10,13,14,15,20,21,24,25,26,27],J [1,5,7,8,9,10,11,12,13,14,15,20,21,24,25,26],J' [(0,2),(3,1)] [1,5,7,8,9,10,13,14,15,20,21,24,25,26],J' [(1,1)] [1,5,7,8,9,10,13,14,15,20,21,24,25,26],J' [(0,1)] [1,5,7,8,13,14,15,20,21],J' [(1,1)] [1,5,7,8,13,14,15,20,21],J' [(0,1),(1,1),(2,6),(3,6)] [1,5,13,14,15],J' [(1,1)] [1,5,13,14,15],J' [(0,1)] [4]],[(0,[1,5,13,14,15]),(2,[1,5,7,8,13,14,15,20,21]),(4,[1,5,7,8,9,10,13,14,15,20,21,24,25,26])],[(0,[5]),(1,[1,5,13,14,15]),(2,[1,5,8,13,14,15]),(3,[1,5,7,8,13,14,15,20,21]),(4,[1,5,7,8,10,13,14,15,20,21]),(5,[1,5,7,8,9,10,13,14,15,20,21,24,25,26])],[4],[],[[true]]⟩
def g146T:FunT:=⟨146,[.a (.c (.imm (.sl false (.pr .bool (.sl false (.int .u32)))))),.a (.c (.imm (.sl false (.pr .bool (.sl false (.int .u32))))))],.a (.c (.dp 0 (.pr .bool (.sl false (.int .u32))))),[sD,sD],fun x=>g146 m x.1 x.2.1⟩
noncomputable def g146C:Code:=codeOf f146
noncomputable def g146B0:Code:=qx g146C 0 0
noncomputable def g146B2:Code:=qx g146B0 0 0
noncomputable def g146B4:Code:=qx g146B2 2 0
theorem g146K:FL [g170T m,g145T m]:=AllF.mem ⟨g170ok m,g145ok m,trivial⟩
def g146L2X:LT:=⟨4,[(1,.a (.c (.imm (.sl false (.pr .bool (.sl false (.int .u32))))))),(5,.a (.c (.dp 0 (.pr .bool (.sl false (.int .u32)))))),(7,.a (.c (.imm (.pr .bool (.sl false (.int .u32)))))),(8,.a (.c (.nm 1 (.pr .bool (.sl false (.int .u32)))))),(9,sI),(10,sX 2 [.bool,.imm (.int .u32)]),(13,.a (.c (.imm (.sl false (.pr .bool (.sl false (.int .u32))))))),(14,sI),(15,sI),(20,sI),(21,sI),(24,.a (.c (.imm (.pr .bool (.sl false (.int .u32)))))),(25,sI),(26,sI)],[(.exit 4,[(1,.a (.c (.imm (.sl false (.pr .bool (.sl false (.int .u32))))))),(5,.a (.c (.dp 0 (.pr .bool (.sl false (.int .u32)))))),(7,.a (.c (.imm (.pr .bool (.sl false (.int .u32)))))),(8,.a (.c (.nm 1 (.pr .bool (.sl false (.int .u32)))))),(10,sX 2 [.bool,.imm (.int .u32)]),(13,.a (.c (.imm (.sl false (.pr .bool (.sl false (.int .u32))))))),(14,sI),(15,sI),(20,sI),(21,sI)])],fun n x=>g146L2 m n x.1 x.2.1 x.2.2.1 x.2.2.2.1 x.2.2.2.2.1 x.2.2.2.2.2.1.1 x.2.2.2.2.2.1.2.1 x.2.2.2.2.2.2.1 x.2.2.2.2.2.2.2.1 x.2.2.2.2.2.2.2.2.1 x.2.2.2.2.2.2.2.2.2.1 x.2.2.2.2.2.2.2.2.2.2.1 x.2.2.2.2.2.2.2.2.2.2.2.1 x.2.2.2.2.2.2.2.2.2.2.2.2.1 x.2.2.2.2.2.2.2.2.2.2.2.2.2.1⟩
theorem g146L2ok {E} (hE:EO E 54 g146H) (n):LO E g146B4 ((g146L2X m).at n):=lk hE (g146K m) (g146L2X m) n
def g146L1X:LT:=⟨2,[(1,.a (.c (.imm (.sl false (.pr .bool (.sl false (.int .u32))))))),(5,.a (.c (.dp 0 (.pr .bool (.sl false (.int .u32)))))),(7,.a (.c (.imm (.pr .bool (.sl false (.int .u32)))))),(8,.a (.c (.nm 1 (.pr .bool (.sl false (.int .u32)))))),(13,.a (.c (.imm (.sl false (.pr .bool (.sl false (.int .u32))))))),(14,sI),(15,sI),(20,sI),(21,sI)],[(.exit 2,[(1,.a (.c (.imm (.sl false (.pr .bool (.sl false (.int .u32))))))),(5,.a (.c (.dp 0 (.pr .bool (.sl false (.int .u32)))))),(8,.a (.c (.nm 1 (.pr .bool (.sl false (.int .u32)))))),(13,.a (.c (.imm (.sl false (.pr .bool (.sl false (.int .u32))))))),(14,sI),(15,sI)])],fun n x=>g146L1 m n x.1 x.2.1 x.2.2.1 x.2.2.2.1 x.2.2.2.2.1 x.2.2.2.2.2.1 x.2.2.2.2.2.2.1 x.2.2.2.2.2.2.2.1 x.2.2.2.2.2.2.2.2.1⟩
theorem g146L1ok {E} (hE:EO E 54 g146H) (n):LO E g146B2 ((g146L1X m).at n):=
 lok hmix htt hE (g146K m) (L:=[(g146L2X m).at m]) (g146L1X m) (l:=[(4,g146B4)]) kR (fun _ _=>⟨qj ⟨yb (g146L2ok m hE m),trivial⟩,trivial⟩) (fun n x=>kR) (fun _=>kR) n
def g146L0X:LT:=⟨0,[(1,.a (.c (.imm (.sl false (.pr .bool (.sl false (.int .u32))))))),(5,.a (.c (.dp 0 (.pr .bool (.sl false (.int .u32)))))),(13,.a (.c (.imm (.sl false (.pr .bool (.sl false (.int .u32))))))),(14,sI),(15,sI)],[(.exit 0,[(5,.a (.c (.dp 0 (.pr .bool (.sl false (.int .u32))))))])],fun n x=>g146L0 m n x.1 x.2.1 x.2.2.1 x.2.2.2.1 x.2.2.2.2.1⟩
theorem g146L0ok {E} (hE:EO E 54 g146H) (n):LO E g146B0 ((g146L0X m).at n):=
 lok hmix htt hE (g146K m) (L:=[(g146L1X m).at m]) (g146L0X m) (l:=[(2,g146B2)]) kR (fun _ _=>⟨qj ⟨yb (g146L1ok m hE m),trivial⟩,trivial⟩) (fun n x=>kR) (fun _=>kR) n
theorem g146ok:FO (g146T m):=f1' g146H (g146T m) func146 (g146K m) fun _ h=>g146L0ok m h m
def g189H:Hints:=⟨[J [0,1],J [0,1,6],J [0,1,6,7],J [0,1,6,7,8],J [0,1,6,7,8,17],J' [(0,1)] [0,1,6,7,8],J' [(0,1)] [0,1,6,8,9],J [0,1,6,8,9],J' [(0,1)] [0,1,6,7,8],J' [(0,1),(2,1)] [4,5]],[(0,[0,1,6,7,8])],[(0,[6,7]),(1,[0,1,6,7,8])],[4,5],[],[[false],[false]]⟩
def g189T:FunT:=⟨189,[.a (.c (.imm (.int .u32))),.a (.c (.int .u32))],.tup [(.c (.imm (.int .u32))),(.c (.int .u32))],[sD,sD],fun x=>g189 m x.1 x.2.1⟩
noncomputable def g189C:Code:=codeOf f189
noncomputable def g189B0:Code:=qx g189C 0 0
theorem g189K:FL [g143T m]:=AllF.mem ⟨g143ok m,trivial⟩
def g189L0X:LT:=⟨0,[(0,.a (.c (.imm (.int .u32)))),(1,.a (.c (.int .u32))),(6,.a (.c (.nm 0 (.int .u32)))),(7,sU),(8,sI)],[(.exit 0,[(6,.a (.c (.nm 0 (.int .u32)))),(7,sU)])],fun n x=>g189L0 m n x.1 x.2.1 x.2.2.1 x.2.2.2.1 x.2.2.2.2.1⟩
theorem g189L0ok {E} (hE:EO E 44 g189H) (n):LO E g189B0 ((g189L0X m).at n):=lk hE (g189K m) (g189L0X m) n
theorem g189ok:FO (g189T m):=f1' g189H (g189T m) func189 (g189K m) fun _ h=>g189L0ok m h m
def g190H:Hints:=⟨[J [0],J' [(0,1)] [2]],[],[],[2],[],[[false]]⟩
def g190T:FunT:=⟨190,[.a (.c (.int .u32))],sI,[sD],fun x=>g190 m x.1⟩
theorem g190ok:FO (g190T m):=fk g190H (g190T m) func190 (AllF.mem (l:=[g136T m]) ⟨g136ok m,trivial⟩)
def g183H:Hints:=⟨[J [0,1],J [0,1,16],J' [(0,1)] [4,5],J [0,1,21],J' [(0,1),(1,1),(5,1)] [6,7],J' [(0,1),(1,1)] [4,5],J [0,1,8],J' [(0,1)] [0,8,9],J [0,8,9,10],J' [(1,1)] [8,9,10],J [8,9,10,11],J [4,8,9,10,11],J [4,8,9,10,11,12],J [4,8,9,10,11,12,64],J' [(0,1)] [4,8,9,10,11,12],J [4,8,9,10,11,12],J' [(0,1),(1,1),(4,1),(6,1)] [4,5],J' [(0,1),(2,1)] [4,5]],[(0,[4,8,9,10,11,12])],[(0,[4,8,10,11]),(1,[4,8,9,10,11,12])],[4,5],[],[[false],[false]]⟩
def g183T:FunT:=⟨183,[.a (.c (.imm (.int .u32))),.a (.c (.imm (.int .u32)))],.tup [(.c (.imm (.int .u32))),(.c (.imm (.int .u32)))],[sD,sD],fun x=>g183 m x.1 x.2.1⟩
noncomputable def g183C:Code:=codeOf f183
noncomputable def g183B0:Code:=qx g183C 0 0
theorem g183ok:FO (g183T m):=
 fok hmix htt (H:=g183H) (g183T m) func183 kR (AllF.mem (l:=[g142T m,g154T m,g189T m,g143T m,g190T m,g175T m]) ⟨g142ok m,g154ok m,g189ok m,g143ok m,g190ok m,g175ok m,trivial⟩) (L:=[]) (l:=[(0,g183B0)]) kR (fun _ hE _ _=>⟨qj trivial,trivial⟩) (fun x=>kR)
def g171H:Hints:=⟨[J [2,3,4,5],J [2,3,4,5,7],J [2,3,4,5,7,15],J [4,5,6],J' [(5,1)] [2,3,4,5,7,8,9],J' [(2,1)] [2,3,4,5,7,8,9,32],J' [(0,1),(3,1),(4,1)] [2,3,4,5,8,9],J' [(5,1),(7,1)] [4,5,6]],[],[],[4,5,6],[],[[false,false],[false,false],[false]]⟩
def g171T:FunT:=⟨171,[.a (.agg [.bool,(.imm (.int .u32))]),.a (.agg [.bool,(.imm (.int .u32))])],.tup [(.agg [.bool,(.imm (.int .u32))]),(.agg [.bool,(.imm (.int .u32))]),(.c (.int .i64))],[sD,sD],fun x=>g171 m x.1.1 x.1.2.1 x.2.1.1 x.2.1.2.1⟩
theorem g171ok:FO (g171T m):=fk g171H (g171T m) func171 (AllF.mem (l:=[g143T m,g183T m,g168T m,g169T m,g153T m]) ⟨g143ok m,g183ok m,g168ok m,g169ok m,g153ok m,trivial⟩)
def g147H:Hints:=⟨[J [2,3,4],J' [(3,1)] [4,6,7,8],J' [(2,1)] [4,6,8,23],J [4,5],J' [(1,1)] [4,5]],[],[],[4,5],[],[[false,false],[false]]⟩
def g147T:FunT:=⟨147,[.a (.agg [.bool,(.imm (.int .u32))]),.a (.agg [.bool,(.imm (.int .u32))])],.tup [(.agg [.bool,(.imm (.int .u32))]),(.c (.int .i64))],[sD,sD],fun x=>g147 m x.1.1 x.1.2.1 x.2.1.1 x.2.1.2.1⟩
theorem g147ok:FO (g147T m):=fk g147H (g147T m) func147 (AllF.mem (l:=[g171T m]) ⟨g171ok m,trivial⟩)
def g114H:Hints:=⟨[J [0],J [0,3],J [0,3,4],J [0,3,4],J' [(1,4)] [0,3,4,5],J [0,3,4,5,26,27],J [0,3,4,5,26,27,28],J [0,3,4,5,6,26,27],J' [(1,1),(5,4)] [0,3,4,5,26,27],J' [(1,1)] [0,3,4,5,26,27],J [0,3,4,5,7],J [0,3,4,5,7,38],J' [(0,1)] [0,3,4,5,7],J [0,3,4,5,7,42,43],J [0,3,4,5,7,42,43,44],J [0,3,4,5,7,8,42,43],J [0,3,4,5,7,42,43],J' [(1,1)] [0,3,4,5,7,42,43],J' [(1,1)] [0,3,4,7,9],J' [(0,2)] [0,3,4,7,9,10],J [0,3,4,7,9,10,72,73],J [0,3,4,7,9,10,72,73,74],J [0,3,4,7,9,10,11,72,73],J' [(0,2)] [0,3,4,7,9,10,72,73],J' [(1,1)] [0,3,4,7,9,10,72,73],J' [(4,1)] [0,3,4,7,9,12],J' [(6,1)] [0,3,4,5,7],J' [(0,1)] [2]],[(0,[0,3,4,5,26,27]),(2,[0,3,4,5,7]),(4,[0,3,4,5,7,42,43]),(6,[0,3,4,7,9,10,72,73])],[(0,[0,3,4,5]),(1,[0,3,4,5,26,27]),(2,[4]),(3,[0,3,4,5,7]),(4,[0,3,4,5,7]),(5,[0,3,4,5,7,42,43]),(6,[0,3,4,7,9,10]),(7,[0,3,4,7,9,10,72,73])],[2],[],[[true]]⟩
def g114T:FunT:=⟨114,[.a (.c (.imm (.sl false (.pr .bool (.sl false (.int .u32))))))],.a (.c (.nm 0 (.pr .bool (.sl false (.int .u32))))),[sD],fun x=>g114 m x.1⟩
noncomputable def g114C:Code:=codeOf f114
noncomputable def g114B0:Code:=qx g114C 0 0
noncomputable def g114B2:Code:=qx g114C 0 1
noncomputable def g114B4:Code:=qx g114B2 2 0
noncomputable def g114B6:Code:=qx g114B2 2 1
theorem g114K:FL [g144T m,g145T m,g146T m,g147T m,g148T m]:=AllF.mem ⟨g144ok m,g145ok m,g146ok m,g147ok m,g148ok m,trivial⟩
def g114L3X:LT:=⟨6,[(0,.a (.c (.imm (.sl false (.pr .bool (.sl false (.int .u32))))))),(3,sI),(4,.a (.c (.nm 0 (.pr .bool (.sl false (.int .u32)))))),(7,sI),(9,.a (.c (.dp 1 (.pr .bool (.sl false (.int .u32)))))),(10,sX 2 [.bool,.imm (.int .u32)]),(72,sI),(73,sI)],[(.exit 6,[(0,.a (.c (.imm (.sl false (.pr .bool (.sl false (.int .u32))))))),(3,sI),(4,.a (.c (.nm 0 (.pr .bool (.sl false (.int .u32)))))),(7,sI),(9,.a (.c (.dp 1 (.pr .bool (.sl false (.int .u32)))))),(10,sX 2 [.bool,.imm (.int .u32)])])],fun n x=>g114L3 m n x.1 x.2.1 x.2.2.1 x.2.2.2.1 x.2.2.2.2.1 x.2.2.2.2.2.1.1 x.2.2.2.2.2.1.2.1 x.2.2.2.2.2.2.1 x.2.2.2.2.2.2.2.1⟩
theorem g114L3ok {E} (hE:EO E 102 g114H) (n):LO E g114B6 ((g114L3X m).at n):=lk hE (g114K m) (g114L3X m) n
def g114L2X:LT:=⟨4,[(0,.a (.c (.imm (.sl false (.pr .bool (.sl false (.int .u32))))))),(3,sI),(4,.a (.c (.nm 0 (.pr .bool (.sl false (.int .u32)))))),(5,.a (.c (.dp 1 (.pr .bool (.sl false (.int .u32)))))),(7,sI),(42,sI),(43,sI)],[(.exit 4,[(0,.a (.c (.imm (.sl false (.pr .bool (.sl false (.int .u32))))))),(3,sI),(4,.a (.c (.nm 0 (.pr .bool (.sl false (.int .u32)))))),(5,.a (.c (.dp 1 (.pr .bool (.sl false (.int .u32)))))),(7,sI)])],fun n x=>g114L2 m n x.1 x.2.1 x.2.2.1 x.2.2.2.1 x.2.2.2.2.1 x.2.2.2.2.2.1 x.2.2.2.2.2.2.1⟩
theorem g114L2ok {E} (hE:EO E 102 g114H) (n):LO E g114B4 ((g114L2X m).at n):=lk hE (g114K m) (g114L2X m) n
def g114L1X:LT:=⟨2,[(0,.a (.c (.imm (.sl false (.pr .bool (.sl false (.int .u32))))))),(3,sI),(4,.a (.c (.nm 0 (.pr .bool (.sl false (.int .u32)))))),(5,.a (.c (.dp 1 (.pr .bool (.sl false (.int .u32)))))),(7,sI)],[(.exit 2,[(4,.a (.c (.nm 0 (.pr .bool (.sl false (.int .u32))))))])],fun n x=>g114L1 m n x.1 x.2.1 x.2.2.1 x.2.2.2.1 x.2.2.2.2.1⟩
theorem g114L1ok {E} (hE:EO E 102 g114H) (n):LO E g114B2 ((g114L1X m).at n):=
 lok hmix htt hE (g114K m) (L:=[(g114L2X m).at m,(g114L3X m).at m]) (g114L1X m) (l:=[(4,g114B4),(6,g114B6)]) kR (fun _ _=>⟨qj ⟨yb (g114L2ok m hE m),nb rfl,trivial⟩,qj ⟨nb rfl,yb (g114L3ok m hE m),trivial⟩,trivial⟩) (fun n x=>kR) (fun _=>kR) n
def g114L0X:LT:=⟨0,[(0,.a (.c (.imm (.sl false (.pr .bool (.sl false (.int .u32))))))),(3,sI),(4,.a (.c (.nm 0 (.pr .bool (.sl false (.int .u32)))))),(5,.a (.c (.dp 1 (.pr .bool (.sl false (.int .u32)))))),(26,sI),(27,sI)],[(.exit 0,[(0,.a (.c (.imm (.sl false (.pr .bool (.sl false (.int .u32))))))),(3,sI),(4,.a (.c (.nm 0 (.pr .bool (.sl false (.int .u32)))))),(5,.a (.c (.dp 1 (.pr .bool (.sl false (.int .u32))))))])],fun n x=>g114L0 m n x.1 x.2.1 x.2.2.1 x.2.2.2.1 x.2.2.2.2.1 x.2.2.2.2.2.1⟩
theorem g114L0ok {E} (hE:EO E 102 g114H) (n):LO E g114B0 ((g114L0X m).at n):=lk hE (g114K m) (g114L0X m) n
theorem g114ok:FO (g114T m):=
 fok hmix htt (H:=g114H) (g114T m) func114 kR (g114K m) (L:=[(g114L0X m).at m,(g114L1X m).at m]) (l:=[(0,g114B0),(2,g114B2)]) kR (fun _ hE _ _=>⟨qj ⟨yb (g114L0ok m hE m),nb rfl,trivial⟩,qj ⟨nb rfl,yb (g114L1ok m hE m),trivial⟩,trivial⟩) (fun x=>kR)
def g86H:Hints:=⟨[J [0,3,4],J [0,3,4,5],J [0,3,4,5,18],J' [(0,1)] [2,3,4,5],J [0,3,4,20,21,22],J [0,3,4,20,21,22,23],J [0,3,4,6,7,20,21,22],J' [(0,1)] [0,3,4,6,20,21,22,27,28,29],J [0,3,4,6,20,21,22,27,28,29,30],J [0,3,4,6,8,9,20,21,22,27,28,29],J' [(2,1)] [0,3,4,6,20,21,22,27,28,29,43],J [2,3,4,5],J' [(1,1)] [0,3,4,6,20,21,22,27,28,29],J' [(1,1)] [0,3,4,20,21,22],J [0,3,4,10],J' [(4,1)] [0,3,4,10,60],J' [(0,1)] [0,3,4,10],J [0,3,4,10,11],J' [(0,1)] [0,3,4,11,63,64,65],J [0,3,4,11,63,64,65,66],J [0,3,4,11,13,63,64,65],J [0,3,4,11,14,63,64,65],J [0,3,4,11,14,63,64,65,74],J' [(0,1)] [0,3,4,11,14,63,64,65],J [0,3,4,11,14,63,64,65,78],J' [(0,1)] [0,3,4,11,63,64,65],J' [(1,1)] [0,3,4,11,63,64,65],J' [(0,1)] [2,3,4,5]],[(0,[0,3,4,20,21,22]),(2,[0,3,4,6,20,21,22,27,28,29]),(4,[0,3,4,10]),(6,[0,3,4,11,63,64,65])],[(0,[0,3,4]),(1,[0,3,4,20,21,22]),(2,[0,3,4,20,21,22]),(3,[0,3,4,6,20,21,22,27,28,29]),(4,[0,3,4,10]),(5,[0,3,4,10]),(6,[0,3,4]),(7,[0,3,4,11,63,64,65])],[2,3,4,5],[],[[false],[false],[false],[false]]⟩
def g86T:FunT:=⟨86,[.a (.c (.imm (.sl false (.pr .bool (.sl false (.int .u32))))))],.tup [(.c (.int .i64)),(.c (.int .i64)),(.c (.int .i64)),(.c (.int .i64))],[sD],fun x=>g86 m x.1⟩
noncomputable def g86C:Code:=codeOf f86
noncomputable def g86B0:Code:=qx g86C 0 0
noncomputable def g86B2:Code:=qx g86B0 0 0
noncomputable def g86B4:Code:=qx g86C 0 1
noncomputable def g86B6:Code:=qx g86C 0 2
theorem g86K:FL [g112T m,g113T m,g115T m,g114T m,g116T m]:=AllF.mem ⟨g112ok m,g113ok m,g115ok m,g114ok m,g116ok m,trivial⟩
def g86L3X:LT:=⟨6,[(0,.a (.c (.imm (.sl false (.pr .bool (.sl false (.int .u32))))))),(3,sI),(4,sI),(11,sI),(63,.a (.c (.nm 0 (.pr .bool (.sl false (.int .u32)))))),(64,sI),(65,sI)],[(.exit 6,[(0,.a (.c (.imm (.sl false (.pr .bool (.sl false (.int .u32))))))),(3,sI),(4,sI)])],fun n x=>g86L3 m n x.1 x.2.1 x.2.2.1 x.2.2.2.1 x.2.2.2.2.1 x.2.2.2.2.2.1 x.2.2.2.2.2.2.1⟩
theorem g86L3ok {E} (hE:EO E 89 g86H) (n):LO E g86B6 ((g86L3X m).at n):=lk hE (g86K m) (g86L3X m) n
def g86L2X:LT:=⟨4,[(0,.a (.c (.imm (.sl false (.pr .bool (.sl false (.int .u32))))))),(3,sI),(4,sI),(10,.a (.c (.nm 0 (.pr .bool (.sl false (.int .u32))))))],[(.exit 4,[(0,.a (.c (.imm (.sl false (.pr .bool (.sl false (.int .u32))))))),(3,sI),(4,sI),(10,.a (.c (.nm 0 (.pr .bool (.sl false (.int .u32))))))])],fun n x=>g86L2 m n x.1 x.2.1 x.2.2.1 x.2.2.2.1⟩
theorem g86L2ok {E} (hE:EO E 89 g86H) (n):LO E g86B4 ((g86L2X m).at n):=lk hE (g86K m) (g86L2X m) n
def g86L1X:LT:=⟨2,[(0,.a (.c (.imm (.sl false (.pr .bool (.sl false (.int .u32))))))),(3,sI),(4,sI),(6,sI),(20,.a (.c (.imm (.sl false (.pr .bool (.sl false (.int .u32))))))),(21,sI),(22,sI),(27,.a (.c (.imm (.pr .bool (.sl false (.int .u32)))))),(28,sI),(29,sI)],[(.ret,[(2,sI),(3,sI),(4,sI),(5,sI)]),(.exit 2,[(0,.a (.c (.imm (.sl false (.pr .bool (.sl false (.int .u32))))))),(3,sI),(4,sI),(20,.a (.c (.imm (.sl false (.pr .bool (.sl false (.int .u32))))))),(21,sI),(22,sI)])],fun n x=>g86L1 m n x.1 x.2.1 x.2.2.1 x.2.2.2.1 x.2.2.2.2.1 x.2.2.2.2.2.1 x.2.2.2.2.2.2.1 x.2.2.2.2.2.2.2.1 x.2.2.2.2.2.2.2.2.1 x.2.2.2.2.2.2.2.2.2.1⟩
theorem g86L1ok {E} (hE:EO E 89 g86H) (n):LO E g86B2 ((g86L1X m).at n):=lk hE (g86K m) (g86L1X m) n
def g86L0X:LT:=⟨0,[(0,.a (.c (.imm (.sl false (.pr .bool (.sl false (.int .u32))))))),(3,sI),(4,sI),(20,.a (.c (.imm (.sl false (.pr .bool (.sl false (.int .u32))))))),(21,sI),(22,sI)],[(.ret,[(2,sI),(3,sI),(4,sI),(5,sI)]),(.exit 0,[(0,.a (.c (.imm (.sl false (.pr .bool (.sl false (.int .u32))))))),(3,sI),(4,sI)])],fun n x=>g86L0 m n x.1 x.2.1 x.2.2.1 x.2.2.2.1 x.2.2.2.2.1 x.2.2.2.2.2.1⟩
theorem g86L0ok {E} (hE:EO E 89 g86H) (n):LO E g86B0 ((g86L0X m).at n):=
 lok hmix htt hE (g86K m) (L:=[(g86L1X m).at m]) (g86L0X m) (l:=[(2,g86B2)]) kR (fun _ _=>⟨qj ⟨yb (g86L1ok m hE m),trivial⟩,trivial⟩) (fun n x=>kR) (fun _=>kR) n
theorem g86ok:FO (g86T m):=
 fok hmix htt (H:=g86H) (g86T m) func86 kR (g86K m) (L:=[(g86L0X m).at m,(g86L2X m).at m,(g86L3X m).at m]) (l:=[(0,g86B0),(4,g86B4),(6,g86B6)]) kR (fun _ hE _ _=>⟨qj ⟨yb (g86L0ok m hE m),nb rfl,nb rfl,trivial⟩,qj ⟨nb rfl,yb (g86L2ok m hE m),nb rfl,trivial⟩,qj ⟨nb rfl,nb rfl,yb (g86L3ok m hE m),trivial⟩,trivial⟩) (fun x=>kR)
def g63H:Hints:=⟨[J [1,2,4],J [1,2,4,6],J [1,2,4,6,15],J' [(1,1)] [4,5],J' [(1,1),(5,1)] [4,7,8,9,10],J' [(0,1),(1,1),(2,1),(4,1)] [4,5]],[],[],[4,5],[],[[false,false,false],[false]]⟩
def g63T:FunT:=⟨63,[.a (.agg [(.int .i64),(.int .i64),(.imm (.int .i64)),(.imm (.int .i64)),(.imm (.int .u64))]),sU],.tup [(.agg [(.int .i64),(.int .i64),(.int .i64)]),(.c (.int .i64))],[sD,sD],fun x=>g63 m x.1.1 x.1.2.1 x.1.2.2.1 x.1.2.2.2.1 x.1.2.2.2.2.1 x.2.1⟩
theorem g63ok:FO (g63T m):=fk g63H (g63T m) func63 (AllF.mem (l:=[g62T m,g88T m,g87T m,g86T m]) ⟨g62ok m,g88ok m,g87ok m,g86ok m,trivial⟩)
def g43H:Hints:=⟨[J [1,2],J [1,2,6],J [1,2,6,13],J' [(0,1)] [4,5],J [1,2,15],J [1,2,15,16],J [4,5],J [1,2,20],J [4,5],J' [(1,1),(3,1)] [7,8],J' [(5,1)] [4,5]],[],[(0,[1,2])],[4,5],[],[[false],[false]]⟩
def g43T:FunT:=⟨43,[.a (.agg [(.int .i64),(.int .i64),(.imm (.int .i64)),(.imm (.int .i64)),(.imm (.int .u64))]),sU],.tup [(.c (.int .i64)),(.c (.int .i64))],[sD,sD],fun x=>g43 m x.1.1 x.1.2.1 x.1.2.2.1 x.1.2.2.2.1 x.1.2.2.2.2.1 x.2.1⟩
theorem g43ok:FO (g43T m):=fk g43H (g43T m) func43 (AllF.mem (l:=[g62T m,g63T m]) ⟨g62ok m,g63ok m,trivial⟩)
def g36H:Hints:=⟨[J [1,2,3],J' [(1,1),(3,1)] [2,3,7],J' [(1,1),(3,1)] [7,9],J' [(0,1),(1,1)] [6]],[],[],[6],[],[[false]]⟩
def g36T:FunT:=⟨36,[.a (.agg [(.int .i64),(.int .i64),(.imm (.int .i64)),(.imm (.int .i64)),(.imm (.int .u64))]),sU,sU],sI,[sD,sD,sD],fun x=>g36 m x.1.1 x.1.2.1 x.1.2.2.1 x.1.2.2.2.1 x.1.2.2.2.2.1 x.2.1 x.2.2.1⟩
theorem g36ok:FO (g36T m):=fk g36H (g36T m) func36 (AllF.mem (l:=[g43T m]) ⟨g43ok m,trivial⟩)
def g41H:Hints:=⟨[J [0,1],J' [(0,1),(2,1)] [1,5],J' [(0,1),(2,1)] [5,7],J' [(0,1),(2,1)] [4]],[],[],[4],[],[[false]]⟩
def g41T:FunT:=⟨41,[sU,sU],sB,[sD,sD],fun x=>g41 m x.1 x.2.1⟩
theorem g41ok:FO (g41T m):=fk g41H (g41T m) func41 (AllF.mem (l:=[g57T m]) ⟨g57ok m,trivial⟩)
def g61H:Hints:=⟨[J [0,1],J [4]],[],[],[4],[],[[false]]⟩
def g61T:FunT:=⟨61,[sI,sI],sI,[sD,sD],fun x=>g61 m x.1 x.2.1⟩
theorem g61ok:FO (g61T m):=fk g61H (g61T m) func61 noF
def g85H:Hints:=⟨[J [0],J [0,5],J [2],J' [(0,1)] [2]],[],[],[2],[],[[false]]⟩
def g85T:FunT:=⟨85,[sU],sU,[sD],fun x=>g85 m x.1⟩
theorem g85ok:FO (g85T m):=fk g85H (g85T m) func85 (AllF.mem (l:=[g89T m]) ⟨g89ok m,trivial⟩)
def g60H:Hints:=⟨[J [0],J' [(2,1)] [0,4],J [2,3],J [0,11],J' [(0,1)] [2,3],J' [(0,1)] [2,3]],[],[(0,[0])],[2,3],[],[[false],[false]]⟩
def g60T:FunT:=⟨60,[sI],.tup [(.c (.int .u64)),(.c .bool)],[sD],fun x=>g60 m x.1⟩
theorem g60ok:FO (g60T m):=fk g60H (g60T m) func60 (AllF.mem (l:=[g85T m]) ⟨g85ok m,trivial⟩)
def g42H:Hints:=⟨[J [0,1],J' [(0,1),(2,1)] [1,6,7],J' [(0,1),(2,1)] [6,7,8,9],J' [(0,1),(2,1),(3,1)] [6,8,25],J [4,5],J' [(0,1),(1,1)] [4,5]],[],[],[4,5],[],[[false],[false]]⟩
def g42T:FunT:=⟨42,[sU,sU],.tup [(.c (.int .u64)),(.c .bool)],[sD,sD],fun x=>g42 m x.1 x.2.1⟩
theorem g42ok:FO (g42T m):=fk g42H (g42T m) func42 (AllF.mem (l:=[g57T m,g61T m,g60T m]) ⟨g57ok m,g61ok m,g60ok m,trivial⟩)
def g35H:Hints:=⟨[J [1,2,3,4,5],J [1,2,3,4,5,15],J' [(0,1)] [4,10],J' [(2,1)] [1,2,3,4,5,23],J' [(1,1),(2,1),(3,1),(6,3)] [4,10],J' [(3,1)] [1,2,3,4,5,11],J [1,2,3,4,5,11,13],J' [(2,1),(3,1),(7,1),(11,15),(12,15)] [4,10]],[],[],[4,10],[4],[[true]]⟩
def g35T:FunT:=⟨35,[.a (.agg [(.int .i64),(.int .i64),(.imm (.int .i64)),(.imm (.int .i64)),(.imm (.int .u64))]),sU,sU,sI,.a (.c (.nm 0 (.pr (.int .u64) (.pr (.int .u64) (.int .i64)))))],.a (.c (.nm 0 (.pr (.int .u64) (.pr (.int .u64) (.int .i64))))),[sD,sD,sD,sD,sD],fun x=>g35 m x.1.1 x.1.2.1 x.1.2.2.1 x.1.2.2.2.1 x.1.2.2.2.2.1 x.2.1 x.2.2.1 x.2.2.2.1 x.2.2.2.2.1⟩
theorem g35ok: ∀m:Nat,FunOK prog (g35T m)
 |0=>fun _ _ h=>by cases h
 |m+1=>by
  have hself:=g35ok m;exact fok hmix htt (H:=g35H) (g35T (m+1)) func35 kR (AllF.mem (l:=[g41T m,g42T m,g36T m,g35T m]) ⟨g41ok m,g42ok m,g36ok m,hself,trivial⟩) (L:=[]) (l:=[]) kR (fun _ hE _ _=>trivial) (fun x=>kR)
def g35bH:Hints:=⟨[J [1,2,3,4,5],J [1,2,3,4,5,15],J' [(0,1)] [10],J' [(2,1)] [1,2,3,4,5,23],J' [(0,1),(1,1),(2,1),(3,1)] [10],J' [(3,1)] [1,2,3,4,5,11],J [1,2,3,4,5,11,13],J' [(2,1),(3,1),(7,1),(10,1),(11,115),(12,15)] [10]],[],[],[10],[],[[true]]⟩
def g35bT:FunT:=⟨35,[.a (.agg [(.int .i64),(.int .i64),(.imm (.int .i64)),(.imm (.int .i64)),(.imm (.int .u64))]),sU,sU,sI,.a (.c (.nl (.pr (.int .u64) (.pr (.int .u64) (.int .i64)))))],.a (.c (.nm 0 (.pr (.int .u64) (.pr (.int .u64) (.int .i64))))),[sD,sD,sD,sD,sD],fun x=>g35b m x.1.1 x.1.2.1 x.1.2.2.1 x.1.2.2.2.1 x.1.2.2.2.2.1 x.2.1 x.2.2.1 x.2.2.2.1⟩
theorem g35bok: ∀m:Nat,FunOK prog (g35bT m)
 |0=>fun _ _ h=>by cases h
 |m+1=>by
  have hself:=g35bok m;exact fok hmix htt (H:=g35bH) (g35bT (m+1)) func35 kR (AllF.mem (l:=[g41T m,g42T m,g36T m,g35T m,g35bT m]) ⟨g41ok m,g42ok m,g36ok m,g35ok m,hself,trivial⟩) (L:=[]) (l:=[]) kR (fun _ hE _ _=>trivial) (fun x=>kR)
def g12H:Hints:=⟨[J [1,2,3],J [1,2,3,8],J [1,2,3,8,12],J' [(0,1)] [6,7],J [1,2,3,17],J [6,7],J' [(7,115)] [6,7]],[],[],[6,7],[],[[true],[false]]⟩
def g12T:FunT:=⟨12,[.a (.agg [(.int .i64),(.int .i64),(.imm (.int .i64)),(.imm (.int .i64)),(.imm (.int .u64))]),sU,sU],.tup [(.c (.nm 0 (.pr (.int .u64) (.pr (.int .u64) (.int .i64))))),(.c (.int .i64))],[sD,sD,sD],fun x=>g12 m x.1.1 x.1.2.1 x.1.2.2.1 x.1.2.2.2.1 x.1.2.2.2.2.1 x.2.1 x.2.2.1⟩
theorem g12ok:FO (g12T m):=fk g12H (g12T m) func12 (AllF.mem (l:=[g33T m,g34T m,g36T m,g35bT m]) ⟨g33ok m,g34ok m,g36ok m,g35bok m,trivial⟩)
def sparselaw40_diagonal_H:Hints:=⟨[J [0,2],J [0,2,3],J [0,2,3,4],J [0,2,3,4,15],J' [(0,1)] [0,2,3,4],J' [(4,3),(10,3)] [0,2,3,4],J' [(0,1)] [2]],[(0,[0,2,3,4])],[(0,[2,3]),(1,[0,2,3,4])],[2],[],[[false,false,true,true,false]]⟩
abbrev sparselaw40_diagonal_A:List Sh:=[.a (.c (.imm (.int .u64)))]
abbrev sparselaw40_diagonal_S:Sh:= .a (.agg [(.int .i64),(.int .i64),(.nm 0 (.int .i64)),(.nm 1 (.int .i64)),(.imm (.int .u64))])
abbrev sparselaw40_diagonal_U:List Sh:=[sD]
def sparselaw40_diagonal_R:Qw sparselaw40_diagonal_A->Option (sparselaw40_diagonal_S.Val×Qw sparselaw40_diagonal_U):=fun(x:LI×Unit)=>sparselaw40_diagonal m x.1
def sparselaw40_diagonal_T:FunT:=⟨27,sparselaw40_diagonal_A,sparselaw40_diagonal_S,sparselaw40_diagonal_U,sparselaw40_diagonal_R m⟩
noncomputable def sparselaw40_diagonal_C:Code:=codeOf f27
noncomputable def sparselaw40_diagonal_B0:Code:=qx sparselaw40_diagonal_C 0 0
def sparselaw40_diagonal_L0_X:LT:=⟨0,[(0,.a (.c (.imm (.int .u64)))),(2,sX 0 [iI,iI,iM 1,iM 2,.nm 3 (.int .u64)]),(3,sX 4 [iI,iI,iM 5,iM 6,.imm (.int .u64)]),(4,sI)],[(.exit 0,[(2,sX 0 [iI,iI,iM 1,iM 2,.nm 3 (.int .u64)]),(3,sX 4 [iI,iI,iM 5,iM 6,.imm (.int .u64)])])],fun n (x:LI×(Int×Int×LI×LI×LI×Unit)×(Int×Int×LI×LI×LI×Unit)×Int×Unit)=>sparselaw40_diagonal_L0 m n x.1 x.2.1.1 x.2.1.2.1 x.2.1.2.2.1 x.2.1.2.2.2.1 x.2.1.2.2.2.2.1 x.2.2.1.1 x.2.2.1.2.1 x.2.2.1.2.2.1 x.2.2.1.2.2.2.1 x.2.2.1.2.2.2.2.1 x.2.2.2.1⟩
theorem sparselaw40_diagonal_L0_ok {E} (hE:EO E 32 sparselaw40_diagonal_H) (n):LO E sparselaw40_diagonal_B0 ((sparselaw40_diagonal_L0_X m).at n):=lk hE noF (sparselaw40_diagonal_L0_X m) n
theorem sparselaw40_diagonal_ok:FO (sparselaw40_diagonal_T m):=f1' sparselaw40_diagonal_H (sparselaw40_diagonal_T m) func27 noF fun _ h=>sparselaw40_diagonal_L0_ok m h m
def g16H:Hints:=⟨[J [1,2,4],J [1,2,4,6],J [1,2,4,6,15],J' [(1,1)] [4,5],J' [(2,1)] [1,2,4,25],J [4,5],J [1,2,4,7],J [1,2,4,7,33],J' [(5,1)] [1,2,4,7,8],J' [(3,1)] [1,2,4,7,8,10],J' [(0,1)] [1,2,4,7,8,50],J' [(0,1)] [1,2,4,7],J' [(0,1)] [1,2,4,7],J [4,7],J [4,5]],[(0,[1,2,4,7])],[(0,[2,4,7]),(1,[1,2,4,7])],[4,5],[],[[false,false,false],[false]]⟩
def g16T:FunT:=⟨16,[.a (.agg [(.int .i64),(.int .i64),(.imm (.int .i64)),(.imm (.int .i64)),(.imm (.int .u64))]),sI],.tup [(.agg [(.int .u64),(.int .u64),(.int .i64)]),(.c (.int .i64))],[sD,sD],fun x=>g16 m x.1.1 x.1.2.1 x.1.2.2.1 x.1.2.2.2.1 x.1.2.2.2.2.1 x.2.1⟩
noncomputable def g16C:Code:=codeOf f16
noncomputable def g16B0:Code:=qx g16C 0 0
theorem g16K:FL [g33T m,g41T m,g42T m,g43T m,g36T m]:=AllF.mem ⟨g33ok m,g41ok m,g42ok m,g43ok m,g36ok m,trivial⟩
def g16L0X:LT:=⟨0,[(1,sI),(2,sX 0 [iI,iI,iL,iL,.imm (.int .u64)]),(4,sX 1 [iU,iU,iI]),(7,sX 2 [iU,iU,iI])],[(.exit 0,[(2,sX 0 [iI,iI,iL,iL,.imm (.int .u64)]),(4,sX 1 [iU,iU,iI]),(7,sX 2 [iU,iU,iI])])],fun n x=>g16L0 m n x.1 x.2.1.1 x.2.1.2.1 x.2.1.2.2.1 x.2.1.2.2.2.1 x.2.1.2.2.2.2.1 x.2.2.1.1 x.2.2.1.2.1 x.2.2.1.2.2.1 x.2.2.2.1.1 x.2.2.2.1.2.1 x.2.2.2.1.2.2.1⟩
theorem g16L0ok {E} (hE:EO E 63 g16H) (n):LO E g16B0 ((g16L0X m).at n):=lk hE (g16K m) (g16L0X m) n
theorem g16ok:FO (g16T m):=f1' g16H (g16T m) func16 (g16K m) fun _ h=>g16L0ok m h m
def g90H:Hints:=⟨[J [0],J [0,3],J' [(0,1)] [3,8],J' [(0,1)] [2],J' [(0,1)] [2]],[],[],[2],[],[[false]]⟩
def g90T:FunT:=⟨90,[sU],sI,[sD],fun x=>g90 m x.1⟩
theorem g90ok:FO (g90T m):=fk g90H (g90T m) func90 (AllF.mem (l:=[g124T m]) ⟨g124ok m,trivial⟩)
def g64H:Hints:=⟨[J [0,1],J [0,1,11],J [4,5],J' [(0,1),(2,1)] [6,7],J [6,7,16],J [4,5],J' [(0,1),(1,1)] [20],J [4,5],J [4,5]],[],[(0,[])],[4,5],[],[[false],[false]]⟩
def g64T:FunT:=⟨64,[sU,sU],.tup [(.c (.int .i64)),(.c .bool)],[sD,sD],fun x=>g64 m x.1 x.2.1⟩
theorem g64ok:FO (g64T m):=fk g64H (g64T m) func64 (AllF.mem (l:=[g89T m,g90T m]) ⟨g89ok m,g90ok m,trivial⟩)
def g46H:Hints:=⟨[J [2,3,4],J [2,3,4,14],J [6],J [2,3,4,17],J' [(10,1)] [3,4,7],J' [(0,1)] [3,4,32],J [6],J [6]],[],[],[6],[],[[false]]⟩
def g46T:FunT:=⟨46,[.a (.agg [(.int .i64),(.int .i64),(.imm (.int .i64)),(.imm (.int .i64)),(.imm (.int .u64))]),.a (.agg [(.int .u64),(.int .u64),(.int .i64)]),.a (.c (.imm (.pr (.int .u64) (.pr (.int .u64) (.int .i64)))))],sB,[sD,sD,sD],fun x=>g46 m x.1.1 x.1.2.1 x.1.2.2.1 x.1.2.2.2.1 x.1.2.2.2.2.1 x.2.1.1 x.2.1.2.1 x.2.1.2.2.1 x.2.2.1⟩
theorem g46ok:FO (g46T m):=fk g46H (g46T m) func46 (AllF.mem (l:=[g34T m,g64T m,g36T m]) ⟨g34ok m,g64ok m,g36ok m,trivial⟩)
def g21H:Hints:=⟨[J [1,2],J [1,2,6],J [1,2,6,12],J' [(0,1)] [4,5],J [1,2,14,15,16],J [1,2,14,15,16,17],J [1,2,7,8,14,15,16],J [1,2,7,14,15,16,26],J' [(0,1)] [4,5],J' [(1,1)] [1,2,14,15,16],J [4,5]],[(0,[1,2,14,15,16])],[(0,[]),(1,[1,2,14,15,16])],[4,5],[],[[false],[false]]⟩
def g21T:FunT:=⟨21,[.a (.agg [(.int .i64),(.int .i64),(.imm (.int .i64)),(.imm (.int .i64)),(.imm (.int .u64))]),.a (.c (.imm (.pr (.int .u64) (.pr (.int .u64) (.int .i64)))))],.tup [(.c (.int .i64)),(.c (.int .i64))],[sD,sD],fun x=>g21 m x.1.1 x.1.2.1 x.1.2.2.1 x.1.2.2.2.1 x.1.2.2.2.2.1 x.2.1⟩
noncomputable def g21C:Code:=codeOf f21
noncomputable def g21B0:Code:=qx g21C 0 0
theorem g21K:FL [g33T m,g46T m]:=AllF.mem ⟨g33ok m,g46ok m,trivial⟩
def g21L0X:LT:=⟨0,[(1,.a (.c (.imm (.pr (.int .u64) (.pr (.int .u64) (.int .i64)))))),(2,sX 0 [iI,iI,iL,iL,.imm (.int .u64)]),(14,.a (.c (.imm (.pr (.int .u64) (.pr (.int .u64) (.int .i64)))))),(15,sI),(16,sI)],[(.ret,[(4,sI),(5,sI)]),(.exit 0,[])],fun n x=>g21L0 m n x.1 x.2.1.1 x.2.1.2.1 x.2.1.2.2.1 x.2.1.2.2.2.1 x.2.1.2.2.2.2.1 x.2.2.1 x.2.2.2.1 x.2.2.2.2.1⟩
theorem g21L0ok {E} (hE:EO E 29 g21H) (n):LO E g21B0 ((g21L0X m).at n):=lk hE (g21K m) (g21L0X m) n
theorem g21ok:FO (g21T m):=f1' g21H (g21T m) func21 (g21K m) fun _ h=>g21L0ok m h m
def sparselaw40_awake_H:Hints:=⟨[J [],J [1],J' [(3,1)] [1,2,3],J' [(2,1)] [1,2,3,4,5],J' [(3,1)] [2,3,4,5,6,7],J' [(0,1),(2,1),(3,1),(6,1),(7,1),(10,1),(15,1),(22,1),(27,1),(28,1)] [0]],[],[],[0],[],[[false]]⟩
abbrev sparselaw40_awake_A:List Sh:=[]
abbrev sparselaw40_awake_S:Sh:= sB
abbrev sparselaw40_awake_U:List Sh:=[]
def sparselaw40_awake_R:Qw sparselaw40_awake_A->Option (sparselaw40_awake_S.Val×Qw sparselaw40_awake_U):=fun(x:Unit)=>sparselaw40_awake m
def sparselaw40_awake_T:FunT:=⟨15,sparselaw40_awake_A,sparselaw40_awake_S,sparselaw40_awake_U,sparselaw40_awake_R m⟩
theorem sparselaw40_awake_ok:FO (sparselaw40_awake_T m):=fk sparselaw40_awake_H (sparselaw40_awake_T m) func15 (AllF.mem (l:=[g40T m,sparselaw40_diagonal_T m,g12T m,g16T m,g21T m]) ⟨g40ok m,sparselaw40_diagonal_ok m,g12ok m,g16ok m,g21ok m,trivial⟩)
end
end Go.Vs.F
