/-The plain functions are what the code does (by program:gen.py). -/
import Derived.Test.YtgjpnfjkalepkaaGreatDoorOka
set_option linter.unusedVariables false
set_option maxRecDepth 100000
namespace Go.Vs.F
open Go.Proofs
open Tryz
section
variable (m:Nat)
def g182H:Hints:=⟨[J [0,1],J' [(3,1)] [0,1,19],J [4],J [0,1,5],J' [(0,1)] [1,5,26,27,28],J [1,5,26,27,28,29],J [1,5,6,7,26,27,28],J [1,5,6,7,8,26,27,28],J [1,5,6,7,8,26,27,28,33,34,35],J [1,5,6,7,8,26,27,28,33,34,35,36],J [1,5,6,7,8,9,10,26,27,28,33,34,35],J' [(2,1),(13,1)] [1,5,6,7,9,11,26,27,28,33,34,35],J' [(2,1)] [1,5,6,7,11,26,27,28,33,34,35],J' [(0,1)] [1,5,6,7,8,26,27,28,33,34,35],J' [(1,1)] [1,5,6,7,8,26,27,28,33,34,35],J' [(1,1),(5,1)] [1,5,26,27,28],J' [(1,1)] [1,5,26,27,28],J' [(0,1)] [4]],[(0,[1,5,26,27,28]),(2,[1,5,6,7,8,26,27,28,33,34,35])],[(0,[5]),(1,[1,5,26,27,28]),(2,[1,5,6,8,26,27,28]),(3,[1,5,6,7,8,26,27,28,33,34,35])],[4],[],[[false]]⟩
def g182T:FunT:=⟨182,[.a (.c (.imm (.int .u32))),.a (.c (.imm (.int .u32)))],.a (.c (.imm (.int .u32))),[sD,sD],fun x=>g182 m x.1 x.2.1⟩
noncomputable def g182C:Code:=codeOf f182
noncomputable def g182B0:Code:=qx g182C 0 0
noncomputable def g182B2:Code:=qx g182B0 0 0
theorem g182K:FL [g143T m]:=AllF.mem ⟨g143ok m,trivial⟩
def g182L1X:LT:=⟨2,[(1,.a (.c (.imm (.int .u32)))),(5,.a (.c (.nm 0 (.int .u32)))),(6,sI),(7,.a (.c (.int .u32))),(8,sU),(26,.a (.c (.imm (.int .u32)))),(27,sI),(28,sI),(33,.a (.c (.imm (.int .u32)))),(34,sI),(35,sI)],[(.exit 2,[(1,.a (.c (.imm (.int .u32)))),(5,.a (.c (.nm 0 (.int .u32)))),(6,sI),(8,sU),(26,.a (.c (.imm (.int .u32)))),(27,sI),(28,sI)])],fun n x=>g182L1 m n x.1 x.2.1 x.2.2.1 x.2.2.2.1 x.2.2.2.2.1 x.2.2.2.2.2.1 x.2.2.2.2.2.2.1 x.2.2.2.2.2.2.2.1 x.2.2.2.2.2.2.2.2.1 x.2.2.2.2.2.2.2.2.2.1 x.2.2.2.2.2.2.2.2.2.2.1⟩
theorem g182L1ok {E} (hE:EO E 77 g182H) (n):LO E g182B2 ((g182L1X m).at n):=lk hE (g182K m) (g182L1X m) n
def g182L0X:LT:=⟨0,[(1,.a (.c (.imm (.int .u32)))),(5,.a (.c (.nm 0 (.int .u32)))),(26,.a (.c (.imm (.int .u32)))),(27,sI),(28,sI)],[(.exit 0,[(5,.a (.c (.nm 0 (.int .u32))))])],fun n x=>g182L0 m n x.1 x.2.1 x.2.2.1 x.2.2.2.1 x.2.2.2.2.1⟩
theorem g182L0ok {E} (hE:EO E 77 g182H) (n):LO E g182B0 ((g182L0X m).at n):=
 lok hmix htt hE (g182K m) (L:=[(g182L1X m).at m]) (g182L0X m) (l:=[(2,g182B2)]) kR (fun _ _=>⟨qj ⟨yb (g182L1ok m hE m),trivial⟩,trivial⟩) (fun n x=>kR) (fun _=>kR) n
theorem g182ok:FO (g182T m):=f1' g182H (g182T m) func182 (g182K m) fun _ h=>g182L0ok m h m
def g170H:Hints:=⟨[J [2,3,4],J [4]],[],[],[4],[],[[false,false]]⟩
def g170T:FunT:=⟨170,[.a (.agg [.bool,(.imm (.int .u32))]),.a (.agg [.bool,(.imm (.int .u32))])],.a (.agg [.bool,(.imm (.int .u32))]),[sD,sD],fun x=>g170 m x.1.1 x.1.2.1 x.2.1.1 x.2.1.2.1⟩
theorem g170ok:FO (g170T m):=fk g170H (g170T m) func170 (AllF.mem (l:=[g143T m,g182T m,g153T m]) ⟨g143ok m,g182ok m,g153ok m,trivial⟩)
def g146H:Hints:=⟨[J [0,1],J' [(0,6)] [0,1,5],J' [(0,1)] [1,5,13,14,15],J [1,5,13,14,15,16],J [1,5,7,13,14,15],J [1,5,7,8,13,14,15],J [1,5,7,8,13,14,15,20,21],J [1,5,7,8,13,14,15,20,21,22],J [1,5,7,8,9,13,14,15,20,21],J' [(0,2)] [1,5,7,8,9,10,13,14,15,20,21],J [1,5,7,8,9,10,13,14,15,20,21,24,25,26],J [1,5,7,8,9,10,13,14,15,20,21,24,25,26,27],J [1,5,7,8,9,10,11,12,13,14,15,20,21,24,25,26],J' [(0,2),(3,1)] [1,5,7,8,9,10,13,14,15,20,21,24,25,26],J' [(1,1)] [1,5,7,8,9,10,13,14,15,20,21,24,25,26],J' [(0,1)] [1,5,7,8,13,14,15,20,21],J' [(1,1)] [1,5,7,8,13,14,15,20,21],J' [(0,1),(1,1),(2,6),(3,6)] [1,5,13,14,15],J' [(1,1)] [1,5,13,14,15],J' [(0,1)] [4]],[(0,[1,5,13,14,15]),(2,[1,5,7,8,13,14,15,20,21]),(4,[1,5,7,8,9,10,13,14,15,20,21,24,25,26])],[(0,[5]),(1,[1,5,13,14,15]),(2,[1,5,8,13,14,15]),(3,[1,5,7,8,13,14,15,20,21]),(4,[1,5,7,8,10,13,14,15,20,21]),(5,[1,5,7,8,9,10,13,14,15,20,21,24,25,26])],[4],[],[[true]]⟩
def g146T:FunT:=⟨146,[.a (.c (.imm (.sl false (.pr .bool (.sl false (.int .u32)))))),.a (.c (.imm (.sl false (.pr .bool (.sl false (.int .u32))))))],.a (.c (.dp 0 (.pr .bool (.sl false (.int .u32))))),[sD,sD],fun x=>g146 m x.1 x.2.1⟩
noncomputable def g146C:Code:=codeOf f146
noncomputable def g146B0:Code:=qx g146C 0 0
noncomputable def g146B2:Code:=qx g146B0 0 0
noncomputable def g146B4:Code:=qx g146B2 2 0
theorem g146K:FL [g170T m,g145T m]:=AllF.mem ⟨g170ok m,g145ok m,trivial⟩
def g146L2X:LT:=⟨4,[(1,.a (.c (.imm (.sl false (.pr .bool (.sl false (.int .u32))))))),(5,.a (.c (.dp 0 (.pr .bool (.sl false (.int .u32)))))),(7,.a (.c (.imm (.pr .bool (.sl false (.int .u32)))))),(8,.a (.c (.nm 1 (.pr .bool (.sl false (.int .u32)))))),(9,sI),(10,sX 2 [.bool,.imm (.int .u32)]),(13,.a (.c (.imm (.sl false (.pr .bool (.sl false (.int .u32))))))),(14,sI),(15,sI),(20,sI),(21,sI),(24,.a (.c (.imm (.pr .bool (.sl false (.int .u32)))))),(25,sI),(26,sI)],[(.exit 4,[(1,.a (.c (.imm (.sl false (.pr .bool (.sl false (.int .u32))))))),(5,.a (.c (.dp 0 (.pr .bool (.sl false (.int .u32)))))),(7,.a (.c (.imm (.pr .bool (.sl false (.int .u32)))))),(8,.a (.c (.nm 1 (.pr .bool (.sl false (.int .u32)))))),(10,sX 2 [.bool,.imm (.int .u32)]),(13,.a (.c (.imm (.sl false (.pr .bool (.sl false (.int .u32))))))),(14,sI),(15,sI),(20,sI),(21,sI)])],fun n x=>g146L2 m n x.1 x.2.1 x.2.2.1 x.2.2.2.1 x.2.2.2.2.1 x.2.2.2.2.2.1.1 x.2.2.2.2.2.1.2.1 x.2.2.2.2.2.2.1 x.2.2.2.2.2.2.2.1 x.2.2.2.2.2.2.2.2.1 x.2.2.2.2.2.2.2.2.2.1 x.2.2.2.2.2.2.2.2.2.2.1 x.2.2.2.2.2.2.2.2.2.2.2.1 x.2.2.2.2.2.2.2.2.2.2.2.2.1 x.2.2.2.2.2.2.2.2.2.2.2.2.2.1⟩
theorem g146L2ok {E} (hE:EO E 54 g146H) (n):LO E g146B4 ((g146L2X m).at n):=lk hE (g146K m) (g146L2X m) n
def g146L1X:LT:=⟨2,[(1,.a (.c (.imm (.sl false (.pr .bool (.sl false (.int .u32))))))),(5,.a (.c (.dp 0 (.pr .bool (.sl false (.int .u32)))))),(7,.a (.c (.imm (.pr .bool (.sl false (.int .u32)))))),(8,.a (.c (.nm 1 (.pr .bool (.sl false (.int .u32)))))),(13,.a (.c (.imm (.sl false (.pr .bool (.sl false (.int .u32))))))),(14,sI),(15,sI),(20,sI),(21,sI)],[(.exit 2,[(1,.a (.c (.imm (.sl false (.pr .bool (.sl false (.int .u32))))))),(5,.a (.c (.dp 0 (.pr .bool (.sl false (.int .u32)))))),(8,.a (.c (.nm 1 (.pr .bool (.sl false (.int .u32)))))),(13,.a (.c (.imm (.sl false (.pr .bool (.sl false (.int .u32))))))),(14,sI),(15,sI)])],fun n x=>g146L1 m n x.1 x.2.1 x.2.2.1 x.2.2.2.1 x.2.2.2.2.1 x.2.2.2.2.2.1 x.2.2.2.2.2.2.1 x.2.2.2.2.2.2.2.1 x.2.2.2.2.2.2.2.2.1⟩
theorem g146L1ok {E} (hE:EO E 54 g146H) (n):LO E g146B2 ((g146L1X m).at n):=
 lok hmix htt hE (g146K m) (L:=[(g146L2X m).at m]) (g146L1X m) (l:=[(4,g146B4)]) kR (fun _ _=>⟨qj ⟨yb (g146L2ok m hE m),trivial⟩,trivial⟩) (fun n x=>kR) (fun _=>kR) n
def g146L0X:LT:=⟨0,[(1,.a (.c (.imm (.sl false (.pr .bool (.sl false (.int .u32))))))),(5,.a (.c (.dp 0 (.pr .bool (.sl false (.int .u32)))))),(13,.a (.c (.imm (.sl false (.pr .bool (.sl false (.int .u32))))))),(14,sI),(15,sI)],[(.exit 0,[(5,.a (.c (.dp 0 (.pr .bool (.sl false (.int .u32))))))])],fun n x=>g146L0 m n x.1 x.2.1 x.2.2.1 x.2.2.2.1 x.2.2.2.2.1⟩
theorem g146L0ok {E} (hE:EO E 54 g146H) (n):LO E g146B0 ((g146L0X m).at n):=
 lok hmix htt hE (g146K m) (L:=[(g146L1X m).at m]) (g146L0X m) (l:=[(2,g146B2)]) kR (fun _ _=>⟨qj ⟨yb (g146L1ok m hE m),trivial⟩,trivial⟩) (fun n x=>kR) (fun _=>kR) n
theorem g146ok:FO (g146T m):=f1' g146H (g146T m) func146 (g146K m) fun _ h=>g146L0ok m h m
def g189H:Hints:=⟨[J [0,1],J [0,1,6],J [0,1,6,7],J [0,1,6,7,8],J [0,1,6,7,8,17],J' [(0,1)] [0,1,6,7,8],J' [(0,1)] [0,1,6,8,9],J [0,1,6,8,9],J' [(0,1)] [0,1,6,7,8],J' [(0,1),(2,1)] [4,5]],[(0,[0,1,6,7,8])],[(0,[6,7]),(1,[0,1,6,7,8])],[4,5],[],[[false],[false]]⟩
def g189T:FunT:=⟨189,[.a (.c (.imm (.int .u32))),.a (.c (.int .u32))],.tup [(.c (.imm (.int .u32))),(.c (.int .u32))],[sD,sD],fun x=>g189 m x.1 x.2.1⟩
noncomputable def g189C:Code:=codeOf f189
noncomputable def g189B0:Code:=qx g189C 0 0
theorem g189K:FL [g143T m]:=AllF.mem ⟨g143ok m,trivial⟩
def g189L0X:LT:=⟨0,[(0,.a (.c (.imm (.int .u32)))),(1,.a (.c (.int .u32))),(6,.a (.c (.nm 0 (.int .u32)))),(7,sU),(8,sI)],[(.exit 0,[(6,.a (.c (.nm 0 (.int .u32)))),(7,sU)])],fun n x=>g189L0 m n x.1 x.2.1 x.2.2.1 x.2.2.2.1 x.2.2.2.2.1⟩
theorem g189L0ok {E} (hE:EO E 44 g189H) (n):LO E g189B0 ((g189L0X m).at n):=lk hE (g189K m) (g189L0X m) n
theorem g189ok:FO (g189T m):=f1' g189H (g189T m) func189 (g189K m) fun _ h=>g189L0ok m h m
def g190H:Hints:=⟨[J [0],J' [(0,1)] [2]],[],[],[2],[],[[false]]⟩
def g190T:FunT:=⟨190,[.a (.c (.int .u32))],sI,[sD],fun x=>g190 m x.1⟩
theorem g190ok:FO (g190T m):=fk g190H (g190T m) func190 (AllF.mem (l:=[g136T m]) ⟨g136ok m,trivial⟩)
def g183H:Hints:=⟨[J [0,1],J [0,1,16],J' [(0,1)] [4,5],J [0,1,21],J' [(0,1),(1,1),(5,1)] [6,7],J' [(0,1),(1,1)] [4,5],J [0,1,8],J' [(0,1)] [0,8,9],J [0,8,9,10],J' [(1,1)] [8,9,10],J [8,9,10,11],J [4,8,9,10,11],J [4,8,9,10,11,12],J [4,8,9,10,11,12,64],J' [(0,1)] [4,8,9,10,11,12],J [4,8,9,10,11,12],J' [(0,1),(1,1),(4,1),(6,1)] [4,5],J' [(0,1),(2,1)] [4,5]],[(0,[4,8,9,10,11,12])],[(0,[4,8,10,11]),(1,[4,8,9,10,11,12])],[4,5],[],[[false],[false]]⟩
def g183T:FunT:=⟨183,[.a (.c (.imm (.int .u32))),.a (.c (.imm (.int .u32)))],.tup [(.c (.imm (.int .u32))),(.c (.imm (.int .u32)))],[sD,sD],fun x=>g183 m x.1 x.2.1⟩
noncomputable def g183C:Code:=codeOf f183
noncomputable def g183B0:Code:=qx g183C 0 0
theorem g183ok:FO (g183T m):=
 fok hmix htt (H:=g183H) (g183T m) func183 kR (AllF.mem (l:=[g142T m,g154T m,g189T m,g143T m,g190T m,g175T m]) ⟨g142ok m,g154ok m,g189ok m,g143ok m,g190ok m,g175ok m,trivial⟩) (L:=[]) (l:=[(0,g183B0)]) kR (fun _ hE _ _=>⟨qj trivial,trivial⟩) (fun x=>kR)
def g171H:Hints:=⟨[J [2,3,4,5],J [2,3,4,5,7],J [2,3,4,5,7,15],J [4,5,6],J' [(5,1)] [2,3,4,5,7,8,9],J' [(2,1)] [2,3,4,5,7,8,9,32],J' [(0,1),(3,1),(4,1)] [2,3,4,5,8,9],J' [(5,1),(7,1)] [4,5,6]],[],[],[4,5,6],[],[[false,false],[false,false],[false]]⟩
def g171T:FunT:=⟨171,[.a (.agg [.bool,(.imm (.int .u32))]),.a (.agg [.bool,(.imm (.int .u32))])],.tup [(.agg [.bool,(.imm (.int .u32))]),(.agg [.bool,(.imm (.int .u32))]),(.c (.int .i64))],[sD,sD],fun x=>g171 m x.1.1 x.1.2.1 x.2.1.1 x.2.1.2.1⟩
theorem g171ok:FO (g171T m):=fk g171H (g171T m) func171 (AllF.mem (l:=[g143T m,g183T m,g168T m,g169T m,g153T m]) ⟨g143ok m,g183ok m,g168ok m,g169ok m,g153ok m,trivial⟩)
def g147H:Hints:=⟨[J [2,3,4],J' [(3,1)] [4,6,7,8],J' [(2,1)] [4,6,8,23],J [4,5],J' [(1,1)] [4,5]],[],[],[4,5],[],[[false,false],[false]]⟩
def g147T:FunT:=⟨147,[.a (.agg [.bool,(.imm (.int .u32))]),.a (.agg [.bool,(.imm (.int .u32))])],.tup [(.agg [.bool,(.imm (.int .u32))]),(.c (.int .i64))],[sD,sD],fun x=>g147 m x.1.1 x.1.2.1 x.2.1.1 x.2.1.2.1⟩
theorem g147ok:FO (g147T m):=fk g147H (g147T m) func147 (AllF.mem (l:=[g171T m]) ⟨g171ok m,trivial⟩)
def g114H:Hints:=⟨[J [0],J [0,3],J [0,3,4],J [0,3,4],J' [(1,4)] [0,3,4,5],J [0,3,4,5,26,27],J [0,3,4,5,26,27,28],J [0,3,4,5,6,26,27],J' [(1,1),(5,4)] [0,3,4,5,26,27],J' [(1,1)] [0,3,4,5,26,27],J [0,3,4,5,7],J [0,3,4,5,7,38],J' [(0,1)] [0,3,4,5,7],J [0,3,4,5,7,42,43],J [0,3,4,5,7,42,43,44],J [0,3,4,5,7,8,42,43],J [0,3,4,5,7,42,43],J' [(1,1)] [0,3,4,5,7,42,43],J' [(1,1)] [0,3,4,7,9],J' [(0,2)] [0,3,4,7,9,10],J [0,3,4,7,9,10,72,73],J [0,3,4,7,9,10,72,73,74],J [0,3,4,7,9,10,11,72,73],J' [(0,2)] [0,3,4,7,9,10,72,73],J' [(1,1)] [0,3,4,7,9,10,72,73],J' [(4,1)] [0,3,4,7,9,12],J' [(6,1)] [0,3,4,5,7],J' [(0,1)] [2]],[(0,[0,3,4,5,26,27]),(2,[0,3,4,5,7]),(4,[0,3,4,5,7,42,43]),(6,[0,3,4,7,9,10,72,73])],[(0,[0,3,4,5]),(1,[0,3,4,5,26,27]),(2,[4]),(3,[0,3,4,5,7]),(4,[0,3,4,5,7]),(5,[0,3,4,5,7,42,43]),(6,[0,3,4,7,9,10]),(7,[0,3,4,7,9,10,72,73])],[2],[],[[true]]⟩
def g114T:FunT:=⟨114,[.a (.c (.imm (.sl false (.pr .bool (.sl false (.int .u32))))))],.a (.c (.nm 0 (.pr .bool (.sl false (.int .u32))))),[sD],fun x=>g114 m x.1⟩
noncomputable def g114C:Code:=codeOf f114
noncomputable def g114B0:Code:=qx g114C 0 0
noncomputable def g114B2:Code:=qx g114C 0 1
noncomputable def g114B4:Code:=qx g114B2 2 0
noncomputable def g114B6:Code:=qx g114B2 2 1
theorem g114K:FL [g144T m,g145T m,g146T m,g147T m,g148T m]:=AllF.mem ⟨g144ok m,g145ok m,g146ok m,g147ok m,g148ok m,trivial⟩
def g114L3X:LT:=⟨6,[(0,.a (.c (.imm (.sl false (.pr .bool (.sl false (.int .u32))))))),(3,sI),(4,.a (.c (.nm 0 (.pr .bool (.sl false (.int .u32)))))),(7,sI),(9,.a (.c (.dp 1 (.pr .bool (.sl false (.int .u32)))))),(10,sX 2 [.bool,.imm (.int .u32)]),(72,sI),(73,sI)],[(.exit 6,[(0,.a (.c (.imm (.sl false (.pr .bool (.sl false (.int .u32))))))),(3,sI),(4,.a (.c (.nm 0 (.pr .bool (.sl false (.int .u32)))))),(7,sI),(9,.a (.c (.dp 1 (.pr .bool (.sl false (.int .u32)))))),(10,sX 2 [.bool,.imm (.int .u32)])])],fun n x=>g114L3 m n x.1 x.2.1 x.2.2.1 x.2.2.2.1 x.2.2.2.2.1 x.2.2.2.2.2.1.1 x.2.2.2.2.2.1.2.1 x.2.2.2.2.2.2.1 x.2.2.2.2.2.2.2.1⟩
theorem g114L3ok {E} (hE:EO E 102 g114H) (n):LO E g114B6 ((g114L3X m).at n):=lk hE (g114K m) (g114L3X m) n
def g114L2X:LT:=⟨4,[(0,.a (.c (.imm (.sl false (.pr .bool (.sl false (.int .u32))))))),(3,sI),(4,.a (.c (.nm 0 (.pr .bool (.sl false (.int .u32)))))),(5,.a (.c (.dp 1 (.pr .bool (.sl false (.int .u32)))))),(7,sI),(42,sI),(43,sI)],[(.exit 4,[(0,.a (.c (.imm (.sl false (.pr .bool (.sl false (.int .u32))))))),(3,sI),(4,.a (.c (.nm 0 (.pr .bool (.sl false (.int .u32)))))),(5,.a (.c (.dp 1 (.pr .bool (.sl false (.int .u32)))))),(7,sI)])],fun n x=>g114L2 m n x.1 x.2.1 x.2.2.1 x.2.2.2.1 x.2.2.2.2.1 x.2.2.2.2.2.1 x.2.2.2.2.2.2.1⟩
theorem g114L2ok {E} (hE:EO E 102 g114H) (n):LO E g114B4 ((g114L2X m).at n):=lk hE (g114K m) (g114L2X m) n
def g114L1X:LT:=⟨2,[(0,.a (.c (.imm (.sl false (.pr .bool (.sl false (.int .u32))))))),(3,sI),(4,.a (.c (.nm 0 (.pr .bool (.sl false (.int .u32)))))),(5,.a (.c (.dp 1 (.pr .bool (.sl false (.int .u32)))))),(7,sI)],[(.exit 2,[(4,.a (.c (.nm 0 (.pr .bool (.sl false (.int .u32))))))])],fun n x=>g114L1 m n x.1 x.2.1 x.2.2.1 x.2.2.2.1 x.2.2.2.2.1⟩
theorem g114L1ok {E} (hE:EO E 102 g114H) (n):LO E g114B2 ((g114L1X m).at n):=
 lok hmix htt hE (g114K m) (L:=[(g114L2X m).at m,(g114L3X m).at m]) (g114L1X m) (l:=[(4,g114B4),(6,g114B6)]) kR (fun _ _=>⟨qj ⟨yb (g114L2ok m hE m),nb rfl,trivial⟩,qj ⟨nb rfl,yb (g114L3ok m hE m),trivial⟩,trivial⟩) (fun n x=>kR) (fun _=>kR) n
def g114L0X:LT:=⟨0,[(0,.a (.c (.imm (.sl false (.pr .bool (.sl false (.int .u32))))))),(3,sI),(4,.a (.c (.nm 0 (.pr .bool (.sl false (.int .u32)))))),(5,.a (.c (.dp 1 (.pr .bool (.sl false (.int .u32)))))),(26,sI),(27,sI)],[(.exit 0,[(0,.a (.c (.imm (.sl false (.pr .bool (.sl false (.int .u32))))))),(3,sI),(4,.a (.c (.nm 0 (.pr .bool (.sl false (.int .u32)))))),(5,.a (.c (.dp 1 (.pr .bool (.sl false (.int .u32))))))])],fun n x=>g114L0 m n x.1 x.2.1 x.2.2.1 x.2.2.2.1 x.2.2.2.2.1 x.2.2.2.2.2.1⟩
theorem g114L0ok {E} (hE:EO E 102 g114H) (n):LO E g114B0 ((g114L0X m).at n):=lk hE (g114K m) (g114L0X m) n
theorem g114ok:FO (g114T m):=
 fok hmix htt (H:=g114H) (g114T m) func114 kR (g114K m) (L:=[(g114L0X m).at m,(g114L1X m).at m]) (l:=[(0,g114B0),(2,g114B2)]) kR (fun _ hE _ _=>⟨qj ⟨yb (g114L0ok m hE m),nb rfl,trivial⟩,qj ⟨nb rfl,yb (g114L1ok m hE m),trivial⟩,trivial⟩) (fun x=>kR)
def g86H:Hints:=⟨[J [0,3,4],J [0,3,4,5],J [0,3,4,5,18],J' [(0,1)] [2,3,4,5],J [0,3,4,20,21,22],J [0,3,4,20,21,22,23],J [0,3,4,6,7,20,21,22],J' [(0,1)] [0,3,4,6,20,21,22,27,28,29],J [0,3,4,6,20,21,22,27,28,29,30],J [0,3,4,6,8,9,20,21,22,27,28,29],J' [(2,1)] [0,3,4,6,20,21,22,27,28,29,43],J [2,3,4,5],J' [(1,1)] [0,3,4,6,20,21,22,27,28,29],J' [(1,1)] [0,3,4,20,21,22],J [0,3,4,10],J' [(4,1)] [0,3,4,10,60],J' [(0,1)] [0,3,4,10],J [0,3,4,10,11],J' [(0,1)] [0,3,4,11,63,64,65],J [0,3,4,11,63,64,65,66],J [0,3,4,11,13,63,64,65],J [0,3,4,11,14,63,64,65],J [0,3,4,11,14,63,64,65,74],J' [(0,1)] [0,3,4,11,14,63,64,65],J [0,3,4,11,14,63,64,65,78],J' [(0,1)] [0,3,4,11,63,64,65],J' [(1,1)] [0,3,4,11,63,64,65],J' [(0,1)] [2,3,4,5]],[(0,[0,3,4,20,21,22]),(2,[0,3,4,6,20,21,22,27,28,29]),(4,[0,3,4,10]),(6,[0,3,4,11,63,64,65])],[(0,[0,3,4]),(1,[0,3,4,20,21,22]),(2,[0,3,4,20,21,22]),(3,[0,3,4,6,20,21,22,27,28,29]),(4,[0,3,4,10]),(5,[0,3,4,10]),(6,[0,3,4]),(7,[0,3,4,11,63,64,65])],[2,3,4,5],[],[[false],[false],[false],[false]]⟩
def g86T:FunT:=⟨86,[.a (.c (.imm (.sl false (.pr .bool (.sl false (.int .u32))))))],.tup [(.c (.int .i64)),(.c (.int .i64)),(.c (.int .i64)),(.c (.int .i64))],[sD],fun x=>g86 m x.1⟩
noncomputable def g86C:Code:=codeOf f86
noncomputable def g86B0:Code:=qx g86C 0 0
noncomputable def g86B2:Code:=qx g86B0 0 0
noncomputable def g86B4:Code:=qx g86C 0 1
noncomputable def g86B6:Code:=qx g86C 0 2
theorem g86K:FL [g112T m,g113T m,g115T m,g114T m,g116T m]:=AllF.mem ⟨g112ok m,g113ok m,g115ok m,g114ok m,g116ok m,trivial⟩
def g86L3X:LT:=⟨6,[(0,.a (.c (.imm (.sl false (.pr .bool (.sl false (.int .u32))))))),(3,sI),(4,sI),(11,sI),(63,.a (.c (.nm 0 (.pr .bool (.sl false (.int .u32)))))),(64,sI),(65,sI)],[(.exit 6,[(0,.a (.c (.imm (.sl false (.pr .bool (.sl false (.int .u32))))))),(3,sI),(4,sI)])],fun n x=>g86L3 m n x.1 x.2.1 x.2.2.1 x.2.2.2.1 x.2.2.2.2.1 x.2.2.2.2.2.1 x.2.2.2.2.2.2.1⟩
theorem g86L3ok {E} (hE:EO E 89 g86H) (n):LO E g86B6 ((g86L3X m).at n):=lk hE (g86K m) (g86L3X m) n
def g86L2X:LT:=⟨4,[(0,.a (.c (.imm (.sl false (.pr .bool (.sl false (.int .u32))))))),(3,sI),(4,sI),(10,.a (.c (.nm 0 (.pr .bool (.sl false (.int .u32))))))],[(.exit 4,[(0,.a (.c (.imm (.sl false (.pr .bool (.sl false (.int .u32))))))),(3,sI),(4,sI),(10,.a (.c (.nm 0 (.pr .bool (.sl false (.int .u32))))))])],fun n x=>g86L2 m n x.1 x.2.1 x.2.2.1 x.2.2.2.1⟩
theorem g86L2ok {E} (hE:EO E 89 g86H) (n):LO E g86B4 ((g86L2X m).at n):=lk hE (g86K m) (g86L2X m) n
def g86L1X:LT:=⟨2,[(0,.a (.c (.imm (.sl false (.pr .bool (.sl false (.int .u32))))))),(3,sI),(4,sI),(6,sI),(20,.a (.c (.imm (.sl false (.pr .bool (.sl false (.int .u32))))))),(21,sI),(22,sI),(27,.a (.c (.imm (.pr .bool (.sl false (.int .u32)))))),(28,sI),(29,sI)],[(.ret,[(2,sI),(3,sI),(4,sI),(5,sI)]),(.exit 2,[(0,.a (.c (.imm (.sl false (.pr .bool (.sl false (.int .u32))))))),(3,sI),(4,sI),(20,.a (.c (.imm (.sl false (.pr .bool (.sl false (.int .u32))))))),(21,sI),(22,sI)])],fun n x=>g86L1 m n x.1 x.2.1 x.2.2.1 x.2.2.2.1 x.2.2.2.2.1 x.2.2.2.2.2.1 x.2.2.2.2.2.2.1 x.2.2.2.2.2.2.2.1 x.2.2.2.2.2.2.2.2.1 x.2.2.2.2.2.2.2.2.2.1⟩
theorem g86L1ok {E} (hE:EO E 89 g86H) (n):LO E g86B2 ((g86L1X m).at n):=lk hE (g86K m) (g86L1X m) n
def g86L0X:LT:=⟨0,[(0,.a (.c (.imm (.sl false (.pr .bool (.sl false (.int .u32))))))),(3,sI),(4,sI),(20,.a (.c (.imm (.sl false (.pr .bool (.sl false (.int .u32))))))),(21,sI),(22,sI)],[(.ret,[(2,sI),(3,sI),(4,sI),(5,sI)]),(.exit 0,[(0,.a (.c (.imm (.sl false (.pr .bool (.sl false (.int .u32))))))),(3,sI),(4,sI)])],fun n x=>g86L0 m n x.1 x.2.1 x.2.2.1 x.2.2.2.1 x.2.2.2.2.1 x.2.2.2.2.2.1⟩
theorem g86L0ok {E} (hE:EO E 89 g86H) (n):LO E g86B0 ((g86L0X m).at n):=
 lok hmix htt hE (g86K m) (L:=[(g86L1X m).at m]) (g86L0X m) (l:=[(2,g86B2)]) kR (fun _ _=>⟨qj ⟨yb (g86L1ok m hE m),trivial⟩,trivial⟩) (fun n x=>kR) (fun _=>kR) n
theorem g86ok:FO (g86T m):=
 fok hmix htt (H:=g86H) (g86T m) func86 kR (g86K m) (L:=[(g86L0X m).at m,(g86L2X m).at m,(g86L3X m).at m]) (l:=[(0,g86B0),(4,g86B4),(6,g86B6)]) kR (fun _ hE _ _=>⟨qj ⟨yb (g86L0ok m hE m),nb rfl,nb rfl,trivial⟩,qj ⟨nb rfl,yb (g86L2ok m hE m),nb rfl,trivial⟩,qj ⟨nb rfl,nb rfl,yb (g86L3ok m hE m),trivial⟩,trivial⟩) (fun x=>kR)
def g63H:Hints:=⟨[J [1,2,4],J [1,2,4,6],J [1,2,4,6,15],J' [(1,1)] [4,5],J' [(1,1),(5,1)] [4,7,8,9,10],J' [(0,1),(1,1),(2,1),(4,1)] [4,5]],[],[],[4,5],[],[[false,false,false],[false]]⟩
def g63T:FunT:=⟨63,[.a (.agg [(.int .i64),(.int .i64),(.imm (.int .i64)),(.imm (.int .i64)),(.imm (.int .u64))]),sU],.tup [(.agg [(.int .i64),(.int .i64),(.int .i64)]),(.c (.int .i64))],[sD,sD],fun x=>g63 m x.1.1 x.1.2.1 x.1.2.2.1 x.1.2.2.2.1 x.1.2.2.2.2.1 x.2.1⟩
theorem g63ok:FO (g63T m):=fk g63H (g63T m) func63 (AllF.mem (l:=[g62T m,g88T m,g87T m,g86T m]) ⟨g62ok m,g88ok m,g87ok m,g86ok m,trivial⟩)
def g43H:Hints:=⟨[J [1,2],J [1,2,6],J [1,2,6,13],J' [(0,1)] [4,5],J [1,2,15],J [1,2,15,16],J [4,5],J [1,2,20],J [4,5],J' [(1,1),(3,1)] [7,8],J' [(5,1)] [4,5]],[],[(0,[1,2])],[4,5],[],[[false],[false]]⟩
def g43T:FunT:=⟨43,[.a (.agg [(.int .i64),(.int .i64),(.imm (.int .i64)),(.imm (.int .i64)),(.imm (.int .u64))]),sU],.tup [(.c (.int .i64)),(.c (.int .i64))],[sD,sD],fun x=>g43 m x.1.1 x.1.2.1 x.1.2.2.1 x.1.2.2.2.1 x.1.2.2.2.2.1 x.2.1⟩
theorem g43ok:FO (g43T m):=fk g43H (g43T m) func43 (AllF.mem (l:=[g62T m,g63T m]) ⟨g62ok m,g63ok m,trivial⟩)
def g36H:Hints:=⟨[J [1,2,3],J' [(1,1),(3,1)] [2,3,7],J' [(1,1),(3,1)] [7,9],J' [(0,1),(1,1)] [6]],[],[],[6],[],[[false]]⟩
def g36T:FunT:=⟨36,[.a (.agg [(.int .i64),(.int .i64),(.imm (.int .i64)),(.imm (.int .i64)),(.imm (.int .u64))]),sU,sU],sI,[sD,sD,sD],fun x=>g36 m x.1.1 x.1.2.1 x.1.2.2.1 x.1.2.2.2.1 x.1.2.2.2.2.1 x.2.1 x.2.2.1⟩
theorem g36ok:FO (g36T m):=fk g36H (g36T m) func36 (AllF.mem (l:=[g43T m]) ⟨g43ok m,trivial⟩)
def g41H:Hints:=⟨[J [0,1],J' [(0,1),(2,1)] [1,5],J' [(0,1),(2,1)] [5,7],J' [(0,1),(2,1)] [4]],[],[],[4],[],[[false]]⟩
def g41T:FunT:=⟨41,[sU,sU],sB,[sD,sD],fun x=>g41 m x.1 x.2.1⟩
theorem g41ok:FO (g41T m):=fk g41H (g41T m) func41 (AllF.mem (l:=[g57T m]) ⟨g57ok m,trivial⟩)
def g61H:Hints:=⟨[J [0,1],J [4]],[],[],[4],[],[[false]]⟩
def g61T:FunT:=⟨61,[sI,sI],sI,[sD,sD],fun x=>g61 m x.1 x.2.1⟩
theorem g61ok:FO (g61T m):=fk g61H (g61T m) func61 noF
def g85H:Hints:=⟨[J [0],J [0,5],J [2],J' [(0,1)] [2]],[],[],[2],[],[[false]]⟩
def g85T:FunT:=⟨85,[sU],sU,[sD],fun x=>g85 m x.1⟩
theorem g85ok:FO (g85T m):=fk g85H (g85T m) func85 (AllF.mem (l:=[g89T m]) ⟨g89ok m,trivial⟩)
def g60H:Hints:=⟨[J [0],J' [(2,1)] [0,4],J [2,3],J [0,11],J' [(0,1)] [2,3],J' [(0,1)] [2,3]],[],[(0,[0])],[2,3],[],[[false],[false]]⟩
def g60T:FunT:=⟨60,[sI],.tup [(.c (.int .u64)),(.c .bool)],[sD],fun x=>g60 m x.1⟩
theorem g60ok:FO (g60T m):=fk g60H (g60T m) func60 (AllF.mem (l:=[g85T m]) ⟨g85ok m,trivial⟩)
def g42H:Hints:=⟨[J [0,1],J' [(0,1),(2,1)] [1,6,7],J' [(0,1),(2,1)] [6,7,8,9],J' [(0,1),(2,1),(3,1)] [6,8,25],J [4,5],J' [(0,1),(1,1)] [4,5]],[],[],[4,5],[],[[false],[false]]⟩
def g42T:FunT:=⟨42,[sU,sU],.tup [(.c (.int .u64)),(.c .bool)],[sD,sD],fun x=>g42 m x.1 x.2.1⟩
theorem g42ok:FO (g42T m):=fk g42H (g42T m) func42 (AllF.mem (l:=[g57T m,g61T m,g60T m]) ⟨g57ok m,g61ok m,g60ok m,trivial⟩)
def g35H:Hints:=⟨[J [1,2,3,4,5],J [1,2,3,4,5,15],J' [(0,1)] [4,10],J' [(2,1)] [1,2,3,4,5,23],J' [(1,1),(2,1),(3,1),(6,3)] [4,10],J' [(3,1)] [1,2,3,4,5,11],J [1,2,3,4,5,11,13],J' [(2,1),(3,1),(7,1),(11,15),(12,15)] [4,10]],[],[],[4,10],[4],[[true]]⟩
def g35T:FunT:=⟨35,[.a (.agg [(.int .i64),(.int .i64),(.imm (.int .i64)),(.imm (.int .i64)),(.imm (.int .u64))]),sU,sU,sI,.a (.c (.nm 0 (.pr (.int .u64) (.pr (.int .u64) (.int .i64)))))],.a (.c (.nm 0 (.pr (.int .u64) (.pr (.int .u64) (.int .i64))))),[sD,sD,sD,sD,sD],fun x=>g35 m x.1.1 x.1.2.1 x.1.2.2.1 x.1.2.2.2.1 x.1.2.2.2.2.1 x.2.1 x.2.2.1 x.2.2.2.1 x.2.2.2.2.1⟩
theorem g35ok: ∀m:Nat,FunOK prog (g35T m)
 |0=>fun _ _ h=>by cases h
 |m+1=>by
  have hself:=g35ok m;exact fok hmix htt (H:=g35H) (g35T (m+1)) func35 kR (AllF.mem (l:=[g41T m,g42T m,g36T m,g35T m]) ⟨g41ok m,g42ok m,g36ok m,hself,trivial⟩) (L:=[]) (l:=[]) kR (fun _ hE _ _=>trivial) (fun x=>kR)
def g35bH:Hints:=⟨[J [1,2,3,4,5],J [1,2,3,4,5,15],J' [(0,1)] [10],J' [(2,1)] [1,2,3,4,5,23],J' [(0,1),(1,1),(2,1),(3,1)] [10],J' [(3,1)] [1,2,3,4,5,11],J [1,2,3,4,5,11,13],J' [(2,1),(3,1),(7,1),(10,1),(11,115),(12,15)] [10]],[],[],[10],[],[[true]]⟩
def g35bT:FunT:=⟨35,[.a (.agg [(.int .i64),(.int .i64),(.imm (.int .i64)),(.imm (.int .i64)),(.imm (.int .u64))]),sU,sU,sI,.a (.c (.nl (.pr (.int .u64) (.pr (.int .u64) (.int .i64)))))],.a (.c (.nm 0 (.pr (.int .u64) (.pr (.int .u64) (.int .i64))))),[sD,sD,sD,sD,sD],fun x=>g35b m x.1.1 x.1.2.1 x.1.2.2.1 x.1.2.2.2.1 x.1.2.2.2.2.1 x.2.1 x.2.2.1 x.2.2.2.1⟩
theorem g35bok: ∀m:Nat,FunOK prog (g35bT m)
 |0=>fun _ _ h=>by cases h
 |m+1=>by
  have hself:=g35bok m;exact fok hmix htt (H:=g35bH) (g35bT (m+1)) func35 kR (AllF.mem (l:=[g41T m,g42T m,g36T m,g35T m,g35bT m]) ⟨g41ok m,g42ok m,g36ok m,g35ok m,hself,trivial⟩) (L:=[]) (l:=[]) kR (fun _ hE _ _=>trivial) (fun x=>kR)
def g12H:Hints:=⟨[J [1,2,3],J [1,2,3,8],J [1,2,3,8,12],J' [(0,1)] [6,7],J [1,2,3,17],J [6,7],J' [(7,115)] [6,7]],[],[],[6,7],[],[[true],[false]]⟩
def g12T:FunT:=⟨12,[.a (.agg [(.int .i64),(.int .i64),(.imm (.int .i64)),(.imm (.int .i64)),(.imm (.int .u64))]),sU,sU],.tup [(.c (.nm 0 (.pr (.int .u64) (.pr (.int .u64) (.int .i64))))),(.c (.int .i64))],[sD,sD,sD],fun x=>g12 m x.1.1 x.1.2.1 x.1.2.2.1 x.1.2.2.2.1 x.1.2.2.2.2.1 x.2.1 x.2.2.1⟩
theorem g12ok:FO (g12T m):=fk g12H (g12T m) func12 (AllF.mem (l:=[g33T m,g34T m,g36T m,g35bT m]) ⟨g33ok m,g34ok m,g36ok m,g35bok m,trivial⟩)
def g91H:Hints:=⟨[J [0],J [0,3],J [0,3,7],J' [(0,1)] [0,3],J [0,3,15],J [2],J [2]],[(0,[0,3])],[(0,[]),(1,[0,3])],[2],[],[[false]]⟩
def g91T:FunT:=⟨91,[.a (.c (.imm (.int .u64)))],sB,[sD],fun x=>g91 m x.1⟩
noncomputable def g91C:Code:=codeOf f91
noncomputable def g91B0:Code:=qx g91C 0 0
theorem g91K:FL [g32T m]:=AllF.mem ⟨g32ok m,trivial⟩
def g91L0X:LT:=⟨0,[(0,.a (.c (.imm (.int .u64)))),(3,sI)],[(.ret,[(2,sB)]),(.exit 0,[])],fun n x=>g91L0 m n x.1 x.2.1⟩
theorem g91L0ok {E} (hE:EO E 16 g91H) (n):LO E g91B0 ((g91L0X m).at n):=lk hE (g91K m) (g91L0X m) n
theorem g91ok:FO (g91T m):=f1' g91H (g91T m) func91 (g91K m) fun _ h=>g91L0ok m h m
def g66H:Hints:=⟨[J [1],J' [(3,1),(8,1),(13,1),(18,1)] [1,30],J [2],J [1,3],J' [(5,1),(14,1),(21,1)] [1,64],J [2],J [1,4],J [1,4,68],J' [(0,1)] [1,4],J [1,4,82],J [2],J [1,5],J [1,5,86],J' [(0,1)] [1,5],J [1,5,6],J [1,5,6,101],J' [(0,1)] [1,5,6],J' [(6,1),(16,1),(24,1)] [1,5,6,142],J [2],J [146],J [2],J [2]],[(0,[1,4]),(2,[1,5]),(4,[1,5,6])],[(0,[1]),(1,[1,4]),(2,[1]),(3,[1,5]),(4,[1,5]),(5,[1,5,6])],[2],[],[[false]]⟩
def g66T:FunT:=⟨66,[.a (.agg [(.int .i64),(.int .i64),(.imm (.int .i64)),(.imm (.int .i64)),(.imm (.int .u64))])],sI,[sD],fun x=>g66 m x.1.1 x.1.2.1 x.1.2.2.1 x.1.2.2.2.1 x.1.2.2.2.2.1⟩
noncomputable def g66C:Code:=codeOf f66
noncomputable def g66B0:Code:=qx g66C 0 0
noncomputable def g66B2:Code:=qx g66C 0 1
noncomputable def g66B4:Code:=qx g66B2 2 0
theorem g66K:FL [g91T m]:=AllF.mem ⟨g91ok m,trivial⟩
def g66L2X:LT:=⟨4,[(1,sX 0 [iI,iI,iL,iL,.imm (.int .u64)]),(5,sI),(6,sI)],[(.ret,[(2,sI)]),(.exit 4,[(1,sX 0 [iI,iI,iL,iL,.imm (.int .u64)]),(5,sI)])],fun n x=>g66L2 m n x.1.1 x.1.2.1 x.1.2.2.1 x.1.2.2.2.1 x.1.2.2.2.2.1 x.2.1 x.2.2.1⟩
theorem g66L2ok {E} (hE:EO E 147 g66H) (n):LO E g66B4 ((g66L2X m).at n):=lk hE (g66K m) (g66L2X m) n
def g66L1X:LT:=⟨2,[(1,sX 0 [iI,iI,iL,iL,.imm (.int .u64)]),(5,sI)],[(.ret,[(2,sI)]),(.exit 2,[(1,sX 0 [iI,iI,iL,iL,.imm (.int .u64)])])],fun n x=>g66L1 m n x.1.1 x.1.2.1 x.1.2.2.1 x.1.2.2.2.1 x.1.2.2.2.2.1 x.2.1⟩
theorem g66L1ok {E} (hE:EO E 147 g66H) (n):LO E g66B2 ((g66L1X m).at n):=
 lok hmix htt hE (g66K m) (L:=[(g66L2X m).at m]) (g66L1X m) (l:=[(4,g66B4)]) kR (fun _ _=>⟨qj ⟨yb (g66L2ok m hE m),trivial⟩,trivial⟩) (fun n x=>kR) (fun _=>kR) n
def g66L0X:LT:=⟨0,[(1,sX 0 [iI,iI,iL,iL,.imm (.int .u64)]),(4,sI)],[(.ret,[(2,sI)]),(.exit 0,[(1,sX 0 [iI,iI,iL,iL,.imm (.int .u64)])])],fun n x=>g66L0 m n x.1.1 x.1.2.1 x.1.2.2.1 x.1.2.2.2.1 x.1.2.2.2.2.1 x.2.1⟩
theorem g66L0ok {E} (hE:EO E 147 g66H) (n):LO E g66B0 ((g66L0X m).at n):=lk hE (g66K m) (g66L0X m) n
theorem g66ok:FO (g66T m):=
 fok hmix htt (H:=g66H) (g66T m) func66 kR (g66K m) (L:=[(g66L0X m).at m,(g66L1X m).at m]) (l:=[(0,g66B0),(2,g66B2)]) kR (fun _ hE _ _=>⟨qj ⟨yb (g66L0ok m hE m),nb rfl,trivial⟩,qj ⟨nb rfl,yb (g66L1ok m hE m),trivial⟩,trivial⟩) (fun x=>kR)
def g50H:Hints:=⟨[J [1,2,3],J [1,2,3,7],J [1,2,3,7,11],J' [(0,1)] [6],J [1,2,3,13],J [6],J [1,2,19],J [6],J' [(3,1),(4,1),(6,1)] [23],J [6],J [6]],[],[(0,[])],[6],[],[[false]]⟩
def g50T:FunT:=⟨50,[.a (.agg [(.int .i64),(.int .i64),(.imm (.int .i64)),(.imm (.int .i64)),(.imm (.int .u64))]),sU,sB],sI,[sD,sD,sD],fun x=>g50 m x.1.1 x.1.2.1 x.1.2.2.1 x.1.2.2.2.1 x.1.2.2.2.2.1 x.2.1 x.2.2.1⟩
theorem g50ok:FO (g50T m):=fk g50H (g50T m) func50 (AllF.mem (l:=[g66T m,g32T m,g49T m]) ⟨g66ok m,g32ok m,g49ok m,trivial⟩)
def g70H:Hints:=⟨[J [1,2,3],J' [(3,1),(7,1)] [1,2,3,20],J [6],J [1,2,3,7],J [1,2,3,7,33],J' [(0,1)] [1,2,3,7],J [1,2,3,7,42],J' [(2,1)] [6],J [6]],[(0,[1,2,3,7])],[(0,[]),(1,[1,2,3,7])],[6],[],[[false]]⟩
def g70T:FunT:=⟨70,[.a (.agg [(.int .i64),(.int .i64),(.imm (.int .i64)),(.imm (.int .i64)),(.imm (.int .u64))]),sI,sI],sU,[sD,sD,sD],fun x=>g70 m x.1.1 x.1.2.1 x.1.2.2.1 x.1.2.2.2.1 x.1.2.2.2.2.1 x.2.1 x.2.2.1⟩
noncomputable def g70C:Code:=codeOf f70
noncomputable def g70B0:Code:=qx g70C 0 0
theorem g70K:FL [g66T m]:=AllF.mem ⟨g66ok m,trivial⟩
def g70L0X:LT:=⟨0,[(1,sI),(2,sI),(3,sX 0 [iI,iI,iL,iL,.imm (.int .u64)]),(7,sI)],[(.ret,[(6,sU)]),(.exit 0,[])],fun n x=>g70L0 m n x.1 x.2.1 x.2.2.1.1 x.2.2.1.2.1 x.2.2.1.2.2.1 x.2.2.1.2.2.2.1 x.2.2.1.2.2.2.2.1 x.2.2.2.1⟩
theorem g70L0ok {E} (hE:EO E 48 g70H) (n):LO E g70B0 ((g70L0X m).at n):=lk hE (g70K m) (g70L0X m) n
theorem g70ok:FO (g70T m):=f1' g70H (g70T m) func70 (g70K m) fun _ h=>g70L0ok m h m
def g69H:Hints:=⟨[J [0,2],J [0,2,8],J [2],J [0,2,3,4],J [0,2,3,4,5],J [0,2,3,4,5,17],J' [(0,1)] [0,2,3,4],J' [(0,1)] [0,2,4,5],J' [(0,1),(9,1)] [2]],[],[],[2],[],[[false,false,false,false]]⟩
def g69T:FunT:=⟨69,[sU],.a (.agg [.bool,.bool,(.imm (.int .u32)),(.int .i64)]),[sD],fun x=>g69 m x.1⟩
theorem g69ok:FO (g69T m):=fk g69H (g69T m) func69 (AllF.mem (l:=[g32T m,g97T m,g65T m,g83T m]) ⟨g32ok m,g97ok m,g65ok m,g83ok m,trivial⟩)
def g99H:Hints:=⟨[J [1,2],J [1,2],J [1,2,6],J [2],J [2]],[],[],[2],[],[[false,false,false,false]]⟩
def g99T:FunT:=⟨99,[.a (.agg [.bool,.bool,(.imm (.int .u32)),(.int .i64)])],.a (.agg [.bool,.bool,(.imm (.int .u32)),(.int .i64)]),[sD],fun x=>g99 m x.1.1 x.1.2.1 x.1.2.2.1 x.1.2.2.2.1⟩
theorem g99ok:FO (g99T m):=fk g99H (g99T m) func99 (AllF.mem (l:=[g79T m,g133T m,g83T m]) ⟨g79ok m,g133ok m,g83ok m,trivial⟩)
def g131H:Hints:=⟨[J [2,3,4,5],J [2,3,4,5,7,8],J [2,3,4,5,7,8,13],J [4,5,6],J [2,3,4,5,7,8,21],J [4,5,6],J [2,3,4,5,7,8,29],J [4,5,6],J [4,5,6]],[],[(0,[2,3,4,5,7,8])],[4,5,6],[],[[false,false],[false,false],[false]]⟩
def g131T:FunT:=⟨131,[.a (.agg [.bool,.bool,(.imm (.int .u32)),(.int .i64)]),.a (.agg [.bool,.bool,(.imm (.int .u32)),(.int .i64)])],.tup [(.agg [.bool,(.imm (.int .u32))]),(.agg [.bool,(.imm (.int .u32))]),(.c (.int .i64))],[sD,sD],fun x=>g131 m x.1.1 x.1.2.1 x.1.2.2.1 x.1.2.2.2.1 x.2.1.1 x.2.1.2.1 x.2.1.2.2.1 x.2.1.2.2.2.1⟩
theorem g131ok:FO (g131T m):=fk g131H (g131T m) func131 (AllF.mem (l:=[g80T m,g96T m]) ⟨g80ok m,g96ok m,trivial⟩)
def g98H:Hints:=⟨[J [2,3,4],J [2,3,4],J' [(2,1)] [2,3,4,17],J [4],J' [(3,1)] [4,5,6,7],J' [(3,1)] [4]],[],[],[4],[],[[false,false,false,false]]⟩
def g98T:FunT:=⟨98,[.a (.agg [.bool,.bool,(.imm (.int .u32)),(.int .i64)]),.a (.agg [.bool,.bool,(.imm (.int .u32)),(.int .i64)])],.a (.agg [.bool,.bool,(.imm (.int .u32)),(.int .i64)]),[sD,sD],fun x=>g98 m x.1.1 x.1.2.1 x.1.2.2.1 x.1.2.2.2.1 x.2.1.1 x.2.1.2.1 x.2.1.2.2.1 x.2.1.2.2.2.1⟩
theorem g98ok:FO (g98T m):=fk g98H (g98T m) func98 (AllF.mem (l:=[g79T m,g97T m,g131T m,g132T m,g83T m]) ⟨g79ok m,g97ok m,g131ok m,g132ok m,g83ok m,trivial⟩)
def g71H:Hints:=⟨[J [2,3,4],J [4]],[],[],[4],[],[[false,false,false,false]]⟩
def g71T:FunT:=⟨71,[.a (.agg [.bool,.bool,(.imm (.int .u32)),(.int .i64)]),.a (.agg [.bool,.bool,(.imm (.int .u32)),(.int .i64)])],.a (.agg [.bool,.bool,(.imm (.int .u32)),(.int .i64)]),[sD,sD],fun x=>g71 m x.1.1 x.1.2.1 x.1.2.2.1 x.1.2.2.2.1 x.2.1.1 x.2.1.2.1 x.2.1.2.2.1 x.2.1.2.2.2.1⟩
theorem g71ok:FO (g71T m):=fk g71H (g71T m) func71 (AllF.mem (l:=[g99T m,g98T m]) ⟨g99ok m,g98ok m,trivial⟩)
def g52H:Hints:=⟨[J [1,2],J' [(0,6)] [1,2,5],J [1,2,5,6],J [1,2,5,6,13],J' [(0,1)] [1,2,5,6],J [1,2,5,6,7],J [1,2,5,6,7,8],J [1,2,5,6,7,8,19],J' [(0,1)] [1,2,5,6,7,8],J [1,2,5,6,7,8,9],J [1,2,5,6,7,8,9,33],J [1,2,5,6,7,8,9],J' [(0,1)] [1,2,5,6,7,8],J' [(0,1),(1,1),(2,6),(3,6)] [1,2,5,6],J' [(0,1)] [4]],[(0,[1,2,5,6]),(2,[1,2,5,6,7,8])],[(0,[5]),(1,[1,2,5,6]),(2,[1,2,5,6,7]),(3,[1,2,5,6,7,8])],[4],[],[[false]]⟩
def g52T:FunT:=⟨52,[.a (.agg [(.int .i64),(.int .i64),(.imm (.int .i64)),(.imm (.int .i64)),(.imm (.int .u64))]),sU],.a (.c (.imm (.sl false (.pr .bool (.pr (.pr .bool (.sl false (.int .u32))) (.int .i64)))))),[sD,sD],fun x=>g52 m x.1.1 x.1.2.1 x.1.2.2.1 x.1.2.2.2.1 x.1.2.2.2.2.1 x.2.1⟩
noncomputable def g52C:Code:=codeOf f52
noncomputable def g52B0:Code:=qx g52C 0 0
noncomputable def g52B2:Code:=qx g52B0 0 0
theorem g52K:FL [g70T m,g69T m,g71T m]:=AllF.mem ⟨g70ok m,g69ok m,g71ok m,trivial⟩
def g52L1X:LT:=⟨2,[(1,sU),(2,sX 0 [iI,iI,iL,iL,.imm (.int .u64)]),(5,.a (.c (.dp 1 (.pr .bool (.pr (.pr .bool (.sl false (.int .u32))) (.int .i64)))))),(6,sI),(7,.a (.c (.nm 2 (.pr .bool (.pr (.pr .bool (.sl false (.int .u32))) (.int .i64)))))),(8,sI)],[(.exit 2,[(1,sU),(2,sX 0 [iI,iI,iL,iL,.imm (.int .u64)]),(5,.a (.c (.dp 1 (.pr .bool (.pr (.pr .bool (.sl false (.int .u32))) (.int .i64)))))),(6,sI),(7,.a (.c (.nm 2 (.pr .bool (.pr (.pr .bool (.sl false (.int .u32))) (.int .i64))))))])],fun n x=>g52L1 m n x.1 x.2.1.1 x.2.1.2.1 x.2.1.2.2.1 x.2.1.2.2.2.1 x.2.1.2.2.2.2.1 x.2.2.1 x.2.2.2.1 x.2.2.2.2.1 x.2.2.2.2.2.1⟩
theorem g52L1ok {E} (hE:EO E 47 g52H) (n):LO E g52B2 ((g52L1X m).at n):=lk hE (g52K m) (g52L1X m) n
def g52L0X:LT:=⟨0,[(1,sU),(2,sX 0 [iI,iI,iL,iL,.imm (.int .u64)]),(5,.a (.c (.dp 1 (.pr .bool (.pr (.pr .bool (.sl false (.int .u32))) (.int .i64)))))),(6,sI)],[(.exit 0,[(5,.a (.c (.dp 0 (.pr .bool (.pr (.pr .bool (.sl false (.int .u32))) (.int .i64))))))])],fun n x=>g52L0 m n x.1 x.2.1.1 x.2.1.2.1 x.2.1.2.2.1 x.2.1.2.2.2.1 x.2.1.2.2.2.2.1 x.2.2.1 x.2.2.2.1⟩
theorem g52L0ok {E} (hE:EO E 47 g52H) (n):LO E g52B0 ((g52L0X m).at n):=
 lok hmix htt hE (g52K m) (L:=[(g52L1X m).at m]) (g52L0X m) (l:=[(2,g52B2)]) kR (fun _ _=>⟨qj ⟨yb (g52L1ok m hE m),trivial⟩,trivial⟩) (fun n x=>kR) (fun _=>kR) n
theorem g52ok:FO (g52T m):=f1' g52H (g52T m) func52 (g52K m) fun _ h=>g52L0ok m h m
def g95H:Hints:=⟨[J [1],J [1],J [1,6],J [2],J [2]],[],[],[2],[],[[false]]⟩
def g95T:FunT:=⟨95,[.a (.agg [.bool,.bool,(.imm (.int .u32)),(.int .i64)])],sI,[sD],fun x=>g95 m x.1.1 x.1.2.1 x.1.2.2.1 x.1.2.2.2.1⟩
theorem g95ok:FO (g95T m):=fk g95H (g95T m) func95 (AllF.mem (l:=[g79T m,g80T m]) ⟨g79ok m,g80ok m,trivial⟩)
def g68H:Hints:=⟨[J [0],J [0,3],J [0,3,4],J [0,3,4,15],J' [(0,1)] [0,3,4],J [0,3,4,5],J [0,3,4,5,24],J' [(0,1)] [0,3,4,5],J [0,3,4,5,35],J' [(0,1)] [0,3,4,5],J' [(0,6)] [0,3,6],J [0,3,6,7],J [0,3,6,7,50],J' [(0,1)] [0,3,6,7],J [0,3,6,7,8],J [0,3,6,7,8,9],J [0,3,6,7,8,9,59],J' [(0,1)] [0,3,6,7,8,9],J [0,3,6,7,8,9,10],J' [(1,2),(2,2)] [0,3,6,7,8,9,10,11],J [0,3,6,7,8,9,10,11,73],J [0,3,6,7,8,9,11],J' [(0,1)] [0,3,6,7,8,9],J' [(0,1),(1,1),(2,6),(3,6)] [0,3,6,7],J' [(0,1)] [2]],[(0,[0,3,4]),(2,[0,3,4,5]),(4,[0,3,6,7]),(6,[0,3,6,7,8,9])],[(0,[0,3]),(1,[0,3,4]),(2,[0,3,4]),(3,[0,3,4,5]),(4,[6]),(5,[0,3,6,7]),(6,[0,3,6,7,8]),(7,[0,3,6,7,8,9])],[2],[],[[false]]⟩
def g68T:FunT:=⟨68,[.a (.c (.imm (.sl false (.pr .bool (.pr (.pr .bool (.sl false (.int .u32))) (.int .i64))))))],.a (.c (.imm (.sl false (.pr .bool (.sl false (.int .u32)))))),[sD],fun x=>g68 m x.1⟩
noncomputable def g68C:Code:=codeOf f68
noncomputable def g68B0:Code:=qx g68C 0 0
noncomputable def g68B2:Code:=qx g68B0 0 0
noncomputable def g68B4:Code:=qx g68C 0 1
noncomputable def g68B6:Code:=qx g68B4 4 0
theorem g68K:FL [g95T m,g79T m,g96T m]:=AllF.mem ⟨g95ok m,g79ok m,g96ok m,trivial⟩
def g68L3X:LT:=⟨6,[(0,.a (.c (.imm (.sl false (.pr .bool (.pr (.pr .bool (.sl false (.int .u32))) (.int .i64))))))),(3,sI),(6,.a (.c (.dp 0 (.pr .bool (.sl false (.int .u32)))))),(7,sI),(8,.a (.c (.nm 1 (.pr .bool (.sl false (.int .u32)))))),(9,sI)],[(.exit 6,[(0,.a (.c (.imm (.sl false (.pr .bool (.pr (.pr .bool (.sl false (.int .u32))) (.int .i64))))))),(3,sI),(6,.a (.c (.dp 0 (.pr .bool (.sl false (.int .u32)))))),(7,sI),(8,.a (.c (.nm 1 (.pr .bool (.sl false (.int .u32))))))])],fun n x=>g68L3 m n x.1 x.2.1 x.2.2.1 x.2.2.2.1 x.2.2.2.2.1 x.2.2.2.2.2.1⟩
theorem g68L3ok {E} (hE:EO E 90 g68H) (n):LO E g68B6 ((g68L3X m).at n):=lk hE (g68K m) (g68L3X m) n
def g68L2X:LT:=⟨4,[(0,.a (.c (.imm (.sl false (.pr .bool (.pr (.pr .bool (.sl false (.int .u32))) (.int .i64))))))),(3,sI),(6,.a (.c (.dp 0 (.pr .bool (.sl false (.int .u32)))))),(7,sI)],[(.exit 4,[(6,.a (.c (.dp 0 (.pr .bool (.sl false (.int .u32))))))])],fun n x=>g68L2 m n x.1 x.2.1 x.2.2.1 x.2.2.2.1⟩
theorem g68L2ok {E} (hE:EO E 90 g68H) (n):LO E g68B4 ((g68L2X m).at n):=
 lok hmix htt hE (g68K m) (L:=[(g68L3X m).at m]) (g68L2X m) (l:=[(6,g68B6)]) kR (fun _ _=>⟨qj ⟨yb (g68L3ok m hE m),trivial⟩,trivial⟩) (fun n x=>kR) (fun _=>kR) n
def g68L1X:LT:=⟨2,[(0,.a (.c (.imm (.sl false (.pr .bool (.pr (.pr .bool (.sl false (.int .u32))) (.int .i64))))))),(3,sI),(4,sI),(5,sI)],[(.exit 2,[(0,.a (.c (.imm (.sl false (.pr .bool (.pr (.pr .bool (.sl false (.int .u32))) (.int .i64))))))),(3,sI),(4,sI)])],fun n x=>g68L1 m n x.1 x.2.1 x.2.2.1 x.2.2.2.1⟩
theorem g68L1ok {E} (hE:EO E 90 g68H) (n):LO E g68B2 ((g68L1X m).at n):=lk hE (g68K m) (g68L1X m) n
def g68L0X:LT:=⟨0,[(0,.a (.c (.imm (.sl false (.pr .bool (.pr (.pr .bool (.sl false (.int .u32))) (.int .i64))))))),(3,sI),(4,sI)],[(.exit 0,[(0,.a (.c (.imm (.sl false (.pr .bool (.pr (.pr .bool (.sl false (.int .u32))) (.int .i64))))))),(3,sI)])],fun n x=>g68L0 m n x.1 x.2.1 x.2.2.1⟩
theorem g68L0ok {E} (hE:EO E 90 g68H) (n):LO E g68B0 ((g68L0X m).at n):=
 lok hmix htt hE (g68K m) (L:=[(g68L1X m).at m]) (g68L0X m) (l:=[(2,g68B2)]) kR (fun _ _=>⟨qj ⟨yb (g68L1ok m hE m),trivial⟩,trivial⟩) (fun n x=>kR) (fun _=>kR) n
theorem g68ok:FO (g68T m):=
 fok hmix htt (H:=g68H) (g68T m) func68 kR (g68K m) (L:=[(g68L0X m).at m,(g68L2X m).at m]) (l:=[(0,g68B0),(4,g68B4)]) kR (fun _ hE _ _=>⟨qj ⟨yb (g68L0ok m hE m),nb rfl,trivial⟩,qj ⟨nb rfl,yb (g68L2ok m hE m),trivial⟩,trivial⟩) (fun x=>kR)
def g92H:Hints:=⟨[J [0],J' [(0,6)] [0,3],J [0,3,4],J [0,3,4,10],J' [(0,1)] [0,3,4],J [0,3,4,5],J [0,3,4,5,6],J [0,3,4,5,6,19],J' [(0,1)] [0,3,4,5,6],J' [(0,1)] [0,3,4,5,6],J' [(0,1),(1,1),(2,6),(3,6)] [0,3,4],J' [(0,1)] [2]],[(0,[0,3,4]),(2,[0,3,4,5,6])],[(0,[3]),(1,[0,3,4]),(2,[0,3,4,5]),(3,[0,3,4,5,6])],[2],[],[[true]]⟩
def g92T:FunT:=⟨92,[.a (.c (.imm (.sl false (.pr .bool (.sl false (.int .u32))))))],.a (.c (.dp 0 (.pr (.pr .bool (.sl false (.int .u32))) (.pr .bool (.sl false (.int .u32)))))),[sD],fun x=>g92 m x.1⟩
noncomputable def g92C:Code:=codeOf f92
noncomputable def g92B0:Code:=qx g92C 0 0
noncomputable def g92B2:Code:=qx g92B0 0 0
theorem g92K:FL [g103T m,g84T m]:=AllF.mem ⟨g103ok m,g84ok m,trivial⟩
def g92L1X:LT:=⟨2,[(0,.a (.c (.imm (.sl false (.pr .bool (.sl false (.int .u32))))))),(3,.a (.c (.dp 0 (.pr (.pr .bool (.sl false (.int .u32))) (.pr .bool (.sl false (.int .u32))))))),(4,sI),(5,.a (.c (.nm 1 (.pr (.pr .bool (.sl false (.int .u32))) (.pr .bool (.sl false (.int .u32))))))),(6,sI)],[(.exit 2,[(0,.a (.c (.imm (.sl false (.pr .bool (.sl false (.int .u32))))))),(3,.a (.c (.dp 0 (.pr (.pr .bool (.sl false (.int .u32))) (.pr .bool (.sl false (.int .u32))))))),(4,sI),(5,.a (.c (.nm 1 (.pr (.pr .bool (.sl false (.int .u32))) (.pr .bool (.sl false (.int .u32)))))))])],fun n x=>g92L1 m n x.1 x.2.1 x.2.2.1 x.2.2.2.1 x.2.2.2.2.1⟩
theorem g92L1ok {E} (hE:EO E 40 g92H) (n):LO E g92B2 ((g92L1X m).at n):=lk hE (g92K m) (g92L1X m) n
def g92L0X:LT:=⟨0,[(0,.a (.c (.imm (.sl false (.pr .bool (.sl false (.int .u32))))))),(3,.a (.c (.dp 0 (.pr (.pr .bool (.sl false (.int .u32))) (.pr .bool (.sl false (.int .u32))))))),(4,sI)],[(.exit 0,[(3,.a (.c (.dp 0 (.pr (.pr .bool (.sl false (.int .u32))) (.pr .bool (.sl false (.int .u32)))))))])],fun n x=>g92L0 m n x.1 x.2.1 x.2.2.1⟩
theorem g92L0ok {E} (hE:EO E 40 g92H) (n):LO E g92B0 ((g92L0X m).at n):=
 lok hmix htt hE (g92K m) (L:=[(g92L1X m).at m]) (g92L0X m) (l:=[(2,g92B2)]) kR (fun _ _=>⟨qj ⟨yb (g92L1ok m hE m),trivial⟩,trivial⟩) (fun n x=>kR) (fun _=>kR) n
theorem g92ok:FO (g92T m):=f1' g92H (g92T m) func92 (g92K m) fun _ h=>g92L0ok m h m
def g125H:Hints:=⟨[J [1],J [2]],[],[],[2],[],[[false]]⟩
def g125T:FunT:=⟨125,[.a (.agg [.bool,(.imm (.int .u32)),.bool,(.imm (.int .u32))])],sB,[sD],fun x=>g125 m x.1.1 x.1.2.1 x.1.2.2.1 x.1.2.2.2.1⟩
theorem g125ok:FO (g125T m):=fk g125H (g125T m) func125 (AllF.mem (l:=[g80T m]) ⟨g80ok m,trivial⟩)
def g93H:Hints:=⟨[J [0,1],J [0,1,6],J [0,1,6,12],J' [(0,1)] [0,1,6],J [0,1,6,29],J [4,5],J [0,1,7],J [0,1,7,41],J' [(0,1)] [0,1,7],J [0,1,7,8],J [0,1,7,8,46],J' [(0,1)] [0,1,7,8],J [0,1,7,8,63],J' [(1,1),(5,1)] [4,5],J [4,5]],[(0,[0,1,6]),(2,[0,1,7]),(4,[0,1,7,8])],[(0,[0,1]),(1,[0,1,6]),(2,[]),(3,[0,1,7]),(4,[0,1,7]),(5,[0,1,7,8])],[4,5],[],[[false],[false]]⟩
def g93T:FunT:=⟨93,[.a (.c (.imm (.sl false (.pr (.pr .bool (.sl false (.int .u32))) (.pr .bool (.sl false (.int .u32))))))),sL],.tup [(.c (.int .i64)),(.c (.int .i64))],[sD,sD],fun x=>g93 m x.1 x.2.1⟩
noncomputable def g93C:Code:=codeOf f93
noncomputable def g93B0:Code:=qx g93C 0 0
noncomputable def g93B2:Code:=qx g93C 0 1
noncomputable def g93B4:Code:=qx g93B2 2 0
theorem g93K:FL [g125T m]:=AllF.mem ⟨g125ok m,trivial⟩
def g93L2X:LT:=⟨4,[(0,.a (.c (.imm (.sl false (.pr (.pr .bool (.sl false (.int .u32))) (.pr .bool (.sl false (.int .u32)))))))),(1,sL),(7,sI),(8,sI)],[(.ret,[(4,sI),(5,sI)]),(.exit 4,[(0,.a (.c (.imm (.sl false (.pr (.pr .bool (.sl false (.int .u32))) (.pr .bool (.sl false (.int .u32)))))))),(1,sL),(7,sI)])],fun n x=>g93L2 m n x.1 x.2.1 x.2.2.1 x.2.2.2.1⟩
theorem g93L2ok {E} (hE:EO E 72 g93H) (n):LO E g93B4 ((g93L2X m).at n):=lk hE (g93K m) (g93L2X m) n
def g93L1X:LT:=⟨2,[(0,.a (.c (.imm (.sl false (.pr (.pr .bool (.sl false (.int .u32))) (.pr .bool (.sl false (.int .u32)))))))),(1,sL),(7,sI)],[(.ret,[(4,sI),(5,sI)]),(.exit 2,[])],fun n x=>g93L1 m n x.1 x.2.1 x.2.2.1⟩
theorem g93L1ok {E} (hE:EO E 72 g93H) (n):LO E g93B2 ((g93L1X m).at n):=
 lok hmix htt hE (g93K m) (L:=[(g93L2X m).at m]) (g93L1X m) (l:=[(4,g93B4)]) kR (fun _ _=>⟨qj ⟨yb (g93L2ok m hE m),trivial⟩,trivial⟩) (fun n x=>kR) (fun _=>kR) n
def g93L0X:LT:=⟨0,[(0,.a (.c (.imm (.sl false (.pr (.pr .bool (.sl false (.int .u32))) (.pr .bool (.sl false (.int .u32)))))))),(1,sL),(6,sI)],[(.ret,[(4,sI),(5,sI)]),(.exit 0,[(0,.a (.c (.imm (.sl false (.pr (.pr .bool (.sl false (.int .u32))) (.pr .bool (.sl false (.int .u32)))))))),(1,sL)])],fun n x=>g93L0 m n x.1 x.2.1 x.2.2.1⟩
theorem g93L0ok {E} (hE:EO E 72 g93H) (n):LO E g93B0 ((g93L0X m).at n):=lk hE (g93K m) (g93L0X m) n
theorem g93ok:FO (g93T m):=
 fok hmix htt (H:=g93H) (g93T m) func93 kR (g93K m) (L:=[(g93L0X m).at m,(g93L1X m).at m]) (l:=[(0,g93B0),(2,g93B2)]) kR (fun _ hE _ _=>⟨qj ⟨yb (g93L0ok m hE m),nb rfl,trivial⟩,qj ⟨nb rfl,yb (g93L1ok m hE m),trivial⟩,trivial⟩) (fun x=>kR)
def g159H:Hints:=⟨[J [0,1],J [0,1,5],J [0,1,5,6],J [0,1,5,6,18],J' [(0,1)] [0,1,5,6],J [0,1,5,6,7],J [0,1,5,6,7,8],J [0,1,5,6,7,8,24],J' [(0,1)] [0,1,5,6,7,8],J' [(0,1)] [0,1,5,6,7,8],J [0,1,5,6,7,8],J' [(0,1)] [0,1,5,6,7,8],J' [(5,1)] [0,1,5,6],J' [(0,1)] [4]],[(0,[0,1,5,6]),(2,[0,1,5,6,7,8])],[(0,[5]),(1,[0,1,5,6]),(2,[0,1,5,6,7]),(3,[0,1,5,6,7,8])],[4],[],[[true]]⟩
def g159T:FunT:=⟨159,[.a (.c (.imm (.int .u32))),.a (.c (.imm (.int .u32)))],.a (.c (.nm 0 (.int .u32))),[sD,sD],fun x=>g159 m x.1 x.2.1⟩
noncomputable def g159C:Code:=codeOf f159
noncomputable def g159B0:Code:=qx g159C 0 0
noncomputable def g159B2:Code:=qx g159B0 0 0
def g159L1X:LT:=⟨2,[(0,.a (.c (.imm (.int .u32)))),(1,.a (.c (.imm (.int .u32)))),(5,.a (.c (.nm 0 (.int .u32)))),(6,sI),(7,sU),(8,sI)],[(.exit 2,[(0,.a (.c (.imm (.int .u32)))),(1,.a (.c (.imm (.int .u32)))),(5,.a (.c (.nm 0 (.int .u32)))),(6,sI),(7,sU)])],fun n x=>g159L1 m n x.1 x.2.1 x.2.2.1 x.2.2.2.1 x.2.2.2.2.1 x.2.2.2.2.2.1⟩
theorem g159L1ok {E} (hE:EO E 66 g159H) (n):LO E g159B2 ((g159L1X m).at n):=lk hE noF (g159L1X m) n
def g159L0X:LT:=⟨0,[(0,.a (.c (.imm (.int .u32)))),(1,.a (.c (.imm (.int .u32)))),(5,.a (.c (.nm 0 (.int .u32)))),(6,sI)],[(.exit 0,[(5,.a (.c (.nm 0 (.int .u32))))])],fun n x=>g159L0 m n x.1 x.2.1 x.2.2.1 x.2.2.2.1⟩
theorem g159L0ok {E} (hE:EO E 66 g159H) (n):LO E g159B0 ((g159L0X m).at n):=
 lok hmix htt hE noF (L:=[(g159L1X m).at m]) (g159L0X m) (l:=[(2,g159B2)]) kR (fun _ _=>⟨qj ⟨yb (g159L1ok m hE m),trivial⟩,trivial⟩) (fun n x=>kR) (fun _=>kR) n
theorem g159ok:FO (g159T m):=f1' g159H (g159T m) func159 noF fun _ h=>g159L0ok m h m
def g127H:Hints:=⟨[J [2,3,4],J [4]],[],[],[4],[],[[false,false]]⟩
def g127T:FunT:=⟨127,[.a (.agg [.bool,(.imm (.int .u32))]),.a (.agg [.bool,(.imm (.int .u32))])],.a (.agg [.bool,(.imm (.int .u32))]),[sD,sD],fun x=>g127 m x.1.1 x.1.2.1 x.2.1.1 x.2.1.2.1⟩
theorem g127ok:FO (g127T m):=fk g127H (g127T m) func127 (AllF.mem (l:=[g135T m,g159T m,g109T m]) ⟨g135ok m,g159ok m,g109ok m,trivial⟩)
def g193H:Hints:=⟨[J [0,1,2,3],J [0,1,2,3,9],J [0,1,2,3,9,10],J [0,1,2,3,9,10,11,12],J [0,1,2,3,9,10,11,12,13],J [0,1,2,3,9,10,11,12,13,23],J' [(0,1)] [0,1,2,3,9,10,11,12,13],J [0,1,2,3,9,10,11,12,13,28],J' [(0,1)] [0,1,2,3,9,10,11,12,13],J' [(7,1)] [0,1,2,3,9,10,12,13,14],J' [(0,1)] [0,1,2,3,9,10,12,13,14],J [0,1,2,3,9,10,12,13,14],J' [(0,1)] [0,1,2,3,9,10,11,12,13],J' [(0,1)] [0,2,9,10,60],J [0,8],J [0,2,9,10,15],J [0,2,9,10,15,63],J' [(0,1)] [0,2,9,10,15],J [0,2,9,10,15],J [0,8]],[(0,[0,1,2,3,9,10,11,12,13]),(2,[0,2,9,10,15])],[(0,[0,2,9,10,11]),(1,[0,1,2,3,9,10,11,12,13]),(2,[0]),(3,[0,2,9,10,15])],[0,8],[0],[[false]]⟩
def g193T:FunT:=⟨193,[.a (.c (.nm 0 (.int .u32))),.a (.c (.imm (.int .u32))),sI,sU],sB,[.a (.c (.nm 0 (.int .u32))),sD,sD,sD],fun x=>g193 m x.1 x.2.1 x.2.2.1 x.2.2.2.1⟩
noncomputable def g193C:Code:=codeOf f193
noncomputable def g193B0:Code:=qx g193C 0 0
noncomputable def g193B2:Code:=qx g193C 0 1
def g193L1X:LT:=⟨2,[(0,.a (.c (.nm 0 (.int .u32)))),(2,sI),(9,sI),(10,.a (.c (.nm 1 (.int .u32)))),(15,sI)],[(.exit 2,[(0,.a (.c (.nm 0 (.int .u32))))])],fun n x=>g193L1 m n x.1 x.2.1 x.2.2.1 x.2.2.2.1 x.2.2.2.2.1⟩
theorem g193L1ok {E} (hE:EO E 75 g193H) (n):LO E g193B2 ((g193L1X m).at n):=lk hE noF (g193L1X m) n
def g193L0X:LT:=⟨0,[(0,.a (.c (.nm 0 (.int .u32)))),(1,.a (.c (.imm (.int .u32)))),(2,sI),(3,sU),(9,sI),(10,.a (.c (.nm 1 (.int .u32)))),(11,sU),(12,sU),(13,sI)],[(.exit 0,[(0,.a (.c (.nm 0 (.int .u32)))),(2,sI),(9,sI),(10,.a (.c (.nm 1 (.int .u32)))),(11,sU)])],fun n x=>g193L0 m n x.1 x.2.1 x.2.2.1 x.2.2.2.1 x.2.2.2.2.1 x.2.2.2.2.2.1 x.2.2.2.2.2.2.1 x.2.2.2.2.2.2.2.1 x.2.2.2.2.2.2.2.2.1⟩
theorem g193L0ok {E} (hE:EO E 75 g193H) (n):LO E g193B0 ((g193L0X m).at n):=lk hE noF (g193L0X m) n
theorem g193ok:FO (g193T m):=
 fok hmix htt (H:=g193H) (g193T m) func193 kR noF (L:=[(g193L0X m).at m,(g193L1X m).at m]) (l:=[(0,g193B0),(2,g193B2)]) kR (fun _ hE _ _=>⟨qj ⟨yb (g193L0ok m hE m),nb rfl,trivial⟩,qj ⟨nb rfl,yb (g193L1ok m hE m),trivial⟩,trivial⟩) (fun x=>kR)
def g188H:Hints:=⟨[J [0,1],J [0,1,19],J' [(0,1)] [4,5],J [0,1,6],J [0,1,6,7],J' [(3,1)] [0,6,7,8,9],J [0,6,7,8,9,41],J' [(0,1)] [0,6,7,8,9],J [0,6,7,8,9,10],J' [(0,1)] [6,7,8,9,10,11],J [6,7,8,9,10,11,56],J' [(0,1)] [6,7,8,9,10,11],J [6,7,8,9,10,11,12],J' [(0,1)] [6,7,8,9,10,11,13],J' [(4,11)] [6,7,8,9,10,11,13,90],J' [(0,1)] [6,7,8,9,10,11,13],J' [(2,1)] [6,7,8,9,10,11],J' [(0,1),(2,1),(4,1)] [10,14],J' [(0,1),(2,1)] [4,5]],[(0,[6,7,8,9,10,11]),(2,[6,7,8,9,10,11,13])],[(0,[7,8,10]),(1,[6,7,8,9,10,11]),(2,[6,7,8,9,10,11,13]),(3,[6,7,8,9,10,11,13])],[4,5],[],[[true],[false]]⟩
def g188T:FunT:=⟨188,[.a (.c (.imm (.int .u32))),.a (.c (.imm (.int .u32)))],.tup [(.c (.nm 0 (.int .u32))),(.c (.imm (.int .u32)))],[sD,sD],fun x=>g188 m x.1 x.2.1⟩
noncomputable def g188C:Code:=codeOf f188
noncomputable def g188B0:Code:=qx g188C 0 0
noncomputable def g188B2:Code:=qx g188B0 0 0
theorem g188K:FL [g161T m,g190T m,g129T m,g193T m,g135T m,g130T m]:=AllF.mem ⟨g161ok m,g190ok m,g129ok m,g193ok m,g135ok m,g130ok m,trivial⟩
def g188L1X:LT:=⟨2,[(6,sI),(7,sI),(8,.a (.c (.nm 0 (.int .u32)))),(9,.a (.c (.nm 1 (.int .u32)))),(10,.a (.c (.nm 2 (.int .u32)))),(11,sI),(13,sU)],[(.exit 2,[(6,sI),(7,sI),(8,.a (.c (.nm 0 (.int .u32)))),(9,.a (.c (.nm 1 (.int .u32)))),(10,.a (.c (.nm 2 (.int .u32)))),(11,sI),(13,sU)])],fun n x=>g188L1 m n x.1 x.2.1 x.2.2.1 x.2.2.2.1 x.2.2.2.2.1 x.2.2.2.2.2.1 x.2.2.2.2.2.2.1⟩
theorem g188L1ok {E} (hE:EO E 109 g188H) (n):LO E g188B2 ((g188L1X m).at n):=lk hE (g188K m) (g188L1X m) n
def g188L0X:LT:=⟨0,[(6,sI),(7,sI),(8,.a (.c (.nm 0 (.int .u32)))),(9,.a (.c (.nm 1 (.int .u32)))),(10,.a (.c (.nm 2 (.int .u32)))),(11,sI)],[(.exit 0,[(7,sI),(8,.a (.c (.nm 0 (.int .u32)))),(10,.a (.c (.nm 1 (.int .u32))))])],fun n x=>g188L0 m n x.1 x.2.1 x.2.2.1 x.2.2.2.1 x.2.2.2.2.1 x.2.2.2.2.2.1⟩
theorem g188L0ok {E} (hE:EO E 109 g188H) (n):LO E g188B0 ((g188L0X m).at n):=
 lok hmix htt hE (g188K m) (L:=[(g188L1X m).at m]) (g188L0X m) (l:=[(2,g188B2)]) kR (fun _ _=>⟨qj ⟨yb (g188L1ok m hE m),trivial⟩,trivial⟩) (fun n x=>kR) (fun _=>kR) n
theorem g188ok:FO (g188T m):=f1' g188H (g188T m) func188 (g188K m) fun _ h=>g188L0ok m h m
def g179H:Hints:=⟨[J [2,3,4,5],J [2,3,4,5],J' [(5,1)] [2,3,4,5,6,7],J' [(5,1),(9,1)] [3,4,5,8,9],J [3,4,5,8,9,35],J [3,4,5,8,9],J [4,5,8,9,41],J [4,5,8,9],J [4,5,8,9],J [4,5]],[],[],[4,5],[],[[false,false],[false,false]]⟩
def g179T:FunT:=⟨179,[.a (.agg [.bool,(.imm (.int .u32))]),.a (.agg [.bool,(.imm (.int .u32))])],.tup [(.agg [.bool,(.imm (.int .u32))]),(.agg [.bool,(.imm (.int .u32))])],[sD,sD],fun x=>g179 m x.1.1 x.1.2.1 x.2.1.1 x.2.1.2.1⟩
theorem g179ok:FO (g179T m):=fk g179H (g179T m) func179 (AllF.mem (l:=[g103T m,g188T m,g109T m,g80T m,g82T m,g132T m,g84T m,g128T m]) ⟨g103ok m,g188ok m,g109ok m,g80ok m,g82ok m,g132ok m,g84ok m,g128ok m,trivial⟩)
def g157H:Hints:=⟨[J [2,3,4],J [4,5,6],J [4,5,6,15],J' [(3,1)] [4,5,6,8],J [4,5,6],J [4]],[(0,[4,5,6])],[(0,[4,5]),(1,[4,5,6])],[4],[],[[false,false]]⟩
def g157T:FunT:=⟨157,[.a (.agg [.bool,(.imm (.int .u32))]),.a (.agg [.bool,(.imm (.int .u32))])],.a (.agg [.bool,(.imm (.int .u32))]),[sD,sD],fun x=>g157 m x.1.1 x.1.2.1 x.2.1.1 x.2.1.2.1⟩
noncomputable def g157C:Code:=codeOf f157
noncomputable def g157B0:Code:=qx g157C 0 0
theorem g157K:FL [g82T m,g80T m,g179T m]:=AllF.mem ⟨g82ok m,g80ok m,g179ok m,trivial⟩
def g157L0X:LT:=⟨0,[(4,sX 0 [.bool,.nm 1 (.int .u32)]),(5,sX 2 [.bool,.imm (.int .u32)]),(6,sX 3 [.bool,.imm (.int .u32)])],[(.exit 0,[(4,sX 0 [.bool,.nm 1 (.int .u32)]),(5,sX 2 [.bool,.imm (.int .u32)])])],fun n x=>g157L0 m n x.1.1 x.1.2.1 x.2.1.1 x.2.1.2.1 x.2.2.1.1 x.2.2.1.2.1⟩
theorem g157L0ok {E} (hE:EO E 25 g157H) (n):LO E g157B0 ((g157L0X m).at n):=lk hE (g157K m) (g157L0X m) n
theorem g157ok:FO (g157T m):=f1' g157H (g157T m) func157 (g157K m) fun _ h=>g157L0ok m h m
def g158H:Hints:=⟨[J [2,3,4],J' [(3,1)] [4,6,7],J [4,6,16],J [4,5],J [4,5]],[],[],[4,5],[],[[false,false],[false]]⟩
def g158T:FunT:=⟨158,[.a (.agg [.bool,(.imm (.int .u32))]),.a (.agg [.bool,(.imm (.int .u32))])],.tup [(.agg [.bool,(.imm (.int .u32))]),(.c .bool)],[sD,sD],fun x=>g158 m x.1.1 x.1.2.1 x.2.1.1 x.2.1.2.1⟩
theorem g158ok:FO (g158T m):=fk g158H (g158T m) func158 (AllF.mem (l:=[g179T m,g80T m]) ⟨g179ok m,g80ok m,trivial⟩)
def g126H:Hints:=⟨[J [2,3,4],J [2,3,4,5],J [2,3,4,5,15],J [2,3,4,5],J' [(3,1)] [3,4,5,6],J' [(3,1)] [4,6,8],J [4]],[],[],[4],[],[[false,false,false,false]]⟩
def g126T:FunT:=⟨126,[.a (.agg [.bool,(.imm (.int .u32))]),.a (.agg [.bool,(.imm (.int .u32))])],.a (.agg [.bool,(.imm (.int .u32)),.bool,(.imm (.int .u32))]),[sD,sD],fun x=>g126 m x.1.1 x.1.2.1 x.2.1.1 x.2.1.2.1⟩
theorem g126ok:FO (g126T m):=fk g126H (g126T m) func126 (AllF.mem (l:=[g157T m,g80T m,g133T m,g158T m]) ⟨g157ok m,g80ok m,g133ok m,g158ok m,trivial⟩)
def g94H:Hints:=⟨[J [4,5,6,7,8],J [4,8,9],J [8]],[],[],[8],[],[[false,false,false,false]]⟩
def g94T:FunT:=⟨94,[.a (.agg [.bool,(.imm (.int .u32)),.bool,(.imm (.int .u32))]),.a (.agg [.bool,(.imm (.int .u32)),.bool,(.imm (.int .u32))]),.a (.agg [.bool,(.imm (.int .u32)),.bool,(.imm (.int .u32))]),.a (.agg [.bool,(.imm (.int .u32)),.bool,(.imm (.int .u32))])],.a (.agg [.bool,(.imm (.int .u32)),.bool,(.imm (.int .u32))]),[sD,sD,sD,sD],fun x=>g94 m x.1.1 x.1.2.1 x.1.2.2.1 x.1.2.2.2.1 x.2.1.1 x.2.1.2.1 x.2.1.2.2.1 x.2.1.2.2.2.1 x.2.2.1.1 x.2.2.1.2.1 x.2.2.1.2.2.1 x.2.2.1.2.2.2.1 x.2.2.2.1.1 x.2.2.2.1.2.1 x.2.2.2.1.2.2.1 x.2.2.2.1.2.2.2.1⟩
theorem g94ok:FO (g94T m):=fk g94H (g94T m) func94 (AllF.mem (l:=[g127T m,g126T m,g128T m]) ⟨g127ok m,g126ok m,g128ok m,trivial⟩)
def g67H:Hints:=⟨[J [0],J [0,5],J [0,5,6,7],J [0,5,6,7,8],J [0,5,6,7,8,9],J [0,5,6,7,8,9,25],J' [(0,1)] [0,5,6,7,8,9],J' [(0,1)] [0,5,6,7,8,9],J [5,6,7,8,34],J' [(3,1)] [5,6,7,8,10,11],J [5,6,7,8,10,11,42],J [5,6,7,8,10,11,12],J [5,6,7,8,10,11,12,13],J [5,6,7,8,10,11,12,13,46],J' [(0,1)] [5,6,7,8,10,11,12,13],J' [(6,1)] [5,6,7,8,10,11,12,13,62],J' [(0,1)] [5,6,7,8,10,11,12,13],J [5,6,7,10,11,12,72],J [5,6,7,10,11,12,82],J' [(0,1)] [5,6,7,10,11,12],J' [(0,1)] [5,6,7,10,11,12],J' [(0,1),(2,1)] [5,6,7,10,11,12],J [5,6,7,10,11,12,14],J [5,6,7,10,11,12,14,15],J [5,6,7,10,11,12,14,15,101],J' [(0,1)] [5,6,7,10,11,12,14,15],J [5,6,7,10,11,12,14,15,16],J [5,6,7,10,11,12,14,15,16,106],J' [(0,1)] [5,6,7,10,11,12,14,15,16],J [5,6,7,10,11,12,14,15,16,17,18],J [5,6,7,10,11,12,14,15,16,17,18,19],J [5,6,7,10,11,12,14,15,16,17,18,19,142],J [5,6,7,10,11,12,14,15,16,17,18,19],J [5,6,7,10,11,12,14,15,16,17,18,19],J' [(1,1),(4,1)] [5,6,7,10,11,12,14,15,16],J' [(0,1)] [5,6,7,8],J' [(0,1),(1,1),(3,1)] [2,3,4]],[(0,[0,5,6,7,8,9]),(2,[5,6,7,8]),(4,[5,6,7,8,10,11,12,13]),(6,[5,6,7,10,11,12,14,15]),(8,[5,6,7,10,11,12,14,15,16])],[(0,[5,6,7,8]),(1,[0,5,6,7,8,9]),(2,[6,7,8]),(3,[5,6,7,8]),(4,[5,6,7,10,11,12]),(5,[5,6,7,8,10,11,12,13]),(6,[5,6,7,12]),(7,[5,6,7,10,11,12,14,15]),(8,[5,6,7,10,11,12,14,15]),(9,[5,6,7,10,11,12,14,15,16])],[2,3,4],[],[[false],[false],[false]]⟩
def g67T:FunT:=⟨67,[.a (.c (.imm (.sl false (.pr .bool (.sl false (.int .u32))))))],.tup [(.c (.int .i64)),(.c (.int .i64)),(.c (.int .i64))],[sD],fun x=>g67 m x.1⟩
noncomputable def g67C:Code:=codeOf f67
noncomputable def g67B0:Code:=qx g67C 0 0
noncomputable def g67B2:Code:=qx g67C 0 1
noncomputable def g67B4:Code:=qx g67B2 2 0
noncomputable def g67B6:Code:=qx g67B2 2 1
noncomputable def g67B8:Code:=qx g67B6 6 0
theorem g67K:FL [g92T m,g93T m,g80T m,g94T m]:=AllF.mem ⟨g92ok m,g93ok m,g80ok m,g94ok m,trivial⟩
def g67L4X:LT:=⟨8,[(5,.a (.c (.dp 0 (.pr (.pr .bool (.sl false (.int .u32))) (.pr .bool (.sl false (.int .u32))))))),(6,sI),(7,sI),(10,sI),(11,sI),(12,sN 1),(14,sX 2 [.bool,.imm (.int .u32),.bool,.imm (.int .u32)]),(15,sI),(16,sI)],[(.exit 8,[(5,.a (.c (.dp 0 (.pr (.pr .bool (.sl false (.int .u32))) (.pr .bool (.sl false (.int .u32))))))),(6,sI),(7,sI),(10,sI),(11,sI),(12,sN 1),(14,sX 2 [.bool,.imm (.int .u32),.bool,.imm (.int .u32)]),(15,sI)])],fun n x=>g67L4 m n x.1 x.2.1 x.2.2.1 x.2.2.2.1 x.2.2.2.2.1 x.2.2.2.2.2.1 x.2.2.2.2.2.2.1.1 x.2.2.2.2.2.2.1.2.1 x.2.2.2.2.2.2.1.2.2.1 x.2.2.2.2.2.2.1.2.2.2.1 x.2.2.2.2.2.2.2.1 x.2.2.2.2.2.2.2.2.1⟩
theorem g67L4ok {E} (hE:EO E 179 g67H) (n):LO E g67B8 ((g67L4X m).at n):=lk hE (g67K m) (g67L4X m) n
def g67L3X:LT:=⟨6,[(5,.a (.c (.dp 0 (.pr (.pr .bool (.sl false (.int .u32))) (.pr .bool (.sl false (.int .u32))))))),(6,sI),(7,sI),(10,sI),(11,sI),(12,sN 1),(14,sX 2 [.bool,.imm (.int .u32),.bool,.imm (.int .u32)]),(15,sI)],[(.exit 6,[(5,.a (.c (.dp 0 (.pr (.pr .bool (.sl false (.int .u32))) (.pr .bool (.sl false (.int .u32))))))),(6,sI),(7,sI),(12,sN 1)])],fun n x=>g67L3 m n x.1 x.2.1 x.2.2.1 x.2.2.2.1 x.2.2.2.2.1 x.2.2.2.2.2.1 x.2.2.2.2.2.2.1.1 x.2.2.2.2.2.2.1.2.1 x.2.2.2.2.2.2.1.2.2.1 x.2.2.2.2.2.2.1.2.2.2.1 x.2.2.2.2.2.2.2.1⟩
theorem g67L3ok {E} (hE:EO E 179 g67H) (n):LO E g67B6 ((g67L3X m).at n):=
 lok hmix htt hE (g67K m) (L:=[(g67L4X m).at m]) (g67L3X m) (l:=[(8,g67B8)]) kR (fun _ _=>⟨qj ⟨yb (g67L4ok m hE m),trivial⟩,trivial⟩) (fun n x=>kR) (fun _=>kR) n
def g67L2X:LT:=⟨4,[(5,.a (.c (.dp 0 (.pr (.pr .bool (.sl false (.int .u32))) (.pr .bool (.sl false (.int .u32))))))),(6,sI),(7,sI),(8,sN 1),(10,sI),(11,sI),(12,sN 2),(13,sI)],[(.exit 4,[(5,.a (.c (.dp 0 (.pr (.pr .bool (.sl false (.int .u32))) (.pr .bool (.sl false (.int .u32))))))),(6,sI),(7,sI),(10,sI),(11,sI),(12,sN 1)])],fun n x=>g67L2 m n x.1 x.2.1 x.2.2.1 x.2.2.2.1 x.2.2.2.2.1 x.2.2.2.2.2.1 x.2.2.2.2.2.2.1 x.2.2.2.2.2.2.2.1⟩
theorem g67L2ok {E} (hE:EO E 179 g67H) (n):LO E g67B4 ((g67L2X m).at n):=lk hE (g67K m) (g67L2X m) n
def g67L1X:LT:=⟨2,[(5,.a (.c (.dp 0 (.pr (.pr .bool (.sl false (.int .u32))) (.pr .bool (.sl false (.int .u32))))))),(6,sI),(7,sI),(8,sN 1)],[(.exit 2,[(6,sI),(7,sI),(8,sN 0)])],fun n x=>g67L1 m n x.1 x.2.1 x.2.2.1 x.2.2.2.1⟩
theorem g67L1ok {E} (hE:EO E 179 g67H) (n):LO E g67B2 ((g67L1X m).at n):=
 lok hmix htt hE (g67K m) (L:=[(g67L2X m).at m,(g67L3X m).at m]) (g67L1X m) (l:=[(4,g67B4),(6,g67B6)]) kR (fun _ _=>⟨qj ⟨yb (g67L2ok m hE m),nb rfl,trivial⟩,qj ⟨nb rfl,yb (g67L3ok m hE m),trivial⟩,trivial⟩) (fun n x=>kR) (fun _=>kR) n
def g67L0X:LT:=⟨0,[(0,.a (.c (.imm (.sl false (.pr .bool (.sl false (.int .u32))))))),(5,.a (.c (.dp 0 (.pr (.pr .bool (.sl false (.int .u32))) (.pr .bool (.sl false (.int .u32))))))),(6,sI),(7,sI),(8,sN 1),(9,sI)],[(.exit 0,[(5,.a (.c (.dp 0 (.pr (.pr .bool (.sl false (.int .u32))) (.pr .bool (.sl false (.int .u32))))))),(6,sI),(7,sI),(8,sN 1)])],fun n x=>g67L0 m n x.1 x.2.1 x.2.2.1 x.2.2.2.1 x.2.2.2.2.1 x.2.2.2.2.2.1⟩
theorem g67L0ok {E} (hE:EO E 179 g67H) (n):LO E g67B0 ((g67L0X m).at n):=lk hE (g67K m) (g67L0X m) n
theorem g67ok:FO (g67T m):=
 fok hmix htt (H:=g67H) (g67T m) func67 kR (g67K m) (L:=[(g67L0X m).at m,(g67L1X m).at m]) (l:=[(0,g67B0),(2,g67B2)]) kR (fun _ hE _ _=>⟨qj ⟨yb (g67L0ok m hE m),nb rfl,trivial⟩,qj ⟨nb rfl,yb (g67L1ok m hE m),trivial⟩,trivial⟩) (fun x=>kR)
def g51H:Hints:=⟨[J [0],J' [(0,1),(3,1)] [3,4],J' [(0,1),(1,1)] [2]],[],[],[2],[],[[false]]⟩
def g51T:FunT:=⟨51,[.a (.c (.imm (.sl false (.pr .bool (.pr (.pr .bool (.sl false (.int .u32))) (.int .i64))))))],sI,[sD],fun x=>g51 m x.1⟩
theorem g51ok:FO (g51T m):=fk g51H (g51T m) func51 (AllF.mem (l:=[g68T m,g67T m]) ⟨g68ok m,g67ok m,trivial⟩)
def g25H:Hints:=⟨[J [1,2],J [1,2,6],J [1,2,6,11],J' [(0,1)] [4,5],J [1,2,13],J [1,2,13,14],J [4,5],J [1,2,16],J [4,5],J' [(1,1)] [4,5]],[],[(0,[1,2])],[4,5],[],[[false],[false]]⟩
def g25T:FunT:=⟨25,[.a (.agg [(.int .i64),(.int .i64),(.imm (.int .i64)),(.imm (.int .i64)),(.imm (.int .u64))]),sU],.tup [(.c (.int .i64)),(.c (.int .i64))],[sD,sD],fun x=>g25 m x.1.1 x.1.2.1 x.1.2.2.1 x.1.2.2.2.1 x.1.2.2.2.2.1 x.2.1⟩
theorem g25ok:FO (g25T m):=fk g25H (g25T m) func25 (AllF.mem (l:=[g50T m,g52T m,g51T m]) ⟨g50ok m,g52ok m,g51ok m,trivial⟩)
def g37H:Hints:=⟨[J [1],J' [(2,1)] [4],J' [(0,1)] [2]],[],[],[2],[],[[false]]⟩
def g37T:FunT:=⟨37,[.a (.agg [(.int .i64),(.int .i64),(.imm (.int .i64)),(.imm (.int .i64)),(.imm (.int .u64))])],sI,[sD],fun x=>g37 m x.1.1 x.1.2.1 x.1.2.2.1 x.1.2.2.2.1 x.1.2.2.2.2.1⟩
theorem g37ok:FO (g37T m):=fk g37H (g37T m) func37 (AllF.mem (l:=[g25T m]) ⟨g25ok m,trivial⟩)
def g24H:Hints:=⟨[J [0],J [0,7],J [2,3],J [0,4],J' [(0,1)] [4,13],J' [(0,1)] [2,3],J' [(0,1)] [2,3]],[],[],[2,3],[],[[false],[false]]⟩
def g24T:FunT:=⟨24,[sU],.tup [(.c (.int .i64)),(.c .bool)],[sD],fun x=>g24 m x.1⟩
theorem g24ok:FO (g24T m):=fk g24H (g24T m) func24 (AllF.mem (l:=[g49T m]) ⟨g49ok m,trivial⟩)
def g38H:Hints:=⟨[J [0,1],J' [(0,1),(2,1)] [1,5,6],J' [(0,1),(2,1)] [5,6,7,8],J' [(0,1),(1,1),(2,1),(4,1),(5,1),(6,1)] [4]],[],[],[4],[],[[false]]⟩
def g38T:FunT:=⟨38,[sU,sU],sB,[sD,sD],fun x=>g38 m x.1 x.2.1⟩
theorem g38ok:FO (g38T m):=fk g38H (g38T m) func38 (AllF.mem (l:=[g24T m]) ⟨g24ok m,trivial⟩)
def g20H:Hints:=⟨[J [1,2,3],J' [(1,1),(3,1)] [1,3,7],J' [(1,1),(3,1)] [7,9],J' [(0,1),(1,1)] [6]],[],[],[6],[],[[false]]⟩
def g20T:FunT:=⟨20,[.a (.agg [(.int .i64),(.int .i64),(.imm (.int .i64)),(.imm (.int .i64)),(.imm (.int .u64))]),sU,sU],sI,[sD,sD,sD],fun x=>g20 m x.1.1 x.1.2.1 x.1.2.2.1 x.1.2.2.2.1 x.1.2.2.2.2.1 x.2.1 x.2.2.1⟩
theorem g20ok:FO (g20T m):=fk g20H (g20T m) func20 (AllF.mem (l:=[g25T m]) ⟨g25ok m,trivial⟩)
def g54H:Hints:=⟨[J [0,1],J' [(0,1),(2,1)] [1,5],J' [(0,1),(2,1)] [5,7],J' [(0,1),(1,1)] [4]],[],[],[4],[],[[false]]⟩
def g54T:FunT:=⟨54,[sU,sU],sB,[sD,sD],fun x=>g54 m x.1 x.2.1⟩
theorem g54ok:FO (g54T m):=fk g54H (g54T m) func54 (AllF.mem (l:=[g24T m]) ⟨g24ok m,trivial⟩)
def g44H:Hints:=⟨[J [0,1],J [4]],[],[],[4],[],[[false]]⟩
def g44T:FunT:=⟨44,[sI,sI],sI,[sD,sD],fun x=>g44 m x.1 x.2.1⟩
theorem g44ok:FO (g44T m):=fk g44H (g44T m) func44 noF
def g31H:Hints:=⟨[J [0],J' [(1,1)] [0,4],J' [(3,1)] [0,10],J [2,3],J [0,20],J' [(0,1)] [2,3],J' [(0,1)] [2,3]],[],[(0,[0])],[2,3],[],[[false],[false]]⟩
def g31T:FunT:=⟨31,[sI],.tup [(.c (.int .u64)),(.c .bool)],[sD],fun x=>g31 m x.1⟩
theorem g31ok:FO (g31T m):=fk g31H (g31T m) func31 (AllF.mem (l:=[g24T m]) ⟨g24ok m,trivial⟩)
def g55H:Hints:=⟨[J [0,1],J' [(0,1),(2,1)] [1,6,7],J' [(0,1),(2,1)] [6,7,8,9],J' [(0,1),(2,1),(3,1)] [6,8,25],J [4,5],J' [(0,1),(1,1)] [4,5]],[],[],[4,5],[],[[false],[false]]⟩
def g55T:FunT:=⟨55,[sU,sU],.tup [(.c (.int .u64)),(.c .bool)],[sD,sD],fun x=>g55 m x.1 x.2.1⟩
theorem g55ok:FO (g55T m):=fk g55H (g55T m) func55 (AllF.mem (l:=[g24T m,g44T m,g31T m]) ⟨g24ok m,g44ok m,g31ok m,trivial⟩)
def g39H:Hints:=⟨[J [1,2,3],J [1,2,3,7],J [1,2,3,7,14],J [6],J' [(2,1)] [1,2,3,7,17],J' [(0,1),(1,1),(2,1)] [6],J' [(3,1)] [1,2,3,8],J' [(1,1),(6,1)] [6]],[],[(0,[1,2,3])],[6],[],[[true]]⟩
def g39T:FunT:=⟨39,[.a (.agg [(.int .i64),(.int .i64),(.imm (.int .i64)),(.imm (.int .i64)),(.imm (.int .u64))]),sU,sU],.a (.c (.nm 0 (.pr (.int .u64) (.pr (.int .u64) (.int .i64))))),[sD,sD,sD],fun x=>g39 m x.1.1 x.1.2.1 x.1.2.2.1 x.1.2.2.2.1 x.1.2.2.2.2.1 x.2.1 x.2.2.1⟩
theorem g39ok: ∀m:Nat,FunOK prog (g39T m)
 |0=>fun _ _ h=>by cases h
 |m+1=>by
  have hself:=g39ok m;exact fok hmix htt (H:=g39H) (g39T (m+1)) func39 kR (AllF.mem (l:=[g20T m,g54T m,g55T m,g39T m]) ⟨g20ok m,g54ok m,g55ok m,hself,trivial⟩) (L:=[]) (l:=[]) kR (fun _ hE _ _=>trivial) (fun x=>kR)
def g13H:Hints:=⟨[J [1,2,3],J [1,2,3,8],J [1,2,3,8,12],J' [(0,1)] [6,7],J [1,2,3,17],J [6,7],J' [(1,1),(2,1)] [6,7]],[],[],[6,7],[],[[true],[false]]⟩
def g13T:FunT:=⟨13,[.a (.agg [(.int .i64),(.int .i64),(.imm (.int .i64)),(.imm (.int .i64)),(.imm (.int .u64))]),sU,sU],.tup [(.c (.nm 0 (.pr (.int .u64) (.pr (.int .u64) (.int .i64))))),(.c (.int .i64))],[sD,sD,sD],fun x=>g13 m x.1.1 x.1.2.1 x.1.2.2.1 x.1.2.2.2.1 x.1.2.2.2.2.1 x.2.1 x.2.2.1⟩
theorem g13ok:FO (g13T m):=fk g13H (g13T m) func13 (AllF.mem (l:=[g37T m,g38T m,g39T m]) ⟨g37ok m,g38ok m,g39ok m,trivial⟩)
def g14H:Hints:=⟨[J [0,1],J [0,1,10],J [4],J [0,1,5],J [0,1,5,14],J' [(0,1)] [0,1,5],J [0,1,5,25],J [4],J [4]],[(0,[0,1,5])],[(0,[]),(1,[0,1,5])],[4],[],[[false]]⟩
def g14T:FunT:=⟨14,[.a (.c (.imm (.pr (.int .u64) (.pr (.int .u64) (.int .i64))))),.a (.c (.imm (.pr (.int .u64) (.pr (.int .u64) (.int .i64)))))],sB,[sD,sD],fun x=>g14 m x.1 x.2.1⟩
noncomputable def g14C:Code:=codeOf f14
noncomputable def g14B0:Code:=qx g14C 0 0
def g14L0X:LT:=⟨0,[(0,.a (.c (.imm (.pr (.int .u64) (.pr (.int .u64) (.int .i64)))))),(1,.a (.c (.imm (.pr (.int .u64) (.pr (.int .u64) (.int .i64)))))),(5,sI)],[(.ret,[(4,sB)]),(.exit 0,[])],fun n x=>g14L0 m n x.1 x.2.1 x.2.2.1⟩
theorem g14L0ok {E} (hE:EO E 26 g14H) (n):LO E g14B0 ((g14L0X m).at n):=lk hE noF (g14L0X m) n
theorem g14ok:FO (g14T m):=f1' g14H (g14T m) func14 noF fun _ h=>g14L0ok m h m
def sparselaw40_diagonal_H:Hints:=⟨[J [0,2],J [0,2,3],J [0,2,3,4],J [0,2,3,4,15],J' [(0,1)] [0,2,3,4],J' [(4,3),(10,3)] [0,2,3,4],J' [(0,1)] [2]],[(0,[0,2,3,4])],[(0,[2,3]),(1,[0,2,3,4])],[2],[],[[false,false,true,true,false]]⟩
abbrev sparselaw40_diagonal_A:List Sh:=[.a (.c (.imm (.int .u64)))]
abbrev sparselaw40_diagonal_S:Sh:= .a (.agg [(.int .i64),(.int .i64),(.nm 0 (.int .i64)),(.nm 1 (.int .i64)),(.imm (.int .u64))])
abbrev sparselaw40_diagonal_U:List Sh:=[sD]
def sparselaw40_diagonal_R:Qw sparselaw40_diagonal_A->Option (sparselaw40_diagonal_S.Val×Qw sparselaw40_diagonal_U):=fun(x:LI×Unit)=>sparselaw40_diagonal m x.1
def sparselaw40_diagonal_T:FunT:=⟨27,sparselaw40_diagonal_A,sparselaw40_diagonal_S,sparselaw40_diagonal_U,sparselaw40_diagonal_R m⟩
noncomputable def sparselaw40_diagonal_C:Code:=codeOf f27
noncomputable def sparselaw40_diagonal_B0:Code:=qx sparselaw40_diagonal_C 0 0
def sparselaw40_diagonal_L0_X:LT:=⟨0,[(0,.a (.c (.imm (.int .u64)))),(2,sX 0 [iI,iI,iM 1,iM 2,.nm 3 (.int .u64)]),(3,sX 4 [iI,iI,iM 5,iM 6,.imm (.int .u64)]),(4,sI)],[(.exit 0,[(2,sX 0 [iI,iI,iM 1,iM 2,.nm 3 (.int .u64)]),(3,sX 4 [iI,iI,iM 5,iM 6,.imm (.int .u64)])])],fun n (x:LI×(Int×Int×LI×LI×LI×Unit)×(Int×Int×LI×LI×LI×Unit)×Int×Unit)=>sparselaw40_diagonal_L0 m n x.1 x.2.1.1 x.2.1.2.1 x.2.1.2.2.1 x.2.1.2.2.2.1 x.2.1.2.2.2.2.1 x.2.2.1.1 x.2.2.1.2.1 x.2.2.1.2.2.1 x.2.2.1.2.2.2.1 x.2.2.1.2.2.2.2.1 x.2.2.2.1⟩
theorem sparselaw40_diagonal_L0_ok {E} (hE:EO E 32 sparselaw40_diagonal_H) (n):LO E sparselaw40_diagonal_B0 ((sparselaw40_diagonal_L0_X m).at n):=lk hE noF (sparselaw40_diagonal_L0_X m) n
theorem sparselaw40_diagonal_ok:FO (sparselaw40_diagonal_T m):=f1' sparselaw40_diagonal_H (sparselaw40_diagonal_T m) func27 noF fun _ h=>sparselaw40_diagonal_L0_ok m h m
def g16H:Hints:=⟨[J [1,2,4],J [1,2,4,6],J [1,2,4,6,15],J' [(1,1)] [4,5],J' [(2,1)] [1,2,4,25],J [4,5],J [1,2,4,7],J [1,2,4,7,33],J' [(5,1)] [1,2,4,7,8],J' [(3,1)] [1,2,4,7,8,10],J' [(0,1)] [1,2,4,7,8,50],J' [(0,1)] [1,2,4,7],J' [(0,1)] [1,2,4,7],J [4,7],J [4,5]],[(0,[1,2,4,7])],[(0,[2,4,7]),(1,[1,2,4,7])],[4,5],[],[[false,false,false],[false]]⟩
def g16T:FunT:=⟨16,[.a (.agg [(.int .i64),(.int .i64),(.imm (.int .i64)),(.imm (.int .i64)),(.imm (.int .u64))]),sI],.tup [(.agg [(.int .u64),(.int .u64),(.int .i64)]),(.c (.int .i64))],[sD,sD],fun x=>g16 m x.1.1 x.1.2.1 x.1.2.2.1 x.1.2.2.2.1 x.1.2.2.2.2.1 x.2.1⟩
noncomputable def g16C:Code:=codeOf f16
noncomputable def g16B0:Code:=qx g16C 0 0
theorem g16K:FL [g33T m,g41T m,g42T m,g43T m,g36T m]:=AllF.mem ⟨g33ok m,g41ok m,g42ok m,g43ok m,g36ok m,trivial⟩
def g16L0X:LT:=⟨0,[(1,sI),(2,sX 0 [iI,iI,iL,iL,.imm (.int .u64)]),(4,sX 1 [iU,iU,iI]),(7,sX 2 [iU,iU,iI])],[(.exit 0,[(2,sX 0 [iI,iI,iL,iL,.imm (.int .u64)]),(4,sX 1 [iU,iU,iI]),(7,sX 2 [iU,iU,iI])])],fun n x=>g16L0 m n x.1 x.2.1.1 x.2.1.2.1 x.2.1.2.2.1 x.2.1.2.2.2.1 x.2.1.2.2.2.2.1 x.2.2.1.1 x.2.2.1.2.1 x.2.2.1.2.2.1 x.2.2.2.1.1 x.2.2.2.1.2.1 x.2.2.2.1.2.2.1⟩
theorem g16L0ok {E} (hE:EO E 63 g16H) (n):LO E g16B0 ((g16L0X m).at n):=lk hE (g16K m) (g16L0X m) n
theorem g16ok:FO (g16T m):=f1' g16H (g16T m) func16 (g16K m) fun _ h=>g16L0ok m h m
def g90H:Hints:=⟨[J [0],J [0,3],J' [(0,1)] [3,8],J' [(0,1)] [2],J' [(0,1)] [2]],[],[],[2],[],[[false]]⟩
def g90T:FunT:=⟨90,[sU],sI,[sD],fun x=>g90 m x.1⟩
theorem g90ok:FO (g90T m):=fk g90H (g90T m) func90 (AllF.mem (l:=[g124T m]) ⟨g124ok m,trivial⟩)
def g64H:Hints:=⟨[J [0,1],J [0,1,11],J [4,5],J' [(0,1),(2,1)] [6,7],J [6,7,16],J [4,5],J' [(0,1),(1,1)] [20],J [4,5],J [4,5]],[],[(0,[])],[4,5],[],[[false],[false]]⟩
def g64T:FunT:=⟨64,[sU,sU],.tup [(.c (.int .i64)),(.c .bool)],[sD,sD],fun x=>g64 m x.1 x.2.1⟩
theorem g64ok:FO (g64T m):=fk g64H (g64T m) func64 (AllF.mem (l:=[g89T m,g90T m]) ⟨g89ok m,g90ok m,trivial⟩)
def g46H:Hints:=⟨[J [2,3,4],J [2,3,4,14],J [6],J [2,3,4,17],J' [(10,1)] [3,4,7],J' [(0,1)] [3,4,32],J [6],J [6]],[],[],[6],[],[[false]]⟩
def g46T:FunT:=⟨46,[.a (.agg [(.int .i64),(.int .i64),(.imm (.int .i64)),(.imm (.int .i64)),(.imm (.int .u64))]),.a (.agg [(.int .u64),(.int .u64),(.int .i64)]),.a (.c (.imm (.pr (.int .u64) (.pr (.int .u64) (.int .i64)))))],sB,[sD,sD,sD],fun x=>g46 m x.1.1 x.1.2.1 x.1.2.2.1 x.1.2.2.2.1 x.1.2.2.2.2.1 x.2.1.1 x.2.1.2.1 x.2.1.2.2.1 x.2.2.1⟩
theorem g46ok:FO (g46T m):=fk g46H (g46T m) func46 (AllF.mem (l:=[g34T m,g64T m,g36T m]) ⟨g34ok m,g64ok m,g36ok m,trivial⟩)
def g21H:Hints:=⟨[J [1,2],J [1,2,6],J [1,2,6,12],J' [(0,1)] [4,5],J [1,2,14,15,16],J [1,2,14,15,16,17],J [1,2,7,8,14,15,16],J [1,2,7,14,15,16,26],J' [(0,1)] [4,5],J' [(1,1)] [1,2,14,15,16],J [4,5]],[(0,[1,2,14,15,16])],[(0,[]),(1,[1,2,14,15,16])],[4,5],[],[[false],[false]]⟩
def g21T:FunT:=⟨21,[.a (.agg [(.int .i64),(.int .i64),(.imm (.int .i64)),(.imm (.int .i64)),(.imm (.int .u64))]),.a (.c (.imm (.pr (.int .u64) (.pr (.int .u64) (.int .i64)))))],.tup [(.c (.int .i64)),(.c (.int .i64))],[sD,sD],fun x=>g21 m x.1.1 x.1.2.1 x.1.2.2.1 x.1.2.2.2.1 x.1.2.2.2.2.1 x.2.1⟩
noncomputable def g21C:Code:=codeOf f21
noncomputable def g21B0:Code:=qx g21C 0 0
theorem g21K:FL [g33T m,g46T m]:=AllF.mem ⟨g33ok m,g46ok m,trivial⟩
def g21L0X:LT:=⟨0,[(1,.a (.c (.imm (.pr (.int .u64) (.pr (.int .u64) (.int .i64)))))),(2,sX 0 [iI,iI,iL,iL,.imm (.int .u64)]),(14,.a (.c (.imm (.pr (.int .u64) (.pr (.int .u64) (.int .i64)))))),(15,sI),(16,sI)],[(.ret,[(4,sI),(5,sI)]),(.exit 0,[])],fun n x=>g21L0 m n x.1 x.2.1.1 x.2.1.2.1 x.2.1.2.2.1 x.2.1.2.2.2.1 x.2.1.2.2.2.2.1 x.2.2.1 x.2.2.2.1 x.2.2.2.2.1⟩
theorem g21L0ok {E} (hE:EO E 29 g21H) (n):LO E g21B0 ((g21L0X m).at n):=lk hE (g21K m) (g21L0X m) n
theorem g21ok:FO (g21T m):=f1' g21H (g21T m) func21 (g21K m) fun _ h=>g21L0ok m h m
def sparselaw40_awake_H:Hints:=⟨[J [],J [1],J' [(3,1)] [1,2,3],J' [(2,1)] [1,2,3,4,5],J' [(3,1)] [2,3,4,5,6,7],J' [(0,1),(2,1),(3,1),(6,1),(7,1),(10,1),(15,1),(22,1),(27,1),(28,1)] [0]],[],[],[0],[],[[false]]⟩
abbrev sparselaw40_awake_A:List Sh:=[]
abbrev sparselaw40_awake_S:Sh:= sB
abbrev sparselaw40_awake_U:List Sh:=[]
def sparselaw40_awake_R:Qw sparselaw40_awake_A->Option (sparselaw40_awake_S.Val×Qw sparselaw40_awake_U):=fun(x:Unit)=>sparselaw40_awake m
def sparselaw40_awake_T:FunT:=⟨15,sparselaw40_awake_A,sparselaw40_awake_S,sparselaw40_awake_U,sparselaw40_awake_R m⟩
theorem sparselaw40_awake_ok:FO (sparselaw40_awake_T m):=fk sparselaw40_awake_H (sparselaw40_awake_T m) func15 (AllF.mem (l:=[g40T m,sparselaw40_diagonal_T m,g12T m,g16T m,g21T m]) ⟨g40ok m,sparselaw40_diagonal_ok m,g12ok m,g16ok m,g21ok m,trivial⟩)
def g17H:Hints:=⟨[J [1,2,4],J [1,2,4,6],J [1,2,4,6,23],J' [(1,1)] [4,5],J' [(2,1)] [1,2,4,33],J [4,5],J' [(1,1)] [1,2,4,7],J' [(1,1)] [1,2,4,7,9],J [1,2,4,7,9,46],J [1,2,4,7,9,11],J' [(2,1)] [1,2,4,7,9,11,12],J' [(1,1),(3,1)] [1,2,4,7,9,11,14],J' [(0,1)] [1,2,4,7,9,11,63],J' [(0,1)] [1,2,4,7,9],J' [(0,1)] [1,2,4,7,9],J' [(0,1),(2,1)] [2,4,9,16],J' [(0,1),(2,1)] [2,4,16,18],J [4,5]],[(0,[1,2,4,7,9])],[(0,[2,4,7,9]),(1,[1,2,4,7,9])],[4,5],[],[[false,false,false],[false]]⟩
def g17T:FunT:=⟨17,[.a (.agg [(.int .i64),(.int .i64),(.imm (.int .i64)),(.imm (.int .i64)),(.imm (.int .u64))]),sI],.tup [(.agg [(.int .u64),(.int .u64),(.int .i64)]),(.c (.int .i64))],[sD,sD],fun x=>g17 m x.1.1 x.1.2.1 x.1.2.2.1 x.1.2.2.2.1 x.1.2.2.2.2.1 x.2.1⟩
noncomputable def g17C:Code:=codeOf f17
noncomputable def g17B0:Code:=qx g17C 0 0
theorem g17K:FL [g37T m,g24T m,g44T m,g31T m,g25T m,g20T m]:=AllF.mem ⟨g37ok m,g24ok m,g44ok m,g31ok m,g25ok m,g20ok m,trivial⟩
def g17L0X:LT:=⟨0,[(1,sI),(2,sX 0 [iI,iI,iL,iL,.imm (.int .u64)]),(4,sX 1 [iU,iU,iI]),(7,sI),(9,sI)],[(.exit 0,[(2,sX 0 [iI,iI,iL,iL,.imm (.int .u64)]),(4,sX 1 [iU,iU,iI]),(7,sI),(9,sI)])],fun n x=>g17L0 m n x.1 x.2.1.1 x.2.1.2.1 x.2.1.2.2.1 x.2.1.2.2.2.1 x.2.1.2.2.2.2.1 x.2.2.1.1 x.2.2.1.2.1 x.2.2.1.2.2.1 x.2.2.2.1 x.2.2.2.2.1⟩
theorem g17L0ok {E} (hE:EO E 83 g17H) (n):LO E g17B0 ((g17L0X m).at n):=lk hE (g17K m) (g17L0X m) n
theorem g17ok:FO (g17T m):=f1' g17H (g17T m) func17 (g17K m) fun _ h=>g17L0ok m h m
def g22H:Hints:=⟨[J [1,2],J [1,2,6],J [1,2,6,15],J' [(0,1)] [4,5],J [1,2,7],J [1,2,7,20],J' [(0,1)] [1,2,7],J' [(12,1)] [1,2,7,54],J' [(0,1)] [4,5],J [1,2,7,57],J' [(7,1)] [1,2,7,8],J' [(6,1)] [1,2,7,8,10],J' [(0,1),(1,1)] [1,2,7,79],J' [(0,1)] [4,5],J [4,5]],[(0,[1,2,7])],[(0,[]),(1,[1,2,7])],[4,5],[],[[false],[false]]⟩
def g22T:FunT:=⟨22,[.a (.agg [(.int .i64),(.int .i64),(.imm (.int .i64)),(.imm (.int .i64)),(.imm (.int .u64))]),.a (.c (.imm (.pr (.int .u64) (.pr (.int .u64) (.int .i64)))))],.tup [(.c (.int .i64)),(.c (.int .i64))],[sD,sD],fun x=>g22 m x.1.1 x.1.2.1 x.1.2.2.1 x.1.2.2.2.1 x.1.2.2.2.2.1 x.2.1⟩
noncomputable def g22C:Code:=codeOf f22
noncomputable def g22B0:Code:=qx g22C 0 0
theorem g22K:FL [g37T m,g38T m,g20T m,g24T m]:=AllF.mem ⟨g37ok m,g38ok m,g20ok m,g24ok m,trivial⟩
def g22L0X:LT:=⟨0,[(1,.a (.c (.imm (.pr (.int .u64) (.pr (.int .u64) (.int .i64)))))),(2,sX 0 [iI,iI,iL,iL,.imm (.int .u64)]),(7,sI)],[(.ret,[(4,sI),(5,sI)]),(.exit 0,[])],fun n x=>g22L0 m n x.1 x.2.1.1 x.2.1.2.1 x.2.1.2.2.1 x.2.1.2.2.2.1 x.2.1.2.2.2.2.1 x.2.2.1⟩
theorem g22L0ok {E} (hE:EO E 81 g22H) (n):LO E g22B0 ((g22L0X m).at n):=lk hE (g22K m) (g22L0X m) n
theorem g22ok:FO (g22T m):=f1' g22H (g22T m) func22 (g22K m) fun _ h=>g22L0ok m h m
end
end Go.Vs.F
