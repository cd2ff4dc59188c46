/-The plain functions are what the code does (by program:gen.py). -/
import Derived.Test.YtkbgfnhdfmmfcaaGreatDoorOka
set_option linter.unusedVariables false
set_option maxRecDepth 100000
namespace Go.Vs.F
open Go.Proofs
open Tryz
section
variable (m:Nat)
def g31H:Hints:=⟨[J [1,2],J [1,2,13],J [2,3],J [1,2,4],J [1,2,4,19],J' [(0,1)] [1,2,4],J [1,2,4,33],J [2,3],J' [(4,1)] [1,2,46],J [2,3],J [1,2,5],J [1,2,5,52],J' [(0,1)] [1,2,5],J [1,2,5,61],J [2,3],J' [(1,2),(2,2)] [1,2,6],J [1,2,6,7],J [1,2,6,7,68],J' [(0,1)] [1,2,6,7],J [1,2,6,7,8],J [1,2,6,7,8,76],J' [(0,1)] [1,2,6,7,8],J [1,2,6,7,8,9],J [1,2,6,7,8,9,92],J [1,2,6,7,8,9],J [1,2,6,7,8,9,99],J [1,2,6,7,8],J [2,3]],[(0,[1,2,4]),(2,[1,2,5]),(4,[1,2,6,7]),(6,[1,2,6,7,8])],[(0,[1,2]),(1,[1,2,4]),(2,[1,2]),(3,[1,2,5]),(4,[2,6]),(5,[1,2,6,7]),(6,[1,2,6,7]),(7,[1,2,6,7,8])],[2,3],[],[[false,false,false,false],[false]]⟩
def g31T:FunT:=⟨31,[.a (.agg [(.imm (.int .u64)),(.imm (.int .u64)),(.imm (.sl false (.int .u64)))])],.tup [(.agg [.bool,.bool,(.imm (.int .u32)),(.int .i64)]),(.c (.int .i64))],[sD],fun x=>g31 m x.1.1 x.1.2.1 x.1.2.2.1⟩
noncomputable def g31C:Code:=codeOf f31
noncomputable def g31B0:Code:=qo g31C 0 0
noncomputable def g31B2:Code:=qo g31C 0 1
noncomputable def g31B4:Code:=qo g31C 0 2
noncomputable def g31B6:Code:=qo g31B4 4 0
theorem g31K:FL [g49T m,g51T m,g22T m,g20T m,g19T m,g86T m]:=AllF.mem ⟨g49ok m,g51ok m,g22ok m,g20ok m,g19ok m,g86ok m,trivial⟩
def g31L3X:LT:=⟨6,[(1,sX 0 [.imm (.int .u64),.imm (.int .u64),.imm (.sl false (.int .u64))]),(2,sX 1 [.bool,.bool,.nm 2 (.int .u32),iI]),(6,sX 3 [.bool,.bool,.imm (.int .u32),iI]),(7,sI),(8,sI)],[(.exit 6,[(1,sX 0 [.imm (.int .u64),.imm (.int .u64),.imm (.sl false (.int .u64))]),(2,sX 1 [.bool,.bool,.nm 2 (.int .u32),iI]),(6,sX 3 [.bool,.bool,.imm (.int .u32),iI]),(7,sI)])],fun n x=>g31L3 m n x.1.1 x.1.2.1 x.1.2.2.1 x.2.1.1 x.2.1.2.1 x.2.1.2.2.1 x.2.1.2.2.2.1 x.2.2.1.1 x.2.2.1.2.1 x.2.2.1.2.2.1 x.2.2.1.2.2.2.1 x.2.2.2.1 x.2.2.2.2.1⟩
theorem g31L3ok {E} (hE:EO E 103 g31H) (n):LO E g31B6 ((g31L3X m).at n):=lk hE (g31K m) (g31L3X m) n
def g31L2X:LT:=⟨4,[(1,sX 0 [.imm (.int .u64),.imm (.int .u64),.imm (.sl false (.int .u64))]),(2,sX 1 [.bool,.bool,.nm 2 (.int .u32),iI]),(6,sX 3 [.bool,.bool,.imm (.int .u32),iI]),(7,sI)],[(.exit 4,[(2,sX 0 [.bool,.bool,.nm 1 (.int .u32),iI]),(6,sX 2 [.bool,.bool,.imm (.int .u32),iI])])],fun n x=>g31L2 m n x.1.1 x.1.2.1 x.1.2.2.1 x.2.1.1 x.2.1.2.1 x.2.1.2.2.1 x.2.1.2.2.2.1 x.2.2.1.1 x.2.2.1.2.1 x.2.2.1.2.2.1 x.2.2.1.2.2.2.1 x.2.2.2.1⟩
theorem g31L2ok {E} (hE:EO E 103 g31H) (n):LO E g31B4 ((g31L2X m).at n):=
 lok hmix htt hE (g31K m) (L:=[(g31L3X m).at m]) (g31L2X m) (l:=[(6,g31B6)]) kR (fun _ _=>⟨ql ⟨yb (g31L3ok m hE m),trivial⟩,trivial⟩) (fun n x=>kR) (fun _=>kR) n
def g31L1X:LT:=⟨2,[(1,sX 0 [.imm (.int .u64),.imm (.int .u64),.imm (.sl false (.int .u64))]),(2,sX 1 [.bool,.bool,.nm 2 (.int .u32),iI]),(5,sI)],[(.ret,[(2,sX 0 [.bool,.bool,.nm 1 (.int .u32),iI]),(3,sI)]),(.exit 2,[(1,sX 0 [.imm (.int .u64),.imm (.int .u64),.imm (.sl false (.int .u64))]),(2,sX 1 [.bool,.bool,.nm 2 (.int .u32),iI])])],fun n x=>g31L1 m n x.1.1 x.1.2.1 x.1.2.2.1 x.2.1.1 x.2.1.2.1 x.2.1.2.2.1 x.2.1.2.2.2.1 x.2.2.1⟩
theorem g31L1ok {E} (hE:EO E 103 g31H) (n):LO E g31B2 ((g31L1X m).at n):=lk hE (g31K m) (g31L1X m) n
def g31L0X:LT:=⟨0,[(1,sX 0 [.imm (.int .u64),.imm (.int .u64),.imm (.sl false (.int .u64))]),(2,sX 1 [.bool,.bool,.nm 2 (.int .u32),iI]),(4,sI)],[(.ret,[(2,sX 0 [.bool,.bool,.nm 1 (.int .u32),iI]),(3,sI)]),(.exit 0,[(1,sX 0 [.imm (.int .u64),.imm (.int .u64),.imm (.sl false (.int .u64))]),(2,sX 1 [.bool,.bool,.nm 2 (.int .u32),iI])])],fun n x=>g31L0 m n x.1.1 x.1.2.1 x.1.2.2.1 x.2.1.1 x.2.1.2.1 x.2.1.2.2.1 x.2.1.2.2.2.1 x.2.2.1⟩
theorem g31L0ok {E} (hE:EO E 103 g31H) (n):LO E g31B0 ((g31L0X m).at n):=lk hE (g31K m) (g31L0X m) n
theorem g31ok:FO (g31T m):=
 fok hmix htt (H:=g31H) (g31T m) func31 kR (g31K m) (L:=[(g31L0X m).at m,(g31L1X m).at m,(g31L2X m).at m]) (l:=[(0,g31B0),(2,g31B2),(4,g31B4)]) kR (fun _ hE _ _=>⟨ql ⟨yb (g31L0ok m hE m),nb rfl,nb rfl,trivial⟩,ql ⟨nb rfl,yb (g31L1ok m hE m),nb rfl,trivial⟩,ql ⟨nb rfl,nb rfl,yb (g31L2ok m hE m),trivial⟩,trivial⟩) (fun x=>kR)
def g234H:Hints:=⟨[J [0,1],J [0,1,10],J [4],J [0,1,5],J [0,1,5,14],J' [(0,1)] [0,1,5],J [0,1,5,25],J [4],J [4]],[(0,[0,1,5])],[(0,[]),(1,[0,1,5])],[4],[],[[false]]⟩
def g234T:FunT:=⟨234,[.a (.c (.imm (.int .u32))),.a (.c (.imm (.int .u32)))],sB,[sD,sD],fun x=>g234 m x.1 x.2.1⟩
noncomputable def g234C:Code:=codeOf f234
noncomputable def g234B0:Code:=qo g234C 0 0
def g234L0X:LT:=⟨0,[(0,.a (.c (.imm (.int .u32)))),(1,.a (.c (.imm (.int .u32)))),(5,sI)],[(.ret,[(4,sB)]),(.exit 0,[])],fun n x=>g234L0 m n x.1 x.2.1 x.2.2.1⟩
theorem g234L0ok {E} (hE:EO E 26 g234H) (n):LO E g234B0 ((g234L0X m).at n):=lk hE noF (g234L0X m) n
theorem g234ok:FO (g234T m):=f1' g234H (g234T m) func234 noF fun _ h=>g234L0ok m h m
def g156H:Hints:=⟨[J [2,3],J' [(5,1)] [4]],[],[],[4],[],[[false]]⟩
def g156T:FunT:=⟨156,[.a (.agg [.bool,(.imm (.int .u32))]),.a (.agg [.bool,(.imm (.int .u32))])],sB,[sD,sD],fun x=>g156 m x.1.1 x.1.2.1 x.2.1.1 x.2.1.2.1⟩
theorem g156ok:FO (g156T m):=fk g156H (g156T m) func156 (AllF.mem (l:=[g234T m]) ⟨g234ok m,trivial⟩)
def g87H:Hints:=⟨[J [2,3],J' [(5,1),(12,1)] [4]],[],[],[4],[],[[false]]⟩
def g87T:FunT:=⟨87,[.a (.agg [.bool,.bool,(.imm (.int .u32)),(.int .i64)]),.a (.agg [.bool,.bool,(.imm (.int .u32)),(.int .i64)])],sB,[sD,sD],fun x=>g87 m x.1.1 x.1.2.1 x.1.2.2.1 x.1.2.2.2.1 x.2.1.1 x.2.1.2.1 x.2.1.2.2.1 x.2.1.2.2.2.1⟩
theorem g87ok:FO (g87T m):=fk g87H (g87T m) func87 (AllF.mem (l:=[g156T m]) ⟨g156ok m,trivial⟩)
def g32H:Hints:=⟨[J [2,3],J [4]],[],[],[4],[],[[false]]⟩
def g32T:FunT:=⟨32,[.a (.agg [.bool,.bool,(.imm (.int .u32)),(.int .i64)]),.a (.agg [.bool,.bool,(.imm (.int .u32)),(.int .i64)])],sB,[sD,sD],fun x=>g32 m x.1.1 x.1.2.1 x.1.2.2.1 x.1.2.2.2.1 x.2.1.1 x.2.1.2.1 x.2.1.2.2.1 x.2.1.2.2.2.1⟩
theorem g32ok:FO (g32T m):=fk g32H (g32T m) func32 (AllF.mem (l:=[g61T m,g87T m]) ⟨g61ok m,g87ok m,trivial⟩)
def g189H:Hints:=⟨[J [0],J [0,3],J [0,3,9,10,11],J [0,3,9,10,11,12],J [0,3,5,9,10,11],J' [(2,1),(8,1)] [0,3,5,9,10,11,28],J [2],J' [(1,1)] [0,3,9,10,11],J' [(1,1)] [0,3,9,10,11],J [2]],[(0,[0,3,9,10,11])],[(0,[]),(1,[0,3,9,10,11])],[2],[],[[false]]⟩
def g189T:FunT:=⟨189,[sL],sB,[sD],fun x=>g189 m x.1⟩
noncomputable def g189C:Code:=codeOf f189
noncomputable def g189B0:Code:=qo g189C 0 0
def g189L0X:LT:=⟨0,[(0,sL),(3,.a (.c (.nm 0 .bool))),(9,sL),(10,sI),(11,sI)],[(.ret,[(2,sB)]),(.exit 0,[])],fun n x=>g189L0 m n x.1 x.2.1 x.2.2.1 x.2.2.2.1 x.2.2.2.2.1⟩
theorem g189L0ok {E} (hE:EO E 33 g189H) (n):LO E g189B0 ((g189L0X m).at n):=lk hE noF (g189L0X m) n
theorem g189ok:FO (g189T m):=f1' g189H (g189T m) func189 noF fun _ h=>g189L0ok m h m
def g190H:Hints:=⟨[J [1],J [1,4],J [1,4,5,6],J [1,4,5,6,10,11,12],J [1,4,5,6,10,11,12,13],J [1,4,5,6,8,10,11,12],J' [(2,1),(6,1)] [1,4,5,6,8,10,11,12,28],J [2,3],J' [(0,1)] [1,4,5,6,8,10,11,12],J' [(0,1)] [1,4,5,6,8,10,11,12],J' [(0,1),(1,1)] [1,4,5,6,10,11,12],J' [(1,1)] [1,4,5,6,10,11,12],J' [(0,1),(1,1),(6,1),(7,1)] [2,3]],[(0,[1,4,5,6,10,11,12])],[(0,[1,4,5,6]),(1,[1,4,5,6,10,11,12])],[2,3],[],[[true],[false]]⟩
def g190T:FunT:=⟨190,[.a (.agg [(.imm (.int .i64)),(.imm (.int .i64)),(.imm (.int .u64)),(.imm (.int .i64)),(.imm (.int .i64)),(.imm (.int .u64)),(.int .i64)])],.tup [(.c (.nm 0 (.int .i64))),(.c .bool)],[sD],fun x=>g190 m x.1.1 x.1.2.1 x.1.2.2.1 x.1.2.2.2.1 x.1.2.2.2.2.1 x.1.2.2.2.2.2.1 x.1.2.2.2.2.2.2.1⟩
noncomputable def g190C:Code:=codeOf f190
noncomputable def g190B0:Code:=qo g190C 0 0
def g190L0X:LT:=⟨0,[(1,sX 0 [iL,iL,.imm (.int .u64),iL,iL,.imm (.int .u64),iI]),(4,sN 1),(5,sI),(6,sI),(10,sL),(11,sI),(12,sI)],[(.ret,[(2,sN 0),(3,sB)]),(.exit 0,[(1,sX 0 [iL,iL,.imm (.int .u64),iL,iL,.imm (.int .u64),iI]),(4,sN 1),(5,sI),(6,sI)])],fun n x=>g190L0 m n x.1.1 x.1.2.1 x.1.2.2.1 x.1.2.2.2.1 x.1.2.2.2.2.1 x.1.2.2.2.2.2.1 x.1.2.2.2.2.2.2.1 x.2.1 x.2.2.1 x.2.2.2.1 x.2.2.2.2.1 x.2.2.2.2.2.1 x.2.2.2.2.2.2.1⟩
theorem g190L0ok {E} (hE:EO E 55 g190H) (n):LO E g190B0 ((g190L0X m).at n):=lk hE noF (g190L0X m) n
theorem g190ok:FO (g190T m):=f1' g190H (g190T m) func190 noF fun _ h=>g190L0ok m h m
def g191H:Hints:=⟨[J [1,2],J [1,2,5],J' [(5,1)] [1,2,5,31],J [4],J' [(0,1)] [2,5,32,33,34],J [2,5,32,33,34,35],J [2,5,6,7,32,33,34],J' [(3,1)] [2,5,7,8,32,33,34],J' [(0,1)] [2,5,8,9,32,33,34],J [2,5,8,9,32,33,34,50],J' [(0,1)] [2,5,8,9,32,33,34],J' [(12,1)] [2,5,8,9,32,33,34,76],J [4],J [2,5,8,9,10,32,33,34],J [2,5,8,9,10,32,33,34,91,92,93],J [2,5,8,9,10,32,33,34,91,92,93,94],J [2,5,8,9,10,12,32,33,34,91,92,93],J' [(1,1),(3,1)] [2,5,8,9,12,32,33,34,91,92,93,104],J [4],J' [(0,1)] [2,5,8,9,10,32,33,34,91,92,93],J' [(1,1)] [2,5,8,9,10,32,33,34,91,92,93],J' [(1,1)] [2,5,32,33,34],J [4]],[(0,[2,5,32,33,34]),(2,[2,5,8,9,32,33,34]),(4,[2,5,8,9,10,32,33,34,91,92,93])],[(0,[]),(1,[2,5,32,33,34]),(2,[2,5,32,33,34]),(3,[2,5,8,9,32,33,34]),(4,[2,5,8,9,32,33,34]),(5,[2,5,8,9,10,32,33,34,91,92,93])],[4],[],[[false]]⟩
def g191T:FunT:=⟨191,[.a (.agg [(.imm (.int .i64)),(.imm (.int .i64)),(.imm (.int .u64)),(.imm (.int .i64)),(.imm (.int .i64)),(.imm (.int .u64)),(.int .i64)]),sL],sB,[sD,sD],fun x=>g191 m x.1.1 x.1.2.1 x.1.2.2.1 x.1.2.2.2.1 x.1.2.2.2.2.1 x.1.2.2.2.2.2.1 x.1.2.2.2.2.2.2.1 x.2.1⟩
noncomputable def g191C:Code:=codeOf f191
noncomputable def g191B0:Code:=qo g191C 0 0
noncomputable def g191B2:Code:=qo g191B0 0 0
noncomputable def g191B4:Code:=qo g191B2 2 0
def g191L2X:LT:=⟨4,[(2,sX 0 [iL,iL,.imm (.int .u64),iL,iL,.imm (.int .u64),iI]),(5,sI),(8,sI),(9,sI),(10,sI),(32,sL),(33,sI),(34,sI),(91,sL),(92,sI),(93,sI)],[(.ret,[(4,sB)]),(.exit 4,[(2,sX 0 [iL,iL,.imm (.int .u64),iL,iL,.imm (.int .u64),iI]),(5,sI),(8,sI),(9,sI),(32,sL),(33,sI),(34,sI)])],fun n x=>g191L2 m n x.1.1 x.1.2.1 x.1.2.2.1 x.1.2.2.2.1 x.1.2.2.2.2.1 x.1.2.2.2.2.2.1 x.1.2.2.2.2.2.2.1 x.2.1 x.2.2.1 x.2.2.2.1 x.2.2.2.2.1 x.2.2.2.2.2.1 x.2.2.2.2.2.2.1 x.2.2.2.2.2.2.2.1 x.2.2.2.2.2.2.2.2.1 x.2.2.2.2.2.2.2.2.2.1 x.2.2.2.2.2.2.2.2.2.2.1⟩
theorem g191L2ok {E} (hE:EO E 108 g191H) (n):LO E g191B4 ((g191L2X m).at n):=lk hE noF (g191L2X m) n
def g191L1X:LT:=⟨2,[(2,sX 0 [iL,iL,.imm (.int .u64),iL,iL,.imm (.int .u64),iI]),(5,sI),(8,sI),(9,sI),(32,sL),(33,sI),(34,sI)],[(.ret,[(4,sB)]),(.exit 2,[(2,sX 0 [iL,iL,.imm (.int .u64),iL,iL,.imm (.int .u64),iI]),(5,sI),(32,sL),(33,sI),(34,sI)])],fun n x=>g191L1 m n x.1.1 x.1.2.1 x.1.2.2.1 x.1.2.2.2.1 x.1.2.2.2.2.1 x.1.2.2.2.2.2.1 x.1.2.2.2.2.2.2.1 x.2.1 x.2.2.1 x.2.2.2.1 x.2.2.2.2.1 x.2.2.2.2.2.1 x.2.2.2.2.2.2.1⟩
theorem g191L1ok {E} (hE:EO E 108 g191H) (n):LO E g191B2 ((g191L1X m).at n):=
 lok hmix htt hE noF (L:=[(g191L2X m).at m]) (g191L1X m) (l:=[(4,g191B4)]) kR (fun _ _=>⟨ql ⟨yb (g191L2ok m hE m),trivial⟩,trivial⟩) (fun n x=>kR) (fun _=>kR) n
def g191L0X:LT:=⟨0,[(2,sX 0 [iL,iL,.imm (.int .u64),iL,iL,.imm (.int .u64),iI]),(5,sI),(32,sL),(33,sI),(34,sI)],[(.ret,[(4,sB)]),(.exit 0,[])],fun n x=>g191L0 m n x.1.1 x.1.2.1 x.1.2.2.1 x.1.2.2.2.1 x.1.2.2.2.2.1 x.1.2.2.2.2.2.1 x.1.2.2.2.2.2.2.1 x.2.1 x.2.2.1 x.2.2.2.1 x.2.2.2.2.1⟩
theorem g191L0ok {E} (hE:EO E 108 g191H) (n):LO E g191B0 ((g191L0X m).at n):=
 lok hmix htt hE noF (L:=[(g191L1X m).at m]) (g191L0X m) (l:=[(2,g191B2)]) kR (fun _ _=>⟨ql ⟨yb (g191L1ok m hE m),trivial⟩,trivial⟩) (fun n x=>kR) (fun _=>kR) n
theorem g191ok:FO (g191T m):=f1' g191H (g191T m) func191 noF fun _ h=>g191L0ok m h m
def g192H:Hints:=⟨[J [1],J' [(0,6)] [1,3],J [1,3,4],J [1,3,4,9,10,11],J [1,3,4,9,10,11,12],J [1,3,4,6,9,10,11],J [1,3,4,6,7,9,10,11],J' [(0,1)] [1,3,4,7,9,10,11,17,18],J [1,3,4,7,9,10,11,17,18,19],J' [(0,1)] [1,3,4,7,9,10,11,17,18],J' [(0,1)] [1,3,4,7,9,10,11,17,18],J' [(1,1)] [1,3,4,7,9,10,11,17,18],J' [(0,1),(1,1),(2,6),(3,6)] [1,3,4,9,10,11],J' [(1,1)] [1,3,4,9,10,11],J' [(0,1)] [2]],[(0,[1,3,4,9,10,11]),(2,[1,3,4,7,9,10,11,17,18])],[(0,[3]),(1,[1,3,4,9,10,11]),(2,[1,3,4,7,9,10,11]),(3,[1,3,4,7,9,10,11,17,18])],[2],[],[[false]]⟩
def g192T:FunT:=⟨192,[.a (.agg [(.imm (.int .i64)),(.imm (.int .i64)),(.imm (.int .u64)),(.imm (.int .i64)),(.imm (.int .i64)),(.imm (.int .u64)),(.int .i64)])],.a (.c (.imm (.sl false (.pr .bool (.pr (.pr .bool (.sl false (.int .u32))) (.int .i64)))))),[sD],fun x=>g192 m x.1.1 x.1.2.1 x.1.2.2.1 x.1.2.2.2.1 x.1.2.2.2.2.1 x.1.2.2.2.2.2.1 x.1.2.2.2.2.2.2.1⟩
noncomputable def g192C:Code:=codeOf f192
noncomputable def g192B0:Code:=qo g192C 0 0
noncomputable def g192B2:Code:=qo g192B0 0 0
theorem g192K:FL [g112T m]:=AllF.mem ⟨g112ok m,trivial⟩
def g192L1X:LT:=⟨2,[(1,sX 0 [iL,iL,.imm (.int .u64),iL,iL,.imm (.int .u64),iI]),(3,.a (.c (.dp 1 (.pr .bool (.pr (.pr .bool (.sl false (.int .u32))) (.int .i64)))))),(4,sI),(7,.a (.c (.nm 2 (.pr .bool (.pr (.pr .bool (.sl false (.int .u32))) (.int .i64)))))),(9,sL),(10,sI),(11,sI),(17,sI),(18,sI)],[(.exit 2,[(1,sX 0 [iL,iL,.imm (.int .u64),iL,iL,.imm (.int .u64),iI]),(3,.a (.c (.dp 1 (.pr .bool (.pr (.pr .bool (.sl false (.int .u32))) (.int .i64)))))),(4,sI),(7,.a (.c (.nm 2 (.pr .bool (.pr (.pr .bool (.sl false (.int .u32))) (.int .i64)))))),(9,sL),(10,sI),(11,sI)])],fun n x=>g192L1 m n x.1.1 x.1.2.1 x.1.2.2.1 x.1.2.2.2.1 x.1.2.2.2.2.1 x.1.2.2.2.2.2.1 x.1.2.2.2.2.2.2.1 x.2.1 x.2.2.1 x.2.2.2.1 x.2.2.2.2.1 x.2.2.2.2.2.1 x.2.2.2.2.2.2.1 x.2.2.2.2.2.2.2.1 x.2.2.2.2.2.2.2.2.1⟩
theorem g192L1ok {E} (hE:EO E 38 g192H) (n):LO E g192B2 ((g192L1X m).at n):=lk hE (g192K m) (g192L1X m) n
def g192L0X:LT:=⟨0,[(1,sX 0 [iL,iL,.imm (.int .u64),iL,iL,.imm (.int .u64),iI]),(3,.a (.c (.dp 1 (.pr .bool (.pr (.pr .bool (.sl false (.int .u32))) (.int .i64)))))),(4,sI),(9,sL),(10,sI),(11,sI)],[(.exit 0,[(3,.a (.c (.dp 0 (.pr .bool (.pr (.pr .bool (.sl false (.int .u32))) (.int .i64))))))])],fun n x=>g192L0 m n x.1.1 x.1.2.1 x.1.2.2.1 x.1.2.2.2.1 x.1.2.2.2.2.1 x.1.2.2.2.2.2.1 x.1.2.2.2.2.2.2.1 x.2.1 x.2.2.1 x.2.2.2.1 x.2.2.2.2.1 x.2.2.2.2.2.1⟩
theorem g192L0ok {E} (hE:EO E 38 g192H) (n):LO E g192B0 ((g192L0X m).at n):=
 lok hmix htt hE (g192K m) (L:=[(g192L1X m).at m]) (g192L0X m) (l:=[(2,g192B2)]) kR (fun _ _=>⟨ql ⟨yb (g192L1ok m hE m),trivial⟩,trivial⟩) (fun n x=>kR) (fun _=>kR) n
theorem g192ok:FO (g192T m):=f1' g192H (g192T m) func192 (g192K m) fun _ h=>g192L0ok m h m
def g194H:Hints:=⟨[J [0,2],J [2]],[],[],[2],[],[[false,false,false,false]]⟩
def g194T:FunT:=⟨194,[.a (.c (.imm (.pr .bool (.pr (.pr .bool (.sl false (.int .u32))) (.int .i64)))))],.a (.agg [.bool,.bool,(.imm (.int .u32)),(.int .i64)]),[sD],fun x=>g194 m x.1⟩
theorem g194ok:FO (g194T m):=fk g194H (g194T m) func194 (AllF.mem (l:=[g147T m,g83T m]) ⟨g147ok m,g83ok m,trivial⟩)
def g193H:Hints:=⟨[J [1],J' [(2,1)] [1],J [2]],[],[],[2],[],[[false]]⟩
def g193T:FunT:=⟨193,[.a (.agg [.bool,.bool,(.imm (.int .u32)),(.int .i64)])],sI,[sD],fun x=>g193 m x.1.1 x.1.2.1 x.1.2.2.1 x.1.2.2.2.1⟩
theorem g193ok:FO (g193T m):=fk g193H (g193T m) func193 (AllF.mem (l:=[g154T m,g226T m]) ⟨g154ok m,g226ok m,trivial⟩)
def g104H:Hints:=⟨[J [1],J [1,3],J [1,3,15],J [2],J [1,3,18],J [2],J' [(3,1),(6,1)] [1,23],J [2],J' [(2,1)] [1,4,5],J' [(0,1),(2,1),(7,1),(9,1)] [1,56],J [2],J [1,61,62,63],J [1,61,62,63,64],J [1,7,61,62,63],J' [(0,1)] [1,61,62,63,67,68,69],J [1,61,62,63,67,68,69,70],J [1,9,61,62,63,67,68,69],J' [(0,1)] [1,61,62,63,67,68,69,75],J [2],J' [(1,1)] [1,61,62,63,67,68,69],J' [(1,1)] [1,61,62,63],J [79,80,81],J [79,80,81,82],J [11,79,80,81],J' [(3,1)] [79,80,81,93],J [2],J' [(1,1)] [79,80,81],J [2]],[(1,[1,61,62,63]),(3,[1,61,62,63,67,68,69]),(5,[79,80,81])],[(0,[1]),(1,[1]),(2,[1,61,62,63]),(3,[1,61,62,63]),(4,[1,61,62,63,67,68,69]),(5,[]),(6,[79,80,81])],[2],[],[[false]]⟩
def g104T:FunT:=⟨104,[.a (.agg [(.imm (.int .i64)),(.imm (.int .i64)),(.imm (.int .u64)),(.imm (.int .i64)),(.imm (.int .i64)),(.imm (.int .u64)),(.int .i64)])],sI,[sD],fun x=>g104 m x.1.1 x.1.2.1 x.1.2.2.1 x.1.2.2.2.1 x.1.2.2.2.2.1 x.1.2.2.2.2.2.1 x.1.2.2.2.2.2.2.1⟩
noncomputable def g104C:Code:=codeOf f104
noncomputable def g104B1:Code:=qo g104C 0 0
noncomputable def g104B3:Code:=qo g104B1 1 0
noncomputable def g104B5:Code:=qo g104C 0 1
theorem g104K:FL [g189T m,g190T m,g191T m,g47T m,g192T m,g194T m,g193T m]:=AllF.mem ⟨g189ok m,g190ok m,g191ok m,g47ok m,g192ok m,g194ok m,g193ok m,trivial⟩
def g104L2X:LT:=⟨5,[(79,.a (.c (.imm (.sl false (.pr .bool (.pr (.pr .bool (.sl false (.int .u32))) (.int .i64))))))),(80,sI),(81,sI)],[(.ret,[(2,sI)]),(.exit 5,[])],fun n x=>g104L2 m n x.1 x.2.1 x.2.2.1⟩
theorem g104L2ok {E} (hE:EO E 95 g104H) (n):LO E g104B5 ((g104L2X m).at n):=lk hE (g104K m) (g104L2X m) n
def g104L1X:LT:=⟨3,[(1,sX 0 [iL,iL,.imm (.int .u64),iL,iL,.imm (.int .u64),iI]),(61,.a (.c (.nm 1 (.sl false (.int .u64))))),(62,sI),(63,sI),(67,.a (.c (.imm (.int .u64)))),(68,sI),(69,sI)],[(.ret,[(2,sI)]),(.exit 3,[(1,sX 0 [iL,iL,.imm (.int .u64),iL,iL,.imm (.int .u64),iI]),(61,.a (.c (.nm 1 (.sl false (.int .u64))))),(62,sI),(63,sI)])],fun n x=>g104L1 m n x.1.1 x.1.2.1 x.1.2.2.1 x.1.2.2.2.1 x.1.2.2.2.2.1 x.1.2.2.2.2.2.1 x.1.2.2.2.2.2.2.1 x.2.1 x.2.2.1 x.2.2.2.1 x.2.2.2.2.1 x.2.2.2.2.2.1 x.2.2.2.2.2.2.1⟩
theorem g104L1ok {E} (hE:EO E 95 g104H) (n):LO E g104B3 ((g104L1X m).at n):=lk hE (g104K m) (g104L1X m) n
def g104L0X:LT:=⟨1,[(1,sX 0 [iL,iL,.imm (.int .u64),iL,iL,.imm (.int .u64),iI]),(61,.a (.c (.nm 1 (.sl false (.int .u64))))),(62,sI),(63,sI)],[(.ret,[(2,sI)]),(.exit 1,[(1,sX 0 [iL,iL,.imm (.int .u64),iL,iL,.imm (.int .u64),iI])])],fun n x=>g104L0 m n x.1.1 x.1.2.1 x.1.2.2.1 x.1.2.2.2.1 x.1.2.2.2.2.1 x.1.2.2.2.2.2.1 x.1.2.2.2.2.2.2.1 x.2.1 x.2.2.1 x.2.2.2.1⟩
theorem g104L0ok {E} (hE:EO E 95 g104H) (n):LO E g104B1 ((g104L0X m).at n):=
 lok hmix htt hE (g104K m) (L:=[(g104L1X m).at m]) (g104L0X m) (l:=[(3,g104B3)]) kR (fun _ _=>⟨ql ⟨yb (g104L1ok m hE m),trivial⟩,trivial⟩) (fun n x=>kR) (fun _=>kR) n
theorem g104ok:FO (g104T m):=
 fok hmix htt (H:=g104H) (g104T m) func104 kR (g104K m) (L:=[(g104L0X m).at m,(g104L2X m).at m]) (l:=[(1,g104B1),(5,g104B5)]) kR (fun _ hE _ _=>⟨ql ⟨yb (g104L0ok m hE m),nb rfl,trivial⟩,ql ⟨nb rfl,yb (g104L2ok m hE m),trivial⟩,trivial⟩) (fun x=>kR)
def g206H:Hints:=⟨[J [1,2],J' [(2,1)] [1,2],J [2]],[],[],[2],[],[[false,false,false,false]]⟩
def g206T:FunT:=⟨206,[.a (.agg [.bool,.bool,(.imm (.int .u32)),(.int .i64)])],.a (.agg [.bool,.bool,(.imm (.int .u32)),(.int .i64)]),[sD],fun x=>g206 m x.1.1 x.1.2.1 x.1.2.2.1 x.1.2.2.2.1⟩
theorem g206ok:FO (g206T m):=fk g206H (g206T m) func206 (AllF.mem (l:=[g154T m]) ⟨g154ok m,trivial⟩)
def g294H:Hints:=⟨[J [0,1],J [0,1,6],J [0,1,6,7],J [0,1,6,7,8],J [0,1,6,7,8,17],J' [(0,1)] [0,1,6,7,8],J' [(0,1)] [0,1,6,8,9],J [0,1,6,8,9],J' [(0,1)] [0,1,6,7,8],J' [(0,1),(2,1)] [4,5]],[(0,[0,1,6,7,8])],[(0,[6,7]),(1,[0,1,6,7,8])],[4,5],[],[[false],[false]]⟩
def g294T:FunT:=⟨294,[.a (.c (.imm (.int .u32))),.a (.c (.int .u32))],.tup [(.c (.imm (.int .u32))),(.c (.int .u32))],[sD,sD],fun x=>g294 m x.1 x.2.1⟩
noncomputable def g294C:Code:=codeOf f294
noncomputable def g294B0:Code:=qo g294C 0 0
theorem g294K:FL [g228T m]:=AllF.mem ⟨g228ok m,trivial⟩
def g294L0X:LT:=⟨0,[(0,.a (.c (.imm (.int .u32)))),(1,.a (.c (.int .u32))),(6,.a (.c (.nm 0 (.int .u32)))),(7,sU),(8,sI)],[(.exit 0,[(6,.a (.c (.nm 0 (.int .u32)))),(7,sU)])],fun n x=>g294L0 m n x.1 x.2.1 x.2.2.1 x.2.2.2.1 x.2.2.2.2.1⟩
theorem g294L0ok {E} (hE:EO E 44 g294H) (n):LO E g294B0 ((g294L0X m).at n):=lk hE (g294K m) (g294L0X m) n
theorem g294ok:FO (g294T m):=f1' g294H (g294T m) func294 (g294K m) fun _ h=>g294L0ok m h m
def g280H:Hints:=⟨[J [0],J' [(0,1)] [2]],[],[],[2],[],[[false]]⟩
def g280T:FunT:=⟨280,[.a (.c (.int .u32))],sI,[sD],fun x=>g280 m x.1⟩
theorem g280ok:FO (g280T m):=fk g280H (g280T m) func280 (AllF.mem (l:=[g216T m]) ⟨g216ok m,trivial⟩)
def g295H:Hints:=⟨[J [0,1],J [0,1,5],J [0,1,5,6],J [0,1,5,7,8],J' [(2,1)] [0,1,5,7,8,71],J' [(0,1)] [0,1,5,7,8],J' [(0,1)] [0,1,5,7,8],J [0,1,5,7,8,83],J [0,1,5,7,9,10],J [0,1,5,7,9,10,84,85,86],J [0,1,5,7,9,10,84,85,86,87],J [0,1,5,7,9,10,11,12,84,85,86],J' [(1,1),(4,1)] [0,1,5,7,10,11,13,84,85,86],J [0,1,5,7,9,10,11,13,84,85,86],J' [(5,1),(8,1)] [0,1,5,7,9,11,14,84,85,86],J' [(1,1)] [0,1,5,7,9,14,84,85,86],J' [(0,1)] [0,1,5,7,9,10,84,85,86],J' [(1,1)] [0,1,5,7,9,10,84,85,86],J' [(5,1),(7,1)] [0,1,5,7,15],J [0,1,5,7,15],J' [(0,1)] [0,1,5,7,137],J' [(0,1)] [0,4],J [0,1,5,7,9],J' [(0,1)] [0,5,7,9,140,141,142],J [0,5,7,9,140,141,142,143],J [0,5,7,9,16,17,140,141,142],J' [(5,1),(8,1)] [0,5,7,16,18,140,141,142],J' [(1,1)] [0,5,7,18,140,141,142],J' [(0,1)] [0,5,7,9,140,141,142],J' [(1,1)] [0,5,7,9,140,141,142],J' [(1,1),(4,1)] [0,7],J' [(0,1)] [0,4]],[(0,[0,1,5,7,8]),(2,[0,1,5,7,9,10,84,85,86]),(4,[0,5,7,9,140,141,142])],[(0,[0,1,5,7]),(1,[0,1,5,7,8]),(2,[0,1,5,7,9,10]),(3,[0,1,5,7,9,10,84,85,86]),(4,[0,5,7,9]),(5,[0,5,7,9,140,141,142])],[0,4],[0],[[false]]⟩
def g295T:FunT:=⟨295,[.a (.c (.wn 0 (.int .u32))),.a (.c (.imm (.int .u32)))],.a (.c (.int .u32)),[.a (.c (.wn 0 (.int .u32))),sD],fun x=>g295 m x.1 x.2.1⟩
noncomputable def g295C:Code:=codeOf f295
noncomputable def g295B0:Code:=qo g295C 0 0
noncomputable def g295B2:Code:=qo g295C 0 1
noncomputable def g295B4:Code:=qo g295C 0 2
def g295L2X:LT:=⟨4,[(0,.a (.c (.wn 0 (.int .u32)))),(5,sI),(7,sU),(9,sU),(140,.a (.c (.imm (.int .u32)))),(141,sI),(142,sI)],[(.exit 4,[(0,.a (.c (.wn 0 (.int .u32)))),(5,sI),(7,sU),(9,sU)])],fun n x=>g295L2 m n x.1 x.2.1 x.2.2.1 x.2.2.2.1 x.2.2.2.2.1 x.2.2.2.2.2.1 x.2.2.2.2.2.2.1⟩
theorem g295L2ok {E} (hE:EO E 177 g295H) (n):LO E g295B4 ((g295L2X m).at n):=lk hE noF (g295L2X m) n
def g295L1X:LT:=⟨2,[(0,.a (.c (.wn 0 (.int .u32)))),(1,.a (.c (.imm (.int .u32)))),(5,sI),(7,sU),(9,sU),(10,sU),(84,.a (.c (.imm (.int .u32)))),(85,sI),(86,sI)],[(.exit 2,[(0,.a (.c (.wn 0 (.int .u32)))),(1,.a (.c (.imm (.int .u32)))),(5,sI),(7,sU),(9,sU),(10,sU)])],fun n x=>g295L1 m n x.1 x.2.1 x.2.2.1 x.2.2.2.1 x.2.2.2.2.1 x.2.2.2.2.2.1 x.2.2.2.2.2.2.1 x.2.2.2.2.2.2.2.1 x.2.2.2.2.2.2.2.2.1⟩
theorem g295L1ok {E} (hE:EO E 177 g295H) (n):LO E g295B2 ((g295L1X m).at n):=lk hE noF (g295L1X m) n
def g295L0X:LT:=⟨0,[(0,.a (.c (.wn 0 (.int .u32)))),(1,.a (.c (.imm (.int .u32)))),(5,sI),(7,sU),(8,sU)],[(.exit 0,[(0,.a (.c (.wn 0 (.int .u32)))),(1,.a (.c (.imm (.int .u32)))),(5,sI),(7,sU)])],fun n x=>g295L0 m n x.1 x.2.1 x.2.2.1 x.2.2.2.1 x.2.2.2.2.1⟩
theorem g295L0ok {E} (hE:EO E 177 g295H) (n):LO E g295B0 ((g295L0X m).at n):=lk hE noF (g295L0X m) n
theorem g295ok:FO (g295T m):=
 fok hmix htt (H:=g295H) (g295T m) func295 kR noF (L:=[(g295L0X m).at m,(g295L1X m).at m,(g295L2X m).at m]) (l:=[(0,g295B0),(2,g295B2),(4,g295B4)]) kR (fun _ hE _ _=>⟨ql ⟨yb (g295L0ok m hE m),nb rfl,nb rfl,trivial⟩,ql ⟨nb rfl,yb (g295L1ok m hE m),nb rfl,trivial⟩,ql ⟨nb rfl,nb rfl,yb (g295L2ok m hE m),trivial⟩,trivial⟩) (fun x=>kR)
def g279H:Hints:=⟨[J [0,1],J [0,1,16],J' [(0,1)] [4,5],J [0,1,21],J' [(0,1),(1,1),(5,1)] [6,7],J' [(0,1),(1,1)] [4,5],J [0,1,8],J' [(0,1)] [0,8,9],J [0,8,9,10],J' [(1,1)] [8,9,10],J [8,9,10,11],J [4,8,9,10,11],J [4,8,9,10,11,12],J [4,8,9,10,11,12,64],J' [(0,1)] [4,8,9,10,11,12],J' [(10,300)] [4,8,9,10,11,12],J' [(0,1),(1,1),(4,1),(6,1)] [4,5],J' [(0,1),(2,1)] [4,5]],[(0,[4,8,9,10,11,12])],[(0,[4,8,10,11]),(1,[4,8,9,10,11,12])],[4,5],[],[[false],[false]]⟩
def g279T:FunT:=⟨279,[.a (.c (.imm (.int .u32))),.a (.c (.imm (.int .u32)))],.tup [(.c (.imm (.int .u32))),(.c (.imm (.int .u32)))],[sD,sD],fun x=>g279 m x.1 x.2.1⟩
noncomputable def g279C:Code:=codeOf f279
noncomputable def g279B0:Code:=qo g279C 0 0
theorem g279K:FL [g227T m,g233T m,g294T m,g228T m,g280T m,g282T m,g295T m,g283T m]:=AllF.mem ⟨g227ok m,g233ok m,g294ok m,g228ok m,g280ok m,g282ok m,g295ok m,g283ok m,trivial⟩
def g279L0X:LT:=⟨0,[(4,.a (.c (.nm 0 (.int .u32)))),(8,sI),(9,.a (.c (.imm (.int .u32)))),(10,.a (.c (.nm 1 (.int .u32)))),(11,sI),(12,sI)],[(.exit 0,[(4,.a (.c (.nm 0 (.int .u32)))),(8,sI),(10,.a (.c (.nm 1 (.int .u32)))),(11,sI)])],fun n x=>g279L0 m n x.1 x.2.1 x.2.2.1 x.2.2.2.1 x.2.2.2.2.1 x.2.2.2.2.2.1⟩
theorem g279L0ok {E} (hE:EO E 91 g279H) (n):LO E g279B0 ((g279L0X m).at n):=lk hE (g279K m) (g279L0X m) n
theorem g279ok:FO (g279T m):=f1' g279H (g279T m) func279 (g279K m) fun _ h=>g279L0ok m h m
def g278H:Hints:=⟨[J [0],J [0,10],J [2],J [0,3],J' [(3,1)] [0,3,4],J' [(1,1),(4,1)] [0,3,6],J [0,3,6,33],J' [(0,1)] [2],J' [(0,1)] [0,3]],[(0,[0,3])],[(0,[2]),(1,[0,3])],[2],[],[[false]]⟩
def g278T:FunT:=⟨278,[.a (.c (.imm (.int .u32)))],.a (.c (.imm (.int .u32))),[sD],fun x=>g278 m x.1⟩
noncomputable def g278C:Code:=codeOf f278
noncomputable def g278B0:Code:=qo g278C 0 0
theorem g278K:FL [g269T m,g282T m,g279T m,g264T m,g283T m,g227T m]:=AllF.mem ⟨g269ok m,g282ok m,g279ok m,g264ok m,g283ok m,g227ok m,trivial⟩
def g278L0X:LT:=⟨0,[(0,.a (.c (.imm (.int .u32)))),(3,.a (.c (.imm (.int .u32))))],[(.ret,[(2,.a (.c (.imm (.int .u32))))])],fun n x=>g278L0 m n x.1 x.2.1⟩
theorem g278L0ok {E} (hE:EO E 36 g278H) (n):LO E g278B0 ((g278L0X m).at n):=lk hE (g278K m) (g278L0X m) n
theorem g278ok:FO (g278T m):=f1' g278H (g278T m) func278 (g278K m) fun _ h=>g278L0ok m h m
def g257H:Hints:=⟨[J [1,2],J [1,2,6],J [2,3],J [2,3]],[],[],[2,3],[],[[false,false],[false]]⟩
def g257T:FunT:=⟨257,[.a (.agg [.bool,(.imm (.int .u32))])],.tup [(.agg [.bool,(.imm (.int .u32))]),(.c (.int .i64))],[sD],fun x=>g257 m x.1.1 x.1.2.1⟩
theorem g257ok:FO (g257T m):=fk g257H (g257T m) func257 (AllF.mem (l:=[g226T m,g228T m,g278T m,g221T m]) ⟨g226ok m,g228ok m,g278ok m,g221ok m,trivial⟩)
def g209H:Hints:=⟨[J [1,2,4],J' [(0,1)] [2,4,5],J [2,4,5,22],J' [(0,1)] [2,4,5],J [2,4,5,6],J' [(2,1)] [2,4,5,6,7],J' [(3,1)] [4]],[],[],[4],[],[[false,false,false,false,false]]⟩
def g209T:FunT:=⟨209,[.a (.agg [.bool,.bool,(.imm (.int .u32)),(.int .i64)]),sI],.a (.agg [.bool,.bool,(.imm (.int .u32)),(.int .i64),.bool]),[sD,sD],fun x=>g209 m x.1.1 x.1.2.1 x.1.2.2.1 x.1.2.2.2.1 x.2.1⟩
theorem g209ok:FO (g209T m):=fk g209H (g209T m) func209 (AllF.mem (l:=[g231T m,g225T m,g257T m,g223T m,g153T m]) ⟨g231ok m,g225ok m,g257ok m,g223ok m,g153ok m,trivial⟩)
def g252H:Hints:=⟨[J [1],J [2]],[],[],[2],[],[[false]]⟩
def g252T:FunT:=⟨252,[.a (.agg [.bool,.bool,(.imm (.int .u32)),(.int .i64),.bool])],sI,[sD],fun x=>g252 m x.1.1 x.1.2.1 x.1.2.2.1 x.1.2.2.2.1 x.1.2.2.2.2.1⟩
theorem g252ok:FO (g252T m):=fk g252H (g252T m) func252 (AllF.mem (l:=[g231T m]) ⟨g231ok m,trivial⟩)
def g293H:Hints:=⟨[J [2,3,4],J [2,3,4],J [4]],[],[],[4],[],[[false,false]]⟩
def g293T:FunT:=⟨293,[.a (.agg [.bool,(.imm (.int .u32))]),.a (.agg [.bool,(.imm (.int .u32))])],.a (.agg [.bool,(.imm (.int .u32))]),[sD,sD],fun x=>g293 m x.1.1 x.1.2.1 x.2.1.1 x.2.1.2.1⟩
theorem g293ok:FO (g293T m):=fk g293H (g293T m) func293 (AllF.mem (l:=[g224T m]) ⟨g224ok m,trivial⟩)
def g277H:Hints:=⟨[J [1,2,4],J [1,2,4,7],J' [(1,1)] [1,2,4,14],J [4,5,6],J [1,2,4],J [1,2,4,8],J' [(2,1)] [2,4,5,8],J' [(2,1)] [2,4,5,8,37],J [2,4,5,8],J' [(1,1),(5,1)] [4,5,6]],[],[],[4,5,6],[],[[false,false],[false],[false]]⟩
def g277T:FunT:=⟨277,[.a (.agg [.bool,.bool,(.imm (.int .u32)),(.int .i64),.bool]),sI],.tup [(.agg [.bool,(.imm (.int .u32))]),(.c (.int .i64)),(.c .bool)],[sD,sD],fun x=>g277 m x.1.1 x.1.2.1 x.1.2.2.1 x.1.2.2.2.1 x.1.2.2.2.2.1 x.2.1⟩
theorem g277ok:FO (g277T m):=fk g277H (g277T m) func277 (AllF.mem (l:=[g231T m,g232T m,g225T m,g293T m,g146T m,g153T m,g226T m]) ⟨g231ok m,g232ok m,g225ok m,g293ok m,g146ok m,g153ok m,g226ok m,trivial⟩)
def g254H:Hints:=⟨[J [1,2,3,6],J [1,2,3,6,7,8,9],J [1,2,3,6,7,8,9,16],J' [(3,1)] [2,3,6,7,8,9],J' [(1,1),(6,1)] [2,3,6,7,8,9],J [2,3,6,7,8,9,10],J' [(2,1),(5,1),(10,1)] [3,6,7,10],J' [(0,1)] [2,3,6,7,8,10,49],J [2,3,6,7,8,10,51],J [3,6,7,10],J [2,3,6,7,8,10,56],J [3,6,7,10],J' [(0,1)] [3,6,7,8,10,62],J' [(0,1)] [3,6,7,65],J [3,6,7],J [6,7,70],J [6,7],J [6]],[],[(0,[3,6,7,10])],[6],[],[[false,false]]⟩
def g254T:FunT:=⟨254,[.a (.agg [.bool,.bool,(.imm (.int .u32)),(.int .i64),.bool]),sI,sI],.a (.agg [.bool,(.imm (.int .u32))]),[sD,sD,sD],fun x=>g254 m x.1.1 x.1.2.1 x.1.2.2.1 x.1.2.2.2.1 x.1.2.2.2.2.1 x.2.1 x.2.2.1⟩
theorem g254ok:FO (g254T m):=fk g254H (g254T m) func254 (AllF.mem (l:=[g225T m,g212T m,g277T m,g146T m,g224T m,g226T m,g230T m]) ⟨g225ok m,g212ok m,g277ok m,g146ok m,g224ok m,g226ok m,g230ok m,trivial⟩)
def g253H:Hints:=⟨[J [1],J [1,4],J [1,4,13],J [2,3],J [1,4,5],J' [(0,1)] [1,5,14,15,16],J [1,5,14,15,16,17],J [1,5,6,7,14,15,16],J' [(0,1),(1,1),(3,1)] [1,5,14,15,16],J' [(1,1)] [1,5,14,15,16],J' [(2,1),(6,1)] [1,5,29],J' [(0,1)] [2,3],J' [(2,1),(6,1)] [5,45],J' [(0,1)] [2,3],J [2,3]],[(0,[1,5,14,15,16])],[(0,[1,5]),(1,[1,5,14,15,16]),(2,[])],[2,3],[],[[false],[false]]⟩
def g253T:FunT:=⟨253,[.a (.agg [.bool,(.imm (.int .u32))])],.tup [(.c (.int .i64)),(.c .bool)],[sD],fun x=>g253 m x.1.1 x.1.2.1⟩
noncomputable def g253C:Code:=codeOf f253
noncomputable def g253B0:Code:=qo g253C 0 0
theorem g253K:FL [g228T m]:=AllF.mem ⟨g228ok m,trivial⟩
def g253L0X:LT:=⟨0,[(1,sX 0 [.bool,.imm (.int .u32)]),(5,sU),(14,.a (.c (.imm (.int .u32)))),(15,sI),(16,sI)],[(.exit 0,[(1,sX 0 [.bool,.imm (.int .u32)]),(5,sU)])],fun n x=>g253L0 m n x.1.1 x.1.2.1 x.2.1 x.2.2.1 x.2.2.2.1 x.2.2.2.2.1⟩
theorem g253L0ok {E} (hE:EO E 59 g253H) (n):LO E g253B0 ((g253L0X m).at n):=lk hE (g253K m) (g253L0X m) n
theorem g253ok:FO (g253T m):=f1' g253H (g253T m) func253 (g253K m) fun _ h=>g253L0ok m h m
def g255H:Hints:=⟨[J [0,1],J' [(0,1)] [0,5],J' [(0,1)] [4],J' [(0,1)] [4]],[],[],[4],[],[[false]]⟩
def g255T:FunT:=⟨255,[sU,sB],sU,[sD,sD],fun x=>g255 m x.1 x.2.1⟩
theorem g255ok:FO (g255T m):=fk g255H (g255T m) func255 noF
def g256H:Hints:=⟨[J [0,1],J' [(2,1),(5,1),(10,1),(13,1)] [0,21],J' [(0,1)] [4],J' [(0,1)] [4]],[],[],[4],[],[[false]]⟩
def g256T:FunT:=⟨256,[sB,sI],sU,[sD,sD],fun x=>g256 m x.1 x.2.1⟩
theorem g256ok:FO (g256T m):=fk g256H (g256T m) func256 (AllF.mem (l:=[g255T m]) ⟨g255ok m,trivial⟩)
def g207H:Hints:=⟨[J [1,2],J [1,2,5],J' [(6,1)] [1,2,5,6],J' [(0,1)] [1,2,5,8],J [1,2,5,8,25],J' [(0,1)] [1,2,5,8],J [1,2,5,8,29],J' [(0,1)] [4],J [1,2,5,8,36],J' [(2,1)] [4],J' [(0,1),(4,1)] [4]],[],[],[4],[],[[false]]⟩
def g207T:FunT:=⟨207,[.a (.agg [.bool,.bool,(.imm (.int .u32)),(.int .i64),.bool]),sI],sU,[sD,sD],fun x=>g207 m x.1.1 x.1.2.1 x.1.2.2.1 x.1.2.2.2.1 x.1.2.2.2.2.1 x.2.1⟩
theorem g207ok:FO (g207T m):=fk g207H (g207T m) func207 (AllF.mem (l:=[g252T m,g254T m,g155T m,g253T m,g256T m,g255T m]) ⟨g252ok m,g254ok m,g155ok m,g253ok m,g256ok m,g255ok m,trivial⟩)
def g109H:Hints:=⟨[J [1,2],J [1,2],J' [(2,1)] [1,2,7],J [4],J [1,2,15],J [4],J' [(2,1)] [4]],[],[(0,[1,2])],[4],[],[[false]]⟩
def g109T:FunT:=⟨109,[.a (.agg [.bool,.bool,(.imm (.int .u32)),(.int .i64)]),sI],sU,[sD,sD],fun x=>g109 m x.1.1 x.1.2.1 x.1.2.2.1 x.1.2.2.2.1 x.2.1⟩
theorem g109ok:FO (g109T m):=fk g109H (g109T m) func109 (AllF.mem (l:=[g206T m,g193T m,g209T m,g207T m]) ⟨g206ok m,g193ok m,g209ok m,g207ok m,trivial⟩)
def g44H:Hints:=⟨[J [0],J [2]],[],[],[2],[],[[false]]⟩
def g44T:FunT:=⟨44,[.a (.c (.imm (.int .u64)))],sU,[sD],fun x=>g44 m x.1⟩
theorem g44ok:FO (g44T m):=fk g44H (g44T m) func44 (AllF.mem (l:=[g82T m,g109T m]) ⟨g82ok m,g109ok m,trivial⟩)
def g45H:Hints:=⟨[J [0],J' [(0,1),(2,1)] [3,4],J' [(2,1)] [3,4,10],J [2],J [3,4,17],J [2],J' [(0,1),(2,1),(3,1)] [20],J [2],J [2]],[],[(0,[])],[2],[],[[false]]⟩
def g45T:FunT:=⟨45,[sU],sI,[sD],fun x=>g45 m x.1⟩
theorem g45ok:FO (g45T m):=fk g45H (g45T m) func45 (AllF.mem (l:=[g110T m]) ⟨g110ok m,trivial⟩)
def g258H:Hints:=⟨[J [2,3,4,5],J [2,3,4,5,7],J [2,3,4,5,7,15],J [4,5,6],J' [(5,1)] [2,3,4,5,7,8,9],J' [(2,1)] [2,3,4,5,7,8,9,32],J' [(0,1),(3,1),(4,1)] [2,3,4,5,8,9],J' [(5,1),(7,1)] [4,5,6]],[],[],[4,5,6],[],[[false,false],[false,false],[false]]⟩
def g258T:FunT:=⟨258,[.a (.agg [.bool,(.imm (.int .u32))]),.a (.agg [.bool,(.imm (.int .u32))])],.tup [(.agg [.bool,(.imm (.int .u32))]),(.agg [.bool,(.imm (.int .u32))]),(.c (.int .i64))],[sD,sD],fun x=>g258 m x.1.1 x.1.2.1 x.2.1.1 x.2.1.2.1⟩
theorem g258ok:FO (g258T m):=fk g258H (g258T m) func258 (AllF.mem (l:=[g228T m,g279T m,g264T m,g265T m,g221T m]) ⟨g228ok m,g279ok m,g264ok m,g265ok m,g221ok m,trivial⟩)
def g210H:Hints:=⟨[J [2,3,4,6],J' [(0,1)] [3,4,6,7],J' [(9,1)] [3,4,6,7,8,9],J' [(10,1)] [6]],[],[],[6],[],[[false,false,false,false,false]]⟩
def g210T:FunT:=⟨210,[.a (.agg [.bool,.bool,(.imm (.int .u32)),(.int .i64)]),.a (.agg [.bool,.bool,(.imm (.int .u32)),(.int .i64)]),sI],.a (.agg [.bool,.bool,(.imm (.int .u32)),(.int .i64),.bool]),[sD,sD,sD],fun x=>g210 m x.1.1 x.1.2.1 x.1.2.2.1 x.1.2.2.2.1 x.2.1.1 x.2.1.2.1 x.2.1.2.2.1 x.2.1.2.2.2.1 x.2.2.1⟩
theorem g210ok:FO (g210T m):=fk g210H (g210T m) func210 (AllF.mem (l:=[g231T m,g155T m,g225T m,g258T m,g226T m]) ⟨g231ok m,g155ok m,g225ok m,g258ok m,g226ok m,trivial⟩)
def g111H:Hints:=⟨[J [2,3,4],J [2,3,4],J' [(2,1),(6,1)] [2,3,4,11],J [6],J [2,3,4,23],J [6],J' [(3,1)] [6]],[],[(0,[2,3,4])],[6],[],[[false]]⟩
def g111T:FunT:=⟨111,[.a (.agg [.bool,.bool,(.imm (.int .u32)),(.int .i64)]),.a (.agg [.bool,.bool,(.imm (.int .u32)),(.int .i64)]),sI],sU,[sD,sD,sD],fun x=>g111 m x.1.1 x.1.2.1 x.1.2.2.1 x.1.2.2.2.1 x.2.1.1 x.2.1.2.1 x.2.1.2.2.1 x.2.1.2.2.2.1 x.2.2.1⟩
theorem g111ok:FO (g111T m):=fk g111H (g111T m) func111 (AllF.mem (l:=[g206T m,g193T m,g210T m,g207T m]) ⟨g206ok m,g193ok m,g210ok m,g207ok m,trivial⟩)
def g46H:Hints:=⟨[J [0,1],J [0,1,6],J' [(0,1)] [1,6,9,10,11],J [1,6,9,10,11,12],J [1,6,8,9,10,11],J' [(0,1),(1,1)] [1,6,9,10,11],J' [(1,1)] [1,6,9,10,11],J' [(0,2)] [4,5]],[(0,[1,6,9,10,11])],[(0,[6]),(1,[1,6,9,10,11])],[4,5],[],[[false],[false]]⟩
def g46T:FunT:=⟨46,[.a (.c (.imm (.int .u64))),sU],.tup [(.c (.imm (.int .u64))),(.c .bool)],[sD,sD],fun x=>g46 m x.1 x.2.1⟩
noncomputable def g46C:Code:=codeOf f46
noncomputable def g46B0:Code:=qo g46C 0 0
theorem g46K:FL [g112T m,g111T m,g105T m]:=AllF.mem ⟨g112ok m,g111ok m,g105ok m,trivial⟩
def g46L0X:LT:=⟨0,[(1,sU),(6,.a (.c (.nm 0 (.int .u64)))),(9,.a (.c (.imm (.int .u64)))),(10,sI),(11,sI)],[(.exit 0,[(6,.a (.c (.nm 0 (.int .u64))))])],fun n x=>g46L0 m n x.1 x.2.1 x.2.2.1 x.2.2.2.1 x.2.2.2.2.1⟩
theorem g46L0ok {E} (hE:EO E 27 g46H) (n):LO E g46B0 ((g46L0X m).at n):=lk hE (g46K m) (g46L0X m) n
theorem g46ok:FO (g46T m):=f1' g46H (g46T m) func46 (g46K m) fun _ h=>g46L0ok m h m
def g42H:Hints:=⟨[J [1,2,3],J [1,2,3,8],J [1,2,3,8,14],J [1,2,8,17],J [1,8],J [1,2,8,24],J [1,8],J' [(2,1)] [1,8,28],J [1,8],J [1,8,36],J' [(0,1)] [6,7],J [1,9],J [1,9,42],J [6,7],J [1,9,45],J [6,7],J' [(0,1),(1,1),(3,1)] [10,11],J' [(0,1)] [10,53],J [6,7],J' [(0,1)] [6,7]],[],[(0,[1,8])],[6,7],[],[[false],[false]]⟩
def g42T:FunT:=⟨42,[.a (.agg [(.imm (.int .i64)),(.imm (.int .i64)),(.imm (.int .u64)),(.imm (.int .i64)),(.imm (.int .i64)),(.imm (.int .u64)),(.int .i64)]),.a (.c (.imm (.int .u64))),sI],.tup [(.c (.imm (.int .u64))),(.c (.int .i64))],[sD,sD,sD],fun x=>g42 m x.1.1 x.1.2.1 x.1.2.2.1 x.1.2.2.2.1 x.1.2.2.2.2.1 x.1.2.2.2.2.2.1 x.1.2.2.2.2.2.2.1 x.2.1 x.2.2.1⟩
theorem g42ok:FO (g42T m):=fk g42H (g42T m) func42 (AllF.mem (l:=[g104T m,g44T m,g45T m,g47T m,g46T m,g105T m]) ⟨g104ok m,g44ok m,g45ok m,g47ok m,g46ok m,g105ok m,trivial⟩)
def g251H:Hints:=⟨[J [0],J' [(0,1)] [5,6,7],J [5,6,7,8],J [4,5,6,7],J' [(0,1)] [5,6,7,13],J [2],J' [(1,1)] [5,6,7],J [2]],[(0,[5,6,7])],[(0,[]),(1,[5,6,7])],[2],[],[[false]]⟩
def g251T:FunT:=⟨251,[.a (.c (.imm (.int .u64)))],sI,[sD],fun x=>g251 m x.1⟩
noncomputable def g251C:Code:=codeOf f251
noncomputable def g251B0:Code:=qo g251C 0 0
theorem g251K:FL [g47T m]:=AllF.mem ⟨g47ok m,trivial⟩
def g251L0X:LT:=⟨0,[(5,.a (.c (.imm (.int .u64)))),(6,sI),(7,sI)],[(.ret,[(2,sI)]),(.exit 0,[])],fun n x=>g251L0 m n x.1 x.2.1 x.2.2.1⟩
theorem g251L0ok {E} (hE:EO E 15 g251H) (n):LO E g251B0 ((g251L0X m).at n):=lk hE (g251K m) (g251L0X m) n
theorem g251ok:FO (g251T m):=f1' g251H (g251T m) func251 (g251K m) fun _ h=>g251L0ok m h m
def g197H:Hints:=⟨[J [0,1],J' [(2,1)] [0,8],J [4],J' [(0,1)] [4]],[],[],[4],[],[[false]]⟩
def g197T:FunT:=⟨197,[.a (.c (.imm (.int .u64))),sI],sI,[sD,sD],fun x=>g197 m x.1 x.2.1⟩
theorem g197ok:FO (g197T m):=fk g197H (g197T m) func197 (AllF.mem (l:=[g251T m]) ⟨g251ok m,trivial⟩)
def g198H:Hints:=⟨[J [1],J [1,3],J [1,3,7,8,9],J [1,3,7,8,9,10],J [1,3,5,7,8,9],J' [(2,1)] [1,3,5,7,8,9,23],J [2],J' [(0,1),(1,1)] [1,3,7,8,9],J' [(1,1)] [1,3,7,8,9],J [2]],[(0,[1,3,7,8,9])],[(0,[]),(1,[1,3,7,8,9])],[2],[],[[false]]⟩
def g198T:FunT:=⟨198,[.a (.agg [(.imm (.int .i64)),(.imm (.int .i64)),(.imm (.int .u64)),(.imm (.int .i64)),(.imm (.int .i64)),(.imm (.int .u64)),(.int .i64)])],sB,[sD],fun x=>g198 m x.1.1 x.1.2.1 x.1.2.2.1 x.1.2.2.2.1 x.1.2.2.2.2.1 x.1.2.2.2.2.2.1 x.1.2.2.2.2.2.2.1⟩
noncomputable def g198C:Code:=codeOf f198
noncomputable def g198B0:Code:=qo g198C 0 0
theorem g198K:FL [g45T m]:=AllF.mem ⟨g45ok m,trivial⟩
def g198L0X:LT:=⟨0,[(1,sX 0 [iL,iL,.imm (.int .u64),iL,iL,.imm (.int .u64),iI]),(3,sI),(7,sL),(8,sI),(9,sI)],[(.ret,[(2,sB)]),(.exit 0,[])],fun n x=>g198L0 m n x.1.1 x.1.2.1 x.1.2.2.1 x.1.2.2.2.1 x.1.2.2.2.2.1 x.1.2.2.2.2.2.1 x.1.2.2.2.2.2.2.1 x.2.1 x.2.2.1 x.2.2.2.1 x.2.2.2.2.1⟩
theorem g198L0ok {E} (hE:EO E 30 g198H) (n):LO E g198B0 ((g198L0X m).at n):=lk hE (g198K m) (g198L0X m) n
theorem g198ok:FO (g198T m):=f1' g198H (g198T m) func198 (g198K m) fun _ h=>g198L0ok m h m
def g200H:Hints:=⟨[J [0,1],J [0,1,5],J' [(0,1)] [0,5,11,12,13],J [0,5,11,12,13,14],J [0,5,6,7,11,12,13],J' [(1,1),(3,1)] [0,5,11,12,13],J' [(1,1)] [0,5,11,12,13],J' [(0,1)] [4]],[(0,[0,5,11,12,13])],[(0,[5]),(1,[0,5,11,12,13])],[4],[],[[true]]⟩
def g200T:FunT:=⟨200,[.a (.c (.imm (.int .u64))),sL],.a (.c (.nm 0 (.int .u64))),[sD,sD],fun x=>g200 m x.1 x.2.1⟩
noncomputable def g200C:Code:=codeOf f200
noncomputable def g200B0:Code:=qo g200C 0 0
def g200L0X:LT:=⟨0,[(0,.a (.c (.imm (.int .u64)))),(5,.a (.c (.nm 0 (.int .u64)))),(11,sL),(12,sI),(13,sI)],[(.exit 0,[(5,.a (.c (.nm 0 (.int .u64))))])],fun n x=>g200L0 m n x.1 x.2.1 x.2.2.1 x.2.2.2.1 x.2.2.2.2.1⟩
theorem g200L0ok {E} (hE:EO E 27 g200H) (n):LO E g200B0 ((g200L0X m).at n):=lk hE noF (g200L0X m) n
theorem g200ok:FO (g200T m):=f1' g200H (g200T m) func200 noF fun _ h=>g200L0ok m h m
def g202H:Hints:=⟨[J [0],J' [(2,4)] [0,3],J' [(0,1)] [3,9,10,11],J [3,9,10,11,12],J [3,4,5,9,10,11],J' [(1,1),(2,1),(6,4)] [3,9,10,11],J' [(1,1)] [3,9,10,11],J' [(0,1)] [2]],[(0,[3,9,10,11])],[(0,[3]),(1,[3,9,10,11])],[2],[],[[false]]⟩
def g202T:FunT:=⟨202,[.a (.c (.imm (.int .u64)))],.a (.c (.imm (.sl false (.pr .bool (.pr (.pr .bool (.sl false (.int .u32))) (.int .i64)))))),[sD],fun x=>g202 m x.1⟩
noncomputable def g202C:Code:=codeOf f202
noncomputable def g202B0:Code:=qo g202C 0 0
theorem g202K:FL [g112T m]:=AllF.mem ⟨g112ok m,trivial⟩
def g202L0X:LT:=⟨0,[(3,.a (.c (.dp 0 (.pr .bool (.pr (.pr .bool (.sl false (.int .u32))) (.int .i64)))))),(9,.a (.c (.imm (.int .u64)))),(10,sI),(11,sI)],[(.exit 0,[(3,.a (.c (.dp 0 (.pr .bool (.pr (.pr .bool (.sl false (.int .u32))) (.int .i64))))))])],fun n x=>g202L0 m n x.1 x.2.1 x.2.2.1 x.2.2.2.1⟩
theorem g202L0ok {E} (hE:EO E 24 g202H) (n):LO E g202B0 ((g202L0X m).at n):=lk hE (g202K m) (g202L0X m) n
theorem g202ok:FO (g202T m):=f1' g202H (g202T m) func202 (g202K m) fun _ h=>g202L0ok m h m
def g204H:Hints:=⟨[J [0,1,4],J' [(0,1),(1,1)] [4]],[],[],[4],[],[[false,false,false,false]]⟩
def g204T:FunT:=⟨204,[.a (.c (.imm (.sl false (.pr .bool (.pr (.pr .bool (.sl false (.int .u32))) (.int .i64)))))),sI],.a (.agg [.bool,.bool,(.imm (.int .u32)),(.int .i64)]),[sD,sD],fun x=>g204 m x.1 x.2.1⟩
theorem g204ok:FO (g204T m):=fk g204H (g204T m) func204 (AllF.mem (l:=[g148T m]) ⟨g148ok m,trivial⟩)
def g208H:Hints:=⟨[J [1,2],J [2]],[],[],[2],[],[[false,false,false,false,false]]⟩
def g208T:FunT:=⟨208,[.a (.agg [.bool,.bool,(.imm (.int .u32)),(.int .i64)])],.a (.agg [.bool,.bool,(.imm (.int .u32)),(.int .i64),.bool]),[sD],fun x=>g208 m x.1.1 x.1.2.1 x.1.2.2.1 x.1.2.2.2.1⟩
theorem g208ok:FO (g208T m):=fk g208H (g208T m) func208 (AllF.mem (l:=[g155T m]) ⟨g155ok m,trivial⟩)
def g107H:Hints:=⟨[J [1,2],J [1,2],J [1,2,7],J [4],J [1,2,10],J [4],J' [(2,1)] [4]],[],[(0,[1,2])],[4],[],[[false]]⟩
def g107T:FunT:=⟨107,[.a (.agg [.bool,.bool,(.imm (.int .u32)),(.int .i64)]),sI],sU,[sD,sD],fun x=>g107 m x.1.1 x.1.2.1 x.1.2.2.1 x.1.2.2.2.1 x.2.1⟩
theorem g107ok:FO (g107T m):=fk g107H (g107T m) func107 (AllF.mem (l:=[g206T m,g193T m,g208T m,g207T m]) ⟨g206ok m,g193ok m,g208ok m,g207ok m,trivial⟩)
def g199H:Hints:=⟨[J [0,1,2,3],J [0,1,2,3,10,11],J' [(0,1)] [0,1,2,10,11,20,21],J [0,1,2,10,11,20,21,22],J [0,1,2,10,11,12,20,21],J [0,1,2,10,11,12,20,21],J [0,1,2,10,11,12,20,21,36],J [8,9],J [0,1,2,10,11,12,13,20,21],J [0,1,2,10,11,12,13,20,21,47],J' [(0,1)] [0,1,2,10,11,12,13,20,21],J [0,1,2,10,11,12,13,20,21],J' [(1,1)] [0,1,2,10,11,20,21],J' [(0,1)] [8,9]],[(0,[0,1,2,10,11,20,21]),(2,[0,1,2,10,11,12,13,20,21])],[(0,[11]),(1,[0,1,2,10,11,20,21]),(2,[0,1,2,10,11,20,21]),(3,[0,1,2,10,11,12,13,20,21])],[8,9],[],[[true],[false]]⟩
def g199T:FunT:=⟨199,[sL,sL,.a (.c (.imm (.int .u64))),.a (.c (.imm (.int .u64)))],.tup [(.c (.nm 0 (.int .u64))),(.c (.int .i64))],[sD,sD,sD,sD],fun x=>g199 m x.1 x.2.1 x.2.2.1 x.2.2.2.1⟩
noncomputable def g199C:Code:=codeOf f199
noncomputable def g199B0:Code:=qo g199C 0 0
noncomputable def g199B2:Code:=qo g199B0 0 0
theorem g199K:FL [g202T m,g204T m,g107T m,g47T m]:=AllF.mem ⟨g202ok m,g204ok m,g107ok m,g47ok m,trivial⟩
def g199L1X:LT:=⟨2,[(0,sL),(1,sL),(2,.a (.c (.imm (.int .u64)))),(10,.a (.c (.imm (.sl false (.pr .bool (.pr (.pr .bool (.sl false (.int .u32))) (.int .i64))))))),(11,.a (.c (.nm 0 (.int .u64)))),(12,sI),(13,sI),(20,sI),(21,sI)],[(.exit 2,[(0,sL),(1,sL),(2,.a (.c (.imm (.int .u64)))),(10,.a (.c (.imm (.sl false (.pr .bool (.pr (.pr .bool (.sl false (.int .u32))) (.int .i64))))))),(11,.a (.c (.nm 0 (.int .u64)))),(20,sI),(21,sI)])],fun n x=>g199L1 m n x.1 x.2.1 x.2.2.1 x.2.2.2.1 x.2.2.2.2.1 x.2.2.2.2.2.1 x.2.2.2.2.2.2.1 x.2.2.2.2.2.2.2.1 x.2.2.2.2.2.2.2.2.1⟩
theorem g199L1ok {E} (hE:EO E 66 g199H) (n):LO E g199B2 ((g199L1X m).at n):=lk hE (g199K m) (g199L1X m) n
def g199L0X:LT:=⟨0,[(0,sL),(1,sL),(2,.a (.c (.imm (.int .u64)))),(10,.a (.c (.imm (.sl false (.pr .bool (.pr (.pr .bool (.sl false (.int .u32))) (.int .i64))))))),(11,.a (.c (.nm 0 (.int .u64)))),(20,sI),(21,sI)],[(.ret,[(8,.a (.c (.nm 0 (.int .u64)))),(9,sI)]),(.exit 0,[(11,.a (.c (.nm 0 (.int .u64))))])],fun n x=>g199L0 m n x.1 x.2.1 x.2.2.1 x.2.2.2.1 x.2.2.2.2.1 x.2.2.2.2.2.1 x.2.2.2.2.2.2.1⟩
theorem g199L0ok {E} (hE:EO E 66 g199H) (n):LO E g199B0 ((g199L0X m).at n):=
 lok hmix htt hE (g199K m) (L:=[(g199L1X m).at m]) (g199L0X m) (l:=[(2,g199B2)]) kR (fun _ _=>⟨ql ⟨yb (g199L1ok m hE m),trivial⟩,trivial⟩) (fun n x=>kR) (fun _=>kR) n
theorem g199ok:FO (g199T m):=f1' g199H (g199T m) func199 (g199K m) fun _ h=>g199L0ok m h m
def g201H:Hints:=⟨[J [1,2],J [1,2,6],J [1,2,6,7,8],J [1,2,6,7,8,21,22,23],J [1,2,6,7,8,21,22,23,24],J [1,2,6,7,8,10,21,22,23],J [1,2,6,7,8,10,21,22,23,28],J [1,2,6,7,8,10,21,22,23],J [1,2,6,7,8,10,11,12,13,21,22,23],J [1,2,6,7,8,10,11,12,13,14,21,22,23],J [1,2,6,7,8,10,11,12,13,14,15,16,21,22,23],J [1,2,6,7,8,10,11,12,14,15,16,21,22,23],J [1,2,6,7,8,10,21,22,23],J' [(0,1),(3,1)] [1,2,6,7,8,21,22,23],J' [(1,1)] [1,2,6,7,8,21,22,23],J [6,118],J [4,5],J' [(0,1)] [4,5]],[(0,[1,2,6,7,8,21,22,23])],[(0,[6]),(1,[1,2,6,7,8,21,22,23])],[4,5],[],[[true],[false]]⟩
def g201T:FunT:=⟨201,[.a (.agg [(.imm (.int .i64)),(.imm (.int .i64)),(.imm (.int .u64)),(.imm (.int .i64)),(.imm (.int .i64)),(.imm (.int .u64)),(.int .i64)]),.a (.c (.imm (.int .u64)))],.tup [(.c (.nm 0 (.int .u64))),(.c (.int .i64))],[sD,sD],fun x=>g201 m x.1.1 x.1.2.1 x.1.2.2.1 x.1.2.2.2.1 x.1.2.2.2.2.1 x.1.2.2.2.2.2.1 x.1.2.2.2.2.2.2.1 x.2.1⟩
noncomputable def g201C:Code:=codeOf f201
noncomputable def g201B0:Code:=qo g201C 0 0
theorem g201K:FL [g112T m,g111T m,g147T m,g83T m,g251T m]:=AllF.mem ⟨g112ok m,g111ok m,g147ok m,g83ok m,g251ok m,trivial⟩
def g201L0X:LT:=⟨0,[(1,.a (.c (.imm (.int .u64)))),(2,sX 0 [iL,iL,.imm (.int .u64),iL,iL,.imm (.int .u64),iI]),(6,.a (.c (.nm 1 (.int .u64)))),(7,sI),(8,sI),(21,sL),(22,sI),(23,sI)],[(.exit 0,[(6,.a (.c (.nm 0 (.int .u64))))])],fun n x=>g201L0 m n x.1 x.2.1.1 x.2.1.2.1 x.2.1.2.2.1 x.2.1.2.2.2.1 x.2.1.2.2.2.2.1 x.2.1.2.2.2.2.2.1 x.2.1.2.2.2.2.2.2.1 x.2.2.1 x.2.2.2.1 x.2.2.2.2.1 x.2.2.2.2.2.1 x.2.2.2.2.2.2.1 x.2.2.2.2.2.2.2.1⟩
theorem g201L0ok {E} (hE:EO E 120 g201H) (n):LO E g201B0 ((g201L0X m).at n):=lk hE (g201K m) (g201L0X m) n
theorem g201ok:FO (g201T m):=f1' g201H (g201T m) func201 (g201K m) fun _ h=>g201L0ok m h m
def g205H:Hints:=⟨[J [0,1],J [0,1,5],J' [(0,1)] [0,5,11,12,13],J [0,5,11,12,13,14],J [0,5,6,7,11,12,13],J' [(1,1),(3,1)] [0,5,11,12,13],J' [(1,1)] [0,5,11,12,13],J' [(0,1)] [4]],[(0,[0,5,11,12,13])],[(0,[5]),(1,[0,5,11,12,13])],[4],[],[[true]]⟩
def g205T:FunT:=⟨205,[.a (.c (.imm (.int .u64))),sL],.a (.c (.nm 0 (.int .u64))),[sD,sD],fun x=>g205 m x.1 x.2.1⟩
noncomputable def g205C:Code:=codeOf f205
noncomputable def g205B0:Code:=qo g205C 0 0
def g205L0X:LT:=⟨0,[(0,.a (.c (.imm (.int .u64)))),(5,.a (.c (.nm 0 (.int .u64)))),(11,sL),(12,sI),(13,sI)],[(.exit 0,[(5,.a (.c (.nm 0 (.int .u64))))])],fun n x=>g205L0 m n x.1 x.2.1 x.2.2.1 x.2.2.2.1 x.2.2.2.2.1⟩
theorem g205L0ok {E} (hE:EO E 27 g205H) (n):LO E g205B0 ((g205L0X m).at n):=lk hE noF (g205L0X m) n
theorem g205ok:FO (g205T m):=f1' g205H (g205T m) func205 noF fun _ h=>g205L0ok m h m
def g106H:Hints:=⟨[J [1,2],J [1,2,6],J [1,2,6,16],J [1,2,6],J' [(2,1)] [1,2,6,27],J [1,2,6],J [1,2,6,29],J' [(0,1)] [4,5],J' [(6,1),(11,1)] [2,6,7],J [2,6,7,46],J' [(0,1)] [4,5],J' [(1,1),(3,1),(6,2)] [2,6,8],J [2,6,8,55],J' [(0,1)] [4,5],J' [(0,2)] [2,8,9,10],J' [(0,1)] [2,9,10,11],J [2,9,10,11,66],J' [(0,1)] [2,9,10,11],J [2,9,10,11,12],J [2,9,10,11,12,81],J' [(0,1)] [2,9,10,11,12],J [2,9,10,11,12],J [2,9,10,11],J [2,9,10,11,112],J [4,5],J' [(0,1)] [4,5]],[(0,[2,9,10,11]),(2,[2,9,10,11,12])],[(0,[2,10]),(1,[2,9,10,11]),(2,[2,9,10,11]),(3,[2,9,10,11,12])],[4,5],[],[[true],[false]]⟩
def g106T:FunT:=⟨106,[.a (.agg [(.imm (.int .i64)),(.imm (.int .i64)),(.imm (.int .u64)),(.imm (.int .i64)),(.imm (.int .i64)),(.imm (.int .u64)),(.int .i64)]),.a (.c (.imm (.int .u64)))],.tup [(.c (.nm 0 (.int .u64))),(.c (.int .i64))],[sD,sD],fun x=>g106 m x.1.1 x.1.2.1 x.1.2.2.1 x.1.2.2.2.1 x.1.2.2.2.2.1 x.1.2.2.2.2.2.1 x.1.2.2.2.2.2.2.1 x.2.1⟩
noncomputable def g106C:Code:=codeOf f106
noncomputable def g106B0:Code:=qo g106C 0 0
noncomputable def g106B2:Code:=qo g106B0 0 0
theorem g106K:FL [g104T m,g197T m,g198T m,g200T m,g199T m,g201T m,g202T m,g204T m,g107T m,g47T m,g205T m]:=AllF.mem ⟨g104ok m,g197ok m,g198ok m,g200ok m,g199ok m,g201ok m,g202ok m,g204ok m,g107ok m,g47ok m,g205ok m,trivial⟩
def g106L1X:LT:=⟨2,[(2,sX 0 [iL,iL,.imm (.int .u64),iL,iL,.imm (.int .u64),iI]),(9,.a (.c (.imm (.sl false (.pr .bool (.pr (.pr .bool (.sl false (.int .u32))) (.int .i64))))))),(10,.a (.c (.nm 1 (.int .u64)))),(11,sI),(12,sI)],[(.exit 2,[(2,sX 0 [iL,iL,.imm (.int .u64),iL,iL,.imm (.int .u64),iI]),(9,.a (.c (.imm (.sl false (.pr .bool (.pr (.pr .bool (.sl false (.int .u32))) (.int .i64))))))),(10,.a (.c (.nm 1 (.int .u64)))),(11,sI)])],fun n x=>g106L1 m n x.1.1 x.1.2.1 x.1.2.2.1 x.1.2.2.2.1 x.1.2.2.2.2.1 x.1.2.2.2.2.2.1 x.1.2.2.2.2.2.2.1 x.2.1 x.2.2.1 x.2.2.2.1 x.2.2.2.2.1⟩
theorem g106L1ok {E} (hE:EO E 117 g106H) (n):LO E g106B2 ((g106L1X m).at n):=lk hE (g106K m) (g106L1X m) n
def g106L0X:LT:=⟨0,[(2,sX 0 [iL,iL,.imm (.int .u64),iL,iL,.imm (.int .u64),iI]),(9,.a (.c (.imm (.sl false (.pr .bool (.pr (.pr .bool (.sl false (.int .u32))) (.int .i64))))))),(10,.a (.c (.nm 1 (.int .u64)))),(11,sI)],[(.ret,[(4,.a (.c (.nm 0 (.int .u64)))),(5,sI)]),(.exit 0,[(2,sX 0 [iL,iL,.imm (.int .u64),iL,iL,.imm (.int .u64),iI]),(10,.a (.c (.nm 1 (.int .u64))))])],fun n x=>g106L0 m n x.1.1 x.1.2.1 x.1.2.2.1 x.1.2.2.2.1 x.1.2.2.2.2.1 x.1.2.2.2.2.2.1 x.1.2.2.2.2.2.2.1 x.2.1 x.2.2.1 x.2.2.2.1⟩
theorem g106L0ok {E} (hE:EO E 117 g106H) (n):LO E g106B0 ((g106L0X m).at n):=
 lok hmix htt hE (g106K m) (L:=[(g106L1X m).at m]) (g106L0X m) (l:=[(2,g106B2)]) kR (fun _ _=>⟨ql ⟨yb (g106L1ok m hE m),trivial⟩,trivial⟩) (fun n x=>kR) (fun _=>kR) n
theorem g106ok:FO (g106T m):=f1' g106H (g106T m) func106 (g106K m) fun _ h=>g106L0ok m h m
def g82bH:Hints:=⟨[J [0,1,4],J [0,1,4,5],J [0,1,4,5,8,9],J [0,1,4,5,8,9,10],J [0,1,4,5,6,8,9],J' [(0,1)] [0,1,4,5,8,9],J' [(1,1)] [0,1,4,5,8,9],J' [(0,1)] [1,4]],[(0,[0,1,4,5,8,9])],[(0,[1,4,5]),(1,[0,1,4,5,8,9])],[1,4],[1],[[false,false,false,false]]⟩
def g82bT:FunT:=⟨82,[.a (.c (.imm (.int .u64))),.a (.c (.nm 0 (.int .u64)))],.a (.agg [.bool,.bool,(.imm (.int .u32)),(.int .i64)]),[sD,.a (.c (.nm 0 (.int .u64)))],fun x=>g82b m x.1 x.2.1⟩
noncomputable def g82bC:Code:=codeOf f82
noncomputable def g82bB0:Code:=qo g82bC 0 0
theorem g82bK:FL [g112T m,g147T m,g148T m]:=AllF.mem ⟨g112ok m,g147ok m,g148ok m,trivial⟩
def g82bL0X:LT:=⟨0,[(0,.a (.c (.imm (.int .u64)))),(1,.a (.c (.nm 0 (.int .u64)))),(4,sX 1 [.bool,.bool,.nm 2 (.int .u32),iI]),(5,.a (.c (.nm 3 (.pr .bool (.pr (.pr .bool (.sl false (.int .u32))) (.int .i64)))))),(8,sI),(9,sI)],[(.exit 0,[(1,.a (.c (.nm 0 (.int .u64)))),(4,sX 1 [.bool,.bool,.nm 2 (.int .u32),iI]),(5,.a (.c (.nm 3 (.pr .bool (.pr (.pr .bool (.sl false (.int .u32))) (.int .i64))))))])],fun n x=>g82bL0 m n x.1 x.2.1 x.2.2.1.1 x.2.2.1.2.1 x.2.2.1.2.2.1 x.2.2.1.2.2.2.1 x.2.2.2.1 x.2.2.2.2.1 x.2.2.2.2.2.1⟩
theorem g82bL0ok {E} (hE:EO E 29 g82bH) (n):LO E g82bB0 ((g82bL0X m).at n):=lk hE (g82bK m) (g82bL0X m) n
theorem g82bok:FO (g82bT m):=f1' g82bH (g82bT m) func82 (g82bK m) fun _ h=>g82bL0ok m h m
def g108H:Hints:=⟨[J [0,1],J' [(2,12)] [0,1,5],J [0,1,5,13],J [0,4],J [0,1,5,15,16],J [0,1,5,15,16,17],J [0,1,5,6,15,16],J [0,1,5,15,16],J' [(1,1)] [0,1,5,15,16],J [0,4]],[(0,[0,1,5,15,16])],[(0,[0]),(1,[0,1,5,15,16])],[0,4],[0],[[false]]⟩
def g108T:FunT:=⟨108,[.a (.c (.nm 0 (.int .u64))),.a (.c (.imm (.int .u64)))],sB,[.a (.c (.nm 0 (.int .u64))),sD],fun x=>g108 m x.1 x.2.1⟩
noncomputable def g108C:Code:=codeOf f108
noncomputable def g108B0:Code:=qo g108C 0 0
theorem g108K:FL [g82bT m,g107T m,g47T m,g112T m,g147T m,g83T m,g105T m]:=AllF.mem ⟨g82bok m,g107ok m,g47ok m,g112ok m,g147ok m,g83ok m,g105ok m,trivial⟩
def g108L0X:LT:=⟨0,[(0,.a (.c (.nm 0 (.int .u64)))),(1,.a (.c (.imm (.int .u64)))),(5,sU),(15,sI),(16,sI)],[(.exit 0,[(0,.a (.c (.nm 0 (.int .u64))))])],fun n x=>g108L0 m n x.1 x.2.1 x.2.2.1 x.2.2.2.1 x.2.2.2.2.1⟩
theorem g108L0ok {E} (hE:EO E 40 g108H) (n):LO E g108B0 ((g108L0X m).at n):=lk hE (g108K m) (g108L0X m) n
theorem g108ok:FO (g108T m):=f1' g108H (g108T m) func108 (g108K m) fun _ h=>g108L0ok m h m
def g43H:Hints:=⟨[J [0,3],J [0,3,6],J' [(3,1)] [0,6,7,8],J [0,6,7,8,31],J' [(0,1)] [0,4,5],J' [(0,1),(2,12)] [0,7,9],J [0,7,9,39],J [0,4,5],J' [(4,1),(5,1)] [0,7],J [0,7,50],J [0,7,50,51],J [0,7,50,55,56,57],J [0,7,50,55,56,57,58],J [0,7,11,50,55,56,57],J' [(1,1),(2,11)] [0,7,50,55,56,57,64],J [0,4,5],J' [(1,1)] [0,7,50,55,56,57],J' [(1,1)] [0,7,50],J' [(0,1)] [0,4,5]],[(0,[0,7,50]),(2,[0,7,50,55,56,57])],[(0,[0,7]),(1,[0,7,50]),(2,[0,7,50]),(3,[0,7,50,55,56,57])],[0,4,5],[0],[[true],[false]]⟩
def g43T:FunT:=⟨43,[sX 0 [.nm 1 (.int .u64),.nm 2 (.int .u64),.nm 3 (.sl false (.int .u64))],.a (.agg [(.imm (.int .i64)),(.imm (.int .i64)),(.imm (.int .u64)),(.imm (.int .i64)),(.imm (.int .i64)),(.imm (.int .u64)),(.int .i64)])],.tup [(.c (.nm 0 (.int .u64))),(.c (.int .i64))],[sX 1 [.nm 2 (.int .u64),.nm 3 (.int .u64),.nm 4 (.sl false (.int .u64))],sD],fun x=>g43 m x.1.1 x.1.2.1 x.1.2.2.1 x.2.1.1 x.2.1.2.1 x.2.1.2.2.1 x.2.1.2.2.2.1 x.2.1.2.2.2.2.1 x.2.1.2.2.2.2.2.1 x.2.1.2.2.2.2.2.2.1⟩
noncomputable def g43C:Code:=codeOf f43
noncomputable def g43B0:Code:=qo g43C 0 0
noncomputable def g43B2:Code:=qo g43B0 0 0
theorem g43K:FL [g106T m,g82bT m,g107T m,g47T m,g108T m]:=AllF.mem ⟨g106ok m,g82bok m,g107ok m,g47ok m,g108ok m,trivial⟩
def g43L1X:LT:=⟨2,[(0,sX 0 [.nm 1 (.int .u64),.nm 2 (.int .u64),.nm 3 (.sl false (.int .u64))]),(7,.a (.c (.nm 4 (.int .u64)))),(50,sI),(55,.a (.c (.ref 0 3 1))),(56,sI),(57,sI)],[(.ret,[(0,sX 0 [.nm 1 (.int .u64),.nm 2 (.int .u64),.nm 3 (.sl false (.int .u64))]),(4,.a (.c (.nm 4 (.int .u64)))),(5,sI)]),(.exit 2,[(0,sX 0 [.nm 1 (.int .u64),.nm 2 (.int .u64),.nm 3 (.sl false (.int .u64))]),(7,.a (.c (.nm 4 (.int .u64)))),(50,sI)])],fun n x=>g43L1 m n x.1.1 x.1.2.1 x.1.2.2.1 x.2.1 x.2.2.1 x.2.2.2.2.1 x.2.2.2.2.2.1⟩
theorem g43L1ok {E} (hE:EO E 68 g43H) (n):LO E g43B2 ((g43L1X m).at n):=lk hE (g43K m) (g43L1X m) n
def g43L0X:LT:=⟨0,[(0,sX 0 [.nm 1 (.int .u64),.nm 2 (.int .u64),.nm 3 (.sl false (.int .u64))]),(7,.a (.c (.nm 4 (.int .u64)))),(50,sI)],[(.ret,[(0,sX 0 [.nm 1 (.int .u64),.nm 2 (.int .u64),.nm 3 (.sl false (.int .u64))]),(4,.a (.c (.nm 4 (.int .u64)))),(5,sI)]),(.exit 0,[(0,sX 0 [.nm 1 (.int .u64),.nm 2 (.int .u64),.nm 3 (.sl false (.int .u64))]),(7,.a (.c (.nm 4 (.int .u64))))])],fun n x=>g43L0 m n x.1.1 x.1.2.1 x.1.2.2.1 x.2.1 x.2.2.1⟩
theorem g43L0ok {E} (hE:EO E 68 g43H) (n):LO E g43B0 ((g43L0X m).at n):=
 lok hmix htt hE (g43K m) (L:=[(g43L1X m).at m]) (g43L0X m) (l:=[(2,g43B2)]) kR (fun _ _=>⟨ql ⟨yb (g43L1ok m hE m),trivial⟩,trivial⟩) (fun n x=>kR) (fun _=>kR) n
theorem g43ok:FO (g43T m):=f1' g43H (g43T m) func43 (g43K m) fun _ h=>g43L0ok m h m
def g12H:Hints:=⟨[J [1,2,3,6],J' [(1,1),(4,1)] [2,3,6,8,9],J [2,3,6,8,9,24],J' [(1,1)] [6,7],J' [(0,1)] [2,3,6,10],J' [(2,1)] [2,3,6,10,11,12],J [2,3,6,10,11,12,36],J' [(1,1)] [6,7],J [2,3,6,10,11,43],J' [(0,1)] [6,7],J [2,3,6,10,11,13],J [2,3,6,10,11,13,49],J' [(0,1)] [6,7],J' [(0,1),(3,1)] [2,3,6,10,13,14,15],J' [(3,1),(4,1)] [2,3,6,10,13,14,63],J [6,7],J' [(2,1),(4,3),(7,1),(9,3)] [2,3,6,10]],[(0,[2,3,6,10])],[(0,[6,7]),(1,[2,3,6,10])],[6,7],[],[[true,true,true],[false]]⟩
def g12T:FunT:=⟨12,[.a (.agg [(.imm (.int .i64)),(.imm (.int .i64)),(.imm (.int .u64)),(.imm (.int .i64)),(.imm (.int .i64)),(.imm (.int .u64)),(.int .i64)]),.a (.c (.imm (.int .u64))),sI],.tup [(.agg [(.nm 0 (.int .u64)),(.nm 1 (.int .u64)),(.nm 2 (.sl false (.int .u64)))]),(.c (.int .i64))],[sD,sD,sD],fun x=>g12 m x.1.1 x.1.2.1 x.1.2.2.1 x.1.2.2.2.1 x.1.2.2.2.2.1 x.1.2.2.2.2.2.1 x.1.2.2.2.2.2.2.1 x.2.1 x.2.2.1⟩
noncomputable def g12C:Code:=codeOf f12
noncomputable def g12B0:Code:=qo g12C 0 0
theorem g12K:FL [g42T m,g43T m,g44T m,g45T m,g46T m,g47T m]:=AllF.mem ⟨g42ok m,g43ok m,g44ok m,g45ok m,g46ok m,g47ok m,trivial⟩
def g12L0X:LT:=⟨0,[(2,sI),(3,sX 0 [iL,iL,.imm (.int .u64),iL,iL,.imm (.int .u64),iI]),(6,sX 1 [.nm 2 (.int .u64),.nm 3 (.int .u64),.nm 4 (.sl false (.int .u64))]),(10,sX 5 [.nm 6 (.int .u64),.nm 7 (.int .u64),.nm 8 (.sl false (.int .u64))])],[(.ret,[(6,sX 0 [.nm 1 (.int .u64),.nm 2 (.int .u64),.nm 3 (.sl false (.int .u64))]),(7,sI)])],fun n x=>g12L0 m n x.1 x.2.1.1 x.2.1.2.1 x.2.1.2.2.1 x.2.1.2.2.2.1 x.2.1.2.2.2.2.1 x.2.1.2.2.2.2.2.1 x.2.1.2.2.2.2.2.2.1 x.2.2.1.1 x.2.2.1.2.1 x.2.2.1.2.2.1 x.2.2.2.1.1 x.2.2.2.1.2.1 x.2.2.2.1.2.2.1⟩
theorem g12L0ok {E} (hE:EO E 77 g12H) (n):LO E g12B0 ((g12L0X m).at n):=lk hE (g12K m) (g12L0X m) n
theorem g12ok:FO (g12T m):=f1' g12H (g12T m) func12 (g12K m) fun _ h=>g12L0ok m h m
def g29H:Hints:=⟨[J [0,1],J [0,1,10],J [4],J [0,1,5],J [0,1,5,14],J' [(0,1)] [0,1,5],J [0,1,5,25],J [4],J [4]],[(0,[0,1,5])],[(0,[]),(1,[0,1,5])],[4],[],[[false]]⟩
def g29T:FunT:=⟨29,[.a (.c (.imm (.int .u64))),.a (.c (.imm (.int .u64)))],sB,[sD,sD],fun x=>g29 m x.1 x.2.1⟩
noncomputable def g29C:Code:=codeOf f29
noncomputable def g29B0:Code:=qo g29C 0 0
def g29L0X:LT:=⟨0,[(0,.a (.c (.imm (.int .u64)))),(1,.a (.c (.imm (.int .u64)))),(5,sI)],[(.ret,[(4,sB)]),(.exit 0,[])],fun n x=>g29L0 m n x.1 x.2.1 x.2.2.1⟩
theorem g29L0ok {E} (hE:EO E 26 g29H) (n):LO E g29B0 ((g29L0X m).at n):=lk hE noF (g29L0X m) n
theorem g29ok:FO (g29T m):=f1' g29H (g29T m) func29 noF fun _ h=>g29L0ok m h m
def g59H:Hints:=⟨[J [0,1],J [0,1,10],J [4],J [0,1,5],J [0,1,5,14],J' [(0,1)] [0,1,5],J [0,1,5,26],J [4],J [4]],[(0,[0,1,5])],[(0,[]),(1,[0,1,5])],[4],[],[[false]]⟩
def g59T:FunT:=⟨59,[.a (.c (.imm (.sl false (.int .u64)))),.a (.c (.imm (.sl false (.int .u64))))],sB,[sD,sD],fun x=>g59 m x.1 x.2.1⟩
noncomputable def g59C:Code:=codeOf f59
noncomputable def g59B0:Code:=qo g59C 0 0
theorem g59K:FL [g29T m]:=AllF.mem ⟨g29ok m,trivial⟩
def g59L0X:LT:=⟨0,[(0,.a (.c (.imm (.sl false (.int .u64))))),(1,.a (.c (.imm (.sl false (.int .u64))))),(5,sI)],[(.ret,[(4,sB)]),(.exit 0,[])],fun n x=>g59L0 m n x.1 x.2.1 x.2.2.1⟩
theorem g59L0ok {E} (hE:EO E 27 g59H) (n):LO E g59B0 ((g59L0X m).at n):=lk hE (g59K m) (g59L0X m) n
theorem g59ok:FO (g59T m):=f1' g59H (g59T m) func59 (g59K m) fun _ h=>g59L0ok m h m
def sparselaw38_awake_H:Hints:=⟨[J [],J' [(7,2),(8,2)] [1],J' [(0,2),(3,1)] [2,3],J' [(0,1),(2,1),(8,1),(14,1),(18,6)] [0]],[],[],[0],[],[[false]]⟩
abbrev sparselaw38_awake_A:List Sh:=[]
abbrev sparselaw38_awake_S:Sh:= sB
abbrev sparselaw38_awake_U:List Sh:=[]
def sparselaw38_awake_R:Qr sparselaw38_awake_A->Option (sparselaw38_awake_S.Val×Qr sparselaw38_awake_U):=fun(x:Unit)=>sparselaw38_awake m
def sparselaw38_awake_T:FunT:=⟨15,sparselaw38_awake_A,sparselaw38_awake_S,sparselaw38_awake_U,sparselaw38_awake_R m⟩
theorem sparselaw38_awake_ok:FO (sparselaw38_awake_T m):=fk sparselaw38_awake_H (sparselaw38_awake_T m) func15 (AllF.mem (l:=[g26T m,g12T m,g29T m,g59T m]) ⟨g26ok m,g12ok m,g29ok m,g59ok m,trivial⟩)
def sparselaw38_LanczosMeasures_H:Hints:=⟨[J [0,1,2,3,4,5],J' [(0,6)] [0,1,2,3,4,5,13],J [0,1,2,3,4,5,13,14],J [0,1,2,3,4,5,13,14,25],J' [(0,1)] [0,1,2,3,4,5,13,14],J' [(1,1),(9,6),(10,6)] [0,1,2,3,4,5,13,14],J' [(4,1),(5,1)] [5,13,46],J' [(13,4),(14,1),(18,4)] [13],J' [(2,2),(3,2)] [13,15],J' [(0,7),(2,1)] [13,15,16,17],J' [(2,1)] [15,16,17,18,19],J' [(0,2),(2,1)] [16,17,18,19,21],J' [(0,1),(1,1),(3,1),(8,1),(9,1),(12,1)] [12]],[(0,[0,1,2,3,4,5,13,14])],[(0,[4,5,13]),(1,[0,1,2,3,4,5,13,14])],[12],[],[[false]]⟩
abbrev sparselaw38_LanczosMeasures_A:List Sh:=[.a (.c (.imm (.int .u64))),sI,sI,sI,sB,sU]
abbrev sparselaw38_LanczosMeasures_S:Sh:= sB
abbrev sparselaw38_LanczosMeasures_U:List Sh:=[sD,sD,sD,sD,sD,sD]
def sparselaw38_LanczosMeasures_R:Qr sparselaw38_LanczosMeasures_A->Option (sparselaw38_LanczosMeasures_S.Val×Qr sparselaw38_LanczosMeasures_U):=fun(x:LI×Int×Int×Int×Bool×Int×Unit)=>sparselaw38_LanczosMeasures m x.1 x.2.1 x.2.2.1 x.2.2.2.1 x.2.2.2.2.1 x.2.2.2.2.2.1
def sparselaw38_LanczosMeasures_T:FunT:=⟨7,sparselaw38_LanczosMeasures_A,sparselaw38_LanczosMeasures_S,sparselaw38_LanczosMeasures_U,sparselaw38_LanczosMeasures_R m⟩
noncomputable def sparselaw38_LanczosMeasures_C:Code:=codeOf f7
noncomputable def sparselaw38_LanczosMeasures_B0:Code:=qo sparselaw38_LanczosMeasures_C 0 0
theorem sparselaw38_LanczosMeasures_K:FL [g11T m,g16T m,g30T m,g31T m,g32T m,sparselaw38_awake_T m]:=AllF.mem ⟨g11ok m,g16ok m,g30ok m,g31ok m,g32ok m,sparselaw38_awake_ok m,trivial⟩
def sparselaw38_LanczosMeasures_L0_X:LT:=⟨0,[(0,.a (.c (.imm (.int .u64)))),(1,sI),(2,sI),(3,sI),(4,sB),(5,sU),(13,sX 0 [.nm 1 (.int .u64),.nm 2 (.int .u64),.dp 3 (.int .u64)]),(14,sI)],[(.exit 0,[(4,sB),(5,sU),(13,sX 0 [.nm 1 (.int .u64),.nm 2 (.int .u64),.dp 3 (.int .u64)])])],fun n (x:LI×Int×Int×Int×Bool×Int×(LI×LI×List LI×Unit)×Int×Unit)=>sparselaw38_LanczosMeasures_L0 m n x.1 x.2.1 x.2.2.1 x.2.2.2.1 x.2.2.2.2.1 x.2.2.2.2.2.1 x.2.2.2.2.2.2.1.1 x.2.2.2.2.2.2.1.2.1 x.2.2.2.2.2.2.1.2.2.1 x.2.2.2.2.2.2.2.1⟩
theorem sparselaw38_LanczosMeasures_L0_ok {E} (hE:EO E 97 sparselaw38_LanczosMeasures_H) (n):LO E sparselaw38_LanczosMeasures_B0 ((sparselaw38_LanczosMeasures_L0_X m).at n):=lk hE (sparselaw38_LanczosMeasures_K m) (sparselaw38_LanczosMeasures_L0_X m) n
theorem sparselaw38_LanczosMeasures_ok:FO (sparselaw38_LanczosMeasures_T m):=f1' sparselaw38_LanczosMeasures_H (sparselaw38_LanczosMeasures_T m) func7 (sparselaw38_LanczosMeasures_K m) fun _ h=>sparselaw38_LanczosMeasures_L0_ok m h m
end
end Go.Vs.F
