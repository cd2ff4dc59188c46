/-The plain functions are what the code does (by program:gen.py). -/
import Derived.Test.YtikppifemlpjlaaGreatDoorOka
set_option linter.unusedVariables false
set_option maxRecDepth 100000
namespace Go.Vs.F
open Go.Proofs
open Tryz
section
variable (m:Nat)
def g209H:Hints:=⟨[J [0,1],J [0,1,5],J [0,1,5,6],J [0,1,5,7,8],J' [(2,1)] [0,1,5,7,8,71],J' [(0,1)] [0,1,5,7,8],J' [(0,1)] [0,1,5,7,8],J [0,1,5,7,8,83],J [0,1,5,7,9,10],J [0,1,5,7,9,10,84,85,86],J [0,1,5,7,9,10,84,85,86,87],J [0,1,5,7,9,10,11,12,84,85,86],J' [(1,1),(4,1)] [0,1,5,7,10,11,13,84,85,86],J [0,1,5,7,9,10,11,13,84,85,86],J' [(5,1),(8,1)] [0,1,5,7,9,11,14,84,85,86],J' [(1,1)] [0,1,5,7,9,14,84,85,86],J' [(0,1)] [0,1,5,7,9,10,84,85,86],J' [(1,1)] [0,1,5,7,9,10,84,85,86],J' [(5,1),(7,1)] [0,1,5,7,15],J [0,1,5,7,15],J' [(0,1)] [0,1,5,7,137],J' [(0,1)] [0,4],J [0,1,5,7,9],J' [(0,1)] [0,5,7,9,140,141,142],J [0,5,7,9,140,141,142,143],J [0,5,7,9,16,17,140,141,142],J' [(5,1),(8,1)] [0,5,7,16,18,140,141,142],J' [(1,1)] [0,5,7,18,140,141,142],J' [(0,1)] [0,5,7,9,140,141,142],J' [(1,1)] [0,5,7,9,140,141,142],J' [(1,1),(4,1)] [0,7],J' [(0,1)] [0,4]],[(0,[0,1,5,7,8]),(2,[0,1,5,7,9,10,84,85,86]),(4,[0,5,7,9,140,141,142])],[(0,[0,1,5,7]),(1,[0,1,5,7,8]),(2,[0,1,5,7,9,10]),(3,[0,1,5,7,9,10,84,85,86]),(4,[0,5,7,9]),(5,[0,5,7,9,140,141,142])],[0,4],[0],[[false]]⟩
def g209T:FunT:=⟨209,[.a (.c (.wn 0 (.int .u32))),.a (.c (.imm (.int .u32)))],.a (.c (.int .u32)),[.a (.c (.wn 0 (.int .u32))),sD],fun x=>g209 m x.1 x.2.1⟩
noncomputable def g209C:Code:=codeOf f209
noncomputable def g209B0:Code:=qp g209C 0 0
noncomputable def g209B2:Code:=qp g209C 0 1
noncomputable def g209B4:Code:=qp g209C 0 2
def g209L2X:LT:=⟨4,[(0,.a (.c (.wn 0 (.int .u32)))),(5,sI),(7,sU),(9,sU),(140,.a (.c (.imm (.int .u32)))),(141,sI),(142,sI)],[(.exit 4,[(0,.a (.c (.wn 0 (.int .u32)))),(5,sI),(7,sU),(9,sU)])],fun n x=>g209L2 m n x.1 x.2.1 x.2.2.1 x.2.2.2.1 x.2.2.2.2.1 x.2.2.2.2.2.1 x.2.2.2.2.2.2.1⟩
theorem g209L2ok {E} (hE:EO E 177 g209H) (n):LO E g209B4 ((g209L2X m).at n):=lk hE noF (g209L2X m) n
def g209L1X:LT:=⟨2,[(0,.a (.c (.wn 0 (.int .u32)))),(1,.a (.c (.imm (.int .u32)))),(5,sI),(7,sU),(9,sU),(10,sU),(84,.a (.c (.imm (.int .u32)))),(85,sI),(86,sI)],[(.exit 2,[(0,.a (.c (.wn 0 (.int .u32)))),(1,.a (.c (.imm (.int .u32)))),(5,sI),(7,sU),(9,sU),(10,sU)])],fun n x=>g209L1 m n x.1 x.2.1 x.2.2.1 x.2.2.2.1 x.2.2.2.2.1 x.2.2.2.2.2.1 x.2.2.2.2.2.2.1 x.2.2.2.2.2.2.2.1 x.2.2.2.2.2.2.2.2.1⟩
theorem g209L1ok {E} (hE:EO E 177 g209H) (n):LO E g209B2 ((g209L1X m).at n):=lk hE noF (g209L1X m) n
def g209L0X:LT:=⟨0,[(0,.a (.c (.wn 0 (.int .u32)))),(1,.a (.c (.imm (.int .u32)))),(5,sI),(7,sU),(8,sU)],[(.exit 0,[(0,.a (.c (.wn 0 (.int .u32)))),(1,.a (.c (.imm (.int .u32)))),(5,sI),(7,sU)])],fun n x=>g209L0 m n x.1 x.2.1 x.2.2.1 x.2.2.2.1 x.2.2.2.2.1⟩
theorem g209L0ok {E} (hE:EO E 177 g209H) (n):LO E g209B0 ((g209L0X m).at n):=lk hE noF (g209L0X m) n
theorem g209ok:FO (g209T m):=
 fok hmix htt (H:=g209H) (g209T m) func209 kR noF (L:=[(g209L0X m).at m,(g209L1X m).at m,(g209L2X m).at m]) (l:=[(0,g209B0),(2,g209B2),(4,g209B4)]) kR (fun _ hE _ _=>⟨qi ⟨yb (g209L0ok m hE m),nb rfl,nb rfl,trivial⟩,qi ⟨nb rfl,yb (g209L1ok m hE m),nb rfl,trivial⟩,qi ⟨nb rfl,nb rfl,yb (g209L2ok m hE m),trivial⟩,trivial⟩) (fun x=>kR)
def g201H:Hints:=⟨[J [0,1],J [0,1,16],J' [(0,1)] [4,5],J [0,1,21],J' [(0,1),(1,1),(5,1)] [6,7],J' [(0,1),(1,1)] [4,5],J [0,1,8],J' [(0,1)] [0,8,9],J [0,8,9,10],J' [(1,1)] [8,9,10],J [8,9,10,11],J [4,8,9,10,11],J [4,8,9,10,11,12],J [4,8,9,10,11,12,64],J' [(0,1)] [4,8,9,10,11,12],J' [(10,300)] [4,8,9,10,11,12],J' [(0,1),(1,1),(4,1),(6,1)] [4,5],J' [(0,1),(2,1)] [4,5]],[(0,[4,8,9,10,11,12])],[(0,[4,8,10,11]),(1,[4,8,9,10,11,12])],[4,5],[],[[false],[false]]⟩
def g201T:FunT:=⟨201,[.a (.c (.imm (.int .u32))),.a (.c (.imm (.int .u32)))],.tup [(.c (.imm (.int .u32))),(.c (.imm (.int .u32)))],[sD,sD],fun x=>g201 m x.1 x.2.1⟩
noncomputable def g201C:Code:=codeOf f201
noncomputable def g201B0:Code:=qp g201C 0 0
theorem g201K:FL [g139T m,g147T m,g207T m,g140T m,g208T m,g182T m,g209T m,g183T m]:=AllF.mem ⟨g139ok m,g147ok m,g207ok m,g140ok m,g208ok m,g182ok m,g209ok m,g183ok m,trivial⟩
def g201L0X:LT:=⟨0,[(4,.a (.c (.nm 0 (.int .u32)))),(8,sI),(9,.a (.c (.imm (.int .u32)))),(10,.a (.c (.nm 1 (.int .u32)))),(11,sI),(12,sI)],[(.exit 0,[(4,.a (.c (.nm 0 (.int .u32)))),(8,sI),(10,.a (.c (.nm 1 (.int .u32)))),(11,sI)])],fun n x=>g201L0 m n x.1 x.2.1 x.2.2.1 x.2.2.2.1 x.2.2.2.2.1 x.2.2.2.2.2.1⟩
theorem g201L0ok {E} (hE:EO E 91 g201H) (n):LO E g201B0 ((g201L0X m).at n):=lk hE (g201K m) (g201L0X m) n
theorem g201ok:FO (g201T m):=f1' g201H (g201T m) func201 (g201K m) fun _ h=>g201L0ok m h m
def g181H:Hints:=⟨[J [2,3,4,5],J [2,3,4,5,7],J [2,3,4,5,7,15],J [4,5,6],J' [(5,1)] [2,3,4,5,7,8,9],J' [(2,1)] [2,3,4,5,7,8,9,32],J' [(0,1),(3,1),(4,1)] [2,3,4,5,8,9],J' [(5,1),(7,1)] [4,5,6]],[],[],[4,5,6],[],[[false,false],[false,false],[false]]⟩
def g181T:FunT:=⟨181,[.a (.agg [.bool,(.imm (.int .u32))]),.a (.agg [.bool,(.imm (.int .u32))])],.tup [(.agg [.bool,(.imm (.int .u32))]),(.agg [.bool,(.imm (.int .u32))]),(.c (.int .i64))],[sD,sD],fun x=>g181 m x.1.1 x.1.2.1 x.2.1.1 x.2.1.2.1⟩
theorem g181ok:FO (g181T m):=fk g181H (g181T m) func181 (AllF.mem (l:=[g140T m,g201T m,g178T m,g179T m,g146T m]) ⟨g140ok m,g201ok m,g178ok m,g179ok m,g146ok m,trivial⟩)
def g190H:Hints:=⟨[J [2,3,4,6],J' [(0,1)] [3,4,6,7],J' [(9,1)] [3,4,6,7,8,9],J' [(10,1)] [6]],[],[],[6],[],[[false,false,false,false,false]]⟩
def g190T:FunT:=⟨190,[.a (.agg [.bool,.bool,(.imm (.int .u32)),(.int .i64)]),.a (.agg [.bool,.bool,(.imm (.int .u32)),(.int .i64)]),sI],.a (.agg [.bool,.bool,(.imm (.int .u32)),(.int .i64),.bool]),[sD,sD,sD],fun x=>g190 m x.1.1 x.1.2.1 x.1.2.2.1 x.1.2.2.2.1 x.2.1.1 x.2.1.2.1 x.2.1.2.2.1 x.2.1.2.2.2.1 x.2.2.1⟩
theorem g190ok:FO (g190T m):=fk g190H (g190T m) func190 (AllF.mem (l:=[g150T m,g187T m,g192T m,g181T m,g91T m]) ⟨g150ok m,g187ok m,g192ok m,g181ok m,g91ok m,trivial⟩)
def g204H:Hints:=⟨[J [1],J [2]],[],[],[2],[],[[false]]⟩
def g204T:FunT:=⟨204,[.a (.agg [.bool,.bool,(.imm (.int .u32)),(.int .i64),.bool])],sI,[sD],fun x=>g204 m x.1.1 x.1.2.1 x.1.2.2.1 x.1.2.2.2.1 x.1.2.2.2.2.1⟩
theorem g204ok:FO (g204T m):=fk g204H (g204T m) func204 (AllF.mem (l:=[g150T m]) ⟨g150ok m,trivial⟩)
def g213H:Hints:=⟨[J [2,3,4],J [2,3,4],J [4]],[],[],[4],[],[[false,false]]⟩
def g213T:FunT:=⟨213,[.a (.agg [.bool,(.imm (.int .u32))]),.a (.agg [.bool,(.imm (.int .u32))])],.a (.agg [.bool,(.imm (.int .u32))]),[sD,sD],fun x=>g213 m x.1.1 x.1.2.1 x.2.1.1 x.2.1.2.1⟩
theorem g213ok:FO (g213T m):=fk g213H (g213T m) func213 (AllF.mem (l:=[g141T m]) ⟨g141ok m,trivial⟩)
def g211H:Hints:=⟨[J [1,2,4],J [1,2,4,7],J' [(1,1)] [1,2,4,14],J [4,5,6],J [1,2,4],J [1,2,4,8],J' [(2,1)] [2,4,5,8],J' [(2,1)] [2,4,5,8,37],J [2,4,5,8],J' [(1,1),(5,1)] [4,5,6]],[],[],[4,5,6],[],[[false,false],[false],[false]]⟩
def g211T:FunT:=⟨211,[.a (.agg [.bool,.bool,(.imm (.int .u32)),(.int .i64),.bool]),sI],.tup [(.agg [.bool,(.imm (.int .u32))]),(.c (.int .i64)),(.c .bool)],[sD,sD],fun x=>g211 m x.1.1 x.1.2.1 x.1.2.2.1 x.1.2.2.2.1 x.1.2.2.2.2.1 x.2.1⟩
theorem g211ok:FO (g211T m):=fk g211H (g211T m) func211 (AllF.mem (l:=[g150T m,g151T m,g192T m,g213T m,g109T m,g88T m,g91T m]) ⟨g150ok m,g151ok m,g192ok m,g213ok m,g109ok m,g88ok m,g91ok m,trivial⟩)
def g205H:Hints:=⟨[J [1,2,3,6],J [1,2,3,6,7,8,9],J [1,2,3,6,7,8,9,16],J' [(3,1)] [2,3,6,7,8,9],J' [(1,1),(6,1)] [2,3,6,7,8,9],J [2,3,6,7,8,9,10],J' [(2,1),(5,1),(10,1)] [3,6,7,10],J' [(0,1)] [2,3,6,7,8,10,49],J [2,3,6,7,8,10,51],J [3,6,7,10],J [2,3,6,7,8,10,56],J [3,6,7,10],J' [(0,1)] [3,6,7,8,10,62],J' [(0,1)] [3,6,7,65],J [3,6,7],J [6,7,70],J [6,7],J [6]],[],[(0,[3,6,7,10])],[6],[],[[false,false]]⟩
def g205T:FunT:=⟨205,[.a (.agg [.bool,.bool,(.imm (.int .u32)),(.int .i64),.bool]),sI,sI],.a (.agg [.bool,(.imm (.int .u32))]),[sD,sD,sD],fun x=>g205 m x.1.1 x.1.2.1 x.1.2.2.1 x.1.2.2.2.1 x.1.2.2.2.2.1 x.2.1 x.2.2.1⟩
theorem g205ok:FO (g205T m):=fk g205H (g205T m) func205 (AllF.mem (l:=[g192T m,g111T m,g211T m,g109T m,g141T m,g91T m,g149T m]) ⟨g192ok m,g111ok m,g211ok m,g109ok m,g141ok m,g91ok m,g149ok m,trivial⟩)
def g189H:Hints:=⟨[J [1,2,3,6],J' [(3,1)] [2,3,6,7],J' [(2,1)] [6]],[],[],[6],[],[[false,false,false,false]]⟩
def g189T:FunT:=⟨189,[.a (.agg [.bool,.bool,(.imm (.int .u32)),(.int .i64),.bool]),sI,sI],.a (.agg [.bool,.bool,(.imm (.int .u32)),(.int .i64)]),[sD,sD,sD],fun x=>g189 m x.1.1 x.1.2.1 x.1.2.2.1 x.1.2.2.2.1 x.1.2.2.2.2.1 x.2.1 x.2.2.1⟩
theorem g189ok:FO (g189T m):=fk g189H (g189T m) func189 (AllF.mem (l:=[g204T m,g205T m,g112T m]) ⟨g204ok m,g205ok m,g112ok m,trivial⟩)
def g159H:Hints:=⟨[J [2,3,4,5,8],J' [(3,1)] [2,3,4,5,8,9],J' [(0,1),(2,1),(7,1)] [2,3,4,5,8,29],J [8],J [2,3,4,5,8,34],J [8],J' [(5,1)] [8]],[],[],[8],[],[[false,false,false,false]]⟩
def g159T:FunT:=⟨159,[.a (.agg [.bool,.bool,(.imm (.int .u32)),(.int .i64)]),.a (.agg [.bool,.bool,(.imm (.int .u32)),(.int .i64)]),sI,sI],.a (.agg [.bool,.bool,(.imm (.int .u32)),(.int .i64)]),[sD,sD,sD,sD],fun x=>g159 m x.1.1 x.1.2.1 x.1.2.2.1 x.1.2.2.2.1 x.2.1.1 x.2.1.2.1 x.2.1.2.2.1 x.2.1.2.2.2.1 x.2.2.1 x.2.2.2.1⟩
theorem g159ok:FO (g159T m):=fk g159H (g159T m) func159 (AllF.mem (l:=[g161T m,g145T m,g188T m,g91T m,g190T m,g189T m]) ⟨g161ok m,g145ok m,g188ok m,g91ok m,g190ok m,g189ok m,trivial⟩)
def g107H:Hints:=⟨[J [2,3,4,6],J' [(0,2)] [2,3,4,6,8],J [2,3,4,6,8,9],J [2,4,6,8,9,20,21,22],J [2,4,6,8,9,20,21,22,23],J' [(2,2)] [2,4,6,8,9,11,20,21,22],J [2,4,6,8,9,11,20,21,22,30,31,32],J [2,4,6,8,9,11,20,21,22,30,31,32,33],J [2,4,6,8,9,11,13,20,21,22,30,31,32],J [2,4,6,8,9,11,14,15,20,21,22,30,31,32],J' [(3,1)] [2,4,6,8,9,11,14,15,20,21,22,30,31,32,51],J' [(0,1)] [6,7],J' [(1,1)] [2,4,6,8,9,11,14,15,20,21,22,30,31,32,59],J [2,4,6,8,9,11,15,20,21,22,30,31,32],J' [(0,1),(1,1)] [2,4,6,8,11,15,20,21,22,30,31,32,68],J [2,4,6,8,11,20,21,22,30,31,32],J [2,4,6,8,9,11,20,21,22,30,31,32],J' [(1,1)] [2,4,6,8,9,11,20,21,22,30,31,32],J' [(1,1)] [2,4,6,8,9,20,21,22],J [6,7]],[(0,[2,4,6,8,9,20,21,22]),(2,[2,4,6,8,9,11,20,21,22,30,31,32])],[(0,[6,8]),(1,[2,4,6,8,9,20,21,22]),(2,[2,4,6,8,9,20,21,22]),(3,[2,4,6,8,9,11,20,21,22,30,31,32])],[6,7],[],[[false,false,false,false,false,false,false,false],[false]]⟩
def g107T:FunT:=⟨107,[.a (.agg [.bool,.bool,(.imm (.int .u32)),(.int .i64),.bool,.bool,(.imm (.int .u32)),(.int .i64)]),.a (.agg [.bool,.bool,(.imm (.int .u32)),(.int .i64),.bool,.bool,(.imm (.int .u32)),(.int .i64)]),sI],.tup [(.agg [.bool,.bool,(.imm (.int .u32)),(.int .i64),.bool,.bool,(.imm (.int .u32)),(.int .i64)]),(.c .bool)],[sD,sD,sD],fun x=>g107 m x.1.1 x.1.2.1 x.1.2.2.1 x.1.2.2.2.1 x.1.2.2.2.2.1 x.1.2.2.2.2.2.1 x.1.2.2.2.2.2.2.1 x.1.2.2.2.2.2.2.2.1 x.2.1.1 x.2.1.2.1 x.2.1.2.2.1 x.2.1.2.2.2.1 x.2.1.2.2.2.2.1 x.2.1.2.2.2.2.2.1 x.2.1.2.2.2.2.2.2.1 x.2.1.2.2.2.2.2.2.2.1 x.2.2.1⟩
noncomputable def g107C:Code:=codeOf f107
noncomputable def g107B0:Code:=qp g107C 0 0
noncomputable def g107B2:Code:=qp g107B0 0 0
theorem g107K:FL [g159T m,g158T m,g104T m]:=AllF.mem ⟨g159ok m,g158ok m,g104ok m,trivial⟩
def g107L1X:LT:=⟨2,[(2,sI),(4,sX 0 [.bool,.bool,.imm (.int .u32),iI,.bool,.bool,.imm (.int .u32),iI]),(6,sX 1 [.bool,.bool,.nm 2 (.int .u32),iI,.bool,.bool,.nm 3 (.int .u32),iI]),(8,sX 4 [.bool,.bool,.imm (.int .u32),iI,.bool,.bool,.imm (.int .u32),iI]),(9,sB),(11,sX 5 [.bool,.bool,.imm (.int .u32),iI]),(20,.a (.c (.nm 6 (.pr .bool (.pr (.pr .bool (.sl false (.int .u32))) (.int .i64)))))),(21,sI),(22,sI),(30,.a (.c (.nm 7 (.pr .bool (.pr (.pr .bool (.sl false (.int .u32))) (.int .i64)))))),(31,sI),(32,sI)],[(.ret,[(6,sX 0 [.bool,.bool,.imm (.int .u32),iI,.bool,.bool,.imm (.int .u32),iI]),(7,sB)]),(.exit 2,[(2,sI),(4,sX 0 [.bool,.bool,.imm (.int .u32),iI,.bool,.bool,.imm (.int .u32),iI]),(6,sX 1 [.bool,.bool,.nm 2 (.int .u32),iI,.bool,.bool,.nm 3 (.int .u32),iI]),(8,sX 4 [.bool,.bool,.imm (.int .u32),iI,.bool,.bool,.imm (.int .u32),iI]),(9,sB),(20,.a (.c (.nm 5 (.pr .bool (.pr (.pr .bool (.sl false (.int .u32))) (.int .i64)))))),(21,sI),(22,sI)])],fun n x=>g107L1 m n x.1 x.2.1.1 x.2.1.2.1 x.2.1.2.2.1 x.2.1.2.2.2.1 x.2.1.2.2.2.2.1 x.2.1.2.2.2.2.2.1 x.2.1.2.2.2.2.2.2.1 x.2.1.2.2.2.2.2.2.2.1 x.2.2.1.1 x.2.2.1.2.1 x.2.2.1.2.2.1 x.2.2.1.2.2.2.1 x.2.2.1.2.2.2.2.1 x.2.2.1.2.2.2.2.2.1 x.2.2.1.2.2.2.2.2.2.1 x.2.2.1.2.2.2.2.2.2.2.1 x.2.2.2.1.1 x.2.2.2.1.2.1 x.2.2.2.1.2.2.1 x.2.2.2.1.2.2.2.1 x.2.2.2.1.2.2.2.2.1 x.2.2.2.1.2.2.2.2.2.1 x.2.2.2.1.2.2.2.2.2.2.1 x.2.2.2.1.2.2.2.2.2.2.2.1 x.2.2.2.2.1 x.2.2.2.2.2.1.1 x.2.2.2.2.2.1.2.1 x.2.2.2.2.2.1.2.2.1 x.2.2.2.2.2.1.2.2.2.1 x.2.2.2.2.2.2.1 x.2.2.2.2.2.2.2.1 x.2.2.2.2.2.2.2.2.1 x.2.2.2.2.2.2.2.2.2.1 x.2.2.2.2.2.2.2.2.2.2.1 x.2.2.2.2.2.2.2.2.2.2.2.1⟩
theorem g107L1ok {E} (hE:EO E 74 g107H) (n):LO E g107B2 ((g107L1X m).at n):=lk hE (g107K m) (g107L1X m) n
def g107L0X:LT:=⟨0,[(2,sI),(4,sX 0 [.bool,.bool,.imm (.int .u32),iI,.bool,.bool,.imm (.int .u32),iI]),(6,sX 1 [.bool,.bool,.nm 2 (.int .u32),iI,.bool,.bool,.nm 3 (.int .u32),iI]),(8,sX 4 [.bool,.bool,.imm (.int .u32),iI,.bool,.bool,.imm (.int .u32),iI]),(9,sB),(20,.a (.c (.nm 5 (.pr .bool (.pr (.pr .bool (.sl false (.int .u32))) (.int .i64)))))),(21,sI),(22,sI)],[(.ret,[(6,sX 0 [.bool,.bool,.imm (.int .u32),iI,.bool,.bool,.imm (.int .u32),iI]),(7,sB)]),(.exit 0,[(6,sX 0 [.bool,.bool,.nm 1 (.int .u32),iI,.bool,.bool,.nm 2 (.int .u32),iI]),(8,sX 3 [.bool,.bool,.imm (.int .u32),iI,.bool,.bool,.imm (.int .u32),iI])])],fun n x=>g107L0 m n x.1 x.2.1.1 x.2.1.2.1 x.2.1.2.2.1 x.2.1.2.2.2.1 x.2.1.2.2.2.2.1 x.2.1.2.2.2.2.2.1 x.2.1.2.2.2.2.2.2.1 x.2.1.2.2.2.2.2.2.2.1 x.2.2.1.1 x.2.2.1.2.1 x.2.2.1.2.2.1 x.2.2.1.2.2.2.1 x.2.2.1.2.2.2.2.1 x.2.2.1.2.2.2.2.2.1 x.2.2.1.2.2.2.2.2.2.1 x.2.2.1.2.2.2.2.2.2.2.1 x.2.2.2.1.1 x.2.2.2.1.2.1 x.2.2.2.1.2.2.1 x.2.2.2.1.2.2.2.1 x.2.2.2.1.2.2.2.2.1 x.2.2.2.1.2.2.2.2.2.1 x.2.2.2.1.2.2.2.2.2.2.1 x.2.2.2.1.2.2.2.2.2.2.2.1 x.2.2.2.2.1 x.2.2.2.2.2.1 x.2.2.2.2.2.2.1 x.2.2.2.2.2.2.2.1⟩
theorem g107L0ok {E} (hE:EO E 74 g107H) (n):LO E g107B0 ((g107L0X m).at n):=
 lok hmix htt hE (g107K m) (L:=[(g107L1X m).at m]) (g107L0X m) (l:=[(2,g107B2)]) kR (fun _ _=>⟨qi ⟨yb (g107L1ok m hE m),trivial⟩,trivial⟩) (fun n x=>kR) (fun _=>kR) n
theorem g107ok:FO (g107T m):=f1' g107H (g107T m) func107 (g107K m) fun _ h=>g107L0ok m h m
def g191H:Hints:=⟨[J [1,2],J [2]],[],[],[2],[],[[false,false,false,false,false]]⟩
def g191T:FunT:=⟨191,[.a (.agg [.bool,.bool,(.imm (.int .u32)),(.int .i64)])],.a (.agg [.bool,.bool,(.imm (.int .u32)),(.int .i64),.bool]),[sD],fun x=>g191 m x.1.1 x.1.2.1 x.1.2.2.1 x.1.2.2.2.1⟩
theorem g191ok:FO (g191T m):=fk g191H (g191T m) func191 (AllF.mem (l:=[g187T m]) ⟨g187ok m,trivial⟩)
def g160H:Hints:=⟨[J [1,2,3,6],J' [(2,1)] [1,2,3,6,7],J' [(0,1),(2,1)] [1,2,3,6,19],J [6],J [1,2,3,6,24],J [6],J' [(2,1),(3,1)] [6]],[],[],[6],[],[[false,false,false,false]]⟩
def g160T:FunT:=⟨160,[.a (.agg [.bool,.bool,(.imm (.int .u32)),(.int .i64)]),sI,sI],.a (.agg [.bool,.bool,(.imm (.int .u32)),(.int .i64)]),[sD,sD,sD],fun x=>g160 m x.1.1 x.1.2.1 x.1.2.2.1 x.1.2.2.2.1 x.2.1 x.2.2.1⟩
theorem g160ok:FO (g160T m):=fk g160H (g160T m) func160 (AllF.mem (l:=[g97T m,g145T m,g188T m,g91T m,g191T m,g189T m]) ⟨g97ok m,g145ok m,g188ok m,g91ok m,g191ok m,g189ok m,trivial⟩)
def g108H:Hints:=⟨[J [2,3,4,6],J [6,8],J' [(4,1)] [6,7]],[],[],[6,7],[],[[false,false,false,false,false,false,false,false],[false]]⟩
def g108T:FunT:=⟨108,[.a (.agg [.bool,.bool,(.imm (.int .u32)),(.int .i64),.bool,.bool,(.imm (.int .u32)),(.int .i64)]),.a (.agg [.bool,.bool,(.imm (.int .u32)),(.int .i64),.bool,.bool,(.imm (.int .u32)),(.int .i64)]),sI],.tup [(.agg [.bool,.bool,(.imm (.int .u32)),(.int .i64),.bool,.bool,(.imm (.int .u32)),(.int .i64)]),(.c .bool)],[sD,sD,sD],fun x=>g108 m x.1.1 x.1.2.1 x.1.2.2.1 x.1.2.2.2.1 x.1.2.2.2.2.1 x.1.2.2.2.2.2.1 x.1.2.2.2.2.2.2.1 x.1.2.2.2.2.2.2.2.1 x.2.1.1 x.2.1.2.1 x.2.1.2.2.1 x.2.1.2.2.2.1 x.2.1.2.2.2.2.1 x.2.1.2.2.2.2.2.1 x.2.1.2.2.2.2.2.2.1 x.2.1.2.2.2.2.2.2.2.1 x.2.2.1⟩
theorem g108ok:FO (g108T m):=fk g108H (g108T m) func108 (AllF.mem (l:=[g66T m,g160T m,g158T m]) ⟨g66ok m,g160ok m,g158ok m,trivial⟩)
def g64H:Hints:=⟨[J [0,1],J [0,1],J [0,1,21,22],J [0,1,21,22,23],J [0,1,5,21,22],J [0,1,5,21,22,26,27],J [0,1,5,21,22,26,27,28],J [0,1,5,6,21,22,26,27],J' [(8,1)] [0,1,5,6,21,22,26,27,47],J' [(21,1)] [0,1,5,6,7,8,21,22,26,27],J' [(0,1)] [0,1,5,6,7,21,22,26,27,73],J [0,4],J' [(16,1)] [0,1,5,6,8,9,21,22,26,27],J' [(0,1)] [0,1,5,6,9,21,22,26,27,94],J [0,4],J' [(16,1)] [0,1,5,6,8,10,21,22,26,27],J' [(0,1)] [0,1,5,6,10,21,22,26,27,115],J [0,4],J [0,1,5,21,22,26,27],J' [(1,1)] [0,1,5,21,22,26,27],J' [(1,1)] [0,1,21,22],J [0,4]],[(0,[0,1,21,22]),(2,[0,1,5,21,22,26,27])],[(0,[0]),(1,[0,1,21,22]),(2,[0,1,21,22]),(3,[0,1,5,21,22,26,27])],[0,4],[0],[[false]]⟩
def g64T:FunT:=⟨64,[sX 0 [.dp 1 (.pr (.pr .bool (.pr (.pr .bool (.sl false (.int .u32))) (.int .i64))) (.pr .bool (.pr (.pr .bool (.sl false (.int .u32))) (.int .i64)))),.nm 2 .bool,iI],sI],sB,[sX 0 [.dp 1 (.pr (.pr .bool (.pr (.pr .bool (.sl false (.int .u32))) (.int .i64))) (.pr .bool (.pr (.pr .bool (.sl false (.int .u32))) (.int .i64)))),.nm 2 .bool,iI],sD],fun x=>g64 m x.1.1 x.1.2.1 x.1.2.2.1 x.2.1⟩
noncomputable def g64C:Code:=codeOf f64
noncomputable def g64B0:Code:=qp g64C 0 0
noncomputable def g64B2:Code:=qp g64B0 0 0
theorem g64K:FL [g106T m,g107T m,g108T m]:=AllF.mem ⟨g106ok m,g107ok m,g108ok m,trivial⟩
def g64L1X:LT:=⟨2,[(0,sX 0 [.dp 1 (.pr (.pr .bool (.pr (.pr .bool (.sl false (.int .u32))) (.int .i64))) (.pr .bool (.pr (.pr .bool (.sl false (.int .u32))) (.int .i64)))),.nm 2 .bool,iI]),(1,sI),(5,sI),(21,sI),(22,sI),(26,sI),(27,sI)],[(.ret,[(0,sX 0 [.dp 1 (.pr (.pr .bool (.pr (.pr .bool (.sl false (.int .u32))) (.int .i64))) (.pr .bool (.pr (.pr .bool (.sl false (.int .u32))) (.int .i64)))),.nm 2 .bool,iI]),(4,sB)]),(.exit 2,[(0,sX 0 [.dp 1 (.pr (.pr .bool (.pr (.pr .bool (.sl false (.int .u32))) (.int .i64))) (.pr .bool (.pr (.pr .bool (.sl false (.int .u32))) (.int .i64)))),.nm 2 .bool,iI]),(1,sI),(21,sI),(22,sI)])],fun n x=>g64L1 m n x.1.1 x.1.2.1 x.1.2.2.1 x.2.1 x.2.2.1 x.2.2.2.1 x.2.2.2.2.1 x.2.2.2.2.2.1 x.2.2.2.2.2.2.1⟩
theorem g64L1ok {E} (hE:EO E 138 g64H) (n):LO E g64B2 ((g64L1X m).at n):=lk hE (g64K m) (g64L1X m) n
def g64L0X:LT:=⟨0,[(0,sX 0 [.dp 1 (.pr (.pr .bool (.pr (.pr .bool (.sl false (.int .u32))) (.int .i64))) (.pr .bool (.pr (.pr .bool (.sl false (.int .u32))) (.int .i64)))),.nm 2 .bool,iI]),(1,sI),(21,sI),(22,sI)],[(.ret,[(0,sX 0 [.dp 1 (.pr (.pr .bool (.pr (.pr .bool (.sl false (.int .u32))) (.int .i64))) (.pr .bool (.pr (.pr .bool (.sl false (.int .u32))) (.int .i64)))),.nm 2 .bool,iI]),(4,sB)]),(.exit 0,[(0,sX 0 [.dp 1 (.pr (.pr .bool (.pr (.pr .bool (.sl false (.int .u32))) (.int .i64))) (.pr .bool (.pr (.pr .bool (.sl false (.int .u32))) (.int .i64)))),.nm 2 .bool,iI])])],fun n x=>g64L0 m n x.1.1 x.1.2.1 x.1.2.2.1 x.2.1 x.2.2.1 x.2.2.2.1⟩
theorem g64L0ok {E} (hE:EO E 138 g64H) (n):LO E g64B0 ((g64L0X m).at n):=
 lok hmix htt hE (g64K m) (L:=[(g64L1X m).at m]) (g64L0X m) (l:=[(2,g64B2)]) kR (fun _ _=>⟨qi ⟨yb (g64L1ok m hE m),trivial⟩,trivial⟩) (fun n x=>kR) (fun _=>kR) n
theorem g64ok:FO (g64T m):=f1' g64H (g64T m) func64 (g64K m) fun _ h=>g64L0ok m h m
def g34H:Hints:=⟨[J [0,1,4],J' [(2,4),(6,1)] [0,4,6],J [0,4,6,22,23,24],J [0,4,6,22,23,24,25],J [0,4,6,7,8,22,23,24],J [0,4,6,7,8,22,23,24],J' [(0,1)] [0,4,6,7,22,23,24,35,36,37],J [0,4,6,7,22,23,24,35,36,37,38],J [0,4,6,7,10,22,23,24,35,36,37],J' [(11,4),(18,4)] [0,4,6,7,22,23,24,35,36,37],J' [(1,1)] [0,4,6,7,22,23,24,35,36,37],J' [(1,1)] [0,4,6,22,23,24],J [0,4,6,11],J' [(0,1)] [4,6,11,62,63],J [4,6,11,62,63,64],J [4,6,11,12,62,63],J [4,6,11,12,62,63,68],J [4,5],J [4,6,11,12,62,63,81],J [4,6,11,12,62,63],J [4,6,11,12,62,63],J' [(1,1)] [4,6,11,62,63,93],J [4,5],J' [(1,1)] [4,6,11,62,63],J [4,5]],[(0,[0,4,6,22,23,24]),(2,[0,4,6,7,22,23,24,35,36,37]),(4,[4,6,11,62,63])],[(0,[0,4,6]),(1,[0,4,6,22,23,24]),(2,[0,4,6,22,23,24]),(3,[0,4,6,7,22,23,24,35,36,37]),(4,[4,11]),(5,[4,6,11,62,63])],[4,5],[],[[false,false,false],[false]]⟩
def g34T:FunT:=⟨34,[.a (.c (.imm (.sl false (.pr .bool (.pr (.pr .bool (.sl false (.int .u32))) (.int .i64)))))),sI],.tup [(.agg [(.int .i64),(.int .i64),(.int .i64)]),(.c .bool)],[sD,sD],fun x=>g34 m x.1 x.2.1⟩
noncomputable def g34C:Code:=codeOf f34
noncomputable def g34B0:Code:=qp g34C 0 0
noncomputable def g34B2:Code:=qp g34B0 0 0
noncomputable def g34B4:Code:=qp g34C 0 1
theorem g34K:FL [g62T m,g63T m,g64T m]:=AllF.mem ⟨g62ok m,g63ok m,g64ok m,trivial⟩
def g34L2X:LT:=⟨4,[(4,sX 0 [iI,iI,iI]),(6,sX 1 [.dp 2 (.pr (.pr .bool (.pr (.pr .bool (.sl false (.int .u32))) (.int .i64))) (.pr .bool (.pr (.pr .bool (.sl false (.int .u32))) (.int .i64)))),.nm 3 .bool,iI]),(11,sX 4 [iI,iI,iI]),(62,sI),(63,sI)],[(.ret,[(4,sX 0 [iI,iI,iI]),(5,sB)]),(.exit 4,[(4,sX 0 [iI,iI,iI]),(11,sX 1 [iI,iI,iI])])],fun n x=>g34L2 m n x.1.1 x.1.2.1 x.1.2.2.1 x.2.1.1 x.2.1.2.1 x.2.1.2.2.1 x.2.2.1.1 x.2.2.1.2.1 x.2.2.1.2.2.1 x.2.2.2.1 x.2.2.2.2.1⟩
theorem g34L2ok {E} (hE:EO E 97 g34H) (n):LO E g34B4 ((g34L2X m).at n):=lk hE (g34K m) (g34L2X m) n
def g34L1X:LT:=⟨2,[(0,.a (.c (.imm (.sl false (.pr .bool (.pr (.pr .bool (.sl false (.int .u32))) (.int .i64))))))),(4,sX 0 [iI,iI,iI]),(6,sX 1 [.dp 2 (.pr (.pr .bool (.pr (.pr .bool (.sl false (.int .u32))) (.int .i64))) (.pr .bool (.pr (.pr .bool (.sl false (.int .u32))) (.int .i64)))),.nm 3 .bool,iI]),(7,sI),(22,.a (.c (.imm (.sl false (.pr .bool (.pr (.pr .bool (.sl false (.int .u32))) (.int .i64))))))),(23,sI),(24,sI),(35,.a (.c (.imm (.pr .bool (.pr (.pr .bool (.sl false (.int .u32))) (.int .i64)))))),(36,sI),(37,sI)],[(.exit 2,[(0,.a (.c (.imm (.sl false (.pr .bool (.pr (.pr .bool (.sl false (.int .u32))) (.int .i64))))))),(4,sX 0 [iI,iI,iI]),(6,sX 1 [.dp 2 (.pr (.pr .bool (.pr (.pr .bool (.sl false (.int .u32))) (.int .i64))) (.pr .bool (.pr (.pr .bool (.sl false (.int .u32))) (.int .i64)))),.nm 3 .bool,iI]),(22,.a (.c (.imm (.sl false (.pr .bool (.pr (.pr .bool (.sl false (.int .u32))) (.int .i64))))))),(23,sI),(24,sI)])],fun n x=>g34L1 m n x.1 x.2.1.1 x.2.1.2.1 x.2.1.2.2.1 x.2.2.1.1 x.2.2.1.2.1 x.2.2.1.2.2.1 x.2.2.2.1 x.2.2.2.2.1 x.2.2.2.2.2.1 x.2.2.2.2.2.2.1 x.2.2.2.2.2.2.2.1 x.2.2.2.2.2.2.2.2.1 x.2.2.2.2.2.2.2.2.2.1⟩
theorem g34L1ok {E} (hE:EO E 97 g34H) (n):LO E g34B2 ((g34L1X m).at n):=lk hE (g34K m) (g34L1X m) n
def g34L0X:LT:=⟨0,[(0,.a (.c (.imm (.sl false (.pr .bool (.pr (.pr .bool (.sl false (.int .u32))) (.int .i64))))))),(4,sX 0 [iI,iI,iI]),(6,sX 1 [.dp 2 (.pr (.pr .bool (.pr (.pr .bool (.sl false (.int .u32))) (.int .i64))) (.pr .bool (.pr (.pr .bool (.sl false (.int .u32))) (.int .i64)))),.nm 3 .bool,iI]),(22,.a (.c (.imm (.sl false (.pr .bool (.pr (.pr .bool (.sl false (.int .u32))) (.int .i64))))))),(23,sI),(24,sI)],[(.exit 0,[(0,.a (.c (.imm (.sl false (.pr .bool (.pr (.pr .bool (.sl false (.int .u32))) (.int .i64))))))),(4,sX 0 [iI,iI,iI]),(6,sX 1 [.dp 2 (.pr (.pr .bool (.pr (.pr .bool (.sl false (.int .u32))) (.int .i64))) (.pr .bool (.pr (.pr .bool (.sl false (.int .u32))) (.int .i64)))),.nm 3 .bool,iI])])],fun n x=>g34L0 m n x.1 x.2.1.1 x.2.1.2.1 x.2.1.2.2.1 x.2.2.1.1 x.2.2.1.2.1 x.2.2.1.2.2.1 x.2.2.2.1 x.2.2.2.2.1 x.2.2.2.2.2.1⟩
theorem g34L0ok {E} (hE:EO E 97 g34H) (n):LO E g34B0 ((g34L0X m).at n):=
 lok hmix htt hE (g34K m) (L:=[(g34L1X m).at m]) (g34L0X m) (l:=[(2,g34B2)]) kR (fun _ _=>⟨qi ⟨yb (g34L1ok m hE m),trivial⟩,trivial⟩) (fun n x=>kR) (fun _=>kR) n
theorem g34ok:FO (g34T m):=
 fok hmix htt (H:=g34H) (g34T m) func34 kR (g34K m) (L:=[(g34L0X m).at m,(g34L2X m).at m]) (l:=[(0,g34B0),(4,g34B4)]) kR (fun _ hE _ _=>⟨qi ⟨yb (g34L0ok m hE m),nb rfl,trivial⟩,qi ⟨nb rfl,yb (g34L2ok m hE m),trivial⟩,trivial⟩) (fun x=>kR)
def g12H:Hints:=⟨[J [1,2,3,6],J [1,2,3,6,9],J [1,2,3,6,9,16],J' [(1,1)] [6,7,8],J' [(2,1)] [1,2,3,6,24],J [6,7,8],J' [(1,1),(3,1),(5,1)] [6,10,11],J' [(1,1)] [6,7,8]],[],[],[6,7,8],[],[[false,false,false],[false],[false]]⟩
def g12T:FunT:=⟨12,[.a (.agg [(.int .i64),(.int .i64),(.imm (.int .i64)),(.imm (.int .i64)),(.imm (.int .u64))]),sU,sI],.tup [(.agg [(.int .i64),(.int .i64),(.int .i64)]),(.c .bool),(.c (.int .i64))],[sD,sD,sD],fun x=>g12 m x.1.1 x.1.2.1 x.1.2.2.1 x.1.2.2.2.1 x.1.2.2.2.2.1 x.2.1 x.2.2.1⟩
theorem g12ok:FO (g12T m):=fk g12H (g12T m) func12 (AllF.mem (l:=[g33T m,g35T m,g34T m]) ⟨g33ok m,g35ok m,g34ok m,trivial⟩)
def g46H:Hints:=⟨[J [0],J [3,4],J' [(2,1)] [3,4,10],J [2],J [3,4,17],J [2],J' [(0,1),(2,1),(3,1)] [20],J [2],J [2]],[],[(0,[])],[2],[],[[false]]⟩
def g46T:FunT:=⟨46,[sU],sI,[sD],fun x=>g46 m x.1⟩
theorem g46ok:FO (g46T m):=fk g46H (g46T m) func46 noF
def g36H:Hints:=⟨[J [1,2,3],J [1,2,3,7],J [1,2,3,7,11],J' [(0,1)] [6],J [1,2,3,13],J [6],J [1,2,19],J [6],J' [(3,1),(4,1),(6,1)] [23],J [6],J [6]],[],[(0,[])],[6],[],[[false]]⟩
def g36T:FunT:=⟨36,[.a (.agg [(.int .i64),(.int .i64),(.imm (.int .i64)),(.imm (.int .i64)),(.imm (.int .u64))]),sU,sB],sI,[sD,sD,sD],fun x=>g36 m x.1.1 x.1.2.1 x.1.2.2.1 x.1.2.2.2.1 x.1.2.2.2.2.1 x.2.1 x.2.2.1⟩
theorem g36ok:FO (g36T m):=fk g36H (g36T m) func36 (AllF.mem (l:=[g50T m,g23T m,g46T m]) ⟨g50ok m,g23ok m,g46ok m,trivial⟩)
def g85H:Hints:=⟨[J [0],J' [(0,1)] [2]],[],[],[2],[],[[false]]⟩
def g85T:FunT:=⟨85,[sU],sB,[sD],fun x=>g85 m x.1⟩
theorem g85ok:FO (g85T m):=fk g85H (g85T m) func85 noF
def g49H:Hints:=⟨[J [0,2],J [0,2,8],J [2],J [0,2,3,4],J [0,2,3,4,5],J [0,2,3,4,5,17],J' [(0,1)] [0,2,3,4],J' [(0,1)] [0,2,4,5],J' [(0,1),(9,1)] [2]],[],[],[2],[],[[false,false,false,false]]⟩
def g49T:FunT:=⟨49,[sU],.a (.agg [.bool,.bool,(.imm (.int .u32)),(.int .i64)]),[sD],fun x=>g49 m x.1⟩
theorem g49ok:FO (g49T m):=fk g49H (g49T m) func49 (AllF.mem (l:=[g23T m,g83T m,g85T m,g84T m]) ⟨g23ok m,g83ok m,g85ok m,g84ok m,trivial⟩)
def g116H:Hints:=⟨[J [1,2],J [1,2],J [1,2,6],J [2],J [2]],[],[],[2],[],[[false,false,false,false]]⟩
def g116T:FunT:=⟨116,[.a (.agg [.bool,.bool,(.imm (.int .u32)),(.int .i64)])],.a (.agg [.bool,.bool,(.imm (.int .u32)),(.int .i64)]),[sD],fun x=>g116 m x.1.1 x.1.2.1 x.1.2.2.1 x.1.2.2.2.1⟩
theorem g116ok:FO (g116T m):=fk g116H (g116T m) func116 (AllF.mem (l:=[g68T m,g164T m,g84T m]) ⟨g68ok m,g164ok m,g84ok m,trivial⟩)
def g118H:Hints:=⟨[J [2,3,4,5],J [2,3,4,5,7,8],J [2,3,4,5,7,8,13],J [4,5,6],J [2,3,4,5,7,8,21],J [4,5,6],J [2,3,4,5,7,8,29],J [4,5,6],J [4,5,6]],[],[(0,[2,3,4,5,7,8])],[4,5,6],[],[[false,false],[false,false],[false]]⟩
def g118T:FunT:=⟨118,[.a (.agg [.bool,.bool,(.imm (.int .u32)),(.int .i64)]),.a (.agg [.bool,.bool,(.imm (.int .u32)),(.int .i64)])],.tup [(.agg [.bool,(.imm (.int .u32))]),(.agg [.bool,(.imm (.int .u32))]),(.c (.int .i64))],[sD,sD],fun x=>g118 m x.1.1 x.1.2.1 x.1.2.2.1 x.1.2.2.2.1 x.2.1.1 x.2.1.2.1 x.2.1.2.2.1 x.2.1.2.2.2.1⟩
theorem g118ok:FO (g118T m):=fk g118H (g118T m) func118 (AllF.mem (l:=[g69T m,g80T m]) ⟨g69ok m,g80ok m,trivial⟩)
def g115H:Hints:=⟨[J [2,3,4],J [2,3,4],J' [(2,1)] [2,3,4,17],J [4],J' [(3,1)] [4,5,6,7],J' [(3,1)] [4]],[],[],[4],[],[[false,false,false,false]]⟩
def g115T:FunT:=⟨115,[.a (.agg [.bool,.bool,(.imm (.int .u32)),(.int .i64)]),.a (.agg [.bool,.bool,(.imm (.int .u32)),(.int .i64)])],.a (.agg [.bool,.bool,(.imm (.int .u32)),(.int .i64)]),[sD,sD],fun x=>g115 m x.1.1 x.1.2.1 x.1.2.2.1 x.1.2.2.2.1 x.2.1.1 x.2.1.2.1 x.2.1.2.2.1 x.2.1.2.2.2.1⟩
theorem g115ok:FO (g115T m):=fk g115H (g115T m) func115 (AllF.mem (l:=[g68T m,g83T m,g118T m,g163T m,g84T m]) ⟨g68ok m,g83ok m,g118ok m,g163ok m,g84ok m,trivial⟩)
def g67H:Hints:=⟨[J [2,3,4],J [4]],[],[],[4],[],[[false,false,false,false]]⟩
def g67T:FunT:=⟨67,[.a (.agg [.bool,.bool,(.imm (.int .u32)),(.int .i64)]),.a (.agg [.bool,.bool,(.imm (.int .u32)),(.int .i64)])],.a (.agg [.bool,.bool,(.imm (.int .u32)),(.int .i64)]),[sD,sD],fun x=>g67 m x.1.1 x.1.2.1 x.1.2.2.1 x.1.2.2.2.1 x.2.1.1 x.2.1.2.1 x.2.1.2.2.1 x.2.1.2.2.2.1⟩
theorem g67ok:FO (g67T m):=fk g67H (g67T m) func67 (AllF.mem (l:=[g116T m,g115T m]) ⟨g116ok m,g115ok m,trivial⟩)
def g37H:Hints:=⟨[J [1,2],J' [(0,6)] [1,2,5],J [1,2,5,6],J [1,2,5,6,13],J' [(0,1)] [1,2,5,6],J [1,2,5,6,7],J [1,2,5,6,7,8],J [1,2,5,6,7,8,19],J' [(0,1)] [1,2,5,6,7,8],J [1,2,5,6,7,8,9],J [1,2,5,6,7,8,9,33],J [1,2,5,6,7,8,9],J' [(0,1)] [1,2,5,6,7,8],J' [(0,1),(1,1),(2,6),(3,6)] [1,2,5,6],J' [(0,1)] [4]],[(0,[1,2,5,6]),(2,[1,2,5,6,7,8])],[(0,[5]),(1,[1,2,5,6]),(2,[1,2,5,6,7]),(3,[1,2,5,6,7,8])],[4],[],[[false]]⟩
def g37T:FunT:=⟨37,[.a (.agg [(.int .i64),(.int .i64),(.imm (.int .i64)),(.imm (.int .i64)),(.imm (.int .u64))]),sU],.a (.c (.imm (.sl false (.pr .bool (.pr (.pr .bool (.sl false (.int .u32))) (.int .i64)))))),[sD,sD],fun x=>g37 m x.1.1 x.1.2.1 x.1.2.2.1 x.1.2.2.2.1 x.1.2.2.2.2.1 x.2.1⟩
noncomputable def g37C:Code:=codeOf f37
noncomputable def g37B0:Code:=qp g37C 0 0
noncomputable def g37B2:Code:=qp g37B0 0 0
theorem g37K:FL [g19T m,g49T m,g67T m]:=AllF.mem ⟨g19ok m,g49ok m,g67ok m,trivial⟩
def g37L1X:LT:=⟨2,[(1,sU),(2,sX 0 [iI,iI,iL,iL,.imm (.int .u64)]),(5,.a (.c (.dp 1 (.pr .bool (.pr (.pr .bool (.sl false (.int .u32))) (.int .i64)))))),(6,sI),(7,.a (.c (.nm 2 (.pr .bool (.pr (.pr .bool (.sl false (.int .u32))) (.int .i64)))))),(8,sI)],[(.exit 2,[(1,sU),(2,sX 0 [iI,iI,iL,iL,.imm (.int .u64)]),(5,.a (.c (.dp 1 (.pr .bool (.pr (.pr .bool (.sl false (.int .u32))) (.int .i64)))))),(6,sI),(7,.a (.c (.nm 2 (.pr .bool (.pr (.pr .bool (.sl false (.int .u32))) (.int .i64))))))])],fun n x=>g37L1 m n x.1 x.2.1.1 x.2.1.2.1 x.2.1.2.2.1 x.2.1.2.2.2.1 x.2.1.2.2.2.2.1 x.2.2.1 x.2.2.2.1 x.2.2.2.2.1 x.2.2.2.2.2.1⟩
theorem g37L1ok {E} (hE:EO E 47 g37H) (n):LO E g37B2 ((g37L1X m).at n):=lk hE (g37K m) (g37L1X m) n
def g37L0X:LT:=⟨0,[(1,sU),(2,sX 0 [iI,iI,iL,iL,.imm (.int .u64)]),(5,.a (.c (.dp 1 (.pr .bool (.pr (.pr .bool (.sl false (.int .u32))) (.int .i64)))))),(6,sI)],[(.exit 0,[(5,.a (.c (.dp 0 (.pr .bool (.pr (.pr .bool (.sl false (.int .u32))) (.int .i64))))))])],fun n x=>g37L0 m n x.1 x.2.1.1 x.2.1.2.1 x.2.1.2.2.1 x.2.1.2.2.2.1 x.2.1.2.2.2.2.1 x.2.2.1 x.2.2.2.1⟩
theorem g37L0ok {E} (hE:EO E 47 g37H) (n):LO E g37B0 ((g37L0X m).at n):=
 lok hmix htt hE (g37K m) (L:=[(g37L1X m).at m]) (g37L0X m) (l:=[(2,g37B2)]) kR (fun _ _=>⟨qi ⟨yb (g37L1ok m hE m),trivial⟩,trivial⟩) (fun n x=>kR) (fun _=>kR) n
theorem g37ok:FO (g37T m):=f1' g37H (g37T m) func37 (g37K m) fun _ h=>g37L0ok m h m
def g38H:Hints:=⟨[J [1],J [1],J [1,6],J [2],J [2]],[],[],[2],[],[[false]]⟩
def g38T:FunT:=⟨38,[.a (.agg [.bool,.bool,(.imm (.int .u32)),(.int .i64)])],sI,[sD],fun x=>g38 m x.1.1 x.1.2.1 x.1.2.2.1 x.1.2.2.2.1⟩
theorem g38ok:FO (g38T m):=fk g38H (g38T m) func38 (AllF.mem (l:=[g68T m,g69T m]) ⟨g68ok m,g69ok m,trivial⟩)
def g165H:Hints:=⟨[J [0,1],J [0,1,5],J [0,1,5,6],J [0,1,5,6,18],J' [(0,1)] [0,1,5,6],J [0,1,5,6,7],J [0,1,5,6,7,8],J [0,1,5,6,7,8,24],J' [(0,1)] [0,1,5,6,7,8],J' [(0,1)] [0,1,5,6,7,8],J [0,1,5,6,7,8],J' [(0,1)] [0,1,5,6,7,8],J' [(5,1)] [0,1,5,6],J' [(0,1)] [4]],[(0,[0,1,5,6]),(2,[0,1,5,6,7,8])],[(0,[5]),(1,[0,1,5,6]),(2,[0,1,5,6,7]),(3,[0,1,5,6,7,8])],[4],[],[[true]]⟩
def g165T:FunT:=⟨165,[.a (.c (.imm (.int .u32))),.a (.c (.imm (.int .u32)))],.a (.c (.nm 0 (.int .u32))),[sD,sD],fun x=>g165 m x.1 x.2.1⟩
noncomputable def g165C:Code:=codeOf f165
noncomputable def g165B0:Code:=qp g165C 0 0
noncomputable def g165B2:Code:=qp g165B0 0 0
def g165L1X:LT:=⟨2,[(0,.a (.c (.imm (.int .u32)))),(1,.a (.c (.imm (.int .u32)))),(5,.a (.c (.nm 0 (.int .u32)))),(6,sI),(7,sU),(8,sI)],[(.exit 2,[(0,.a (.c (.imm (.int .u32)))),(1,.a (.c (.imm (.int .u32)))),(5,.a (.c (.nm 0 (.int .u32)))),(6,sI),(7,sU)])],fun n x=>g165L1 m n x.1 x.2.1 x.2.2.1 x.2.2.2.1 x.2.2.2.2.1 x.2.2.2.2.2.1⟩
theorem g165L1ok {E} (hE:EO E 66 g165H) (n):LO E g165B2 ((g165L1X m).at n):=lk hE noF (g165L1X m) n
def g165L0X:LT:=⟨0,[(0,.a (.c (.imm (.int .u32)))),(1,.a (.c (.imm (.int .u32)))),(5,.a (.c (.nm 0 (.int .u32)))),(6,sI)],[(.exit 0,[(5,.a (.c (.nm 0 (.int .u32))))])],fun n x=>g165L0 m n x.1 x.2.1 x.2.2.1 x.2.2.2.1⟩
theorem g165L0ok {E} (hE:EO E 66 g165H) (n):LO E g165B0 ((g165L0X m).at n):=
 lok hmix htt hE noF (L:=[(g165L1X m).at m]) (g165L0X m) (l:=[(2,g165B2)]) kR (fun _ _=>⟨qi ⟨yb (g165L1ok m hE m),trivial⟩,trivial⟩) (fun n x=>kR) (fun _=>kR) n
theorem g165ok:FO (g165T m):=f1' g165H (g165T m) func165 noF fun _ h=>g165L0ok m h m
def g120H:Hints:=⟨[J [2,3,4],J [4]],[],[],[4],[],[[false,false]]⟩
def g120T:FunT:=⟨120,[.a (.agg [.bool,(.imm (.int .u32))]),.a (.agg [.bool,(.imm (.int .u32))])],.a (.agg [.bool,(.imm (.int .u32))]),[sD,sD],fun x=>g120 m x.1.1 x.1.2.1 x.2.1.1 x.2.1.2.1⟩
theorem g120ok:FO (g120T m):=fk g120H (g120T m) func120 (AllF.mem (l:=[g166T m,g165T m,g127T m]) ⟨g166ok m,g165ok m,g127ok m,trivial⟩)
def g212H:Hints:=⟨[J [0,1,2,3],J [0,1,2,3,9],J [0,1,2,3,9,10],J [0,1,2,3,9,10,11,12],J [0,1,2,3,9,10,11,12,13],J [0,1,2,3,9,10,11,12,13,23],J' [(0,1)] [0,1,2,3,9,10,11,12,13],J [0,1,2,3,9,10,11,12,13,28],J' [(0,1)] [0,1,2,3,9,10,11,12,13],J' [(7,1)] [0,1,2,3,9,10,12,13,14],J' [(0,1)] [0,1,2,3,9,10,12,13,14],J [0,1,2,3,9,10,12,13,14],J' [(0,1)] [0,1,2,3,9,10,11,12,13],J' [(0,1)] [0,2,9,10,60],J [0,8],J [0,2,9,10,15],J [0,2,9,10,15,63],J' [(0,1)] [0,2,9,10,15],J [0,2,9,10,15],J [0,8]],[(0,[0,1,2,3,9,10,11,12,13]),(2,[0,2,9,10,15])],[(0,[0,2,9,10,11]),(1,[0,1,2,3,9,10,11,12,13]),(2,[0]),(3,[0,2,9,10,15])],[0,8],[0],[[false]]⟩
def g212T:FunT:=⟨212,[.a (.c (.nm 0 (.int .u32))),.a (.c (.imm (.int .u32))),sI,sU],sB,[.a (.c (.nm 0 (.int .u32))),sD,sD,sD],fun x=>g212 m x.1 x.2.1 x.2.2.1 x.2.2.2.1⟩
noncomputable def g212C:Code:=codeOf f212
noncomputable def g212B0:Code:=qp g212C 0 0
noncomputable def g212B2:Code:=qp g212C 0 1
def g212L1X:LT:=⟨2,[(0,.a (.c (.nm 0 (.int .u32)))),(2,sI),(9,sI),(10,.a (.c (.nm 1 (.int .u32)))),(15,sI)],[(.exit 2,[(0,.a (.c (.nm 0 (.int .u32))))])],fun n x=>g212L1 m n x.1 x.2.1 x.2.2.1 x.2.2.2.1 x.2.2.2.2.1⟩
theorem g212L1ok {E} (hE:EO E 75 g212H) (n):LO E g212B2 ((g212L1X m).at n):=lk hE noF (g212L1X m) n
def g212L0X:LT:=⟨0,[(0,.a (.c (.nm 0 (.int .u32)))),(1,.a (.c (.imm (.int .u32)))),(2,sI),(3,sU),(9,sI),(10,.a (.c (.nm 1 (.int .u32)))),(11,sU),(12,sU),(13,sI)],[(.exit 0,[(0,.a (.c (.nm 0 (.int .u32)))),(2,sI),(9,sI),(10,.a (.c (.nm 1 (.int .u32)))),(11,sU)])],fun n x=>g212L0 m n x.1 x.2.1 x.2.2.1 x.2.2.2.1 x.2.2.2.2.1 x.2.2.2.2.2.1 x.2.2.2.2.2.2.1 x.2.2.2.2.2.2.2.1 x.2.2.2.2.2.2.2.2.1⟩
theorem g212L0ok {E} (hE:EO E 75 g212H) (n):LO E g212B0 ((g212L0X m).at n):=lk hE noF (g212L0X m) n
theorem g212ok:FO (g212T m):=
 fok hmix htt (H:=g212H) (g212T m) func212 kR noF (L:=[(g212L0X m).at m,(g212L1X m).at m]) (l:=[(0,g212B0),(2,g212B2)]) kR (fun _ hE _ _=>⟨qi ⟨yb (g212L0ok m hE m),nb rfl,trivial⟩,qi ⟨nb rfl,yb (g212L1ok m hE m),trivial⟩,trivial⟩) (fun x=>kR)
def g206H:Hints:=⟨[J [0,1],J [0,1,19],J' [(0,1)] [4,5],J [0,1,6],J [0,1,6,7],J' [(3,1)] [0,6,7,8,9],J [0,6,7,8,9,41],J' [(0,1)] [0,6,7,8,9],J [0,6,7,8,9,10],J' [(0,1)] [6,7,8,9,10,11],J [6,7,8,9,10,11,56],J' [(0,1)] [6,7,8,9,10,11],J [6,7,8,9,10,11,12],J' [(0,1)] [6,7,8,9,10,11,13],J' [(4,11)] [6,7,8,9,10,11,13,90],J' [(0,1)] [6,7,8,9,10,11,13],J' [(2,1)] [6,7,8,9,10,11],J' [(0,1),(2,1),(4,1)] [10,14],J' [(0,1),(2,1)] [4,5]],[(0,[6,7,8,9,10,11]),(2,[6,7,8,9,10,11,13])],[(0,[7,8,10]),(1,[6,7,8,9,10,11]),(2,[6,7,8,9,10,11,13]),(3,[6,7,8,9,10,11,13])],[4,5],[],[[true],[false]]⟩
def g206T:FunT:=⟨206,[.a (.c (.imm (.int .u32))),.a (.c (.imm (.int .u32)))],.tup [(.c (.nm 0 (.int .u32))),(.c (.imm (.int .u32)))],[sD,sD],fun x=>g206 m x.1 x.2.1⟩
noncomputable def g206C:Code:=codeOf f206
noncomputable def g206B0:Code:=qp g206C 0 0
noncomputable def g206B2:Code:=qp g206B0 0 0
theorem g206K:FL [g194T m,g208T m,g128T m,g212T m,g166T m,g129T m]:=AllF.mem ⟨g194ok m,g208ok m,g128ok m,g212ok m,g166ok m,g129ok m,trivial⟩
def g206L1X:LT:=⟨2,[(6,sI),(7,sI),(8,.a (.c (.nm 0 (.int .u32)))),(9,.a (.c (.nm 1 (.int .u32)))),(10,.a (.c (.nm 2 (.int .u32)))),(11,sI),(13,sU)],[(.exit 2,[(6,sI),(7,sI),(8,.a (.c (.nm 0 (.int .u32)))),(9,.a (.c (.nm 1 (.int .u32)))),(10,.a (.c (.nm 2 (.int .u32)))),(11,sI),(13,sU)])],fun n x=>g206L1 m n x.1 x.2.1 x.2.2.1 x.2.2.2.1 x.2.2.2.2.1 x.2.2.2.2.2.1 x.2.2.2.2.2.2.1⟩
theorem g206L1ok {E} (hE:EO E 109 g206H) (n):LO E g206B2 ((g206L1X m).at n):=lk hE (g206K m) (g206L1X m) n
def g206L0X:LT:=⟨0,[(6,sI),(7,sI),(8,.a (.c (.nm 0 (.int .u32)))),(9,.a (.c (.nm 1 (.int .u32)))),(10,.a (.c (.nm 2 (.int .u32)))),(11,sI)],[(.exit 0,[(7,sI),(8,.a (.c (.nm 0 (.int .u32)))),(10,.a (.c (.nm 1 (.int .u32))))])],fun n x=>g206L0 m n x.1 x.2.1 x.2.2.1 x.2.2.2.1 x.2.2.2.2.1 x.2.2.2.2.2.1⟩
theorem g206L0ok {E} (hE:EO E 109 g206H) (n):LO E g206B0 ((g206L0X m).at n):=
 lok hmix htt hE (g206K m) (L:=[(g206L1X m).at m]) (g206L0X m) (l:=[(2,g206B2)]) kR (fun _ _=>⟨qi ⟨yb (g206L1ok m hE m),trivial⟩,trivial⟩) (fun n x=>kR) (fun _=>kR) n
theorem g206ok:FO (g206T m):=f1' g206H (g206T m) func206 (g206K m) fun _ h=>g206L0ok m h m
def g196H:Hints:=⟨[J [2,3,4,5],J [2,3,4,5],J' [(5,1)] [2,3,4,5,6,7],J' [(5,1),(9,1)] [3,4,5,8,9],J [3,4,5,8,9,35],J [3,4,5,8,9],J [4,5,8,9,41],J [4,5,8,9],J [4,5,8,9],J [4,5]],[],[],[4,5],[],[[false,false],[false,false]]⟩
def g196T:FunT:=⟨196,[.a (.agg [.bool,(.imm (.int .u32))]),.a (.agg [.bool,(.imm (.int .u32))])],.tup [(.agg [.bool,(.imm (.int .u32))]),(.agg [.bool,(.imm (.int .u32))])],[sD,sD],fun x=>g196 m x.1.1 x.1.2.1 x.2.1.1 x.2.1.2.1⟩
theorem g196ok:FO (g196T m):=fk g196H (g196T m) func196 (AllF.mem (l:=[g117T m,g206T m,g127T m,g69T m,g82T m,g163T m,g123T m,g126T m]) ⟨g117ok m,g206ok m,g127ok m,g69ok m,g82ok m,g163ok m,g123ok m,g126ok m,trivial⟩)
def g56H:Hints:=⟨[J [1,2],J' [(2,1)] [1,2],J [2]],[],[],[2],[],[[false,false,false,false]]⟩
def g56T:FunT:=⟨56,[.a (.agg [.bool,.bool,(.imm (.int .u32)),(.int .i64)])],.a (.agg [.bool,.bool,(.imm (.int .u32)),(.int .i64)]),[sD],fun x=>g56 m x.1.1 x.1.2.1 x.1.2.2.1 x.1.2.2.2.1⟩
theorem g56ok:FO (g56T m):=fk g56H (g56T m) func56 (AllF.mem (l:=[g97T m]) ⟨g97ok m,trivial⟩)
def g94H:Hints:=⟨[J [1,2,4],J' [(2,1)] [1,2,4,5],J' [(0,1)] [1,2,4,12],J [4],J' [(4,1)] [4]],[],[],[4],[],[[false,false,false,false]]⟩
def g94T:FunT:=⟨94,[.a (.agg [.bool,.bool,(.imm (.int .u32)),(.int .i64)]),sI],.a (.agg [.bool,.bool,(.imm (.int .u32)),(.int .i64)]),[sD,sD],fun x=>g94 m x.1.1 x.1.2.1 x.1.2.2.1 x.1.2.2.2.1 x.2.1⟩
theorem g94ok:FO (g94T m):=fk g94H (g94T m) func94 (AllF.mem (l:=[g97T m,g145T m,g112T m]) ⟨g97ok m,g145ok m,g112ok m,trivial⟩)
def g93H:Hints:=⟨[J [1,2],J' [(2,1)] [1,2,4],J' [(0,1)] [1,2,13],J [2,3],J' [(5,1)] [2,5],J [2,3]],[],[],[2,3],[],[[false,false],[false]]⟩
def g93T:FunT:=⟨93,[.a (.agg [.bool,.bool,(.imm (.int .u32)),(.int .i64)])],.tup [(.agg [.bool,(.imm (.int .u32))]),(.c .bool)],[sD],fun x=>g93 m x.1.1 x.1.2.1 x.1.2.2.1 x.1.2.2.2.1⟩
theorem g93ok:FO (g93T m):=fk g93H (g93T m) func93 (AllF.mem (l:=[g97T m,g144T m]) ⟨g97ok m,g144ok m,trivial⟩)
def g52H:Hints:=⟨[J [0],J [0,3],J [0,3,15,16,17],J [0,3,15,16,17,18],J [0,3,5,15,16,17],J' [(0,1)] [0,3,15,16,17,21,22,23],J [0,3,15,16,17,21,22,23,24],J [0,3,7,15,16,17,21,22,23],J [0,3,7,15,16,17,21,22,23],J [0,3,7,15,16,17,21,22,23,31],J' [(0,1)] [0,3,15,16,17,21,22,23],J' [(1,1)] [0,3,15,16,17,21,22,23],J' [(1,1)] [0,3,15,16,17],J' [(2,4)] [0,3,8],J' [(0,1)] [3,8,41,42,43],J [3,8,41,42,43,44],J [3,8,9,10,41,42,43],J' [(0,1)] [3,8,9,41,42,43,48,49,50],J [3,8,9,41,42,43,48,49,50,51],J [3,8,9,12,41,42,43,48,49,50],J' [(5,1)] [3,8,9,13,41,42,43,48,49,50],J' [(5,4),(11,4)] [3,8,9,41,42,43,48,49,50],J' [(1,1)] [3,8,9,41,42,43,48,49,50],J' [(1,1)] [3,8,41,42,43],J' [(0,1)] [2]],[(0,[0,3,15,16,17]),(2,[0,3,15,16,17,21,22,23]),(4,[3,8,41,42,43]),(6,[3,8,9,41,42,43,48,49,50])],[(0,[0,3]),(1,[0,3,15,16,17]),(2,[0,3,15,16,17]),(3,[0,3,15,16,17,21,22,23]),(4,[8]),(5,[3,8,41,42,43]),(6,[3,8,41,42,43]),(7,[3,8,9,41,42,43,48,49,50])],[2],[],[[false]]⟩
def g52T:FunT:=⟨52,[.a (.c (.imm (.sl false (.pr .bool (.pr (.pr .bool (.sl false (.int .u32))) (.int .i64))))))],.a (.c (.imm (.sl false (.pr .bool (.sl false (.int .u32)))))),[sD],fun x=>g52 m x.1⟩
noncomputable def g52C:Code:=codeOf f52
noncomputable def g52B0:Code:=qp g52C 0 0
noncomputable def g52B2:Code:=qp g52B0 0 0
noncomputable def g52B4:Code:=qp g52C 0 1
noncomputable def g52B6:Code:=qp g52B4 4 0
theorem g52K:FL [g56T m,g92T m,g94T m,g93T m,g95T m]:=AllF.mem ⟨g56ok m,g92ok m,g94ok m,g93ok m,g95ok m,trivial⟩
def g52L3X:LT:=⟨6,[(3,sI),(8,.a (.c (.dp 0 (.pr .bool (.sl false (.int .u32)))))),(9,sI),(41,.a (.c (.imm (.sl false (.pr .bool (.pr (.pr .bool (.sl false (.int .u32))) (.int .i64))))))),(42,sI),(43,sI),(48,.a (.c (.imm (.pr .bool (.pr (.pr .bool (.sl false (.int .u32))) (.int .i64)))))),(49,sI),(50,sI)],[(.exit 6,[(3,sI),(8,.a (.c (.dp 0 (.pr .bool (.sl false (.int .u32)))))),(41,.a (.c (.imm (.sl false (.pr .bool (.pr (.pr .bool (.sl false (.int .u32))) (.int .i64))))))),(42,sI),(43,sI)])],fun n x=>g52L3 m n x.1 x.2.1 x.2.2.1 x.2.2.2.1 x.2.2.2.2.1 x.2.2.2.2.2.1 x.2.2.2.2.2.2.1 x.2.2.2.2.2.2.2.1 x.2.2.2.2.2.2.2.2.1⟩
theorem g52L3ok {E} (hE:EO E 76 g52H) (n):LO E g52B6 ((g52L3X m).at n):=lk hE (g52K m) (g52L3X m) n
def g52L2X:LT:=⟨4,[(3,sI),(8,.a (.c (.dp 0 (.pr .bool (.sl false (.int .u32)))))),(41,.a (.c (.imm (.sl false (.pr .bool (.pr (.pr .bool (.sl false (.int .u32))) (.int .i64))))))),(42,sI),(43,sI)],[(.exit 4,[(8,.a (.c (.dp 0 (.pr .bool (.sl false (.int .u32))))))])],fun n x=>g52L2 m n x.1 x.2.1 x.2.2.1 x.2.2.2.1 x.2.2.2.2.1⟩
theorem g52L2ok {E} (hE:EO E 76 g52H) (n):LO E g52B4 ((g52L2X m).at n):=
 lok hmix htt hE (g52K m) (L:=[(g52L3X m).at m]) (g52L2X m) (l:=[(6,g52B6)]) kR (fun _ _=>⟨qi ⟨yb (g52L3ok m hE m),trivial⟩,trivial⟩) (fun n x=>kR) (fun _=>kR) n
def g52L1X:LT:=⟨2,[(0,.a (.c (.imm (.sl false (.pr .bool (.pr (.pr .bool (.sl false (.int .u32))) (.int .i64))))))),(3,sI),(15,.a (.c (.imm (.sl false (.pr .bool (.pr (.pr .bool (.sl false (.int .u32))) (.int .i64))))))),(16,sI),(17,sI),(21,.a (.c (.imm (.pr .bool (.pr (.pr .bool (.sl false (.int .u32))) (.int .i64)))))),(22,sI),(23,sI)],[(.exit 2,[(0,.a (.c (.imm (.sl false (.pr .bool (.pr (.pr .bool (.sl false (.int .u32))) (.int .i64))))))),(3,sI),(15,.a (.c (.imm (.sl false (.pr .bool (.pr (.pr .bool (.sl false (.int .u32))) (.int .i64))))))),(16,sI),(17,sI)])],fun n x=>g52L1 m n x.1 x.2.1 x.2.2.1 x.2.2.2.1 x.2.2.2.2.1 x.2.2.2.2.2.1 x.2.2.2.2.2.2.1 x.2.2.2.2.2.2.2.1⟩
theorem g52L1ok {E} (hE:EO E 76 g52H) (n):LO E g52B2 ((g52L1X m).at n):=lk hE (g52K m) (g52L1X m) n
def g52L0X:LT:=⟨0,[(0,.a (.c (.imm (.sl false (.pr .bool (.pr (.pr .bool (.sl false (.int .u32))) (.int .i64))))))),(3,sI),(15,.a (.c (.imm (.sl false (.pr .bool (.pr (.pr .bool (.sl false (.int .u32))) (.int .i64))))))),(16,sI),(17,sI)],[(.exit 0,[(0,.a (.c (.imm (.sl false (.pr .bool (.pr (.pr .bool (.sl false (.int .u32))) (.int .i64))))))),(3,sI)])],fun n x=>g52L0 m n x.1 x.2.1 x.2.2.1 x.2.2.2.1 x.2.2.2.2.1⟩
theorem g52L0ok {E} (hE:EO E 76 g52H) (n):LO E g52B0 ((g52L0X m).at n):=
 lok hmix htt hE (g52K m) (L:=[(g52L1X m).at m]) (g52L0X m) (l:=[(2,g52B2)]) kR (fun _ _=>⟨qi ⟨yb (g52L1ok m hE m),trivial⟩,trivial⟩) (fun n x=>kR) (fun _=>kR) n
theorem g52ok:FO (g52T m):=
 fok hmix htt (H:=g52H) (g52T m) func52 kR (g52K m) (L:=[(g52L0X m).at m,(g52L2X m).at m]) (l:=[(0,g52B0),(4,g52B4)]) kR (fun _ hE _ _=>⟨qi ⟨yb (g52L0ok m hE m),nb rfl,trivial⟩,qi ⟨nb rfl,yb (g52L2ok m hE m),trivial⟩,trivial⟩) (fun x=>kR)
def g138H:Hints:=⟨[J [0],J [0,5],J [2],J' [(0,1)] [2]],[],[],[2],[],[[false]]⟩
def g138T:FunT:=⟨138,[.a (.c (.imm (.sl false (.pr .bool (.sl false (.int .u32))))))],sI,[sD],fun x=>g138 m x.1⟩
theorem g138ok:FO (g138T m):=fk g138H (g138T m) func138 noF
def g175H:Hints:=⟨[J [0,1],J' [(0,1)] [3]],[],[],[3],[],[[false]]⟩
def g175T:FunT:=⟨175,[.a (.c (.imm (.pr .bool (.sl false (.int .u32))))),.a (.c (.iptr none (.int .i64) 0))],sB,[sD,sD],fun x=>g175 m x.1 x.2.1⟩
theorem g175ok:FO (g175T m):=fk g175H (g175T m) func175 noF
def g197H:Hints:=⟨[J [0,1],J [0,1,7,8],J [0,1,7,8,9],J [0,1,5,7,8],J [0,1,5,7,8,16],J' [(0,1)] [4],J' [(1,1)] [0,1,7,8],J [4]],[(0,[0,1,7,8])],[(0,[]),(1,[0,1,7,8])],[4],[],[[false]]⟩
def g197T:FunT:=⟨197,[.a (.c (.imm (.sl false (.pr .bool (.sl false (.int .u32)))))),.a (.c (.iptr (some 175) (.int .i64) 0))],sI,[sD,sD],fun x=>g197 m x.1 x.2.1⟩
noncomputable def g197C:Code:=codeOf f197
noncomputable def g197B0:Code:=qp g197C 0 0
theorem g197K:FL [g175T m]:=AllF.mem ⟨g175ok m,trivial⟩
def g197L0X:LT:=⟨0,[(0,.a (.c (.imm (.sl false (.pr .bool (.sl false (.int .u32))))))),(1,.a (.c (.iptr (some 175) (.int .i64) 0))),(7,sI),(8,sI)],[(.ret,[(4,sI)]),(.exit 0,[])],fun n x=>g197L0 m n x.1 x.2.1 x.2.2.1 x.2.2.2.1⟩
theorem g197L0ok {E} (hE:EO E 19 g197H) (n):LO E g197B0 ((g197L0X m).at n):=lk hE (g197K m) (g197L0X m) n
theorem g197ok:FO (g197T m):=f1' g197H (g197T m) func197 (g197K m) fun _ h=>g197L0ok m h m
def g174H:Hints:=⟨[J [0,1],J' [(0,1),(1,1)] [4]],[],[],[4],[],[[false]]⟩
def g174T:FunT:=⟨174,[.a (.c (.imm (.sl false (.pr .bool (.sl false (.int .u32)))))),.a (.c (.iptr (some 175) (.int .i64) 0))],sB,[sD,sD],fun x=>g174 m x.1 x.2.1⟩
theorem g174ok:FO (g174T m):=fk g174H (g174T m) func174 (AllF.mem (l:=[g197T m]) ⟨g197ok m,trivial⟩)
def g137H:Hints:=⟨[J [0],J [0,3],J [0,3,6],J [2],J' [(0,1),(3,1)] [10],J [2],J [2]],[],[(0,[])],[2],[],[[false]]⟩
def g137T:FunT:=⟨137,[.a (.c (.imm (.sl false (.pr .bool (.sl false (.int .u32))))))],sI,[sD],fun x=>g137 m x.1⟩
theorem g137ok:FO (g137T m):=fk g137H (g137T m) func137 (AllF.mem (l:=[g138T m,g174T m]) ⟨g138ok m,g174ok m,trivial⟩)
def g87H:Hints:=⟨[J [0],J [0,3],J' [(2,1)] [3,14],J [2],J' [(0,1)] [2]],[],[],[2],[],[[false]]⟩
def g87T:FunT:=⟨87,[.a (.c (.imm (.sl false (.pr .bool (.sl false (.int .u32))))))],sI,[sD],fun x=>g87 m x.1⟩
theorem g87ok:FO (g87T m):=fk g87H (g87T m) func87 (AllF.mem (l:=[g137T m,g138T m]) ⟨g137ok m,g138ok m,trivial⟩)
def g90H:Hints:=⟨[J [0,1],J' [(0,6)] [0,1,5],J' [(0,1)] [1,5,11,12,13],J [1,5,11,12,13,14],J [1,5,6,7,11,12,13],J [1,5,6,7,8,11,12,13],J' [(0,1)] [1,5,6,8,11,12,13,18,19,20],J [1,5,6,8,11,12,13,18,19,20,21],J [1,5,6,8,10,11,12,13,18,19,20],J' [(0,1)] [1,5,6,8,11,12,13,18,19,20],J' [(1,1)] [1,5,6,8,11,12,13,18,19,20],J [1,5,6,8,11,12,13,33],J' [(0,1),(2,1)] [1,5,8,11,12,13],J' [(0,1),(1,1),(2,6),(3,6)] [1,5,11,12,13],J' [(1,1)] [1,5,11,12,13],J' [(0,1)] [4]],[(0,[1,5,11,12,13]),(2,[1,5,6,8,11,12,13,18,19,20])],[(0,[5]),(1,[1,5,11,12,13]),(2,[1,5,6,8,11,12,13]),(3,[1,5,6,8,11,12,13,18,19,20])],[4],[],[[false]]⟩
def g90T:FunT:=⟨90,[.a (.c (.imm (.sl false (.pr .bool (.sl false (.int .u32)))))),.a (.c (.imm (.pr .bool (.sl false (.int .u32)))))],.a (.c (.imm (.sl false (.pr .bool (.sl false (.int .u32)))))),[sD,sD],fun x=>g90 m x.1 x.2.1⟩
noncomputable def g90C:Code:=codeOf f90
noncomputable def g90B0:Code:=qp g90C 0 0
noncomputable def g90B2:Code:=qp g90B0 0 0
theorem g90K:FL [g95T m]:=AllF.mem ⟨g95ok m,trivial⟩
def g90L1X:LT:=⟨2,[(1,.a (.c (.imm (.pr .bool (.sl false (.int .u32)))))),(5,.a (.c (.dp 0 (.pr .bool (.sl false (.int .u32)))))),(6,sI),(8,.a (.c (.nm 1 (.pr .bool (.sl false (.int .u32)))))),(11,.a (.c (.imm (.sl false (.pr .bool (.sl false (.int .u32))))))),(12,sI),(13,sI),(18,.a (.c (.imm (.pr .bool (.sl false (.int .u32)))))),(19,sI),(20,sI)],[(.exit 2,[(1,.a (.c (.imm (.pr .bool (.sl false (.int .u32)))))),(5,.a (.c (.dp 0 (.pr .bool (.sl false (.int .u32)))))),(6,sI),(8,.a (.c (.nm 1 (.pr .bool (.sl false (.int .u32)))))),(11,.a (.c (.imm (.sl false (.pr .bool (.sl false (.int .u32))))))),(12,sI),(13,sI)])],fun n x=>g90L1 m n x.1 x.2.1 x.2.2.1 x.2.2.2.1 x.2.2.2.2.1 x.2.2.2.2.2.1 x.2.2.2.2.2.2.1 x.2.2.2.2.2.2.2.1 x.2.2.2.2.2.2.2.2.1 x.2.2.2.2.2.2.2.2.2.1⟩
theorem g90L1ok {E} (hE:EO E 48 g90H) (n):LO E g90B2 ((g90L1X m).at n):=lk hE (g90K m) (g90L1X m) n
def g90L0X:LT:=⟨0,[(1,.a (.c (.imm (.pr .bool (.sl false (.int .u32)))))),(5,.a (.c (.dp 0 (.pr .bool (.sl false (.int .u32)))))),(11,.a (.c (.imm (.sl false (.pr .bool (.sl false (.int .u32))))))),(12,sI),(13,sI)],[(.exit 0,[(5,.a (.c (.dp 0 (.pr .bool (.sl false (.int .u32))))))])],fun n x=>g90L0 m n x.1 x.2.1 x.2.2.1 x.2.2.2.1 x.2.2.2.2.1⟩
theorem g90L0ok {E} (hE:EO E 48 g90H) (n):LO E g90B0 ((g90L0X m).at n):=
 lok hmix htt hE (g90K m) (L:=[(g90L1X m).at m]) (g90L0X m) (l:=[(2,g90B2)]) kR (fun _ _=>⟨qi ⟨yb (g90L1ok m hE m),trivial⟩,trivial⟩) (fun n x=>kR) (fun _=>kR) n
theorem g90ok:FO (g90T m):=f1' g90H (g90T m) func90 (g90K m) fun _ h=>g90L0ok m h m
def g142H:Hints:=⟨[J [0,1],J' [(0,6)] [0,1,5],J' [(0,1)] [1,5,13,14,15],J [1,5,13,14,15,16],J [1,5,7,13,14,15],J [1,5,7,8,13,14,15],J [1,5,7,8,13,14,15,20,21],J [1,5,7,8,13,14,15,20,21,22],J [1,5,7,8,9,13,14,15,20,21],J' [(0,2)] [1,5,7,8,9,10,13,14,15,20,21],J [1,5,7,8,9,10,13,14,15,20,21,24,25,26],J [1,5,7,8,9,10,13,14,15,20,21,24,25,26,27],J [1,5,7,8,9,10,11,12,13,14,15,20,21,24,25,26],J' [(0,2),(3,1)] [1,5,7,8,9,10,13,14,15,20,21,24,25,26],J' [(1,1)] [1,5,7,8,9,10,13,14,15,20,21,24,25,26],J' [(0,1)] [1,5,7,8,13,14,15,20,21],J' [(1,1)] [1,5,7,8,13,14,15,20,21],J' [(0,1),(1,1),(2,6),(3,6)] [1,5,13,14,15],J' [(1,1)] [1,5,13,14,15],J' [(0,1)] [4]],[(0,[1,5,13,14,15]),(2,[1,5,7,8,13,14,15,20,21]),(4,[1,5,7,8,9,10,13,14,15,20,21,24,25,26])],[(0,[5]),(1,[1,5,13,14,15]),(2,[1,5,8,13,14,15]),(3,[1,5,7,8,13,14,15,20,21]),(4,[1,5,7,8,10,13,14,15,20,21]),(5,[1,5,7,8,9,10,13,14,15,20,21,24,25,26])],[4],[],[[true]]⟩
def g142T:FunT:=⟨142,[.a (.c (.imm (.sl false (.pr .bool (.sl false (.int .u32)))))),.a (.c (.imm (.sl false (.pr .bool (.sl false (.int .u32))))))],.a (.c (.dp 0 (.pr .bool (.sl false (.int .u32))))),[sD,sD],fun x=>g142 m x.1 x.2.1⟩
noncomputable def g142C:Code:=codeOf f142
noncomputable def g142B0:Code:=qp g142C 0 0
noncomputable def g142B2:Code:=qp g142B0 0 0
noncomputable def g142B4:Code:=qp g142B2 2 0
theorem g142K:FL [g180T m,g141T m]:=AllF.mem ⟨g180ok m,g141ok m,trivial⟩
def g142L2X:LT:=⟨4,[(1,.a (.c (.imm (.sl false (.pr .bool (.sl false (.int .u32))))))),(5,.a (.c (.dp 0 (.pr .bool (.sl false (.int .u32)))))),(7,.a (.c (.imm (.pr .bool (.sl false (.int .u32)))))),(8,.a (.c (.nm 1 (.pr .bool (.sl false (.int .u32)))))),(9,sI),(10,sX 2 [.bool,.imm (.int .u32)]),(13,.a (.c (.imm (.sl false (.pr .bool (.sl false (.int .u32))))))),(14,sI),(15,sI),(20,sI),(21,sI),(24,.a (.c (.imm (.pr .bool (.sl false (.int .u32)))))),(25,sI),(26,sI)],[(.exit 4,[(1,.a (.c (.imm (.sl false (.pr .bool (.sl false (.int .u32))))))),(5,.a (.c (.dp 0 (.pr .bool (.sl false (.int .u32)))))),(7,.a (.c (.imm (.pr .bool (.sl false (.int .u32)))))),(8,.a (.c (.nm 1 (.pr .bool (.sl false (.int .u32)))))),(10,sX 2 [.bool,.imm (.int .u32)]),(13,.a (.c (.imm (.sl false (.pr .bool (.sl false (.int .u32))))))),(14,sI),(15,sI),(20,sI),(21,sI)])],fun n x=>g142L2 m n x.1 x.2.1 x.2.2.1 x.2.2.2.1 x.2.2.2.2.1 x.2.2.2.2.2.1.1 x.2.2.2.2.2.1.2.1 x.2.2.2.2.2.2.1 x.2.2.2.2.2.2.2.1 x.2.2.2.2.2.2.2.2.1 x.2.2.2.2.2.2.2.2.2.1 x.2.2.2.2.2.2.2.2.2.2.1 x.2.2.2.2.2.2.2.2.2.2.2.1 x.2.2.2.2.2.2.2.2.2.2.2.2.1 x.2.2.2.2.2.2.2.2.2.2.2.2.2.1⟩
theorem g142L2ok {E} (hE:EO E 54 g142H) (n):LO E g142B4 ((g142L2X m).at n):=lk hE (g142K m) (g142L2X m) n
def g142L1X:LT:=⟨2,[(1,.a (.c (.imm (.sl false (.pr .bool (.sl false (.int .u32))))))),(5,.a (.c (.dp 0 (.pr .bool (.sl false (.int .u32)))))),(7,.a (.c (.imm (.pr .bool (.sl false (.int .u32)))))),(8,.a (.c (.nm 1 (.pr .bool (.sl false (.int .u32)))))),(13,.a (.c (.imm (.sl false (.pr .bool (.sl false (.int .u32))))))),(14,sI),(15,sI),(20,sI),(21,sI)],[(.exit 2,[(1,.a (.c (.imm (.sl false (.pr .bool (.sl false (.int .u32))))))),(5,.a (.c (.dp 0 (.pr .bool (.sl false (.int .u32)))))),(8,.a (.c (.nm 1 (.pr .bool (.sl false (.int .u32)))))),(13,.a (.c (.imm (.sl false (.pr .bool (.sl false (.int .u32))))))),(14,sI),(15,sI)])],fun n x=>g142L1 m n x.1 x.2.1 x.2.2.1 x.2.2.2.1 x.2.2.2.2.1 x.2.2.2.2.2.1 x.2.2.2.2.2.2.1 x.2.2.2.2.2.2.2.1 x.2.2.2.2.2.2.2.2.1⟩
theorem g142L1ok {E} (hE:EO E 54 g142H) (n):LO E g142B2 ((g142L1X m).at n):=
 lok hmix htt hE (g142K m) (L:=[(g142L2X m).at m]) (g142L1X m) (l:=[(4,g142B4)]) kR (fun _ _=>⟨qi ⟨yb (g142L2ok m hE m),trivial⟩,trivial⟩) (fun n x=>kR) (fun _=>kR) n
def g142L0X:LT:=⟨0,[(1,.a (.c (.imm (.sl false (.pr .bool (.sl false (.int .u32))))))),(5,.a (.c (.dp 0 (.pr .bool (.sl false (.int .u32)))))),(13,.a (.c (.imm (.sl false (.pr .bool (.sl false (.int .u32))))))),(14,sI),(15,sI)],[(.exit 0,[(5,.a (.c (.dp 0 (.pr .bool (.sl false (.int .u32))))))])],fun n x=>g142L0 m n x.1 x.2.1 x.2.2.1 x.2.2.2.1 x.2.2.2.2.1⟩
theorem g142L0ok {E} (hE:EO E 54 g142H) (n):LO E g142B0 ((g142L0X m).at n):=
 lok hmix htt hE (g142K m) (L:=[(g142L1X m).at m]) (g142L0X m) (l:=[(2,g142B2)]) kR (fun _ _=>⟨qi ⟨yb (g142L1ok m hE m),trivial⟩,trivial⟩) (fun n x=>kR) (fun _=>kR) n
theorem g142ok:FO (g142T m):=f1' g142H (g142T m) func142 (g142K m) fun _ h=>g142L0ok m h m
def g143H:Hints:=⟨[J [2,3,4],J' [(3,1)] [4,6,7,8],J' [(2,1)] [4,6,8,23],J [4,5],J' [(1,1)] [4,5]],[],[],[4,5],[],[[false,false],[false]]⟩
def g143T:FunT:=⟨143,[.a (.agg [.bool,(.imm (.int .u32))]),.a (.agg [.bool,(.imm (.int .u32))])],.tup [(.agg [.bool,(.imm (.int .u32))]),(.c (.int .i64))],[sD,sD],fun x=>g143 m x.1.1 x.1.2.1 x.2.1.1 x.2.1.2.1⟩
theorem g143ok:FO (g143T m):=fk g143H (g143T m) func143 (AllF.mem (l:=[g181T m]) ⟨g181ok m,trivial⟩)
def g89H:Hints:=⟨[J [0],J [0,3],J [0,3,4],J [0,3,4],J' [(1,4)] [0,3,4,5],J [0,3,4,5,26,27],J [0,3,4,5,26,27,28],J [0,3,4,5,6,26,27],J' [(1,1),(5,4)] [0,3,4,5,26,27],J' [(1,1)] [0,3,4,5,26,27],J [0,3,4,5,7],J [0,3,4,5,7,38],J' [(0,1)] [0,3,4,5,7],J [0,3,4,5,7,42,43],J [0,3,4,5,7,42,43,44],J [0,3,4,5,7,8,42,43],J [0,3,4,5,7,42,43],J' [(1,1)] [0,3,4,5,7,42,43],J' [(1,1)] [0,3,4,7,9],J' [(0,2)] [0,3,4,7,9,10],J [0,3,4,7,9,10,72,73],J [0,3,4,7,9,10,72,73,74],J [0,3,4,7,9,10,11,72,73],J' [(0,2)] [0,3,4,7,9,10,72,73],J' [(1,1)] [0,3,4,7,9,10,72,73],J' [(4,1)] [0,3,4,7,9,12],J' [(6,1)] [0,3,4,5,7],J' [(0,1)] [2]],[(0,[0,3,4,5,26,27]),(2,[0,3,4,5,7]),(4,[0,3,4,5,7,42,43]),(6,[0,3,4,7,9,10,72,73])],[(0,[0,3,4,5]),(1,[0,3,4,5,26,27]),(2,[4]),(3,[0,3,4,5,7]),(4,[0,3,4,5,7]),(5,[0,3,4,5,7,42,43]),(6,[0,3,4,7,9,10]),(7,[0,3,4,7,9,10,72,73])],[2],[],[[true]]⟩
def g89T:FunT:=⟨89,[.a (.c (.imm (.sl false (.pr .bool (.sl false (.int .u32))))))],.a (.c (.nm 0 (.pr .bool (.sl false (.int .u32))))),[sD],fun x=>g89 m x.1⟩
noncomputable def g89C:Code:=codeOf f89
noncomputable def g89B0:Code:=qp g89C 0 0
noncomputable def g89B2:Code:=qp g89C 0 1
noncomputable def g89B4:Code:=qp g89B2 2 0
noncomputable def g89B6:Code:=qp g89B2 2 1
theorem g89K:FL [g109T m,g141T m,g142T m,g143T m,g111T m]:=AllF.mem ⟨g109ok m,g141ok m,g142ok m,g143ok m,g111ok m,trivial⟩
def g89L3X:LT:=⟨6,[(0,.a (.c (.imm (.sl false (.pr .bool (.sl false (.int .u32))))))),(3,sI),(4,.a (.c (.nm 0 (.pr .bool (.sl false (.int .u32)))))),(7,sI),(9,.a (.c (.dp 1 (.pr .bool (.sl false (.int .u32)))))),(10,sX 2 [.bool,.imm (.int .u32)]),(72,sI),(73,sI)],[(.exit 6,[(0,.a (.c (.imm (.sl false (.pr .bool (.sl false (.int .u32))))))),(3,sI),(4,.a (.c (.nm 0 (.pr .bool (.sl false (.int .u32)))))),(7,sI),(9,.a (.c (.dp 1 (.pr .bool (.sl false (.int .u32)))))),(10,sX 2 [.bool,.imm (.int .u32)])])],fun n x=>g89L3 m n x.1 x.2.1 x.2.2.1 x.2.2.2.1 x.2.2.2.2.1 x.2.2.2.2.2.1.1 x.2.2.2.2.2.1.2.1 x.2.2.2.2.2.2.1 x.2.2.2.2.2.2.2.1⟩
theorem g89L3ok {E} (hE:EO E 102 g89H) (n):LO E g89B6 ((g89L3X m).at n):=lk hE (g89K m) (g89L3X m) n
def g89L2X:LT:=⟨4,[(0,.a (.c (.imm (.sl false (.pr .bool (.sl false (.int .u32))))))),(3,sI),(4,.a (.c (.nm 0 (.pr .bool (.sl false (.int .u32)))))),(5,.a (.c (.dp 1 (.pr .bool (.sl false (.int .u32)))))),(7,sI),(42,sI),(43,sI)],[(.exit 4,[(0,.a (.c (.imm (.sl false (.pr .bool (.sl false (.int .u32))))))),(3,sI),(4,.a (.c (.nm 0 (.pr .bool (.sl false (.int .u32)))))),(5,.a (.c (.dp 1 (.pr .bool (.sl false (.int .u32)))))),(7,sI)])],fun n x=>g89L2 m n x.1 x.2.1 x.2.2.1 x.2.2.2.1 x.2.2.2.2.1 x.2.2.2.2.2.1 x.2.2.2.2.2.2.1⟩
theorem g89L2ok {E} (hE:EO E 102 g89H) (n):LO E g89B4 ((g89L2X m).at n):=lk hE (g89K m) (g89L2X m) n
def g89L1X:LT:=⟨2,[(0,.a (.c (.imm (.sl false (.pr .bool (.sl false (.int .u32))))))),(3,sI),(4,.a (.c (.nm 0 (.pr .bool (.sl false (.int .u32)))))),(5,.a (.c (.dp 1 (.pr .bool (.sl false (.int .u32)))))),(7,sI)],[(.exit 2,[(4,.a (.c (.nm 0 (.pr .bool (.sl false (.int .u32))))))])],fun n x=>g89L1 m n x.1 x.2.1 x.2.2.1 x.2.2.2.1 x.2.2.2.2.1⟩
theorem g89L1ok {E} (hE:EO E 102 g89H) (n):LO E g89B2 ((g89L1X m).at n):=
 lok hmix htt hE (g89K m) (L:=[(g89L2X m).at m,(g89L3X m).at m]) (g89L1X m) (l:=[(4,g89B4),(6,g89B6)]) kR (fun _ _=>⟨qi ⟨yb (g89L2ok m hE m),nb rfl,trivial⟩,qi ⟨nb rfl,yb (g89L3ok m hE m),trivial⟩,trivial⟩) (fun n x=>kR) (fun _=>kR) n
def g89L0X:LT:=⟨0,[(0,.a (.c (.imm (.sl false (.pr .bool (.sl false (.int .u32))))))),(3,sI),(4,.a (.c (.nm 0 (.pr .bool (.sl false (.int .u32)))))),(5,.a (.c (.dp 1 (.pr .bool (.sl false (.int .u32)))))),(26,sI),(27,sI)],[(.exit 0,[(0,.a (.c (.imm (.sl false (.pr .bool (.sl false (.int .u32))))))),(3,sI),(4,.a (.c (.nm 0 (.pr .bool (.sl false (.int .u32)))))),(5,.a (.c (.dp 1 (.pr .bool (.sl false (.int .u32))))))])],fun n x=>g89L0 m n x.1 x.2.1 x.2.2.1 x.2.2.2.1 x.2.2.2.2.1 x.2.2.2.2.2.1⟩
theorem g89L0ok {E} (hE:EO E 102 g89H) (n):LO E g89B0 ((g89L0X m).at n):=lk hE (g89K m) (g89L0X m) n
theorem g89ok:FO (g89T m):=
 fok hmix htt (H:=g89H) (g89T m) func89 kR (g89K m) (L:=[(g89L0X m).at m,(g89L1X m).at m]) (l:=[(0,g89B0),(2,g89B2)]) kR (fun _ hE _ _=>⟨qi ⟨yb (g89L0ok m hE m),nb rfl,trivial⟩,qi ⟨nb rfl,yb (g89L1ok m hE m),trivial⟩,trivial⟩) (fun x=>kR)
end
end Go.Vs.F
