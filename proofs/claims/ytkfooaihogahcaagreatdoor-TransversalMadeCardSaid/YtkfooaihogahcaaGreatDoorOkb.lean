/-The plain functions are what the code does (by program:gen.py). -/
import Derived.Test.YtkfooaihogahcaaGreatDoorOka
set_option linter.unusedVariables false
set_option maxRecDepth 100000
namespace Go.Vs.F
open Go.Proofs
open Tryz
section
variable (m:Nat)
def g153H:Hints:=⟨[J [0,1],J' [(2,1),(5,1),(10,1),(13,1)] [0,21],J' [(0,1)] [4],J' [(0,1)] [4]],[],[],[4],[],[[false]]⟩
def g153T:FunT:=⟨153,[sB,sI],sU,[sD,sD],fun x=>g153 m x.1 x.2.1⟩
theorem g153ok:FO (g153T m):=fk g153H (g153T m) func153 (AllF.mem (l:=[g156T m]) ⟨g156ok m,trivial⟩)
def g169H:Hints:=⟨[J [1,2],J' [(3,1),(5,1)] [6],J' [(0,1)] [4]],[],[],[4],[],[[false]]⟩
def g169T:FunT:=⟨169,[.a (.agg [.bool,(.imm (.int .u32))]),sI],sB,[sD,sD],fun x=>g169 m x.1.1 x.1.2.1 x.2.1⟩
theorem g169ok:FO (g169T m):=fk g169H (g169T m) func169 (AllF.mem (l:=[g104T m,g172T m]) ⟨g104ok m,g172ok m,trivial⟩)
def g170H:Hints:=⟨[J [0,1,2,3],J' [(0,1)] [0,1,2,9],J [0,1,2,9,10],J' [(0,1)] [8],J [0,1,2,9,13],J' [(0,1)] [8],J [1,2,17],J [8],J' [(2,1),(5,1),(6,1)] [8]],[],[(0,[1,2])],[8],[],[[false]]⟩
def g170T:FunT:=⟨170,[sB,sI,sB,sI],sB,[sD,sD,sD,sD],fun x=>g170 m x.1 x.2.1 x.2.2.1 x.2.2.2.1⟩
theorem g170ok:FO (g170T m):=fk g170H (g170T m) func170 noF
def g154H:Hints:=⟨[J [0,2,3,4,6,10],J [0,2,3,4,6,10,11],J [0,2,3,4,6,10,11,12],J' [(0,1),(2,1)] [0,2,3,4,6,10,11,27],J' [(0,1)] [10],J [0,2,3,4,6,10,11,13],J [0,2,3,4,6,10,11,13,30],J [0,2,3,4,6,10,11,13,14],J' [(3,1)] [0,2,3,4,6,10,11,13,42],J [0,2,3,4,6,10,11,13],J' [(0,1),(1,1),(3,1)] [0,4,10,11,13,49],J [0,4,10,11,13],J' [(3,1)] [0,4,10,11,13,15],J' [(0,1),(1,1),(2,1),(3,1)] [10,11,62],J [10,11],J' [(0,1)] [10]],[],[],[10],[],[[false,true]]⟩
def g154T:FunT:=⟨154,[sB,.a (.agg [.bool,(.imm (.int .u32))]),sI,sB,sI],.a (.agg [.bool,(.nm 0 (.int .u32))]),[sD,sD,sD,sD,sD],fun x=>g154 m x.1 x.2.1.1 x.2.1.2.1 x.2.2.1 x.2.2.2.1 x.2.2.2.2.1⟩
theorem g154ok:FO (g154T m):=fk g154H (g154T m) func154 (AllF.mem (l:=[g158T m,g169T m,g157T m,g113T m,g170T m,g57T m,g56T m]) ⟨g158ok m,g169ok m,g157ok m,g113ok m,g170ok m,g57ok m,g56ok m,trivial⟩)
def g58H:Hints:=⟨[J [1],J [1],J [1,11],J [2,3],J [1,4],J [1,4,5],J [1,4,5,16],J' [(0,1)] [1,4,5],J' [(0,1)] [1,4,5],J [4,31],J [4,33],J [2,3],J' [(0,1)] [2,3],J [4,40],J [2,3],J' [(0,1)] [2,3]],[(0,[1,4,5])],[(0,[1,4]),(1,[1,4,5])],[2,3],[],[[false],[false]]⟩
def g58T:FunT:=⟨58,[.a (.agg [.bool,(.imm (.int .u32))])],.tup [(.c (.int .i64)),(.c .bool)],[sD],fun x=>g58 m x.1.1 x.1.2.1⟩
noncomputable def g58C:Code:=codeOf f58
noncomputable def g58B0:Code:=qm g58C 0 0
theorem g58K:FL [g109T m]:=AllF.mem ⟨g109ok m,trivial⟩
def g58L0X:LT:=⟨0,[(1,sX 0 [.bool,.nm 1 (.int .u32)]),(4,sU),(5,sI)],[(.exit 0,[(1,sX 0 [.bool,.nm 1 (.int .u32)]),(4,sU)])],fun n x=>g58L0 m n x.1.1 x.1.2.1 x.2.1 x.2.2.1⟩
theorem g58L0ok {E} (hE:EO E 43 g58H) (n):LO E g58B0 ((g58L0X m).at n):=lk hE (g58K m) (g58L0X m) n
theorem g58ok:FO (g58T m):=f1' g58H (g58T m) func58 (g58K m) fun _ h=>g58L0ok m h m
def g117H:Hints:=⟨[J [0,2,3,4,6],J [0,2,3,4,6,11],J [0,2,3,4,6,11,22],J' [(0,1),(1,1)] [10],J' [(0,1)] [0,2,3,4,6,12],J [0,2,3,4,6,12,13],J [0,2,3,4,6,12,13,31],J' [(3,1),(5,1)] [0,4,12,13],J' [(1,1)] [0,4,12,13],J' [(2,1)] [0,4,12,14],J [0,4,12,14,51],J [0,4,12,14],J' [(0,1)] [0,4,12,14],J' [(2,1)] [0,4,12,14,54],J' [(0,1),(1,1)] [10],J [0,12,14,65],J' [(0,1),(1,1),(5,1)] [10],J' [(0,1),(1,1)] [10]],[],[(0,[0,14])],[10],[],[[false]]⟩
def g117T:FunT:=⟨117,[sB,.a (.agg [.bool,(.imm (.int .u32))]),sI,sB,sI],sU,[sD,sD,sD,sD,sD],fun x=>g117 m x.1 x.2.1.1 x.2.1.2.1 x.2.2.1 x.2.2.2.1 x.2.2.2.2.1⟩
theorem g117ok:FO (g117T m):=fk g117H (g117T m) func117 (AllF.mem (l:=[g152T m,g153T m,g154T m,g58T m,g156T m,g155T m]) ⟨g152ok m,g153ok m,g154ok m,g58ok m,g156ok m,g155ok m,trivial⟩)
def g70H:Hints:=⟨[J [1,2],J [1,2],J [1,2,8],J [4],J [1,2,12],J [4],J' [(8,1)] [4]],[],[],[4],[],[[false]]⟩
def g70T:FunT:=⟨70,[.a (.agg [.bool,.bool,(.imm (.int .u32)),(.int .i64)]),sI],sU,[sD,sD],fun x=>g70 m x.1.1 x.1.2.1 x.1.2.2.1 x.1.2.2.2.1 x.2.1⟩
theorem g70ok:FO (g70T m):=fk g70H (g70T m) func70 (AllF.mem (l:=[g116T m,g113T m,g118T m,g117T m]) ⟨g116ok m,g113ok m,g118ok m,g117ok m,trivial⟩)
def g27H:Hints:=⟨[J [0],J [0,3],J [0,3,4],J' [(0,1)] [3,4,5],J [3,4,5,15],J' [(0,1)] [3,4],J' [(0,1),(2,1)] [2]],[],[],[2],[],[[false]]⟩
def g27T:FunT:=⟨27,[sI],sU,[sD],fun x=>g27 m x.1⟩
theorem g27ok:FO (g27T m):=fk g27H (g27T m) func27 (AllF.mem (l:=[g8T m,g72T m,g71T m,g70T m]) ⟨g8ok m,g72ok m,g71ok m,g70ok m,trivial⟩)
def g28H:Hints:=⟨[J [0,1,2,6],J [0,1,2,6,7],J [0,1,2,6,7,8],J [0,1,2,6,7,8,9],J [0,1,2,6,7,8,9,24],J' [(0,1)] [0,1,2,6,7,8,9],J [0,1,2,6,7,8,9],J [0,1,2,6,7,8,10],J [0,1,2,6,7,8,10,46],J' [(0,1)] [0,1,2,6,7,8,10],J [0,1,2,6,7,8,10,11],J [0,1,2,6,7,8,10,11,51],J' [(0,1)] [0,1,2,6,7,8,10,11],J [0,1,2,6,7,8,10,11,12],J [0,1,2,6,7,8,10,11,12,63],J' [(1,1)] [0,1,2,6,7,8,10,11,12],J' [(3,1),(9,3)] [0,1,2,6,7,8,10,11],J' [(1,1)] [0,1,2,6,7,8,10],J' [(0,1)] [6]],[(0,[0,1,2,6,7,8,9]),(2,[0,1,2,6,7,8,10]),(4,[0,1,2,6,7,8,10,11])],[(0,[0,1,2,6,7,8]),(1,[0,1,2,6,7,8,9]),(2,[6,7]),(3,[0,1,2,6,7,8,10]),(4,[0,1,2,6,7,8,10]),(5,[0,1,2,6,7,8,10,11])],[6],[],[[false,false,true,true,true]]⟩
def g28T:FunT:=⟨28,[sI,sI,.a (.c (.imm (.pr (.int .i64) (.pr (.int .i64) (.int .u64)))))],.a (.agg [(.int .i64),(.int .i64),(.nm 0 (.int .i64)),(.nm 1 (.int .i64)),(.nm 2 (.int .u64))]),[sD,sD,sD],fun x=>g28 m x.1 x.2.1 x.2.2.1⟩
noncomputable def g28C:Code:=codeOf f28
noncomputable def g28B0:Code:=qm g28C 0 0
noncomputable def g28B2:Code:=qm g28C 0 1
noncomputable def g28B4:Code:=qm g28B2 2 0
def g28L2X:LT:=⟨4,[(0,sI),(1,sI),(2,.a (.c (.imm (.pr (.int .i64) (.pr (.int .i64) (.int .u64)))))),(6,sX 0 [iI,iI,iM 1,iM 2,.nm 3 (.int .u64)]),(7,sX 4 [iI,iI,iM 5,iM 6,.nm 7 (.int .u64)]),(8,sN 8),(10,sI),(11,sI)],[(.exit 4,[(0,sI),(1,sI),(2,.a (.c (.imm (.pr (.int .i64) (.pr (.int .i64) (.int .u64)))))),(6,sX 0 [iI,iI,iM 1,iM 2,.nm 3 (.int .u64)]),(7,sX 4 [iI,iI,iM 5,iM 6,.nm 7 (.int .u64)]),(8,sN 8),(10,sI)])],fun n x=>g28L2 m n x.1 x.2.1 x.2.2.1 x.2.2.2.1.1 x.2.2.2.1.2.1 x.2.2.2.1.2.2.1 x.2.2.2.1.2.2.2.1 x.2.2.2.1.2.2.2.2.1 x.2.2.2.2.1.1 x.2.2.2.2.1.2.1 x.2.2.2.2.1.2.2.1 x.2.2.2.2.1.2.2.2.1 x.2.2.2.2.1.2.2.2.2.1 x.2.2.2.2.2.1 x.2.2.2.2.2.2.1 x.2.2.2.2.2.2.2.1⟩
theorem g28L2ok {E} (hE:EO E 90 g28H) (n):LO E g28B4 ((g28L2X m).at n):=lk hE noF (g28L2X m) n
def g28L1X:LT:=⟨2,[(0,sI),(1,sI),(2,.a (.c (.imm (.pr (.int .i64) (.pr (.int .i64) (.int .u64)))))),(6,sX 0 [iI,iI,iM 1,iM 2,.nm 3 (.int .u64)]),(7,sX 4 [iI,iI,iM 5,iM 6,.nm 7 (.int .u64)]),(8,sN 8),(10,sI)],[(.exit 2,[(6,sX 0 [iI,iI,iM 1,iM 2,.nm 3 (.int .u64)]),(7,sX 4 [iI,iI,iM 5,iM 6,.nm 7 (.int .u64)])])],fun n x=>g28L1 m n x.1 x.2.1 x.2.2.1 x.2.2.2.1.1 x.2.2.2.1.2.1 x.2.2.2.1.2.2.1 x.2.2.2.1.2.2.2.1 x.2.2.2.1.2.2.2.2.1 x.2.2.2.2.1.1 x.2.2.2.2.1.2.1 x.2.2.2.2.1.2.2.1 x.2.2.2.2.1.2.2.2.1 x.2.2.2.2.1.2.2.2.2.1 x.2.2.2.2.2.1 x.2.2.2.2.2.2.1⟩
theorem g28L1ok {E} (hE:EO E 90 g28H) (n):LO E g28B2 ((g28L1X m).at n):=
 lok hmix htt hE noF (L:=[(g28L2X m).at m]) (g28L1X m) (l:=[(4,g28B4)]) kR (fun _ _=>⟨qg ⟨yb (g28L2ok m hE m),trivial⟩,trivial⟩) (fun n x=>kR) (fun _=>kR) n
def g28L0X:LT:=⟨0,[(0,sI),(1,sI),(2,.a (.c (.imm (.pr (.int .i64) (.pr (.int .i64) (.int .u64)))))),(6,sX 0 [iI,iI,iM 1,iM 2,.nm 3 (.int .u64)]),(7,sX 4 [iI,iI,iM 5,iM 6,.nm 7 (.int .u64)]),(8,sN 8),(9,sI)],[(.exit 0,[(0,sI),(1,sI),(2,.a (.c (.imm (.pr (.int .i64) (.pr (.int .i64) (.int .u64)))))),(6,sX 0 [iI,iI,iM 1,iM 2,.nm 3 (.int .u64)]),(7,sX 4 [iI,iI,iM 5,iM 6,.nm 7 (.int .u64)]),(8,sN 8)])],fun n x=>g28L0 m n x.1 x.2.1 x.2.2.1 x.2.2.2.1.1 x.2.2.2.1.2.1 x.2.2.2.1.2.2.1 x.2.2.2.1.2.2.2.1 x.2.2.2.1.2.2.2.2.1 x.2.2.2.2.1.1 x.2.2.2.2.1.2.1 x.2.2.2.2.1.2.2.1 x.2.2.2.2.1.2.2.2.1 x.2.2.2.2.1.2.2.2.2.1 x.2.2.2.2.2.1 x.2.2.2.2.2.2.1⟩
theorem g28L0ok {E} (hE:EO E 90 g28H) (n):LO E g28B0 ((g28L0X m).at n):=lk hE noF (g28L0X m) n
theorem g28ok:FO (g28T m):=
 fok hmix htt (H:=g28H) (g28T m) func28 kR noF (L:=[(g28L0X m).at m,(g28L1X m).at m]) (l:=[(0,g28B0),(2,g28B2)]) kR (fun _ hE _ _=>⟨qg ⟨yb (g28L0ok m hE m),nb rfl,trivial⟩,qg ⟨nb rfl,yb (g28L1ok m hE m),trivial⟩,trivial⟩) (fun x=>kR)
def g9H:Hints:=⟨[J [0,1,4],J [0,1,4,5],J [0,1,4,5,6],J [0,1,4,5,6,10],J' [(0,1)] [0,1,4,5,6],J' [(0,1)] [0,1,4,5,6],J [0,1,4,5,7],J' [(5,1)] [0,1,4,5,7,33],J' [(0,1)] [0,1,4,5,7],J' [(0,1)] [0,1,4,5,7],J' [(2,1)] [4]],[(0,[0,1,4,5,6]),(2,[0,1,4,5,7])],[(0,[0,1,4,5]),(1,[0,1,4,5,6]),(2,[0,4,5]),(3,[0,1,4,5,7])],[4],[],[[false,false,true,true,true]]⟩
def g9T:FunT:=⟨9,[sI,sL],.a (.agg [(.int .i64),(.int .i64),(.nm 0 (.int .i64)),(.nm 1 (.int .i64)),(.nm 2 (.int .u64))]),[sD,sD],fun x=>g9 m x.1 x.2.1⟩
noncomputable def g9C:Code:=codeOf f9
noncomputable def g9B0:Code:=qm g9C 0 0
noncomputable def g9B2:Code:=qm g9C 0 1
theorem g9K:FL [g10T m,g27T m,g8T m,g28T m]:=AllF.mem ⟨g10ok m,g27ok m,g8ok m,g28ok m,trivial⟩
def g9L1X:LT:=⟨2,[(0,sI),(1,sL),(4,sX 0 [iI,iI,iM 1,iM 2,.nm 3 (.int .u64)]),(5,.a (.c (.nm 4 (.pr (.int .i64) (.pr (.int .i64) (.int .u64)))))),(7,sI)],[(.exit 2,[(0,sI),(4,sX 0 [iI,iI,iM 1,iM 2,.nm 3 (.int .u64)]),(5,.a (.c (.nm 4 (.pr (.int .i64) (.pr (.int .i64) (.int .u64))))))])],fun n x=>g9L1 m n x.1 x.2.1 x.2.2.1.1 x.2.2.1.2.1 x.2.2.1.2.2.1 x.2.2.1.2.2.2.1 x.2.2.1.2.2.2.2.1 x.2.2.2.1 x.2.2.2.2.1⟩
theorem g9L1ok {E} (hE:EO E 63 g9H) (n):LO E g9B2 ((g9L1X m).at n):=lk hE (g9K m) (g9L1X m) n
def g9L0X:LT:=⟨0,[(0,sI),(1,sL),(4,sX 0 [iI,iI,iM 1,iM 2,.nm 3 (.int .u64)]),(5,.a (.c (.nm 4 (.pr (.int .i64) (.pr (.int .i64) (.int .u64)))))),(6,sI)],[(.exit 0,[(0,sI),(1,sL),(4,sX 0 [iI,iI,iM 1,iM 2,.nm 3 (.int .u64)]),(5,.a (.c (.nm 4 (.pr (.int .i64) (.pr (.int .i64) (.int .u64))))))])],fun n x=>g9L0 m n x.1 x.2.1 x.2.2.1.1 x.2.2.1.2.1 x.2.2.1.2.2.1 x.2.2.1.2.2.2.1 x.2.2.1.2.2.2.2.1 x.2.2.2.1 x.2.2.2.2.1⟩
theorem g9L0ok {E} (hE:EO E 63 g9H) (n):LO E g9B0 ((g9L0X m).at n):=lk hE (g9K m) (g9L0X m) n
theorem g9ok:FO (g9T m):=
 fok hmix htt (H:=g9H) (g9T m) func9 kR (g9K m) (L:=[(g9L0X m).at m,(g9L1X m).at m]) (l:=[(0,g9B0),(2,g9B2)]) kR (fun _ hE _ _=>⟨qg ⟨yb (g9L0ok m hE m),nb rfl,trivial⟩,qg ⟨nb rfl,yb (g9L1ok m hE m),trivial⟩,trivial⟩) (fun x=>kR)
def g33H:Hints:=⟨[J [1,2,4],J' [(2,1)] [1,2,4,5],J' [(0,1)] [1,2,4,12],J [4],J' [(4,1)] [4]],[],[],[4],[],[[false,false,false,false]]⟩
def g33T:FunT:=⟨33,[.a (.agg [.bool,.bool,(.imm (.int .u32)),(.int .i64)]),sI],.a (.agg [.bool,.bool,(.imm (.int .u32)),(.int .i64)]),[sD,sD],fun x=>g33 m x.1.1 x.1.2.1 x.1.2.2.1 x.1.2.2.2.1 x.2.1⟩
theorem g33ok:FO (g33T m):=fk g33H (g33T m) func33 (AllF.mem (l:=[g78T m,g79T m,g80T m]) ⟨g78ok m,g79ok m,g80ok m,trivial⟩)
def g98H:Hints:=⟨[J [1,2],J' [(2,1)] [1,2],J [2]],[],[],[2],[],[[false,false,false,false]]⟩
def g98T:FunT:=⟨98,[.a (.agg [.bool,.bool,(.imm (.int .u32)),(.int .i64)])],.a (.agg [.bool,.bool,(.imm (.int .u32)),(.int .i64)]),[sD],fun x=>g98 m x.1.1 x.1.2.1 x.1.2.2.1 x.1.2.2.2.1⟩
theorem g98ok:FO (g98T m):=fk g98H (g98T m) func98 (AllF.mem (l:=[g78T m]) ⟨g78ok m,trivial⟩)
def g50H:Hints:=⟨[J [1],J' [(2,1)] [1],J [2]],[],[],[2],[],[[false]]⟩
def g50T:FunT:=⟨50,[.a (.agg [.bool,.bool,(.imm (.int .u32)),(.int .i64)])],sI,[sD],fun x=>g50 m x.1.1 x.1.2.1 x.1.2.2.1 x.1.2.2.2.1⟩
theorem g50ok:FO (g50T m):=fk g50H (g50T m) func50 (AllF.mem (l:=[g78T m,g97T m]) ⟨g78ok m,g97ok m,trivial⟩)
def g142H:Hints:=⟨[J [1,2],J [2]],[],[],[2],[],[[false,false]]⟩
def g142T:FunT:=⟨142,[.a (.agg [.bool,(.imm (.int .u32))])],.a (.agg [.bool,(.imm (.int .u32))]),[sD],fun x=>g142 m x.1.1 x.1.2.1⟩
theorem g142ok:FO (g142T m):=fk g142H (g142T m) func142 (AllF.mem (l:=[g128T m,g127T m]) ⟨g128ok m,g127ok m,trivial⟩)
def g100H:Hints:=⟨[J [1,2],J [2]],[],[],[2],[],[[false,false,false,false,false]]⟩
def g100T:FunT:=⟨100,[.a (.agg [.bool,.bool,(.imm (.int .u32)),(.int .i64)])],.a (.agg [.bool,.bool,(.imm (.int .u32)),(.int .i64),.bool]),[sD],fun x=>g100 m x.1.1 x.1.2.1 x.1.2.2.1 x.1.2.2.2.1⟩
theorem g100ok:FO (g100T m):=fk g100H (g100T m) func100 (AllF.mem (l:=[g142T m]) ⟨g142ok m,trivial⟩)
def g140H:Hints:=⟨[J [1],J [2]],[],[],[2],[],[[false]]⟩
def g140T:FunT:=⟨140,[.a (.agg [.bool,.bool,(.imm (.int .u32)),(.int .i64),.bool])],sI,[sD],fun x=>g140 m x.1.1 x.1.2.1 x.1.2.2.1 x.1.2.2.2.1 x.1.2.2.2.2.1⟩
theorem g140ok:FO (g140T m):=fk g140H (g140T m) func140 (AllF.mem (l:=[g125T m]) ⟨g125ok m,trivial⟩)
def g146H:Hints:=⟨[J [1,2,4],J' [(1,1),(3,1)] [2,4],J [4]],[],[],[4],[],[[false,false]]⟩
def g146T:FunT:=⟨146,[.a (.agg [.bool,(.imm (.int .u32))]),sI],.a (.agg [.bool,(.imm (.int .u32))]),[sD,sD],fun x=>g146 m x.1.1 x.1.2.1 x.2.1⟩
theorem g146ok:FO (g146T m):=fk g146H (g146T m) func146 (AllF.mem (l:=[g161T m]) ⟨g161ok m,trivial⟩)
def g133H:Hints:=⟨[J [0,1],J [0,1,5],J [0,1,5,6],J' [(0,1)] [0,1,6,11],J' [(0,1)] [12],J [4],J [4],J' [(0,1)] [0,1,13],J [4],J [0,1,16],J [4],J' [(0,1),(1,1)] [19],J [4],J [4]],[],[],[4],[],[[false]]⟩
def g133T:FunT:=⟨133,[sI,sI],sI,[sD,sD],fun x=>g133 m x.1 x.2.1⟩
theorem g133ok:FO (g133T m):=fk g133H (g133T m) func133 (AllF.mem (l:=[g163T m]) ⟨g163ok m,trivial⟩)
def g180H:Hints:=⟨[J [0],J [2]],[],[],[2],[],[[false]]⟩
def g180T:FunT:=⟨180,[.a (.c (.int .u32))],sB,[sD],fun x=>g180 m x.1⟩
theorem g180ok:FO (g180T m):=fk g180H (g180T m) func180 noF
def g166H:Hints:=⟨[J [0,1],J [0,1,5],J [0,1,5,6],J' [(0,1)] [0,1,6,11],J' [(0,1)] [12],J [4],J [4],J' [(0,1)] [0,1,13],J [4],J [0,1,16],J [4],J' [(0,1),(1,1)] [19],J [4],J [4]],[],[],[4],[],[[false]]⟩
def g166T:FunT:=⟨166,[.a (.c (.int .u32)),.a (.c (.int .u32))],sI,[sD,sD],fun x=>g166 m x.1 x.2.1⟩
theorem g166ok:FO (g166T m):=fk g166H (g166T m) func166 (AllF.mem (l:=[g180T m]) ⟨g180ok m,trivial⟩)
def g147H:Hints:=⟨[J [0,1],J [0,1,10],J' [(0,1),(2,1)] [4],J [0,1,5],J [0,1,5,20],J' [(0,1)] [0,1,5],J [0,1,5,31],J' [(0,1),(4,1)] [4],J [4]],[(0,[0,1,5])],[(0,[]),(1,[0,1,5])],[4],[],[[false]]⟩
def g147T:FunT:=⟨147,[.a (.c (.imm (.int .u32))),.a (.c (.imm (.int .u32)))],sI,[sD,sD],fun x=>g147 m x.1 x.2.1⟩
noncomputable def g147C:Code:=codeOf f147
noncomputable def g147B0:Code:=qm g147C 0 0
theorem g147K:FL [g133T m,g166T m]:=AllF.mem ⟨g133ok m,g166ok m,trivial⟩
def g147L0X:LT:=⟨0,[(0,.a (.c (.imm (.int .u32)))),(1,.a (.c (.imm (.int .u32)))),(5,sI)],[(.ret,[(4,sI)]),(.exit 0,[])],fun n x=>g147L0 m n x.1 x.2.1 x.2.2.1⟩
theorem g147L0ok {E} (hE:EO E 41 g147H) (n):LO E g147B0 ((g147L0X m).at n):=lk hE (g147K m) (g147L0X m) n
theorem g147ok:FO (g147T m):=f1' g147H (g147T m) func147 (g147K m) fun _ h=>g147L0ok m h m
def g179H:Hints:=⟨[J [0,1],J [0,1,5],J [0,1,5,6],J' [(0,1)] [1,5,6,13,14,15],J [1,5,6,13,14,15,16],J [1,5,6,7,8,13,14,15],J' [(0,1),(2,1)] [1,5,7,9,13,14,15],J [1,5,7,9,13,14,15,27],J' [(0,1)] [1,5,7,9,13,14,15],J' [(1,1)] [1,5,9,13,14,15],J' [(0,1)] [1,5,6,13,14,15],J' [(1,1)] [1,5,6,13,14,15],J' [(0,1)] [4]],[(0,[1,5,6,13,14,15])],[(0,[5]),(1,[1,5,6,13,14,15])],[4],[],[[false]]⟩
def g179T:FunT:=⟨179,[.a (.c (.imm (.int .u32))),.a (.c (.imm (.int .u32)))],.a (.c (.imm (.int .u32))),[sD,sD],fun x=>g179 m x.1 x.2.1⟩
noncomputable def g179C:Code:=codeOf f179
noncomputable def g179B0:Code:=qm g179C 0 0
theorem g179K:FL [g139T m]:=AllF.mem ⟨g139ok m,trivial⟩
def g179L0X:LT:=⟨0,[(1,.a (.c (.imm (.int .u32)))),(5,.a (.c (.nm 0 (.int .u32)))),(6,sU),(13,.a (.c (.imm (.int .u32)))),(14,sI),(15,sI)],[(.exit 0,[(5,.a (.c (.nm 0 (.int .u32))))])],fun n x=>g179L0 m n x.1 x.2.1 x.2.2.1 x.2.2.2.1 x.2.2.2.2.1 x.2.2.2.2.2.1⟩
theorem g179L0ok {E} (hE:EO E 47 g179H) (n):LO E g179B0 ((g179L0X m).at n):=lk hE (g179K m) (g179L0X m) n
theorem g179ok:FO (g179T m):=f1' g179H (g179T m) func179 (g179K m) fun _ h=>g179L0ok m h m
def g165H:Hints:=⟨[J [2,3,4],J [2,3,4,5,6],J [2,3,4,5,6,13],J' [(2,1),(3,1)] [4],J [2,3,4,5,6,25],J' [(2,1),(3,1)] [4],J' [(2,1),(3,1)] [4]],[],[(0,[3,4,5,6])],[4],[],[[false,false]]⟩
def g165T:FunT:=⟨165,[.a (.agg [.bool,(.imm (.int .u32))]),.a (.agg [.bool,(.imm (.int .u32))])],.a (.agg [.bool,(.imm (.int .u32))]),[sD,sD],fun x=>g165 m x.1.1 x.1.2.1 x.2.1.1 x.2.1.2.1⟩
theorem g165ok:FO (g165T m):=fk g165H (g165T m) func165 (AllF.mem (l:=[g139T m,g175T m,g127T m,g147T m,g179T m]) ⟨g139ok m,g175ok m,g127ok m,g147ok m,g179ok m,trivial⟩)
def g178H:Hints:=⟨[J [2,3,4],J [2,3,4],J [4]],[],[],[4],[],[[false,false]]⟩
def g178T:FunT:=⟨178,[.a (.agg [.bool,(.imm (.int .u32))]),.a (.agg [.bool,(.imm (.int .u32))])],.a (.agg [.bool,(.imm (.int .u32))]),[sD,sD],fun x=>g178 m x.1.1 x.1.2.1 x.2.1.1 x.2.1.2.1⟩
theorem g178ok:FO (g178T m):=fk g178H (g178T m) func178 (AllF.mem (l:=[g165T m]) ⟨g165ok m,trivial⟩)
def g103H:Hints:=⟨[J [2,3],J [2,3,5,6],J [2,3,5,6,11],J [4],J' [(1,1)] [2,3,5,15],J [4],J' [(0,1)] [4]],[],[(0,[2,3,5])],[4],[],[[false]]⟩
def g103T:FunT:=⟨103,[.a (.agg [.bool,(.imm (.int .u32))]),.a (.agg [.bool,(.imm (.int .u32))])],sI,[sD,sD],fun x=>g103 m x.1.1 x.1.2.1 x.2.1.1 x.2.1.2.1⟩
theorem g103ok:FO (g103T m):=fk g103H (g103T m) func103 (AllF.mem (l:=[g97T m,g139T m,g147T m]) ⟨g97ok m,g139ok m,g147ok m,trivial⟩)
def g164H:Hints:=⟨[J [1,2,4],J [1,2,4,7],J' [(1,1)] [1,2,4,14],J [4,5,6],J [1,2,4],J [1,2,4,8],J' [(2,1)] [2,4,5,8],J' [(2,1)] [2,4,5,8,37],J [2,4,5,8],J' [(1,1),(5,1)] [4,5,6]],[],[],[4,5,6],[],[[false,false],[false],[false]]⟩
def g164T:FunT:=⟨164,[.a (.agg [.bool,.bool,(.imm (.int .u32)),(.int .i64),.bool]),sI],.tup [(.agg [.bool,(.imm (.int .u32))]),(.c (.int .i64)),(.c .bool)],[sD,sD],fun x=>g164 m x.1.1 x.1.2.1 x.1.2.2.1 x.1.2.2.2.1 x.1.2.2.2.2.1 x.2.1⟩
theorem g164ok:FO (g164T m):=fk g164H (g164T m) func164 (AllF.mem (l:=[g125T m,g126T m,g146T m,g178T m,g81T m,g103T m,g97T m]) ⟨g125ok m,g126ok m,g146ok m,g178ok m,g81ok m,g103ok m,g97ok m,trivial⟩)
def g143H:Hints:=⟨[J [1,2,3,6],J [1,2,3,6,7,8,9],J [1,2,3,6,7,8,9,16],J' [(3,1)] [2,3,6,7,8,9],J' [(1,1),(6,1)] [2,3,6,7,8,9],J [2,3,6,7,8,9,10],J' [(2,1),(5,1),(10,1)] [3,6,7,10],J' [(0,1)] [2,3,6,7,8,10,49],J [2,3,6,7,8,10,51],J [3,6,7,10],J [2,3,6,7,8,10,56],J [3,6,7,10],J' [(0,1)] [3,6,7,8,10,62],J' [(0,1)] [3,6,7,65],J [3,6,7],J [6,7,70],J [6,7],J [6]],[],[(0,[3,6,7,10])],[6],[],[[false,false]]⟩
def g143T:FunT:=⟨143,[.a (.agg [.bool,.bool,(.imm (.int .u32)),(.int .i64),.bool]),sI,sI],.a (.agg [.bool,(.imm (.int .u32))]),[sD,sD,sD],fun x=>g143 m x.1.1 x.1.2.1 x.1.2.2.1 x.1.2.2.2.1 x.1.2.2.2.2.1 x.2.1 x.2.2.1⟩
theorem g143ok:FO (g143T m):=fk g143H (g143T m) func143 (AllF.mem (l:=[g146T m,g83T m,g164T m,g81T m,g165T m,g97T m,g124T m]) ⟨g146ok m,g83ok m,g164ok m,g81ok m,g165ok m,g97ok m,g124ok m,trivial⟩)
def g141H:Hints:=⟨[J [1],J [1,4],J [1,4,13],J [2,3],J [1,4,5],J' [(0,1)] [1,5,14,15,16],J [1,5,14,15,16,17],J [1,5,6,7,14,15,16],J' [(0,1),(1,1),(3,1)] [1,5,14,15,16],J' [(1,1)] [1,5,14,15,16],J' [(2,1),(6,1)] [1,5,29],J' [(0,1)] [2,3],J' [(2,1),(6,1)] [5,45],J' [(0,1)] [2,3],J [2,3]],[(0,[1,5,14,15,16])],[(0,[1,5]),(1,[1,5,14,15,16]),(2,[])],[2,3],[],[[false],[false]]⟩
def g141T:FunT:=⟨141,[.a (.agg [.bool,(.imm (.int .u32))])],.tup [(.c (.int .i64)),(.c .bool)],[sD],fun x=>g141 m x.1.1 x.1.2.1⟩
noncomputable def g141C:Code:=codeOf f141
noncomputable def g141B0:Code:=qm g141C 0 0
theorem g141K:FL [g139T m]:=AllF.mem ⟨g139ok m,trivial⟩
def g141L0X:LT:=⟨0,[(1,sX 0 [.bool,.imm (.int .u32)]),(5,sU),(14,.a (.c (.imm (.int .u32)))),(15,sI),(16,sI)],[(.exit 0,[(1,sX 0 [.bool,.imm (.int .u32)]),(5,sU)])],fun n x=>g141L0 m n x.1.1 x.1.2.1 x.2.1 x.2.2.1 x.2.2.2.1 x.2.2.2.2.1⟩
theorem g141L0ok {E} (hE:EO E 59 g141H) (n):LO E g141B0 ((g141L0X m).at n):=lk hE (g141K m) (g141L0X m) n
theorem g141ok:FO (g141T m):=f1' g141H (g141T m) func141 (g141K m) fun _ h=>g141L0ok m h m
def g144H:Hints:=⟨[J [0,1],J' [(0,1)] [0,5],J' [(0,1)] [4],J' [(0,1)] [4]],[],[],[4],[],[[false]]⟩
def g144T:FunT:=⟨144,[sU,sB],sU,[sD,sD],fun x=>g144 m x.1 x.2.1⟩
theorem g144ok:FO (g144T m):=fk g144H (g144T m) func144 noF
def g145H:Hints:=⟨[J [0,1],J' [(2,1),(5,1),(10,1),(13,1)] [0,21],J' [(0,1)] [4],J' [(0,1)] [4]],[],[],[4],[],[[false]]⟩
def g145T:FunT:=⟨145,[sB,sI],sU,[sD,sD],fun x=>g145 m x.1 x.2.1⟩
theorem g145ok:FO (g145T m):=fk g145H (g145T m) func145 (AllF.mem (l:=[g144T m]) ⟨g144ok m,trivial⟩)
def g99H:Hints:=⟨[J [1,2],J [1,2,5],J' [(6,1)] [1,2,5,6],J' [(0,1)] [1,2,5,8],J [1,2,5,8,25],J' [(0,1)] [1,2,5,8],J [1,2,5,8,29],J' [(0,1)] [4],J [1,2,5,8,36],J' [(2,1)] [4],J' [(0,1),(4,1)] [4]],[],[],[4],[],[[false]]⟩
def g99T:FunT:=⟨99,[.a (.agg [.bool,.bool,(.imm (.int .u32)),(.int .i64),.bool]),sI],sU,[sD,sD],fun x=>g99 m x.1.1 x.1.2.1 x.1.2.2.1 x.1.2.2.2.1 x.1.2.2.2.2.1 x.2.1⟩
theorem g99ok:FO (g99T m):=fk g99H (g99T m) func99 (AllF.mem (l:=[g140T m,g143T m,g142T m,g141T m,g145T m,g144T m]) ⟨g140ok m,g143ok m,g142ok m,g141ok m,g145ok m,g144ok m,trivial⟩)
def g52H:Hints:=⟨[J [1,2],J [1,2],J [1,2,7],J [4],J [1,2,10],J [4],J' [(2,1)] [4]],[],[(0,[1,2])],[4],[],[[false]]⟩
def g52T:FunT:=⟨52,[.a (.agg [.bool,.bool,(.imm (.int .u32)),(.int .i64)]),sI],sU,[sD,sD],fun x=>g52 m x.1.1 x.1.2.1 x.1.2.2.1 x.1.2.2.2.1 x.2.1⟩
theorem g52ok:FO (g52T m):=fk g52H (g52T m) func52 (AllF.mem (l:=[g98T m,g50T m,g100T m,g99T m]) ⟨g98ok m,g50ok m,g100ok m,g99ok m,trivial⟩)
def g101H:Hints:=⟨[J [2,3,4,5],J' [(2,1)] [3,4,5,6],J' [(2,1)] [4,5,6,7],J' [(2,1),(3,1),(4,1)] [4,5,6]],[],[],[4,5,6],[],[[false,false,false,false],[false,false,false,false],[false]]⟩
def g101T:FunT:=⟨101,[.a (.agg [.bool,.bool,(.imm (.int .u32)),(.int .i64)]),.a (.agg [.bool,.bool,(.imm (.int .u32)),(.int .i64)])],.tup [(.agg [.bool,.bool,(.imm (.int .u32)),(.int .i64)]),(.agg [.bool,.bool,(.imm (.int .u32)),(.int .i64)]),(.c .bool)],[sD,sD],fun x=>g101 m x.1.1 x.1.2.1 x.1.2.2.1 x.1.2.2.2.1 x.2.1.1 x.2.1.2.1 x.2.1.2.2.1 x.2.1.2.2.2.1⟩
theorem g101ok:FO (g101T m):=fk g101H (g101T m) func101 (AllF.mem (l:=[g78T m]) ⟨g78ok m,trivial⟩)
def g102H:Hints:=⟨[J [2,3,4,5],J [2,3,4,5,6],J [4,5,6]],[],[],[4,5,6],[],[[false,false],[false,false],[false]]⟩
def g102T:FunT:=⟨102,[.a (.agg [.bool,.bool,(.imm (.int .u32)),(.int .i64)]),.a (.agg [.bool,.bool,(.imm (.int .u32)),(.int .i64)])],.tup [(.agg [.bool,(.imm (.int .u32))]),(.agg [.bool,(.imm (.int .u32))]),(.c (.int .i64))],[sD,sD],fun x=>g102 m x.1.1 x.1.2.1 x.1.2.2.1 x.1.2.2.2.1 x.2.1.1 x.2.1.2.1 x.2.1.2.2.1 x.2.1.2.2.2.1⟩
theorem g102ok:FO (g102T m):=fk g102H (g102T m) func102 (AllF.mem (l:=[g146T m]) ⟨g146ok m,trivial⟩)
def g53H:Hints:=⟨[J [2,3],J' [(3,1)] [2,3,6],J' [(0,1)] [2,3,18],J [4,5],J' [(3,1)] [7,8],J [4,5]],[],[],[4,5],[],[[false],[false]]⟩
def g53T:FunT:=⟨53,[.a (.agg [.bool,.bool,(.imm (.int .u32)),(.int .i64)]),.a (.agg [.bool,.bool,(.imm (.int .u32)),(.int .i64)])],.tup [(.c (.int .i64)),(.c .bool)],[sD,sD],fun x=>g53 m x.1.1 x.1.2.1 x.1.2.2.1 x.1.2.2.2.1 x.2.1.1 x.2.1.2.1 x.2.1.2.2.1 x.2.1.2.2.2.1⟩
theorem g53ok:FO (g53T m):=fk g53H (g53T m) func53 (AllF.mem (l:=[g101T m,g102T m,g103T m]) ⟨g101ok m,g102ok m,g103ok m,trivial⟩)
def g129H:Hints:={regs:=[J [0],J [0],J [2],J [2]],heads:=[],exits:=[],rets:=[2],pins:=[],spec:=[[true]]}
abbrev g129A:List Sh:=[.a (.c (.imm (.pr (.int .i64) (.pr (.int .i64) (.int .u64)))))]
abbrev g129S:Sh:= .a (.c (.nm 0 (.pr (.int .i64) (.pr (.int .i64) (.int .u64)))))
abbrev g129U:List Sh:=[sD]
def g129R:Qp g129A->Option (g129S.Val×Qp g129U):=fun x=>g129 m x.1
def g129T:FunT:=⟨129,g129A,g129S,g129U,g129R m⟩
noncomputable def g129C:Code:=codeOf f129
theorem g129ok:FO (g129T m):=
 qg4 hmix htt (H:=g129H) (fn:=f129) (f:=129) (t:=(.pr (.int .i64) (.pr (.int .i64) (.int .u64)))) (ty:=54) (e:=57) (ty2:=54) (k:=1) (cells:=[.nil (.pr (.int .i64) (.pr (.int .i64) (.int .u64)))]) (A:=pA g129C) (X:=pX (pB (pA (pB g129C)))) (Y:=pB (pB g129C)) (o0:=pO 0 (pA (pA (pB g129C)))) (o1:=pO 1 (pA (pA (pB g129C)))) func129 kR kR kR kR kR kR kR kR kR (of_decide_eq_true kR) rfl kR kR kR (fun xs=>[(0,.sl .imm (.pr (.int .i64) (.pr (.int .i64) (.int .u64))) xs)]) (fun xs=>[(2,.sl (.nm 0) (.pr (.int .i64) (.pr (.int .i64) (.int .u64))) xs)]) (fun xs=>kR) (fun _=>rfl) (fun _=>rfl) (fun _=>rfl) kR (fun xs=>kR) (fun xs=>kR)
def g132H:Hints:=⟨[J [0],J [0,3],J' [(0,1)] [3,6,7,8],J [3,6,7,8,9],J [3,5,6,7,8],J [3,5,6,7,8,14],J' [(0,1)] [2],J' [(1,1)] [3,6,7,8],J' [(0,1)] [2]],[(0,[3,6,7,8])],[(0,[3]),(1,[3,6,7,8])],[2],[],[[false]]⟩
def g132T:FunT:=⟨132,[sL],sI,[sD],fun x=>g132 m x.1⟩
noncomputable def g132C:Code:=codeOf f132
noncomputable def g132B0:Code:=qm g132C 0 0
def g132L0X:LT:=⟨0,[(3,sI),(6,sL),(7,sI),(8,sI)],[(.ret,[(2,sI)]),(.exit 0,[(3,sI)])],fun n x=>g132L0 m n x.1 x.2.1 x.2.2.1 x.2.2.2.1⟩
theorem g132L0ok {E} (hE:EO E 18 g132H) (n):LO E g132B0 ((g132L0X m).at n):=lk hE noF (g132L0X m) n
theorem g132ok:FO (g132T m):=f1' g132H (g132T m) func132 noF fun _ h=>g132L0ok m h m
def g131H:Hints:=⟨[J [2,3],J [4]],[],[],[4],[],[[false]]⟩
def g131T:FunT:=⟨131,[.a (.agg [(.int .i64),(.int .i64),(.int .u64)]),.a (.agg [(.int .i64),(.int .i64),(.int .u64)])],sI,[sD,sD],fun x=>g131 m x.1.1 x.1.2.1 x.1.2.2.1 x.2.1.1 x.2.1.2.1 x.2.1.2.2.1⟩
theorem g131ok:FO (g131T m):=fk g131H (g131T m) func131 (AllF.mem (l:=[g133T m,g132T m]) ⟨g133ok m,g132ok m,trivial⟩)
def g176H:Hints:=⟨[J [0,1,2,3,8],J [0,1,2,3,8,14],J' [(0,1)] [0,1,2,3,8],J [0,1,2,3,8,9],J' [(3,1)] [0,1,2,3,8,9,34],J' [(0,1)] [0,1,2,3,8,9],J [0,1,2,3,8,9]],[(0,[0,1,2,3,8]),(2,[0,1,2,3,8,9])],[(0,[0]),(1,[0,1,2,3,8]),(2,[0,1,2,3,8]),(3,[0,1,2,3,8,9])],[0],[0],[]⟩
def g176T:FunT:=⟨176,[.a (.c (.nm 0 (.pr (.int .i64) (.pr (.int .i64) (.int .u64))))),sI,sI,.a (.c (.fn 131))],.tup [],[.a (.c (.nm 0 (.pr (.int .i64) (.pr (.int .i64) (.int .u64))))),sD,sD,sD],fun x=>g176 m x.1 x.2.1 x.2.2.1⟩
noncomputable def g176C:Code:=codeOf f176
noncomputable def g176B0:Code:=qm g176C 0 0
noncomputable def g176B2:Code:=qm g176B0 0 0
theorem g176K:FL [g131T m]:=AllF.mem ⟨g131ok m,trivial⟩
def g176L1X:LT:=⟨2,[(0,.a (.c (.nm 0 (.pr (.int .i64) (.pr (.int .i64) (.int .u64)))))),(1,sI),(2,sI),(3,.a (.c (.fn 131))),(8,sI),(9,sI)],[(.exit 2,[(0,.a (.c (.nm 0 (.pr (.int .i64) (.pr (.int .i64) (.int .u64)))))),(1,sI),(2,sI),(3,.a (.c (.fn 131))),(8,sI)])],fun n x=>g176L1 m n x.1 x.2.1 x.2.2.1 x.2.2.2.2.1 x.2.2.2.2.2.1⟩
theorem g176L1ok {E} (hE:EO E 53 g176H) (n):LO E g176B2 ((g176L1X m).at n):=lk hE (g176K m) (g176L1X m) n
def g176L0X:LT:=⟨0,[(0,.a (.c (.nm 0 (.pr (.int .i64) (.pr (.int .i64) (.int .u64)))))),(1,sI),(2,sI),(3,.a (.c (.fn 131))),(8,sI)],[(.exit 0,[(0,.a (.c (.nm 0 (.pr (.int .i64) (.pr (.int .i64) (.int .u64))))))])],fun n x=>g176L0 m n x.1 x.2.1 x.2.2.1 x.2.2.2.2.1⟩
theorem g176L0ok {E} (hE:EO E 53 g176H) (n):LO E g176B0 ((g176L0X m).at n):=
 lok hmix htt hE (g176K m) (L:=[(g176L1X m).at m]) (g176L0X m) (l:=[(2,g176B2)]) kR (fun _ _=>⟨qg ⟨yb (g176L1ok m hE m),trivial⟩,trivial⟩) (fun n x=>kR) (fun _=>kR) n
theorem g176ok:FO (g176T m):=f1' g176H (g176T m) func176 (g176K m) fun _ h=>g176L0ok m h m
def g185H:Hints:=⟨[J [0,1,2,3,10],J [0,1,2,3,10,13],J' [(0,1)] [0,1,2,3,10],J [0,1,2,3,10]],[(0,[0,1,2,3,10])],[(0,[0]),(1,[0,1,2,3,10])],[0],[0],[]⟩
def g185T:FunT:=⟨185,[.a (.c (.nm 0 (.pr (.int .i64) (.pr (.int .i64) (.int .u64))))),sI,sI,sI,.a (.c (.fn 131))],.tup [],[.a (.c (.nm 0 (.pr (.int .i64) (.pr (.int .i64) (.int .u64))))),sD,sD,sD,sD],fun x=>g185 m x.1 x.2.1 x.2.2.1 x.2.2.2.1⟩
noncomputable def g185C:Code:=codeOf f185
noncomputable def g185B0:Code:=qm g185C 0 0
def g185L0X:LT:=⟨0,[(0,.a (.c (.nm 0 (.pr (.int .i64) (.pr (.int .i64) (.int .u64)))))),(1,sI),(2,sI),(3,sI),(10,sI)],[(.exit 0,[(0,.a (.c (.nm 0 (.pr (.int .i64) (.pr (.int .i64) (.int .u64))))))])],fun n x=>g185L0 m n x.1 x.2.1 x.2.2.1 x.2.2.2.1 x.2.2.2.2.1⟩
theorem g185L0ok {E} (hE:EO E 38 g185H) (n):LO E g185B0 ((g185L0X m).at n):=lk hE noF (g185L0X m) n
theorem g185ok:FO (g185T m):=f1' g185H (g185T m) func185 noF fun _ h=>g185L0ok m h m
def g183H:Hints:=⟨[J' [(1,1)] [0,2,3,4,10],J' [(0,1)] [0,2,4,10,11],J [0,2,4,10,11,20],J [0,2,4,10,11,23],J' [(7,11)] [0,2,4,10,11],J' [(0,1)] [0,2,4,10,11],J' [(11,11)] [0,2,4,10,11],J' [(0,1)] [0,2,4,10,11],J' [(6,1),(7,11)] [0]],[(0,[0,2,4,10,11])],[(0,[0,2,4,10]),(1,[0,2,4,10,11])],[0],[0],[]⟩
def g183T:FunT:=⟨183,[.a (.c (.nm 0 (.pr (.int .i64) (.pr (.int .i64) (.int .u64))))),sI,sI,sI,.a (.c (.fn 131))],.tup [],[.a (.c (.nm 0 (.pr (.int .i64) (.pr (.int .i64) (.int .u64))))),sD,sD,sD,sD],fun x=>g183 m x.1 x.2.1 x.2.2.1 x.2.2.2.1⟩
noncomputable def g183C:Code:=codeOf f183
noncomputable def g183B0:Code:=qm g183C 0 0
theorem g183K:FL [g185T m]:=AllF.mem ⟨g185ok m,trivial⟩
def g183L0X:LT:=⟨0,[(0,.a (.c (.nm 0 (.pr (.int .i64) (.pr (.int .i64) (.int .u64)))))),(2,sI),(4,.a (.c (.fn 131))),(10,sI),(11,sI)],[(.exit 0,[(0,.a (.c (.nm 0 (.pr (.int .i64) (.pr (.int .i64) (.int .u64)))))),(2,sI),(4,.a (.c (.fn 131))),(10,sI)])],fun n x=>g183L0 m n x.1 x.2.1 x.2.2.2.1 x.2.2.2.2.1⟩
theorem g183L0ok {E} (hE:EO E 58 g183H) (n):LO E g183B0 ((g183L0X m).at n):=lk hE (g183K m) (g183L0X m) n
theorem g183ok:FO (g183T m):=f1' g183H (g183T m) func183 (g183K m) fun _ h=>g183L0ok m h m
def g177H:Hints:=⟨[J [0,1,2,3,4,28],J' [(0,1)] [0,1,3,4,10],J' [(0,1)] [0,1,4,10,11],J [0,1,4,10,11,33],J [0,1,4,10,11,12],J [0,1,4,10,11,12,50],J' [(0,1)] [0,1,4,10,11],J' [(0,1)] [0,1,4,10,11],J' [(0,1)] [0,10,13],J [0,10,13,58],J' [(0,1)] [0,10,13],J [0,10,13],J [0,1,2,3,4,80],J' [(0,1)] [0,2,4,14],J [0,2,4,14,15],J [0,2,4,14,15,85],J [0,2,4,14,15,16],J [0,2,4,14,15,16,103],J' [(0,1)] [0,2,4,14,15],J' [(0,1)] [0,2,4,14,15],J' [(0,1)] [0,14,17],J [0,14,17,110],J' [(0,1)] [0,14,17],J [0,14,17],J [0,1,2,3,4,18],J [0,1,2,3,4,18,19],J [0,1,2,3,4,18,19],J [0,1,2,3,4,18,19,140],J [0,1,2,3,4,18,19,20],J [0,1,2,3,4,18,19,20,21],J [0,1,2,3,4,18,19,20],J [0,1,2,3,4,18,19,20,21],J [0,1,2,3,4,18,19,20,21,22],J [0,1,2,3,4,18,19,20,21,22,151],J [0,1,2,3,4,18,19,20,21,22,23],J [0,1,2,3,4,18,19,20,21,22,23,171],J' [(0,1)] [0,1,2,3,4,18,19,20,21,22],J' [(0,1)] [0,1,2,3,4,18,19,20,21,22],J' [(0,1)] [0,1,2,3,4,18,20,24],J' [(3,1)] [0,1,2,3,4,18,20,24,185],J' [(2,1),(5,11)] [0,1,3,4,18,20,24],J' [(3,1)] [0,1,3,4,18,20,24,199],J' [(1,1),(2,1),(5,11)] [0,3,4,18,24],J' [(3,1)] [0,3,4,18,24,213],J' [(1,1),(2,1),(3,1),(4,1),(5,11)] [0]],[(0,[0,1,4,10,11]),(2,[0,10,13]),(4,[0,2,4,14,15]),(6,[0,14,17]),(8,[0,1,2,3,4,18,19,20,21,22])],[(0,[0,1,10]),(1,[0,1,4,10,11]),(2,[0]),(3,[0,10,13]),(4,[0,2,14]),(5,[0,2,4,14,15]),(6,[0]),(7,[0,14,17]),(8,[0,1,2,3,4,18,19,20]),(9,[0,1,2,3,4,18,19,20,21,22])],[0],[0],[]⟩
def g177T:FunT:=⟨177,[.a (.c (.nm 0 (.pr (.int .i64) (.pr (.int .i64) (.int .u64))))),sI,sI,sI,.a (.c (.fn 131))],.tup [],[.a (.c (.nm 0 (.pr (.int .i64) (.pr (.int .i64) (.int .u64))))),sD,sD,sD,sD],fun x=>g177 m x.1 x.2.1 x.2.2.1 x.2.2.2.1⟩
noncomputable def g177C:Code:=codeOf f177
noncomputable def g177B0:Code:=qm g177C 0 0
noncomputable def g177B2:Code:=qm g177C 0 1
noncomputable def g177B4:Code:=qm g177C 0 2
noncomputable def g177B6:Code:=qm g177C 0 3
noncomputable def g177B8:Code:=qm g177C 0 4
theorem g177K (m:Nat) (hself:FunOK prog (g177T m)): ∀u∈[g131T m,g183T m,g177T m],FunOK prog u:=AllF.mem ⟨g131ok m,g183ok m,hself,trivial⟩
def g177L4X:LT:=⟨8,[(0,.a (.c (.nm 0 (.pr (.int .i64) (.pr (.int .i64) (.int .u64)))))),(1,sI),(2,sI),(3,sI),(4,.a (.c (.fn 131))),(18,sI),(19,sI),(20,sI),(21,sI),(22,sI)],[(.exit 8,[(0,.a (.c (.nm 0 (.pr (.int .i64) (.pr (.int .i64) (.int .u64)))))),(1,sI),(2,sI),(3,sI),(4,.a (.c (.fn 131))),(18,sI),(19,sI),(20,sI)])],fun n x=>g177L4 (fun a0 a1 a2 a3=>g177 m a0 a1 a2 a3) m n x.1 x.2.1 x.2.2.1 x.2.2.2.1 x.2.2.2.2.2.1 x.2.2.2.2.2.2.1 x.2.2.2.2.2.2.2.1 x.2.2.2.2.2.2.2.2.1 x.2.2.2.2.2.2.2.2.2.1⟩
theorem g177L4ok {E:Entry} (hE:EOf prog E 220 g177H.pins) (m:Nat) (hself:FunOK prog (g177T m)) (n:Nat):ql prog E g177B8 ((g177L4X m).at n):=
 lok hmix htt hE (g177K m hself) (L:=[]) (g177L4X m) (l:=[]) kR (fun _ _=>trivial) (fun n x=>kR) (fun _=>kR) n
def g177L3X:LT:=⟨6,[(0,.a (.c (.nm 0 (.pr (.int .i64) (.pr (.int .i64) (.int .u64)))))),(14,sI),(17,sI)],[(.exit 6,[(0,.a (.c (.nm 0 (.pr (.int .i64) (.pr (.int .i64) (.int .u64))))))])],fun n x=>g177L3 (fun a0 a1 a2 a3=>g177 m a0 a1 a2 a3) m n x.1 x.2.1 x.2.2.1⟩
theorem g177L3ok {E:Entry} (hE:EOf prog E 220 g177H.pins) (m:Nat) (hself:FunOK prog (g177T m)) (n:Nat):ql prog E g177B6 ((g177L3X m).at n):=
 lok hmix htt hE (g177K m hself) (L:=[]) (g177L3X m) (l:=[]) kR (fun _ _=>trivial) (fun n x=>kR) (fun _=>kR) n
def g177L2X:LT:=⟨4,[(0,.a (.c (.nm 0 (.pr (.int .i64) (.pr (.int .i64) (.int .u64)))))),(2,sI),(4,.a (.c (.fn 131))),(14,sI),(15,sI)],[(.exit 4,[(0,.a (.c (.nm 0 (.pr (.int .i64) (.pr (.int .i64) (.int .u64)))))),(2,sI),(14,sI)])],fun n x=>g177L2 (fun a0 a1 a2 a3=>g177 m a0 a1 a2 a3) m n x.1 x.2.1 x.2.2.2.1 x.2.2.2.2.1⟩
theorem g177L2ok {E:Entry} (hE:EOf prog E 220 g177H.pins) (m:Nat) (hself:FunOK prog (g177T m)) (n:Nat):ql prog E g177B4 ((g177L2X m).at n):=
 lok hmix htt hE (g177K m hself) (L:=[]) (g177L2X m) (l:=[]) kR (fun _ _=>trivial) (fun n x=>kR) (fun _=>kR) n
def g177L1X:LT:=⟨2,[(0,.a (.c (.nm 0 (.pr (.int .i64) (.pr (.int .i64) (.int .u64)))))),(10,sI),(13,sI)],[(.exit 2,[(0,.a (.c (.nm 0 (.pr (.int .i64) (.pr (.int .i64) (.int .u64))))))])],fun n x=>g177L1 (fun a0 a1 a2 a3=>g177 m a0 a1 a2 a3) m n x.1 x.2.1 x.2.2.1⟩
theorem g177L1ok {E:Entry} (hE:EOf prog E 220 g177H.pins) (m:Nat) (hself:FunOK prog (g177T m)) (n:Nat):ql prog E g177B2 ((g177L1X m).at n):=
 lok hmix htt hE (g177K m hself) (L:=[]) (g177L1X m) (l:=[]) kR (fun _ _=>trivial) (fun n x=>kR) (fun _=>kR) n
def g177L0X:LT:=⟨0,[(0,.a (.c (.nm 0 (.pr (.int .i64) (.pr (.int .i64) (.int .u64)))))),(1,sI),(4,.a (.c (.fn 131))),(10,sI),(11,sI)],[(.exit 0,[(0,.a (.c (.nm 0 (.pr (.int .i64) (.pr (.int .i64) (.int .u64)))))),(1,sI),(10,sI)])],fun n x=>g177L0 (fun a0 a1 a2 a3=>g177 m a0 a1 a2 a3) m n x.1 x.2.1 x.2.2.2.1 x.2.2.2.2.1⟩
theorem g177L0ok {E:Entry} (hE:EOf prog E 220 g177H.pins) (m:Nat) (hself:FunOK prog (g177T m)) (n:Nat):ql prog E g177B0 ((g177L0X m).at n):=
 lok hmix htt hE (g177K m hself) (L:=[]) (g177L0X m) (l:=[]) kR (fun _ _=>trivial) (fun n x=>kR) (fun _=>kR) n
theorem g177ok: ∀m:Nat,FunOK prog (g177T m)
 |0=>fun _ _ h=>by cases h
 |m+1=>by
  have hself:=g177ok m;exact fok hmix htt (H:=g177H) (g177T (m+1)) func177 kR (g177K m hself) (L:=[(g177L0X m).at m,(g177L1X m).at m,(g177L2X m).at m,(g177L3X m).at m,(g177L4X m).at m]) (l:=[(0,g177B0),(2,g177B2),(4,g177B4),(6,g177B6),(8,g177B8)]) kR (fun _ hE _ _=>⟨qg ⟨yb (g177L0ok hE m hself m),nb rfl,nb rfl,nb rfl,nb rfl,trivial⟩,qg ⟨nb rfl,yb (g177L1ok hE m hself m),nb rfl,nb rfl,nb rfl,trivial⟩,qg ⟨nb rfl,nb rfl,yb (g177L2ok hE m hself m),nb rfl,nb rfl,trivial⟩,qg ⟨nb rfl,nb rfl,nb rfl,yb (g177L3ok hE m hself m),nb rfl,trivial⟩,qg ⟨nb rfl,nb rfl,nb rfl,nb rfl,yb (g177L4ok hE m hself m),trivial⟩,trivial⟩) (fun x=>kR)
def g162H:Hints:=⟨[J [0,1,2,6],J [0,1,2,6,7,8],J [0,1,2,6,7,8,13],J' [(1,1),(4,11)] [0,1,2,6,8],J [0,1,2,6,7,8],J' [(0,1)] [0,1,2,6,7,8],J' [(1,1),(4,11)] [0,1,2,6],J [0,1,2,6,30],J [0,1,2,6,7,8],J [0,1,2,6,7,8,35],J' [(7,11)] [0,1,2,6,8],J [0,1,2,6,7,8],J' [(0,1)] [0,1,2,6,7,8],J [0,1,2,6,7,9],J [0,1,2,6,7,9,54],J' [(1,1),(2,1),(5,11)] [0,1,2,6],J' [(0,1)] [0,1,2,6]],[(0,[0,1,2,6,7,8]),(2,[0,1,2,6]),(4,[0,1,2,6,7,8])],[(0,[0,1,2,6,7]),(1,[0,1,2,6,7,8]),(2,[0]),(3,[0,1,2,6]),(4,[0,1,2,6,7]),(5,[0,1,2,6,7,8])],[0],[0],[]⟩
def g162T:FunT:=⟨162,[.a (.c (.nm 0 (.pr (.int .i64) (.pr (.int .i64) (.int .u64))))),sI,.a (.c (.fn 131))],.tup [],[.a (.c (.nm 0 (.pr (.int .i64) (.pr (.int .i64) (.int .u64))))),sD,sD],fun x=>g162 m x.1 x.2.1⟩
noncomputable def g162C:Code:=codeOf f162
noncomputable def g162B0:Code:=qm g162C 0 0
noncomputable def g162B2:Code:=qm g162C 0 1
noncomputable def g162B4:Code:=qm g162B2 2 0
theorem g162K:FL [g176T m,g177T m]:=AllF.mem ⟨g176ok m,g177ok m,trivial⟩
def g162L2X:LT:=⟨4,[(0,.a (.c (.nm 0 (.pr (.int .i64) (.pr (.int .i64) (.int .u64)))))),(1,sI),(2,.a (.c (.fn 131))),(6,sI),(7,sI),(8,sI)],[(.exit 4,[(0,.a (.c (.nm 0 (.pr (.int .i64) (.pr (.int .i64) (.int .u64)))))),(1,sI),(2,.a (.c (.fn 131))),(6,sI),(7,sI)])],fun n x=>g162L2 m n x.1 x.2.1 x.2.2.2.1 x.2.2.2.2.1 x.2.2.2.2.2.1⟩
theorem g162L2ok {E} (hE:EO E 63 g162H) (n):LO E g162B4 ((g162L2X m).at n):=lk hE (g162K m) (g162L2X m) n
def g162L1X:LT:=⟨2,[(0,.a (.c (.nm 0 (.pr (.int .i64) (.pr (.int .i64) (.int .u64)))))),(1,sI),(2,.a (.c (.fn 131))),(6,sI)],[(.exit 2,[(0,.a (.c (.nm 0 (.pr (.int .i64) (.pr (.int .i64) (.int .u64))))))])],fun n x=>g162L1 m n x.1 x.2.1 x.2.2.2.1⟩
theorem g162L1ok {E} (hE:EO E 63 g162H) (n):LO E g162B2 ((g162L1X m).at n):=
 lok hmix htt hE (g162K m) (L:=[(g162L2X m).at m]) (g162L1X m) (l:=[(4,g162B4)]) kR (fun _ _=>⟨qg ⟨yb (g162L2ok m hE m),trivial⟩,trivial⟩) (fun n x=>kR) (fun _=>kR) n
def g162L0X:LT:=⟨0,[(0,.a (.c (.nm 0 (.pr (.int .i64) (.pr (.int .i64) (.int .u64)))))),(1,sI),(2,.a (.c (.fn 131))),(6,sI),(7,sI),(8,sI)],[(.exit 0,[(0,.a (.c (.nm 0 (.pr (.int .i64) (.pr (.int .i64) (.int .u64)))))),(1,sI),(2,.a (.c (.fn 131))),(6,sI),(7,sI)])],fun n x=>g162L0 m n x.1 x.2.1 x.2.2.2.1 x.2.2.2.2.1 x.2.2.2.2.2.1⟩
theorem g162L0ok {E} (hE:EO E 63 g162H) (n):LO E g162B0 ((g162L0X m).at n):=lk hE (g162K m) (g162L0X m) n
theorem g162ok:FO (g162T m):=
 fok hmix htt (H:=g162H) (g162T m) func162 kR (g162K m) (L:=[(g162L0X m).at m,(g162L1X m).at m]) (l:=[(0,g162B0),(2,g162B2)]) kR (fun _ hE _ _=>⟨qg ⟨yb (g162L0ok m hE m),nb rfl,trivial⟩,qg ⟨nb rfl,yb (g162L1ok m hE m),trivial⟩,trivial⟩) (fun x=>kR)
def g130H:Hints:=⟨[J' [(3,1),(4,11)] [0]],[],[],[0],[0],[]⟩
def g130T:FunT:=⟨130,[.a (.c (.nm 0 (.pr (.int .i64) (.pr (.int .i64) (.int .u64))))),.a (.c (.fn 131))],.tup [],[.a (.c (.nm 0 (.pr (.int .i64) (.pr (.int .i64) (.int .u64))))),sD],fun x=>g130 m x.1⟩
theorem g130ok:FO (g130T m):=fk g130H (g130T m) func130 (AllF.mem (l:=[g162T m]) ⟨g162ok m,trivial⟩)
def g84H:Hints:=⟨[J [0],J' [(0,1)] [0],J' [(1,11)] [0],J' [(0,1)] [2]],[],[],[2],[],[[true]]⟩
def g84T:FunT:=⟨84,[.a (.c (.imm (.pr (.int .i64) (.pr (.int .i64) (.int .u64)))))],.a (.c (.nm 0 (.pr (.int .i64) (.pr (.int .i64) (.int .u64))))),[sD],fun x=>g84 m x.1⟩
theorem g84ok:FO (g84T m):=fk g84H (g84T m) func84 (AllF.mem (l:=[g129T m,g130T m]) ⟨g129ok m,g130ok m,trivial⟩)
def g36H:Hints:=⟨[J [0,1,2,6],J' [(0,1)] [1,2,6,7],J' [(0,1)] [1,6,7,18,19,20],J [1,6,7,18,19,20,21],J [1,6,7,9,18,19,20],J' [(5,3),(11,3)] [1,6,7,9,18,19,20],J [1,6,7,18,19,20],J' [(1,1)] [1,6,7,18,19,20],J' [(0,1)] [6,7,48,49],J [6,7,48,49,50],J [6,7,10,48,49],J [6,7,48,49],J' [(1,1)] [6,7,48,49],J' [(0,1)] [6]],[(0,[1,6,7,18,19,20]),(2,[6,7,48,49])],[(0,[1,6,7]),(1,[1,6,7,18,19,20]),(2,[6,7]),(3,[6,7,48,49])],[6],[],[[false,false,true,true,true]]⟩
def g36T:FunT:=⟨36,[sI,sI,.a (.c (.imm (.pr (.int .i64) (.pr (.int .i64) (.int .u64)))))],.a (.agg [(.int .i64),(.int .i64),(.nm 0 (.int .i64)),(.nm 1 (.int .i64)),(.nm 2 (.int .u64))]),[sD,sD,sD],fun x=>g36 m x.1 x.2.1 x.2.2.1⟩
noncomputable def g36C:Code:=codeOf f36
noncomputable def g36B0:Code:=qm g36C 0 0
noncomputable def g36B2:Code:=qm g36C 0 1
theorem g36K:FL [g84T m]:=AllF.mem ⟨g84ok m,trivial⟩
def g36L1X:LT:=⟨2,[(6,sX 0 [iI,iI,iM 1,iM 2,.nm 3 (.int .u64)]),(7,sX 4 [iI,iI,iM 5,iM 6,.nm 7 (.int .u64)]),(48,sI),(49,sI)],[(.exit 2,[(6,sX 0 [iI,iI,iM 1,iM 2,.nm 3 (.int .u64)]),(7,sX 4 [iI,iI,iM 5,iM 6,.nm 7 (.int .u64)])])],fun n x=>g36L1 m n x.1.1 x.1.2.1 x.1.2.2.1 x.1.2.2.2.1 x.1.2.2.2.2.1 x.2.1.1 x.2.1.2.1 x.2.1.2.2.1 x.2.1.2.2.2.1 x.2.1.2.2.2.2.1 x.2.2.1 x.2.2.2.1⟩
theorem g36L1ok {E} (hE:EO E 67 g36H) (n):LO E g36B2 ((g36L1X m).at n):=lk hE (g36K m) (g36L1X m) n
def g36L0X:LT:=⟨0,[(1,sI),(6,sX 0 [iI,iI,iM 1,iM 2,.nm 3 (.int .u64)]),(7,sX 4 [iI,iI,iM 5,iM 6,.nm 7 (.int .u64)]),(18,.a (.c (.nm 8 (.pr (.int .i64) (.pr (.int .i64) (.int .u64)))))),(19,sI),(20,sI)],[(.exit 0,[(1,sI),(6,sX 0 [iI,iI,iM 1,iM 2,.nm 3 (.int .u64)]),(7,sX 4 [iI,iI,iM 5,iM 6,.nm 7 (.int .u64)])])],fun n x=>g36L0 m n x.1 x.2.1.1 x.2.1.2.1 x.2.1.2.2.1 x.2.1.2.2.2.1 x.2.1.2.2.2.2.1 x.2.2.1.1 x.2.2.1.2.1 x.2.2.1.2.2.1 x.2.2.1.2.2.2.1 x.2.2.1.2.2.2.2.1 x.2.2.2.1 x.2.2.2.2.1 x.2.2.2.2.2.1⟩
theorem g36L0ok {E} (hE:EO E 67 g36H) (n):LO E g36B0 ((g36L0X m).at n):=lk hE (g36K m) (g36L0X m) n
theorem g36ok:FO (g36T m):=
 fok hmix htt (H:=g36H) (g36T m) func36 kR (g36K m) (L:=[(g36L0X m).at m,(g36L1X m).at m]) (l:=[(0,g36B0),(2,g36B2)]) kR (fun _ hE _ _=>⟨qg ⟨yb (g36L0ok m hE m),nb rfl,trivial⟩,qg ⟨nb rfl,yb (g36L1ok m hE m),trivial⟩,trivial⟩) (fun x=>kR)
def g55H:Hints:=⟨[J [0],J [3,4],J' [(2,1)] [3,4,10],J [2],J [3,4,17],J [2],J' [(0,1),(2,1),(3,1)] [20],J [2],J [2]],[],[(0,[])],[2],[],[[false]]⟩
def g55T:FunT:=⟨55,[sU],sI,[sD],fun x=>g55 m x.1⟩
theorem g55ok:FO (g55T m):=fk g55H (g55T m) func55 noF
def sparselaw14_same_H:Hints:=⟨[J [2,3],J' [(5,1),(12,1)] [4]],[],[],[4],[],[[false]]⟩
abbrev sparselaw14_same_A:List Sh:=[.a (.agg [(.imm (.int .i64)),(.imm (.int .i64)),(.imm (.int .i64))]),.a (.agg [(.imm (.int .i64)),(.imm (.int .i64)),(.imm (.int .i64))])]
abbrev sparselaw14_same_S:Sh:= sB
abbrev sparselaw14_same_U:List Sh:=[sD,sD]
def sparselaw14_same_R:Qp sparselaw14_same_A->Option (sparselaw14_same_S.Val×Qp sparselaw14_same_U):=fun(x:(LI×LI×LI×Unit)×(LI×LI×LI×Unit)×Unit)=>sparselaw14_same m x.1.1 x.1.2.1 x.1.2.2.1 x.2.1.1 x.2.1.2.1 x.2.1.2.2.1
def sparselaw14_same_T:FunT:=⟨16,sparselaw14_same_A,sparselaw14_same_S,sparselaw14_same_U,sparselaw14_same_R m⟩
theorem sparselaw14_same_ok:FO (sparselaw14_same_T m):=fk sparselaw14_same_H (sparselaw14_same_T m) func16 (AllF.mem (l:=[g15T m]) ⟨g15ok m,trivial⟩)
def g137H:Hints:=⟨[J [0],J' [(0,1)] [2]],[],[],[2],[],[[false]]⟩
def g137T:FunT:=⟨137,[sU],sB,[sD],fun x=>g137 m x.1⟩
theorem g137ok:FO (g137T m):=fk g137H (g137T m) func137 noF
def g90H:Hints:=⟨[J [0],J [0,3],J [0,3,7],J' [(0,1)] [0,3],J [0,3,15],J [2],J [2]],[(0,[0,3])],[(0,[]),(1,[0,3])],[2],[],[[false]]⟩
def g90T:FunT:=⟨90,[.a (.c (.imm (.int .u64)))],sB,[sD],fun x=>g90 m x.1⟩
noncomputable def g90C:Code:=codeOf f90
noncomputable def g90B0:Code:=qm g90C 0 0
theorem g90K:FL [g137T m]:=AllF.mem ⟨g137ok m,trivial⟩
def g90L0X:LT:=⟨0,[(0,.a (.c (.imm (.int .u64)))),(3,sI)],[(.ret,[(2,sB)]),(.exit 0,[])],fun n x=>g90L0 m n x.1 x.2.1⟩
theorem g90L0ok {E} (hE:EO E 16 g90H) (n):LO E g90B0 ((g90L0X m).at n):=lk hE (g90K m) (g90L0X m) n
theorem g90ok:FO (g90T m):=f1' g90H (g90T m) func90 (g90K m) fun _ h=>g90L0ok m h m
def g45H:Hints:=⟨[J [1],J' [(3,1),(8,1),(13,1),(18,1)] [1,30],J [2],J [1,3],J' [(5,1),(14,1),(21,1)] [1,64],J [2],J [1,4],J [1,4,68],J' [(0,1)] [1,4],J [1,4,82],J [2],J [1,5],J [1,5,86],J' [(0,1)] [1,5],J [1,5,6],J [1,5,6,101],J' [(0,1)] [1,5,6],J' [(6,1),(16,1),(24,1)] [1,5,6,142],J [2],J [146],J [2],J [2]],[(0,[1,4]),(2,[1,5]),(4,[1,5,6])],[(0,[1]),(1,[1,4]),(2,[1]),(3,[1,5]),(4,[1,5]),(5,[1,5,6])],[2],[],[[false]]⟩
def g45T:FunT:=⟨45,[.a (.agg [(.int .i64),(.int .i64),(.imm (.int .i64)),(.imm (.int .i64)),(.imm (.int .u64))])],sI,[sD],fun x=>g45 m x.1.1 x.1.2.1 x.1.2.2.1 x.1.2.2.2.1 x.1.2.2.2.2.1⟩
noncomputable def g45C:Code:=codeOf f45
noncomputable def g45B0:Code:=qm g45C 0 0
noncomputable def g45B2:Code:=qm g45C 0 1
noncomputable def g45B4:Code:=qm g45B2 2 0
theorem g45K:FL [g90T m]:=AllF.mem ⟨g90ok m,trivial⟩
def g45L2X:LT:=⟨4,[(1,sX 0 [iI,iI,iL,iL,.imm (.int .u64)]),(5,sI),(6,sI)],[(.ret,[(2,sI)]),(.exit 4,[(1,sX 0 [iI,iI,iL,iL,.imm (.int .u64)]),(5,sI)])],fun n x=>g45L2 m n x.1.1 x.1.2.1 x.1.2.2.1 x.1.2.2.2.1 x.1.2.2.2.2.1 x.2.1 x.2.2.1⟩
theorem g45L2ok {E} (hE:EO E 147 g45H) (n):LO E g45B4 ((g45L2X m).at n):=lk hE (g45K m) (g45L2X m) n
def g45L1X:LT:=⟨2,[(1,sX 0 [iI,iI,iL,iL,.imm (.int .u64)]),(5,sI)],[(.ret,[(2,sI)]),(.exit 2,[(1,sX 0 [iI,iI,iL,iL,.imm (.int .u64)])])],fun n x=>g45L1 m n x.1.1 x.1.2.1 x.1.2.2.1 x.1.2.2.2.1 x.1.2.2.2.2.1 x.2.1⟩
theorem g45L1ok {E} (hE:EO E 147 g45H) (n):LO E g45B2 ((g45L1X m).at n):=
 lok hmix htt hE (g45K m) (L:=[(g45L2X m).at m]) (g45L1X m) (l:=[(4,g45B4)]) kR (fun _ _=>⟨qg ⟨yb (g45L2ok m hE m),trivial⟩,trivial⟩) (fun n x=>kR) (fun _=>kR) n
def g45L0X:LT:=⟨0,[(1,sX 0 [iI,iI,iL,iL,.imm (.int .u64)]),(4,sI)],[(.ret,[(2,sI)]),(.exit 0,[(1,sX 0 [iI,iI,iL,iL,.imm (.int .u64)])])],fun n x=>g45L0 m n x.1.1 x.1.2.1 x.1.2.2.1 x.1.2.2.2.1 x.1.2.2.2.2.1 x.2.1⟩
theorem g45L0ok {E} (hE:EO E 147 g45H) (n):LO E g45B0 ((g45L0X m).at n):=lk hE (g45K m) (g45L0X m) n
theorem g45ok:FO (g45T m):=
 fok hmix htt (H:=g45H) (g45T m) func45 kR (g45K m) (L:=[(g45L0X m).at m,(g45L1X m).at m]) (l:=[(0,g45B0),(2,g45B2)]) kR (fun _ hE _ _=>⟨qg ⟨yb (g45L0ok m hE m),nb rfl,trivial⟩,qg ⟨nb rfl,yb (g45L1ok m hE m),trivial⟩,trivial⟩) (fun x=>kR)
def g149H:Hints:=⟨[J [0],J' [(0,1)] [2]],[],[],[2],[],[[false]]⟩
def g149T:FunT:=⟨149,[sU],sB,[sD],fun x=>g149 m x.1⟩
theorem g149ok:FO (g149T m):=fk g149H (g149T m) func149 noF
def g111H:Hints:=⟨[J [0,2],J [0,2,8],J [2],J [0,2,3,4],J [0,2,3,4,5],J [0,2,3,4,5,17],J' [(0,1)] [0,2,3,4],J' [(0,1)] [0,2,4,5],J' [(0,1),(9,1)] [2]],[],[],[2],[],[[false,false,true,false]]⟩
def g111T:FunT:=⟨111,[sU],.a (.agg [.bool,.bool,(.nm 0 (.int .u32)),(.int .i64)]),[sD],fun x=>g111 m x.1⟩
theorem g111ok:FO (g111T m):=fk g111H (g111T m) func111 (AllF.mem (l:=[g137T m,g119T m,g149T m,g120T m]) ⟨g137ok m,g119ok m,g149ok m,g120ok m,trivial⟩)
def g138H:Hints:=⟨[J [1],J [1],J' [(2,1)] [1,13],J [2,3],J [2,3]],[],[],[2,3],[],[[false],[false]]⟩
def g138T:FunT:=⟨138,[.a (.agg [.bool,.bool,(.imm (.int .u32)),(.int .i64)])],.tup [(.c (.int .i64)),(.c .bool)],[sD],fun x=>g138 m x.1.1 x.1.2.1 x.1.2.2.1 x.1.2.2.2.1⟩
theorem g138ok:FO (g138T m):=fk g138H (g138T m) func138 (AllF.mem (l:=[g116T m,g113T m,g152T m]) ⟨g116ok m,g113ok m,g152ok m,trivial⟩)
def g93H:Hints:=⟨[J [0],J [0,6],J [2,3],J' [(0,1)] [2,3]],[],[],[2,3],[],[[false],[false]]⟩
def g93T:FunT:=⟨93,[sU],.tup [(.c (.int .i64)),(.c .bool)],[sD],fun x=>g93 m x.1⟩
theorem g93ok:FO (g93T m):=fk g93H (g93T m) func93 (AllF.mem (l:=[g55T m,g111T m,g138T m]) ⟨g55ok m,g111ok m,g138ok m,trivial⟩)
def g91H:Hints:=⟨[J [1],J' [(0,6),(1,6)] [1,4,5],J [1,4,5,6],J [1,4,5,6,15],J' [(0,1)] [1,4,5,6],J [1,4,5,6,7,8],J [1,4,5,6,7,8,9],J [1,4,5,6,7,8,9,30],J' [(0,1)] [1,4,5,6,7,8,9],J' [(6,1)] [1,4,5,6,7,8,9,10,11],J' [(0,1)] [1,4,5,6,7,8,9,10,42],J' [(0,1)] [1,4,5,6,7,8,9,10],J' [(0,1),(1,1)] [1,4,5,6,7,8,9],J' [(0,1),(1,1),(2,6),(3,6)] [1,4,5,6,8],J' [(0,1),(1,1),(2,6),(3,6)] [1,4,5,6],J' [(0,1),(1,1)] [2,3]],[(0,[1,4,5,6]),(2,[1,4,5,6,7,8,9])],[(0,[4,5]),(1,[1,4,5,6]),(2,[1,4,5,6,7,8]),(3,[1,4,5,6,7,8,9])],[2,3],[],[[false],[false]]⟩
def g91T:FunT:=⟨91,[.a (.agg [(.int .i64),(.int .i64),(.imm (.int .i64)),(.imm (.int .i64)),(.imm (.int .u64))])],.tup [(.c (.imm (.sl false (.int .i64)))),(.c (.imm (.sl false (.int .i64))))],[sD],fun x=>g91 m x.1.1 x.1.2.1 x.1.2.2.1 x.1.2.2.2.1 x.1.2.2.2.2.1⟩
noncomputable def g91C:Code:=codeOf f91
noncomputable def g91B0:Code:=qm g91C 0 0
noncomputable def g91B2:Code:=qm g91B0 0 0
theorem g91K:FL [g93T m]:=AllF.mem ⟨g93ok m,trivial⟩
def g91L1X:LT:=⟨2,[(1,sX 0 [iI,iI,iL,iL,.imm (.int .u64)]),(4,.a (.c (.dp 1 (.int .i64)))),(5,.a (.c (.dp 2 (.int .i64)))),(6,sI),(7,sN 3),(8,sN 4),(9,sI)],[(.exit 2,[(1,sX 0 [iI,iI,iL,iL,.imm (.int .u64)]),(4,.a (.c (.dp 1 (.int .i64)))),(5,.a (.c (.dp 2 (.int .i64)))),(6,sI),(7,sN 3),(8,sN 4)])],fun n x=>g91L1 m n x.1.1 x.1.2.1 x.1.2.2.1 x.1.2.2.2.1 x.1.2.2.2.2.1 x.2.1 x.2.2.1 x.2.2.2.1 x.2.2.2.2.1 x.2.2.2.2.2.1 x.2.2.2.2.2.2.1⟩
theorem g91L1ok {E} (hE:EO E 65 g91H) (n):LO E g91B2 ((g91L1X m).at n):=lk hE (g91K m) (g91L1X m) n
def g91L0X:LT:=⟨0,[(1,sX 0 [iI,iI,iL,iL,.imm (.int .u64)]),(4,.a (.c (.dp 1 (.int .i64)))),(5,.a (.c (.dp 2 (.int .i64)))),(6,sI)],[(.exit 0,[(4,.a (.c (.dp 0 (.int .i64)))),(5,.a (.c (.dp 1 (.int .i64))))])],fun n x=>g91L0 m n x.1.1 x.1.2.1 x.1.2.2.1 x.1.2.2.2.1 x.1.2.2.2.2.1 x.2.1 x.2.2.1 x.2.2.2.1⟩
theorem g91L0ok {E} (hE:EO E 65 g91H) (n):LO E g91B0 ((g91L0X m).at n):=
 lok hmix htt hE (g91K m) (L:=[(g91L1X m).at m]) (g91L0X m) (l:=[(2,g91B2)]) kR (fun _ _=>⟨qg ⟨yb (g91L1ok m hE m),trivial⟩,trivial⟩) (fun n x=>kR) (fun _=>kR) n
theorem g91ok:FO (g91T m):=f1' g91H (g91T m) func91 (g91K m) fun _ h=>g91L0ok m h m
def g92H:Hints:=⟨[J [0,1,2,3],J [0,1,2,3,19],J [3,8,9],J [0,1,2,3,10,11],J [0,1,2,3,10,11,12],J [0,1,2,3,10,11,12,26],J' [(0,1)] [0,1,2,3,10,11,12],J [0,1,2,3,10,11,12,13],J [0,1,2,3,10,11,12,13,40],J [0,1,2,3,10,11,12,13],J' [(5,14),(6,1)] [0,1,2,3,10,11,12,13,14,15],J' [(1,1)] [0,1,2,3,10,11,12,14,15],J' [(0,1),(1,1),(4,1)] [0,1,2,3,10,11,12,14,73],J' [(0,1)] [0,1,2,3,10,11,12],J' [(0,1),(1,1)] [3,8,9]],[(0,[0,1,2,3,10,11,12])],[(0,[3,10,11]),(1,[0,1,2,3,10,11,12])],[3,8,9],[3],[[false],[false]]⟩
def g92T:FunT:=⟨92,[.a (.c (.imm (.sl false (.int .i64)))),.a (.c (.imm (.sl false (.int .i64)))),sI,.a (.c (.nm 0 .bool))],.tup [(.c (.int .i64)),(.c .bool)],[sD,sD,sD,.a (.c (.nm 0 .bool))],fun x=>g92 m x.1 x.2.1 x.2.2.1 x.2.2.2.1⟩
noncomputable def g92C:Code:=codeOf f92
noncomputable def g92B0:Code:=qm g92C 0 0
theorem g92K (m:Nat) (hself:FunOK prog (g92T m)): ∀u∈[g92T m],FunOK prog u:=AllF.mem ⟨hself,trivial⟩
def g92L0X:LT:=⟨0,[(0,.a (.c (.imm (.sl false (.int .i64))))),(1,.a (.c (.imm (.sl false (.int .i64))))),(2,sI),(3,.a (.c (.nm 0 .bool))),(10,sI),(11,sB),(12,sI)],[(.exit 0,[(3,.a (.c (.nm 0 .bool))),(10,sI),(11,sB)])],fun n x=>g92L0 (fun a0 a1 a2 a3=>g92 m a0 a1 a2 a3) m n x.1 x.2.1 x.2.2.1 x.2.2.2.1 x.2.2.2.2.1 x.2.2.2.2.2.1 x.2.2.2.2.2.2.1⟩
theorem g92L0ok {E:Entry} (hE:EOf prog E 85 g92H.pins) (m:Nat) (hself:FunOK prog (g92T m)) (n:Nat):ql prog E g92B0 ((g92L0X m).at n):=
 lok hmix htt hE (g92K m hself) (L:=[]) (g92L0X m) (l:=[]) kR (fun _ _=>trivial) (fun n x=>kR) (fun _=>kR) n
theorem g92ok: ∀m:Nat,FunOK prog (g92T m)
 |0=>fun _ _ h=>by cases h
 |m+1=>by
  have hself:=g92ok m;exact fok hmix htt (H:=g92H) (g92T (m+1)) func92 kR (g92K m hself) (L:=[(g92L0X m).at m]) (l:=[(0,g92B0)]) kR (fun _ hE _ _=>⟨qg ⟨yb (g92L0ok hE m hself m),trivial⟩,trivial⟩) (fun x=>kR)
def g46H:Hints:=⟨[J [1],J' [(2,1)] [1,4,5],J [1,4,5,6],J [1,4,5,6,7],J [1,4,5,6,7,29],J' [(0,1)] [1,4,5,6,7],J [1,4,5,6,7],J' [(3,14),(4,1)] [1,4,5,6,9],J' [(0,1)] [1,4,5,6,43],J [2,3],J [1,4,5,6,10],J [1,4,5,6,10,11],J [1,4,5,6,10,11,47],J' [(0,1)] [1,4,5,6,10,11],J' [(4,14),(5,1)] [1,4,5,6,10,11,12],J [1,4,5,6,10,11,12,14],J [1,4,5,6,10,11,12,14,64],J' [(0,1)] [1,4,5,6,10,11,12,14],J [1,4,5,6,10,11,12,14,15],J [1,4,5,6,10,11,12,14,15,78],J [1,4,5,6,10,11,12,14,15],J' [(5,14),(6,1)] [1,4,5,6,10,11,12,14,15,16,17],J' [(0,1),(1,1),(2,1)] [1,4,5,6,10,11,12,14,15,104],J' [(0,1),(1,1)] [1,4,5,6,10,11],J' [(1,1)] [1,4,5,6,10,11,12,14],J' [(0,1)] [2,3]],[(0,[1,4,5,6,7]),(2,[1,4,5,6,10,11]),(4,[1,4,5,6,10,11,12,14])],[(0,[1,4,5,6]),(1,[1,4,5,6,7]),(2,[10]),(3,[1,4,5,6,10,11]),(4,[1,4,5,6,10,11]),(5,[1,4,5,6,10,11,12,14])],[2,3],[],[[true],[false]]⟩
def g46T:FunT:=⟨46,[.a (.agg [(.int .i64),(.int .i64),(.imm (.int .i64)),(.imm (.int .i64)),(.imm (.int .u64))])],.tup [(.c (.nm 0 (.int .i64))),(.c .bool)],[sD],fun x=>g46 m x.1.1 x.1.2.1 x.1.2.2.1 x.1.2.2.2.1 x.1.2.2.2.2.1⟩
noncomputable def g46C:Code:=codeOf f46
noncomputable def g46B0:Code:=qm g46C 0 0
noncomputable def g46B2:Code:=qm g46C 0 1
noncomputable def g46B4:Code:=qm g46B2 2 0
theorem g46K:FL [g91T m,g92T m]:=AllF.mem ⟨g91ok m,g92ok m,trivial⟩
def g46L2X:LT:=⟨4,[(1,sX 0 [iI,iI,iL,iL,.imm (.int .u64)]),(4,.a (.c (.imm (.sl false (.int .i64))))),(5,.a (.c (.imm (.sl false (.int .i64))))),(6,.a (.c (.nm 1 .bool))),(10,sN 2),(11,sI),(12,sI),(14,sI)],[(.exit 4,[(1,sX 0 [iI,iI,iL,iL,.imm (.int .u64)]),(4,.a (.c (.imm (.sl false (.int .i64))))),(5,.a (.c (.imm (.sl false (.int .i64))))),(6,.a (.c (.nm 1 .bool))),(10,sN 2),(11,sI)])],fun n x=>g46L2 m n x.1.1 x.1.2.1 x.1.2.2.1 x.1.2.2.2.1 x.1.2.2.2.2.1 x.2.1 x.2.2.1 x.2.2.2.1 x.2.2.2.2.1 x.2.2.2.2.2.1 x.2.2.2.2.2.2.1 x.2.2.2.2.2.2.2.1⟩
theorem g46L2ok {E} (hE:EO E 113 g46H) (n):LO E g46B4 ((g46L2X m).at n):=lk hE (g46K m) (g46L2X m) n
def g46L1X:LT:=⟨2,[(1,sX 0 [iI,iI,iL,iL,.imm (.int .u64)]),(4,.a (.c (.imm (.sl false (.int .i64))))),(5,.a (.c (.imm (.sl false (.int .i64))))),(6,.a (.c (.nm 1 .bool))),(10,sN 2),(11,sI)],[(.exit 2,[(10,sN 0)])],fun n x=>g46L1 m n x.1.1 x.1.2.1 x.1.2.2.1 x.1.2.2.2.1 x.1.2.2.2.2.1 x.2.1 x.2.2.1 x.2.2.2.1 x.2.2.2.2.1 x.2.2.2.2.2.1⟩
theorem g46L1ok {E} (hE:EO E 113 g46H) (n):LO E g46B2 ((g46L1X m).at n):=
 lok hmix htt hE (g46K m) (L:=[(g46L2X m).at m]) (g46L1X m) (l:=[(4,g46B4)]) kR (fun _ _=>⟨qg ⟨yb (g46L2ok m hE m),trivial⟩,trivial⟩) (fun n x=>kR) (fun _=>kR) n
def g46L0X:LT:=⟨0,[(1,sX 0 [iI,iI,iL,iL,.imm (.int .u64)]),(4,.a (.c (.imm (.sl false (.int .i64))))),(5,.a (.c (.imm (.sl false (.int .i64))))),(6,.a (.c (.nm 1 .bool))),(7,sI)],[(.exit 0,[(1,sX 0 [iI,iI,iL,iL,.imm (.int .u64)]),(4,.a (.c (.imm (.sl false (.int .i64))))),(5,.a (.c (.imm (.sl false (.int .i64))))),(6,.a (.c (.nm 1 .bool)))])],fun n x=>g46L0 m n x.1.1 x.1.2.1 x.1.2.2.1 x.1.2.2.2.1 x.1.2.2.2.2.1 x.2.1 x.2.2.1 x.2.2.2.1 x.2.2.2.2.1⟩
theorem g46L0ok {E} (hE:EO E 113 g46H) (n):LO E g46B0 ((g46L0X m).at n):=lk hE (g46K m) (g46L0X m) n
theorem g46ok:FO (g46T m):=
 fok hmix htt (H:=g46H) (g46T m) func46 kR (g46K m) (L:=[(g46L0X m).at m,(g46L1X m).at m]) (l:=[(0,g46B0),(2,g46B2)]) kR (fun _ hE _ _=>⟨qg ⟨yb (g46L0ok m hE m),nb rfl,trivial⟩,qg ⟨nb rfl,yb (g46L1ok m hE m),trivial⟩,trivial⟩) (fun x=>kR)
def g94H:Hints:=⟨[J [1,2,3],J' [(3,1),(7,1)] [1,2,3,20],J [6],J [1,2,3,7],J [1,2,3,7,33],J' [(0,1)] [1,2,3,7],J [1,2,3,7,42],J' [(2,1)] [6],J [6]],[(0,[1,2,3,7])],[(0,[]),(1,[1,2,3,7])],[6],[],[[false]]⟩
def g94T:FunT:=⟨94,[.a (.agg [(.int .i64),(.int .i64),(.imm (.int .i64)),(.imm (.int .i64)),(.imm (.int .u64))]),sI,sI],sU,[sD,sD,sD],fun x=>g94 m x.1.1 x.1.2.1 x.1.2.2.1 x.1.2.2.2.1 x.1.2.2.2.2.1 x.2.1 x.2.2.1⟩
noncomputable def g94C:Code:=codeOf f94
noncomputable def g94B0:Code:=qm g94C 0 0
theorem g94K:FL [g45T m]:=AllF.mem ⟨g45ok m,trivial⟩
def g94L0X:LT:=⟨0,[(1,sI),(2,sI),(3,sX 0 [iI,iI,iL,iL,.imm (.int .u64)]),(7,sI)],[(.ret,[(6,sU)]),(.exit 0,[])],fun n x=>g94L0 m n x.1 x.2.1 x.2.2.1.1 x.2.2.1.2.1 x.2.2.1.2.2.1 x.2.2.1.2.2.2.1 x.2.2.1.2.2.2.2.1 x.2.2.2.1⟩
theorem g94L0ok {E} (hE:EO E 48 g94H) (n):LO E g94B0 ((g94L0X m).at n):=lk hE (g94K m) (g94L0X m) n
theorem g94ok:FO (g94T m):=f1' g94H (g94T m) func94 (g94K m) fun _ h=>g94L0ok m h m
def g47H:Hints:=⟨[J [1,2,3],J' [(1,1),(2,1)] [6,7]],[],[],[6,7],[],[[false],[false]]⟩
def g47T:FunT:=⟨47,[.a (.agg [(.int .i64),(.int .i64),(.imm (.int .i64)),(.imm (.int .i64)),(.imm (.int .u64))]),sI,sI],.tup [(.c (.int .i64)),(.c .bool)],[sD,sD,sD],fun x=>g47 m x.1.1 x.1.2.1 x.1.2.2.1 x.1.2.2.2.1 x.1.2.2.2.2.1 x.2.1 x.2.2.1⟩
theorem g47ok:FO (g47T m):=fk g47H (g47T m) func47 (AllF.mem (l:=[g94T m,g93T m]) ⟨g94ok m,g93ok m,trivial⟩)
def g18H:Hints:=⟨[J [1,2],J [1,2,4],J [1,2,4,23],J' [(1,1)] [2,3],J [1,2,30],J [2,3],J' [(2,1)] [1,2,5,6],J' [(0,1)] [1,2,5,38],J [2,3],J [1,2,5,7],J [1,2,5,7,8],J [1,2,5,7,8,9],J [1,2,5,7,8,9,46],J' [(0,1)] [1,2,5,7,8,9],J [1,2,5,7,8,9,10],J [1,2,5,7,8,9,10,51],J' [(0,1)] [1,2,5,7,8,9,10],J' [(7,1)] [1,2,5,7,8,9,10,11],J [1,2,5,7,8,9,10,11,13],J [1,2,5,7,8,9,10,11,13,66],J' [(0,1)] [1,2,5,7,8,9,10,11,13],J' [(7,1)] [1,2,5,7,8,9,10,11,13,14,15],J' [(0,1)] [1,2,5,7,8,9,10,11,13,14,79],J' [(10,1)] [1,2,5,7,8,9,10,11,13],J [1,2,5,7,8,16],J [1,2,5,7,8,16,17],J [1,2,5,7,8,16,17,100],J' [(0,1)] [1,2,5,7,8,16,17],J' [(7,1)] [1,2,5,7,8,16,17,18],J' [(5,1)] [1,2,5,7,8,16,17],J' [(0,1),(1,1),(2,1)] [2,3]],[(0,[1,2,5,7,8,9]),(2,[1,2,5,7,8,9,10]),(4,[1,2,5,7,8,9,10,11,13]),(6,[1,2,5,7,8,16,17])],[(0,[1,2,5,7,8]),(1,[1,2,5,7,8,9]),(2,[1,2,5,7,8,9]),(3,[1,2,5,7,8,9,10]),(4,[1,2,5,7,8,9,10]),(5,[1,2,5,7,8,9,10,11,13]),(6,[2,5,8,16]),(7,[1,2,5,7,8,16,17])],[2,3],[],[[true,true,true],[false]]⟩
def g18T:FunT:=⟨18,[.a (.agg [(.int .i64),(.int .i64),(.imm (.int .i64)),(.imm (.int .i64)),(.imm (.int .u64))])],.tup [(.agg [(.nm 0 (.int .i64)),(.nm 1 (.int .i64)),(.nm 2 (.int .i64))]),(.c (.int .i64))],[sD],fun x=>g18 m x.1.1 x.1.2.1 x.1.2.2.1 x.1.2.2.2.1 x.1.2.2.2.2.1⟩
noncomputable def g18C:Code:=codeOf f18
noncomputable def g18B0:Code:=qm g18C 0 0
noncomputable def g18B2:Code:=qm g18B0 0 0
noncomputable def g18B4:Code:=qm g18B2 2 0
noncomputable def g18B6:Code:=qm g18C 0 1
theorem g18K:FL [g45T m,g46T m,g47T m]:=AllF.mem ⟨g45ok m,g46ok m,g47ok m,trivial⟩
def g18L3X:LT:=⟨6,[(1,sX 0 [iI,iI,iL,iL,.imm (.int .u64)]),(2,sX 1 [iM 2,iM 3,iM 4]),(5,sN 5),(7,sI),(8,sN 6),(16,sN 7),(17,sI)],[(.exit 6,[(2,sX 0 [iM 1,iM 2,iM 3]),(5,sN 4),(8,sN 5),(16,sN 6)])],fun n x=>g18L3 m n x.1.1 x.1.2.1 x.1.2.2.1 x.1.2.2.2.1 x.1.2.2.2.2.1 x.2.1.1 x.2.1.2.1 x.2.1.2.2.1 x.2.2.1 x.2.2.2.1 x.2.2.2.2.1 x.2.2.2.2.2.1 x.2.2.2.2.2.2.1⟩
theorem g18L3ok {E} (hE:EO E 129 g18H) (n):LO E g18B6 ((g18L3X m).at n):=lk hE (g18K m) (g18L3X m) n
def g18L2X:LT:=⟨4,[(1,sX 0 [iI,iI,iL,iL,.imm (.int .u64)]),(2,sX 1 [iM 2,iM 3,iM 4]),(5,sN 5),(7,sI),(8,sN 6),(9,sI),(10,sI),(11,sI),(13,sI)],[(.exit 4,[(1,sX 0 [iI,iI,iL,iL,.imm (.int .u64)]),(2,sX 1 [iM 2,iM 3,iM 4]),(5,sN 5),(7,sI),(8,sN 6),(9,sI),(10,sI)])],fun n x=>g18L2 m n x.1.1 x.1.2.1 x.1.2.2.1 x.1.2.2.2.1 x.1.2.2.2.2.1 x.2.1.1 x.2.1.2.1 x.2.1.2.2.1 x.2.2.1 x.2.2.2.1 x.2.2.2.2.1 x.2.2.2.2.2.1 x.2.2.2.2.2.2.1 x.2.2.2.2.2.2.2.1 x.2.2.2.2.2.2.2.2.1⟩
theorem g18L2ok {E} (hE:EO E 129 g18H) (n):LO E g18B4 ((g18L2X m).at n):=lk hE (g18K m) (g18L2X m) n
def g18L1X:LT:=⟨2,[(1,sX 0 [iI,iI,iL,iL,.imm (.int .u64)]),(2,sX 1 [iM 2,iM 3,iM 4]),(5,sN 5),(7,sI),(8,sN 6),(9,sI),(10,sI)],[(.exit 2,[(1,sX 0 [iI,iI,iL,iL,.imm (.int .u64)]),(2,sX 1 [iM 2,iM 3,iM 4]),(5,sN 5),(7,sI),(8,sN 6),(9,sI)])],fun n x=>g18L1 m n x.1.1 x.1.2.1 x.1.2.2.1 x.1.2.2.2.1 x.1.2.2.2.2.1 x.2.1.1 x.2.1.2.1 x.2.1.2.2.1 x.2.2.1 x.2.2.2.1 x.2.2.2.2.1 x.2.2.2.2.2.1 x.2.2.2.2.2.2.1⟩
theorem g18L1ok {E} (hE:EO E 129 g18H) (n):LO E g18B2 ((g18L1X m).at n):=
 lok hmix htt hE (g18K m) (L:=[(g18L2X m).at m]) (g18L1X m) (l:=[(4,g18B4)]) kR (fun _ _=>⟨qg ⟨yb (g18L2ok m hE m),trivial⟩,trivial⟩) (fun n x=>kR) (fun _=>kR) n
def g18L0X:LT:=⟨0,[(1,sX 0 [iI,iI,iL,iL,.imm (.int .u64)]),(2,sX 1 [iM 2,iM 3,iM 4]),(5,sN 5),(7,sI),(8,sN 6),(9,sI)],[(.exit 0,[(1,sX 0 [iI,iI,iL,iL,.imm (.int .u64)]),(2,sX 1 [iM 2,iM 3,iM 4]),(5,sN 5),(7,sI),(8,sN 6)])],fun n x=>g18L0 m n x.1.1 x.1.2.1 x.1.2.2.1 x.1.2.2.2.1 x.1.2.2.2.2.1 x.2.1.1 x.2.1.2.1 x.2.1.2.2.1 x.2.2.1 x.2.2.2.1 x.2.2.2.2.1 x.2.2.2.2.2.1⟩
theorem g18L0ok {E} (hE:EO E 129 g18H) (n):LO E g18B0 ((g18L0X m).at n):=
 lok hmix htt hE (g18K m) (L:=[(g18L1X m).at m]) (g18L0X m) (l:=[(2,g18B2)]) kR (fun _ _=>⟨qg ⟨yb (g18L1ok m hE m),trivial⟩,trivial⟩) (fun n x=>kR) (fun _=>kR) n
theorem g18ok:FO (g18T m):=
 fok hmix htt (H:=g18H) (g18T m) func18 kR (g18K m) (L:=[(g18L0X m).at m,(g18L3X m).at m]) (l:=[(0,g18B0),(6,g18B6)]) kR (fun _ hE _ _=>⟨qg ⟨yb (g18L0ok m hE m),nb rfl,trivial⟩,qg ⟨nb rfl,yb (g18L3ok m hE m),trivial⟩,trivial⟩) (fun x=>kR)
def g49H:Hints:=⟨[J [0],J' [(0,1)] [3],J [3,8,9],J [3,8,9,10],J [3,4,8,9],J [3,8,9],J' [(1,1)] [3,8,9],J' [(0,1)] [2]],[(0,[3,8,9])],[(0,[3]),(1,[3,8,9])],[2],[],[[true]]⟩
def g49T:FunT:=⟨49,[sI],sN 0,[sD],fun x=>g49 m x.1⟩
noncomputable def g49C:Code:=codeOf f49
noncomputable def g49B0:Code:=qm g49C 0 0
theorem g49K:FL [g85T m]:=AllF.mem ⟨g85ok m,trivial⟩
def g49L0X:LT:=⟨0,[(3,sN 0),(8,sI),(9,sI)],[(.exit 0,[(3,sN 0)])],fun n x=>g49L0 m n x.1 x.2.1 x.2.2.1⟩
theorem g49L0ok {E} (hE:EO E 18 g49H) (n):LO E g49B0 ((g49L0X m).at n):=lk hE (g49K m) (g49L0X m) n
theorem g49ok:FO (g49T m):=f1' g49H (g49T m) func49 (g49K m) fun _ h=>g49L0ok m h m
def g95H:Hints:=⟨[J [0,1],J [0,1,6],J [0,1,6,15,16],J [0,1,6,15,16,17],J [0,1,6,7,15,16],J' [(1,1)] [0,1,6,15,16],J' [(1,1)] [0,1,6,15,16],J [0,1,6,23,24,25],J [0,1,6,23,24,25,26],J [0,1,6,9,23,24,25],J' [(0,1)] [0,1,6,23,24,25,33],J [4,5],J' [(1,1)] [0,1,6,23,24,25],J' [(0,1)] [6,35,36,37],J [6,35,36,37,38],J [6,10,11,35,36,37],J [6,10,11,35,36,37,46],J [4,5],J' [(1,1),(2,1)] [6,35,36,37],J' [(1,1)] [6,35,36,37],J' [(0,1)] [4,5]],[(0,[0,1,6,15,16]),(2,[0,1,6,23,24,25]),(4,[6,35,36,37])],[(0,[0,1,6]),(1,[0,1,6,15,16]),(2,[0,6]),(3,[0,1,6,23,24,25]),(4,[6]),(5,[6,35,36,37])],[4,5],[],[[true],[false]]⟩
def g95T:FunT:=⟨95,[sL,sI],.tup [(.c (.nm 0 (.int .i64))),(.c (.int .i64))],[sD,sD],fun x=>g95 m x.1 x.2.1⟩
noncomputable def g95C:Code:=codeOf f95
noncomputable def g95B0:Code:=qm g95C 0 0
noncomputable def g95B2:Code:=qm g95C 0 1
noncomputable def g95B4:Code:=qm g95C 0 2
theorem g95K:FL [g68T m]:=AllF.mem ⟨g68ok m,trivial⟩
def g95L2X:LT:=⟨4,[(6,sN 0),(35,sL),(36,sI),(37,sI)],[(.ret,[(4,sN 0),(5,sI)]),(.exit 4,[(6,sN 0)])],fun n x=>g95L2 m n x.1 x.2.1 x.2.2.1 x.2.2.2.1⟩
theorem g95L2ok {E} (hE:EO E 53 g95H) (n):LO E g95B4 ((g95L2X m).at n):=lk hE (g95K m) (g95L2X m) n
def g95L1X:LT:=⟨2,[(0,sL),(1,sI),(6,sN 0),(23,sL),(24,sI),(25,sI)],[(.ret,[(4,sN 0),(5,sI)]),(.exit 2,[(0,sL),(6,sN 0)])],fun n x=>g95L1 m n x.1 x.2.1 x.2.2.1 x.2.2.2.1 x.2.2.2.2.1 x.2.2.2.2.2.1⟩
theorem g95L1ok {E} (hE:EO E 53 g95H) (n):LO E g95B2 ((g95L1X m).at n):=lk hE (g95K m) (g95L1X m) n
def g95L0X:LT:=⟨0,[(0,sL),(1,sI),(6,sN 0),(15,sI),(16,sI)],[(.exit 0,[(0,sL),(1,sI),(6,sN 0)])],fun n x=>g95L0 m n x.1 x.2.1 x.2.2.1 x.2.2.2.1 x.2.2.2.2.1⟩
theorem g95L0ok {E} (hE:EO E 53 g95H) (n):LO E g95B0 ((g95L0X m).at n):=lk hE (g95K m) (g95L0X m) n
theorem g95ok:FO (g95T m):=
 fok hmix htt (H:=g95H) (g95T m) func95 kR (g95K m) (L:=[(g95L0X m).at m,(g95L1X m).at m,(g95L2X m).at m]) (l:=[(0,g95B0),(2,g95B2),(4,g95B4)]) kR (fun _ hE _ _=>⟨qg ⟨yb (g95L0ok m hE m),nb rfl,nb rfl,trivial⟩,qg ⟨nb rfl,yb (g95L1ok m hE m),nb rfl,trivial⟩,qg ⟨nb rfl,nb rfl,yb (g95L2ok m hE m),trivial⟩,trivial⟩) (fun x=>kR)
end
end Go.Vs.F
