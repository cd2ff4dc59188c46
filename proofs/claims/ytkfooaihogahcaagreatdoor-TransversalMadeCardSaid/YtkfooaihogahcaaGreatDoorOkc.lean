/-The plain functions are what the code does (by program:gen.py). -/
import Derived.Test.YtkfooaihogahcaaGreatDoorOkb
set_option linter.unusedVariables false
set_option maxRecDepth 100000
namespace Go.Vs.F
open Go.Proofs
open Tryz
section
variable (m:Nat)
def g96H:Hints:=⟨[J [1,2,3,4,5,10],J [1,2,3,4,5,10,11],J [1,2,3,4,10,11,15,16,17],J [1,2,3,4,10,11,15,16,17,18],J [1,2,3,4,10,11,13,15,16,17],J' [(6,1)] [1,2,3,4,10,11,13,15,16,17,34],J' [(0,1)] [1,2,3,4,10,11,15,16,17],J' [(1,1)] [1,2,3,4,10,11,15,16,17],J' [(0,1),(2,1),(4,1)] [10]],[(0,[1,2,3,4,10,11,15,16,17])],[(0,[1,2,10,11]),(1,[1,2,3,4,10,11,15,16,17])],[10],[],[[false,false,true,true,true]]⟩
def g96T:FunT:=⟨96,[.a (.agg [(.int .i64),(.int .i64),(.imm (.int .i64)),(.imm (.int .i64)),(.imm (.int .u64))]),sL,sL,sL,sL],.a (.agg [(.int .i64),(.int .i64),(.nm 0 (.int .i64)),(.nm 1 (.int .i64)),(.nm 2 (.int .u64))]),[sD,sD,sD,sD,sD],fun x=>g96 m x.1.1 x.1.2.1 x.1.2.2.1 x.1.2.2.2.1 x.1.2.2.2.2.1 x.2.1 x.2.2.1 x.2.2.2.1 x.2.2.2.2.1⟩
noncomputable def g96C:Code:=codeOf f96
noncomputable def g96B0:Code:=qm g96C 0 0
theorem g96K:FL [g30T m,g36T m]:=AllF.mem ⟨g30ok m,g36ok m,trivial⟩
def g96L0X:LT:=⟨0,[(1,sL),(2,sL),(3,sL),(4,sL),(10,sX 0 [iI,iI,iM 1,iM 2,.nm 3 (.int .u64)]),(11,.a (.c (.nm 4 (.pr (.int .i64) (.pr (.int .i64) (.int .u64)))))),(15,.a (.c (.nm 5 (.pr (.int .i64) (.pr (.int .i64) (.int .u64)))))),(16,sI),(17,sI)],[(.exit 0,[(1,sL),(2,sL),(10,sX 0 [iI,iI,iM 1,iM 2,.nm 3 (.int .u64)]),(11,.a (.c (.nm 4 (.pr (.int .i64) (.pr (.int .i64) (.int .u64))))))])],fun n x=>g96L0 m n x.1 x.2.1 x.2.2.1 x.2.2.2.1 x.2.2.2.2.1.1 x.2.2.2.2.1.2.1 x.2.2.2.2.1.2.2.1 x.2.2.2.2.1.2.2.2.1 x.2.2.2.2.1.2.2.2.2.1 x.2.2.2.2.2.1 x.2.2.2.2.2.2.1 x.2.2.2.2.2.2.2.1 x.2.2.2.2.2.2.2.2.1⟩
theorem g96L0ok {E} (hE:EO E 58 g96H) (n):LO E g96B0 ((g96L0X m).at n):=lk hE (g96K m) (g96L0X m) n
theorem g96ok:FO (g96T m):=f1' g96H (g96T m) func96 (g96K m) fun _ h=>g96L0ok m h m
def g48H:Hints:=⟨[J [1,2,3,6],J [1,2,3,6,8],J [1,2,3,6,8,14],J' [(1,1)] [6,7],J' [(5,1)] [1,2,3,6,19],J [6,7],J' [(4,1)] [1,2,3,6,8,9],J' [(4,1)] [1,2,3,6,8,9,10,11],J' [(0,1),(2,1),(3,1)] [1,2,3,6,9,10,52],J [6,7],J' [(1,1),(2,1),(3,1),(4,1)] [6,7]],[],[(0,[1,2,3,6])],[6,7],[],[[false,false,true,true,true],[false]]⟩
def g48T:FunT:=⟨48,[.a (.agg [(.int .i64),(.int .i64),(.imm (.int .i64)),(.imm (.int .i64)),(.imm (.int .u64))]),sL,sL],.tup [(.agg [(.int .i64),(.int .i64),(.nm 0 (.int .i64)),(.nm 1 (.int .i64)),(.nm 2 (.int .u64))]),(.c (.int .i64))],[sD,sD,sD],fun x=>g48 m x.1.1 x.1.2.1 x.1.2.2.1 x.1.2.2.2.1 x.1.2.2.2.2.1 x.2.1 x.2.2.1⟩
theorem g48ok:FO (g48T m):=fk g48H (g48T m) func48 (AllF.mem (l:=[g29T m,g95T m,g96T m]) ⟨g29ok m,g95ok m,g96ok m,trivial⟩)
def g19H:Hints:=⟨[J [2,3,4],J [2,3,4,6],J [2,3,4,6,19],J' [(1,1)] [4,5],J' [(8,1)] [3,4,7],J [3,4,7,34,35],J [3,4,7,34,35,36],J [3,4,7,9,34,35],J [3,4,7,9,10,34,35],J [3,4,7,9,10,34,35,50],J' [(0,1)] [3,4,7,9,10,34,35],J [3,4,7,9,10,11,34,35],J [3,4,7,9,10,11,34,35,61],J [3,4,7,9,10,11,34,35],J [3,4,7,9,10,11,12,34,35],J' [(4,1)] [3,4,7,9,10,12,13,14,34,35],J' [(0,1),(2,1),(3,1)] [3,4,7,9,10,12,34,35,94],J [4,5],J' [(3,1)] [3,4,7,9,10,34,35],J' [(1,1)] [3,4,7,34,35],J' [(0,1)] [4,5]],[(0,[3,4,7,34,35]),(2,[3,4,7,9,10,34,35])],[(0,[4,7]),(1,[3,4,7,34,35]),(2,[3,4,7,34,35]),(3,[3,4,7,9,10,34,35])],[4,5],[],[[false,false,true,true,true],[false]]⟩
def g19T:FunT:=⟨19,[.a (.agg [(.int .i64),(.int .i64),(.imm (.int .i64)),(.imm (.int .i64)),(.imm (.int .u64))]),.a (.agg [(.imm (.int .i64)),(.imm (.int .i64)),(.imm (.int .i64))])],.tup [(.agg [(.int .i64),(.int .i64),(.nm 0 (.int .i64)),(.nm 1 (.int .i64)),(.nm 2 (.int .u64))]),(.c (.int .i64))],[sD,sD],fun x=>g19 m x.1.1 x.1.2.1 x.1.2.2.1 x.1.2.2.2.1 x.1.2.2.2.2.1 x.2.1.1 x.2.1.2.1 x.2.1.2.2.1⟩
noncomputable def g19C:Code:=codeOf f19
noncomputable def g19B0:Code:=qm g19C 0 0
noncomputable def g19B2:Code:=qm g19B0 0 0
theorem g19K:FL [g21T m,g49T m,g48T m,g34T m,g50T m,g51T m,g33T m,g52T m,g53T m]:=AllF.mem ⟨g21ok m,g49ok m,g48ok m,g34ok m,g50ok m,g51ok m,g33ok m,g52ok m,g53ok m,trivial⟩
def g19L1X:LT:=⟨2,[(3,sX 0 [iL,iL,iL]),(4,sX 1 [iI,iI,iM 2,iM 3,.nm 4 (.int .u64)]),(7,sX 5 [iI,iI,iM 6,iM 7,.nm 8 (.int .u64)]),(9,sI),(10,sI),(34,sI),(35,sI)],[(.ret,[(4,sX 0 [iI,iI,iM 1,iM 2,.nm 3 (.int .u64)]),(5,sI)]),(.exit 2,[(3,sX 0 [iL,iL,iL]),(4,sX 1 [iI,iI,iM 2,iM 3,.nm 4 (.int .u64)]),(7,sX 5 [iI,iI,iM 6,iM 7,.nm 8 (.int .u64)]),(34,sI),(35,sI)])],fun n x=>g19L1 m n x.1.1 x.1.2.1 x.1.2.2.1 x.2.1.1 x.2.1.2.1 x.2.1.2.2.1 x.2.1.2.2.2.1 x.2.1.2.2.2.2.1 x.2.2.1.1 x.2.2.1.2.1 x.2.2.1.2.2.1 x.2.2.1.2.2.2.1 x.2.2.1.2.2.2.2.1 x.2.2.2.1 x.2.2.2.2.1 x.2.2.2.2.2.1 x.2.2.2.2.2.2.1⟩
theorem g19L1ok {E} (hE:EO E 103 g19H) (n):LO E g19B2 ((g19L1X m).at n):=lk hE (g19K m) (g19L1X m) n
def g19L0X:LT:=⟨0,[(3,sX 0 [iL,iL,iL]),(4,sX 1 [iI,iI,iM 2,iM 3,.nm 4 (.int .u64)]),(7,sX 5 [iI,iI,iM 6,iM 7,.nm 8 (.int .u64)]),(34,sI),(35,sI)],[(.ret,[(4,sX 0 [iI,iI,iM 1,iM 2,.nm 3 (.int .u64)]),(5,sI)]),(.exit 0,[(4,sX 0 [iI,iI,iM 1,iM 2,.nm 3 (.int .u64)]),(7,sX 4 [iI,iI,iM 5,iM 6,.nm 7 (.int .u64)])])],fun n x=>g19L0 m n x.1.1 x.1.2.1 x.1.2.2.1 x.2.1.1 x.2.1.2.1 x.2.1.2.2.1 x.2.1.2.2.2.1 x.2.1.2.2.2.2.1 x.2.2.1.1 x.2.2.1.2.1 x.2.2.1.2.2.1 x.2.2.1.2.2.2.1 x.2.2.1.2.2.2.2.1 x.2.2.2.1 x.2.2.2.2.1⟩
theorem g19L0ok {E} (hE:EO E 103 g19H) (n):LO E g19B0 ((g19L0X m).at n):=
 lok hmix htt hE (g19K m) (L:=[(g19L1X m).at m]) (g19L0X m) (l:=[(2,g19B2)]) kR (fun _ _=>⟨qg ⟨yb (g19L1ok m hE m),trivial⟩,trivial⟩) (fun n x=>kR) (fun _=>kR) n
theorem g19ok:FO (g19T m):=f1' g19H (g19T m) func19 (g19K m) fun _ h=>g19L0ok m h m
def g63H:Hints:=⟨[J [0,1],J [0,1,10],J [4],J [0,1,5],J [0,1,5,6],J [0,1,5,6,15],J' [(0,1)] [0,1,5,6],J' [(5,1),(13,1)] [0,1,5,6,39],J [4],J [0,1,5,6],J [4]],[(0,[0,1,5,6])],[(0,[]),(1,[0,1,5,6])],[4],[],[[false]]⟩
def g63T:FunT:=⟨63,[sL,sI],sB,[sD,sD],fun x=>g63 m x.1 x.2.1⟩
noncomputable def g63C:Code:=codeOf f63
noncomputable def g63B0:Code:=qm g63C 0 0
def g63L0X:LT:=⟨0,[(0,sL),(1,sI),(5,.a (.c (.nm 0 .bool))),(6,sI)],[(.ret,[(4,sB)]),(.exit 0,[])],fun n x=>g63L0 m n x.1 x.2.1 x.2.2.1 x.2.2.2.1⟩
theorem g63L0ok {E} (hE:EO E 46 g63H) (n):LO E g63B0 ((g63L0X m).at n):=lk hE noF (g63L0X m) n
theorem g63ok:FO (g63T m):=f1' g63H (g63T m) func63 noF fun _ h=>g63L0ok m h m
def g64H:Hints:=⟨[J [2,3],J [4]],[],[],[4],[],[[false]]⟩
def g64T:FunT:=⟨64,[.a (.agg [.bool,(.imm (.int .u32))]),.a (.agg [.bool,(.imm (.int .u32))])],sI,[sD,sD],fun x=>g64 m x.1.1 x.1.2.1 x.2.1.1 x.2.1.2.1⟩
theorem g64ok:FO (g64T m):=fk g64H (g64T m) func64 (AllF.mem (l:=[g114T m,g113T m]) ⟨g114ok m,g113ok m,trivial⟩)
def g22H:Hints:=⟨[J [2,3],J [2,3,5],J [2,3,5,18],J' [(0,1)] [4],J [2,3,6],J [2,3,6,25],J [4],J' [(5,1),(12,1)] [2,3,6,44],J [4],J [2,3,6,49],J [4],J [2,3,6,7],J [2,3,6,7,52],J' [(0,1)] [2,3,6,7],J' [(8,1)] [2,3,6,7,9],J' [(0,1)] [2,3,6,7,67],J [4],J [2,3,6,10],J [2,3,6,10,70],J' [(0,1)] [2,3,6,10],J [2,3,6,10,11],J [2,3,6,10,11,75],J' [(0,1)] [2,3,6,10,11],J' [(4,1)] [2,3,6,10,11,12,13],J' [(0,1)] [2,3,6,10,11,12,86],J' [(13,1)] [2,3,6,10,11,14],J' [(2,1),(5,1)] [2,3,6,10,11,117],J [4],J [4]],[(0,[2,3,6,7]),(2,[2,3,6,10]),(4,[2,3,6,10,11])],[(0,[2,3,6]),(1,[2,3,6,7]),(2,[]),(3,[2,3,6,10]),(4,[2,3,6,10]),(5,[2,3,6,10,11])],[4],[],[[false]]⟩
def g22T:FunT:=⟨22,[.a (.agg [(.int .i64),(.int .i64),(.imm (.int .i64)),(.imm (.int .i64)),(.imm (.int .u64))]),.a (.agg [(.imm (.int .i64)),(.imm (.int .i64)),(.imm (.int .i64))])],sI,[sD,sD],fun x=>g22 m x.1.1 x.1.2.1 x.1.2.2.1 x.1.2.2.2.1 x.1.2.2.2.2.1 x.2.1.1 x.2.1.2.1 x.2.1.2.2.1⟩
noncomputable def g22C:Code:=codeOf f22
noncomputable def g22B0:Code:=qm g22C 0 0
noncomputable def g22B2:Code:=qm g22C 0 1
noncomputable def g22B4:Code:=qm g22B2 2 0
theorem g22K:FL [g45T m,g63T m,g47T m,g57T m,g56T m,g64T m]:=AllF.mem ⟨g45ok m,g63ok m,g47ok m,g57ok m,g56ok m,g64ok m,trivial⟩
def g22L2X:LT:=⟨4,[(2,sX 0 [iI,iI,iL,iL,.imm (.int .u64)]),(3,sX 1 [iL,iL,iL]),(6,sI),(10,sI),(11,sI)],[(.ret,[(4,sI)]),(.exit 4,[(2,sX 0 [iI,iI,iL,iL,.imm (.int .u64)]),(3,sX 1 [iL,iL,iL]),(6,sI),(10,sI)])],fun n x=>g22L2 m n x.1.1 x.1.2.1 x.1.2.2.1 x.1.2.2.2.1 x.1.2.2.2.2.1 x.2.1.1 x.2.1.2.1 x.2.1.2.2.1 x.2.2.1 x.2.2.2.1 x.2.2.2.2.1⟩
theorem g22L2ok {E} (hE:EO E 118 g22H) (n):LO E g22B4 ((g22L2X m).at n):=lk hE (g22K m) (g22L2X m) n
def g22L1X:LT:=⟨2,[(2,sX 0 [iI,iI,iL,iL,.imm (.int .u64)]),(3,sX 1 [iL,iL,iL]),(6,sI),(10,sI)],[(.ret,[(4,sI)]),(.exit 2,[])],fun n x=>g22L1 m n x.1.1 x.1.2.1 x.1.2.2.1 x.1.2.2.2.1 x.1.2.2.2.2.1 x.2.1.1 x.2.1.2.1 x.2.1.2.2.1 x.2.2.1 x.2.2.2.1⟩
theorem g22L1ok {E} (hE:EO E 118 g22H) (n):LO E g22B2 ((g22L1X m).at n):=
 lok hmix htt hE (g22K m) (L:=[(g22L2X m).at m]) (g22L1X m) (l:=[(4,g22B4)]) kR (fun _ _=>⟨qg ⟨yb (g22L2ok m hE m),trivial⟩,trivial⟩) (fun n x=>kR) (fun _=>kR) n
def g22L0X:LT:=⟨0,[(2,sX 0 [iI,iI,iL,iL,.imm (.int .u64)]),(3,sX 1 [iL,iL,iL]),(6,sI),(7,sI)],[(.ret,[(4,sI)]),(.exit 0,[(2,sX 0 [iI,iI,iL,iL,.imm (.int .u64)]),(3,sX 1 [iL,iL,iL]),(6,sI)])],fun n x=>g22L0 m n x.1.1 x.1.2.1 x.1.2.2.1 x.1.2.2.2.1 x.1.2.2.2.2.1 x.2.1.1 x.2.1.2.1 x.2.1.2.2.1 x.2.2.1 x.2.2.2.1⟩
theorem g22L0ok {E} (hE:EO E 118 g22H) (n):LO E g22B0 ((g22L0X m).at n):=lk hE (g22K m) (g22L0X m) n
theorem g22ok:FO (g22T m):=
 fok hmix htt (H:=g22H) (g22T m) func22 kR (g22K m) (L:=[(g22L0X m).at m,(g22L1X m).at m]) (l:=[(0,g22B0),(2,g22B2)]) kR (fun _ hE _ _=>⟨qg ⟨yb (g22L0ok m hE m),nb rfl,trivial⟩,qg ⟨nb rfl,yb (g22L1ok m hE m),trivial⟩,trivial⟩) (fun x=>kR)
def g54H:Hints:=⟨[J [1],J [1,8],J [2],J [1,3],J [1,3,4],J [1,3,4,12],J' [(0,1)] [1,3,4],J [1,3,4,5],J [1,3,4,5,27],J' [(0,1)] [1,3,4,5],J' [(0,1)] [1,3,4,5],J' [(0,1)] [2]],[(0,[1,3,4]),(2,[1,3,4,5])],[(0,[3]),(1,[1,3,4]),(2,[1,3,4]),(3,[1,3,4,5])],[2],[],[[true]]⟩
def g54T:FunT:=⟨54,[.a (.agg [(.int .i64),(.int .i64),(.imm (.int .i64)),(.imm (.int .i64)),(.imm (.int .u64))])],.a (.c (.nm 0 (.pr (.int .i64) (.pr (.int .i64) (.int .u64))))),[sD],fun x=>g54 m x.1.1 x.1.2.1 x.1.2.2.1 x.1.2.2.2.1 x.1.2.2.2.2.1⟩
noncomputable def g54C:Code:=codeOf f54
noncomputable def g54B0:Code:=qm g54C 0 0
noncomputable def g54B2:Code:=qm g54B0 0 0
theorem g54K:FL [g45T m]:=AllF.mem ⟨g45ok m,trivial⟩
def g54L1X:LT:=⟨2,[(1,sX 0 [iI,iI,iL,iL,.imm (.int .u64)]),(3,.a (.c (.nm 1 (.pr (.int .i64) (.pr (.int .i64) (.int .u64)))))),(4,sI),(5,sI)],[(.exit 2,[(1,sX 0 [iI,iI,iL,iL,.imm (.int .u64)]),(3,.a (.c (.nm 1 (.pr (.int .i64) (.pr (.int .i64) (.int .u64)))))),(4,sI)])],fun n x=>g54L1 m n x.1.1 x.1.2.1 x.1.2.2.1 x.1.2.2.2.1 x.1.2.2.2.2.1 x.2.1 x.2.2.1 x.2.2.2.1⟩
theorem g54L1ok {E} (hE:EO E 46 g54H) (n):LO E g54B2 ((g54L1X m).at n):=lk hE (g54K m) (g54L1X m) n
def g54L0X:LT:=⟨0,[(1,sX 0 [iI,iI,iL,iL,.imm (.int .u64)]),(3,.a (.c (.nm 1 (.pr (.int .i64) (.pr (.int .i64) (.int .u64)))))),(4,sI)],[(.exit 0,[(3,.a (.c (.nm 0 (.pr (.int .i64) (.pr (.int .i64) (.int .u64))))))])],fun n x=>g54L0 m n x.1.1 x.1.2.1 x.1.2.2.1 x.1.2.2.2.1 x.1.2.2.2.2.1 x.2.1 x.2.2.1⟩
theorem g54L0ok {E} (hE:EO E 46 g54H) (n):LO E g54B0 ((g54L0X m).at n):=
 lok hmix htt hE (g54K m) (L:=[(g54L1X m).at m]) (g54L0X m) (l:=[(2,g54B2)]) kR (fun _ _=>⟨qg ⟨yb (g54L1ok m hE m),trivial⟩,trivial⟩) (fun n x=>kR) (fun _=>kR) n
theorem g54ok:FO (g54T m):=f1' g54H (g54T m) func54 (g54K m) fun _ h=>g54L0ok m h m
def g112H:Hints:=⟨[J [0],J' [(0,1)] [2]],[],[],[2],[],[[false]]⟩
def g112T:FunT:=⟨112,[sI],sI,[sD],fun x=>g112 m x.1⟩
theorem g112ok:FO (g112T m):=fk g112H (g112T m) func112 noF
def g167H:Hints:=⟨[J [2,3,4,5],J [2,3,4,5,7,8],J [2,3,4,5,7,8,13],J [4,5,6],J [2,3,4,5,7,8,21],J [4,5,6],J [2,3,4,5,7,8,29],J [4,5,6],J [4,5,6]],[],[(0,[2,3,4,5,7,8])],[4,5,6],[],[[false,false],[false,false],[false]]⟩
def g167T:FunT:=⟨167,[.a (.agg [.bool,.bool,(.imm (.int .u32)),(.int .i64)]),.a (.agg [.bool,.bool,(.imm (.int .u32)),(.int .i64)])],.tup [(.agg [.bool,(.imm (.int .u32))]),(.agg [.bool,(.imm (.int .u32))]),(.c (.int .i64))],[sD,sD],fun x=>g167 m x.1.1 x.1.2.1 x.1.2.2.1 x.1.2.2.2.1 x.2.1.1 x.2.1.2.1 x.2.1.2.2.1 x.2.1.2.2.2.1⟩
theorem g167ok:FO (g167T m):=fk g167H (g167T m) func167 (AllF.mem (l:=[g113T m,g155T m]) ⟨g113ok m,g155ok m,trivial⟩)
def g148H:Hints:=⟨[J [2,3],J' [(4,2),(5,2)] [2,3],J' [(2,1)] [2,3,18],J [4,5],J' [(0,2),(1,2),(3,1)] [6,7],J [4,5]],[],[],[4,5],[],[[false],[false]]⟩
def g148T:FunT:=⟨148,[.a (.agg [.bool,.bool,(.imm (.int .u32)),(.int .i64)]),.a (.agg [.bool,.bool,(.imm (.int .u32)),(.int .i64)])],.tup [(.c (.int .i64)),(.c .bool)],[sD,sD],fun x=>g148 m x.1.1 x.1.2.1 x.1.2.2.1 x.1.2.2.2.1 x.2.1.1 x.2.1.2.1 x.2.1.2.2.1 x.2.1.2.2.2.1⟩
theorem g148ok:FO (g148T m):=fk g148H (g148T m) func148 (AllF.mem (l:=[g116T m,g167T m,g64T m]) ⟨g116ok m,g167ok m,g64ok m,trivial⟩)
def g110H:Hints:=⟨[J [1],J [1,4],J' [(4,1)] [4,5,6],J' [(0,1),(1,1),(2,1),(3,1)] [2,3]],[],[],[2,3],[],[[false],[false]]⟩
def g110T:FunT:=⟨110,[.a (.agg [.bool,.bool,(.imm (.int .u32)),(.int .i64)])],.tup [(.c (.int .u64)),(.c .bool)],[sD],fun x=>g110 m x.1.1 x.1.2.1 x.1.2.2.1 x.1.2.2.2.1⟩
theorem g110ok:FO (g110T m):=fk g110H (g110T m) func110 (AllF.mem (l:=[g70T m,g111T m,g148T m]) ⟨g70ok m,g111ok m,g148ok m,trivial⟩)
def g60H:Hints:=⟨[J [1,2,3,6],J [1,2,3,6,8],J [1,2,3,6,8,17],J' [(1,1)] [6,7],J' [(5,1)] [1,2,3,6,31],J [6,7],J [1,2,3,6,9],J [1,2,3,6,9,10],J [1,2,3,6,9,10,38],J' [(0,1)] [1,2,3,6,9,10],J [1,2,3,6,9,10,47],J' [(20,1)] [1,2,3,6,9,10,11,12],J' [(0,1)] [1,2,3,6,9,10,11,72],J [6,7],J' [(6,1),(10,1)] [1,2,3,6,9,10,12,13],J' [(0,1)] [1,2,3,6,9,10,13,88],J [6,7],J' [(2,1)] [1,2,3,6,9,10],J' [(4,1)] [6,7]],[(0,[1,2,3,6,9,10])],[(0,[3,6,9]),(1,[1,2,3,6,9,10])],[6,7],[],[[false,false,true,true,true],[false]]⟩
def g60T:FunT:=⟨60,[.a (.agg [(.int .i64),(.int .i64),(.imm (.int .i64)),(.imm (.int .i64)),(.imm (.int .u64))]),sL,sL],.tup [(.agg [(.int .i64),(.int .i64),(.nm 0 (.int .i64)),(.nm 1 (.int .i64)),(.nm 2 (.int .u64))]),(.c (.int .i64))],[sD,sD,sD],fun x=>g60 m x.1.1 x.1.2.1 x.1.2.2.1 x.1.2.2.2.1 x.1.2.2.2.2.1 x.2.1 x.2.2.1⟩
noncomputable def g60C:Code:=codeOf f60
noncomputable def g60B0:Code:=qm g60C 0 0
theorem g60K:FL [g45T m,g54T m,g55T m,g57T m,g56T m,g58T m,g111T m,g112T m,g71T m,g110T m,g28T m]:=AllF.mem ⟨g45ok m,g54ok m,g55ok m,g57ok m,g56ok m,g58ok m,g111ok m,g112ok m,g71ok m,g110ok m,g28ok m,trivial⟩
def g60L0X:LT:=⟨0,[(1,sL),(2,sL),(3,sX 0 [iI,iI,iL,iL,.imm (.int .u64)]),(6,sX 1 [iI,iI,iM 2,iM 3,.nm 4 (.int .u64)]),(9,.a (.c (.nm 5 (.pr (.int .i64) (.pr (.int .i64) (.int .u64)))))),(10,sI)],[(.ret,[(6,sX 0 [iI,iI,iM 1,iM 2,.nm 3 (.int .u64)]),(7,sI)]),(.exit 0,[(3,sX 0 [iI,iI,iL,iL,.imm (.int .u64)]),(6,sX 1 [iI,iI,iM 2,iM 3,.nm 4 (.int .u64)]),(9,.a (.c (.nm 5 (.pr (.int .i64) (.pr (.int .i64) (.int .u64))))))])],fun n x=>g60L0 m n x.1 x.2.1 x.2.2.1.1 x.2.2.1.2.1 x.2.2.1.2.2.1 x.2.2.1.2.2.2.1 x.2.2.1.2.2.2.2.1 x.2.2.2.1.1 x.2.2.2.1.2.1 x.2.2.2.1.2.2.1 x.2.2.2.1.2.2.2.1 x.2.2.2.1.2.2.2.2.1 x.2.2.2.2.1 x.2.2.2.2.2.1⟩
theorem g60L0ok {E} (hE:EO E 101 g60H) (n):LO E g60B0 ((g60L0X m).at n):=lk hE (g60K m) (g60L0X m) n
theorem g60ok:FO (g60T m):=f1' g60H (g60T m) func60 (g60K m) fun _ h=>g60L0ok m h m
def g20H:Hints:=⟨[J [2,3,4],J [2,3,4,6],J [2,3,4,6,19],J' [(1,1)] [4,5],J [2,3,4,7],J [2,3,4,7,8],J [2,3,4,7,8,27],J' [(0,1)] [2,3,4,7,8],J [2,3,4,7,8,36],J [2,3,4,7,8,9],J' [(3,1)] [2,3,4,7,8,10,11],J' [(0,1)] [2,3,4,7,8,10,65],J [4,5],J [2,3,4,7,8,10,12],J' [(1,1),(5,1)] [2,3,4,7,8,13,14],J [2,3,4,7,8,13,14,85],J' [(1,1)] [4,5],J [2,3,4,7,8],J' [(4,1)] [4,5]],[(0,[2,3,4,7,8])],[(0,[2,4,7]),(1,[2,3,4,7,8])],[4,5],[],[[false,false,true,true,true],[false]]⟩
def g20T:FunT:=⟨20,[.a (.agg [(.int .i64),(.int .i64),(.imm (.int .i64)),(.imm (.int .i64)),(.imm (.int .u64))]),.a (.agg [(.imm (.int .i64)),(.imm (.int .i64)),(.imm (.int .i64))])],.tup [(.agg [(.int .i64),(.int .i64),(.nm 0 (.int .i64)),(.nm 1 (.int .i64)),(.nm 2 (.int .u64))]),(.c (.int .i64))],[sD,sD],fun x=>g20 m x.1.1 x.1.2.1 x.1.2.2.1 x.1.2.2.2.1 x.1.2.2.2.2.1 x.2.1.1 x.2.1.2.1 x.2.1.2.2.1⟩
noncomputable def g20C:Code:=codeOf f20
noncomputable def g20B0:Code:=qm g20C 0 0
theorem g20K:FL [g22T m,g54T m,g55T m,g57T m,g56T m,g59T m,g58T m,g60T m,g28T m]:=AllF.mem ⟨g22ok m,g54ok m,g55ok m,g57ok m,g56ok m,g59ok m,g58ok m,g60ok m,g28ok m,trivial⟩
def g20L0X:LT:=⟨0,[(2,sX 0 [iI,iI,iL,iL,.imm (.int .u64)]),(3,sX 1 [iL,iL,iL]),(4,sX 2 [iI,iI,iM 3,iM 4,.nm 5 (.int .u64)]),(7,.a (.c (.nm 6 (.pr (.int .i64) (.pr (.int .i64) (.int .u64)))))),(8,sI)],[(.ret,[(4,sX 0 [iI,iI,iM 1,iM 2,.nm 3 (.int .u64)]),(5,sI)]),(.exit 0,[(2,sX 0 [iI,iI,iL,iL,.imm (.int .u64)]),(4,sX 1 [iI,iI,iM 2,iM 3,.nm 4 (.int .u64)]),(7,.a (.c (.nm 5 (.pr (.int .i64) (.pr (.int .i64) (.int .u64))))))])],fun n x=>g20L0 m n x.1.1 x.1.2.1 x.1.2.2.1 x.1.2.2.2.1 x.1.2.2.2.2.1 x.2.1.1 x.2.1.2.1 x.2.1.2.2.1 x.2.2.1.1 x.2.2.1.2.1 x.2.2.1.2.2.1 x.2.2.1.2.2.2.1 x.2.2.1.2.2.2.2.1 x.2.2.2.1 x.2.2.2.2.1⟩
theorem g20L0ok {E} (hE:EO E 102 g20H) (n):LO E g20B0 ((g20L0X m).at n):=lk hE (g20K m) (g20L0X m) n
theorem g20ok:FO (g20T m):=f1' g20H (g20T m) func20 (g20K m) fun _ h=>g20L0ok m h m
def g65H:Hints:=⟨[J [0,1],J [0,1,10],J [4],J [0,1,5],J [0,1,5,14],J' [(0,1)] [0,1,5],J [0,1,5,25],J [4],J [4]],[(0,[0,1,5])],[(0,[]),(1,[0,1,5])],[4],[],[[false]]⟩
def g65T:FunT:=⟨65,[.a (.c (.imm (.int .u64))),.a (.c (.imm (.int .u64)))],sB,[sD,sD],fun x=>g65 m x.1 x.2.1⟩
noncomputable def g65C:Code:=codeOf f65
noncomputable def g65B0:Code:=qm g65C 0 0
def g65L0X:LT:=⟨0,[(0,.a (.c (.imm (.int .u64)))),(1,.a (.c (.imm (.int .u64)))),(5,sI)],[(.ret,[(4,sB)]),(.exit 0,[])],fun n x=>g65L0 m n x.1 x.2.1 x.2.2.1⟩
theorem g65L0ok {E} (hE:EO E 26 g65H) (n):LO E g65B0 ((g65L0X m).at n):=lk hE noF (g65L0X m) n
theorem g65ok:FO (g65T m):=f1' g65H (g65T m) func65 noF fun _ h=>g65L0ok m h m
def g23H:Hints:=⟨[J [2,3],J' [(5,1),(12,1),(19,1),(26,1)] [4]],[],[],[4],[],[[false]]⟩
def g23T:FunT:=⟨23,[.a (.agg [(.int .i64),(.int .i64),(.imm (.int .i64)),(.imm (.int .i64)),(.imm (.int .u64))]),.a (.agg [(.int .i64),(.int .i64),(.imm (.int .i64)),(.imm (.int .i64)),(.imm (.int .u64))])],sB,[sD,sD],fun x=>g23 m x.1.1 x.1.2.1 x.1.2.2.1 x.1.2.2.2.1 x.1.2.2.2.2.1 x.2.1.1 x.2.1.2.1 x.2.1.2.2.1 x.2.1.2.2.2.1 x.2.1.2.2.2.2.1⟩
theorem g23ok:FO (g23T m):=fk g23H (g23T m) func23 (AllF.mem (l:=[g15T m,g65T m]) ⟨g15ok m,g65ok m,trivial⟩)
def sparselaw14_TransversalMade_H:Hints:=⟨[J [0,1],J [0,1,16],J [4],J' [(0,1),(2,1)] [5],J' [(2,1)] [5,6,7],J' [(2,1)] [5,6,7,8,9],J' [(1,1),(3,1)] [5,6,7,8,40],J [4],J' [(0,1)] [5,6,8,42],J [4],J' [(3,1)] [5,6,8,10,11],J' [(3,1)] [5,6,10,11,12,13],J' [(4,1),(5,1),(6,1),(9,1),(14,1)] [4]],[],[],[4],[],[[false]]⟩
abbrev sparselaw14_TransversalMade_A:List Sh:=[sI,sL]
abbrev sparselaw14_TransversalMade_S:Sh:= sB
abbrev sparselaw14_TransversalMade_U:List Sh:=[sD,sD]
def sparselaw14_TransversalMade_R:Qp sparselaw14_TransversalMade_A->Option (sparselaw14_TransversalMade_S.Val×Qp sparselaw14_TransversalMade_U):=fun(x:Int×LI×Unit)=>sparselaw14_TransversalMade m x.1 x.2.1
def sparselaw14_TransversalMade_T:FunT:=⟨5,sparselaw14_TransversalMade_A,sparselaw14_TransversalMade_S,sparselaw14_TransversalMade_U,sparselaw14_TransversalMade_R m⟩
theorem sparselaw14_TransversalMade_ok:FO (sparselaw14_TransversalMade_T m):=fk sparselaw14_TransversalMade_H (sparselaw14_TransversalMade_T m) func5 (AllF.mem (l:=[sparselaw14_awake_T m,g8T m,g9T m,g12T m,g18T m,sparselaw14_same_T m,g19T m,g20T m,g21T m,g23T m]) ⟨sparselaw14_awake_ok m,g8ok m,g9ok m,g12ok m,g18ok m,sparselaw14_same_ok m,g19ok m,g20ok m,g21ok m,g23ok m,trivial⟩)
end
end Go.Vs.F
