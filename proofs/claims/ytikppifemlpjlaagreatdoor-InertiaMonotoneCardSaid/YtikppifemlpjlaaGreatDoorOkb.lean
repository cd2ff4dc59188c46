/-The plain functions are what the code does (by program:gen.py). -/
import Derived.Test.YtikppifemlpjlaaGreatDoorOka
set_option linter.unusedVariables false
set_option maxRecDepth 100000
namespace Go.Vs.F
open Go.Proofs
open Tryz
section
variable (m:Nat)
def g90H:Hints:=⟨[J [0,1],J' [(0,6)] [0,1,5],J' [(0,1)] [1,5,11,12,13],J [1,5,11,12,13,14],J [1,5,6,7,11,12,13],J [1,5,6,7,8,11,12,13],J' [(0,1)] [1,5,6,8,11,12,13,18,19,20],J [1,5,6,8,11,12,13,18,19,20,21],J [1,5,6,8,10,11,12,13,18,19,20],J' [(0,1)] [1,5,6,8,11,12,13,18,19,20],J' [(1,1)] [1,5,6,8,11,12,13,18,19,20],J [1,5,6,8,11,12,13,33],J' [(0,1),(2,1)] [1,5,8,11,12,13],J' [(0,1),(1,1),(2,6),(3,6)] [1,5,11,12,13],J' [(1,1)] [1,5,11,12,13],J' [(0,1)] [4]],[(0,[1,5,11,12,13]),(2,[1,5,6,8,11,12,13,18,19,20])],[(0,[5]),(1,[1,5,11,12,13]),(2,[1,5,6,8,11,12,13]),(3,[1,5,6,8,11,12,13,18,19,20])],[4],[],[[false]]⟩
def g90T:FunT:=⟨90,[.a (.c (.imm (.sl false (.pr .bool (.sl false (.int .u32)))))),.a (.c (.imm (.pr .bool (.sl false (.int .u32)))))],.a (.c (.imm (.sl false (.pr .bool (.sl false (.int .u32)))))),[sD,sD],fun x=>g90 m x.1 x.2.1⟩
noncomputable def g90C:Code:=codeOf f90
noncomputable def g90B0:Code:=qo g90C 0 0
noncomputable def g90B2:Code:=qo g90B0 0 0
theorem g90K:FL [g95T m]:=AllF.mem ⟨g95ok m,trivial⟩
def g90L1X:LT:=⟨2,[(1,.a (.c (.imm (.pr .bool (.sl false (.int .u32)))))),(5,.a (.c (.dp 0 (.pr .bool (.sl false (.int .u32)))))),(6,sI),(8,.a (.c (.nm 1 (.pr .bool (.sl false (.int .u32)))))),(11,.a (.c (.imm (.sl false (.pr .bool (.sl false (.int .u32))))))),(12,sI),(13,sI),(18,.a (.c (.imm (.pr .bool (.sl false (.int .u32)))))),(19,sI),(20,sI)],[(.exit 2,[(1,.a (.c (.imm (.pr .bool (.sl false (.int .u32)))))),(5,.a (.c (.dp 0 (.pr .bool (.sl false (.int .u32)))))),(6,sI),(8,.a (.c (.nm 1 (.pr .bool (.sl false (.int .u32)))))),(11,.a (.c (.imm (.sl false (.pr .bool (.sl false (.int .u32))))))),(12,sI),(13,sI)])],fun n x=>g90L1 m n x.1 x.2.1 x.2.2.1 x.2.2.2.1 x.2.2.2.2.1 x.2.2.2.2.2.1 x.2.2.2.2.2.2.1 x.2.2.2.2.2.2.2.1 x.2.2.2.2.2.2.2.2.1 x.2.2.2.2.2.2.2.2.2.1⟩
theorem g90L1ok {E} (hE:EO E 48 g90H) (n):LO E g90B2 ((g90L1X m).at n):=lk hE (g90K m) (g90L1X m) n
def g90L0X:LT:=⟨0,[(1,.a (.c (.imm (.pr .bool (.sl false (.int .u32)))))),(5,.a (.c (.dp 0 (.pr .bool (.sl false (.int .u32)))))),(11,.a (.c (.imm (.sl false (.pr .bool (.sl false (.int .u32))))))),(12,sI),(13,sI)],[(.exit 0,[(5,.a (.c (.dp 0 (.pr .bool (.sl false (.int .u32))))))])],fun n x=>g90L0 m n x.1 x.2.1 x.2.2.1 x.2.2.2.1 x.2.2.2.2.1⟩
theorem g90L0ok {E} (hE:EO E 48 g90H) (n):LO E g90B0 ((g90L0X m).at n):=
 lok hmix htt hE (g90K m) (L:=[(g90L1X m).at m]) (g90L0X m) (l:=[(2,g90B2)]) kR (fun _ _=>⟨qj ⟨yb (g90L1ok m hE m),trivial⟩,trivial⟩) (fun n x=>kR) (fun _=>kR) n
theorem g90ok:FO (g90T m):=f1' g90H (g90T m) func90 (g90K m) fun _ h=>g90L0ok m h m
def g200H:Hints:=⟨[J [0,1],J' [(3,1)] [0,1,19],J [4],J [0,1,5],J' [(0,1)] [1,5,26,27,28],J [1,5,26,27,28,29],J [1,5,6,7,26,27,28],J [1,5,6,7,8,26,27,28],J [1,5,6,7,8,26,27,28,33,34,35],J [1,5,6,7,8,26,27,28,33,34,35,36],J [1,5,6,7,8,9,10,26,27,28,33,34,35],J' [(2,1),(13,1)] [1,5,6,7,9,11,26,27,28,33,34,35],J' [(2,1)] [1,5,6,7,11,26,27,28,33,34,35],J' [(0,1)] [1,5,6,7,8,26,27,28,33,34,35],J' [(1,1)] [1,5,6,7,8,26,27,28,33,34,35],J' [(1,1),(5,1)] [1,5,26,27,28],J' [(1,1)] [1,5,26,27,28],J' [(0,1)] [4]],[(0,[1,5,26,27,28]),(2,[1,5,6,7,8,26,27,28,33,34,35])],[(0,[5]),(1,[1,5,26,27,28]),(2,[1,5,6,8,26,27,28]),(3,[1,5,6,7,8,26,27,28,33,34,35])],[4],[],[[false]]⟩
def g200T:FunT:=⟨200,[.a (.c (.imm (.int .u32))),.a (.c (.imm (.int .u32)))],.a (.c (.imm (.int .u32))),[sD,sD],fun x=>g200 m x.1 x.2.1⟩
noncomputable def g200C:Code:=codeOf f200
noncomputable def g200B0:Code:=qo g200C 0 0
noncomputable def g200B2:Code:=qo g200B0 0 0
theorem g200K:FL [g140T m]:=AllF.mem ⟨g140ok m,trivial⟩
def g200L1X:LT:=⟨2,[(1,.a (.c (.imm (.int .u32)))),(5,.a (.c (.nm 0 (.int .u32)))),(6,sI),(7,.a (.c (.int .u32))),(8,sU),(26,.a (.c (.imm (.int .u32)))),(27,sI),(28,sI),(33,.a (.c (.imm (.int .u32)))),(34,sI),(35,sI)],[(.exit 2,[(1,.a (.c (.imm (.int .u32)))),(5,.a (.c (.nm 0 (.int .u32)))),(6,sI),(8,sU),(26,.a (.c (.imm (.int .u32)))),(27,sI),(28,sI)])],fun n x=>g200L1 m n x.1 x.2.1 x.2.2.1 x.2.2.2.1 x.2.2.2.2.1 x.2.2.2.2.2.1 x.2.2.2.2.2.2.1 x.2.2.2.2.2.2.2.1 x.2.2.2.2.2.2.2.2.1 x.2.2.2.2.2.2.2.2.2.1 x.2.2.2.2.2.2.2.2.2.2.1⟩
theorem g200L1ok {E} (hE:EO E 77 g200H) (n):LO E g200B2 ((g200L1X m).at n):=lk hE (g200K m) (g200L1X m) n
def g200L0X:LT:=⟨0,[(1,.a (.c (.imm (.int .u32)))),(5,.a (.c (.nm 0 (.int .u32)))),(26,.a (.c (.imm (.int .u32)))),(27,sI),(28,sI)],[(.exit 0,[(5,.a (.c (.nm 0 (.int .u32))))])],fun n x=>g200L0 m n x.1 x.2.1 x.2.2.1 x.2.2.2.1 x.2.2.2.2.1⟩
theorem g200L0ok {E} (hE:EO E 77 g200H) (n):LO E g200B0 ((g200L0X m).at n):=
 lok hmix htt hE (g200K m) (L:=[(g200L1X m).at m]) (g200L0X m) (l:=[(2,g200B2)]) kR (fun _ _=>⟨qj ⟨yb (g200L1ok m hE m),trivial⟩,trivial⟩) (fun n x=>kR) (fun _=>kR) n
theorem g200ok:FO (g200T m):=f1' g200H (g200T m) func200 (g200K m) fun _ h=>g200L0ok m h m
def g180H:Hints:=⟨[J [2,3,4],J [4]],[],[],[4],[],[[false,false]]⟩
def g180T:FunT:=⟨180,[.a (.agg [.bool,(.imm (.int .u32))]),.a (.agg [.bool,(.imm (.int .u32))])],.a (.agg [.bool,(.imm (.int .u32))]),[sD,sD],fun x=>g180 m x.1.1 x.1.2.1 x.2.1.1 x.2.1.2.1⟩
theorem g180ok:FO (g180T m):=fk g180H (g180T m) func180 (AllF.mem (l:=[g140T m,g200T m,g146T m]) ⟨g140ok m,g200ok m,g146ok m,trivial⟩)
def g142H:Hints:=⟨[J [0,1],J' [(0,6)] [0,1,5],J' [(0,1)] [1,5,13,14,15],J [1,5,13,14,15,16],J [1,5,7,13,14,15],J [1,5,7,8,13,14,15],J [1,5,7,8,13,14,15,20,21],J [1,5,7,8,13,14,15,20,21,22],J [1,5,7,8,9,13,14,15,20,21],J' [(0,2)] [1,5,7,8,9,10,13,14,15,20,21],J [1,5,7,8,9,10,13,14,15,20,21,24,25,26],J [1,5,7,8,9,10,13,14,15,20,21,24,25,26,27],J [1,5,7,8,9,10,11,12,13,14,15,20,21,24,25,26],J' [(0,2),(3,1)] [1,5,7,8,9,10,13,14,15,20,21,24,25,26],J' [(1,1)] [1,5,7,8,9,10,13,14,15,20,21,24,25,26],J' [(0,1)] [1,5,7,8,13,14,15,20,21],J' [(1,1)] [1,5,7,8,13,14,15,20,21],J' [(0,1),(1,1),(2,6),(3,6)] [1,5,13,14,15],J' [(1,1)] [1,5,13,14,15],J' [(0,1)] [4]],[(0,[1,5,13,14,15]),(2,[1,5,7,8,13,14,15,20,21]),(4,[1,5,7,8,9,10,13,14,15,20,21,24,25,26])],[(0,[5]),(1,[1,5,13,14,15]),(2,[1,5,8,13,14,15]),(3,[1,5,7,8,13,14,15,20,21]),(4,[1,5,7,8,10,13,14,15,20,21]),(5,[1,5,7,8,9,10,13,14,15,20,21,24,25,26])],[4],[],[[true]]⟩
def g142T:FunT:=⟨142,[.a (.c (.imm (.sl false (.pr .bool (.sl false (.int .u32)))))),.a (.c (.imm (.sl false (.pr .bool (.sl false (.int .u32))))))],.a (.c (.dp 0 (.pr .bool (.sl false (.int .u32))))),[sD,sD],fun x=>g142 m x.1 x.2.1⟩
noncomputable def g142C:Code:=codeOf f142
noncomputable def g142B0:Code:=qo g142C 0 0
noncomputable def g142B2:Code:=qo g142B0 0 0
noncomputable def g142B4:Code:=qo g142B2 2 0
theorem g142K:FL [g180T m,g141T m]:=AllF.mem ⟨g180ok m,g141ok m,trivial⟩
def g142L2X:LT:=⟨4,[(1,.a (.c (.imm (.sl false (.pr .bool (.sl false (.int .u32))))))),(5,.a (.c (.dp 0 (.pr .bool (.sl false (.int .u32)))))),(7,.a (.c (.imm (.pr .bool (.sl false (.int .u32)))))),(8,.a (.c (.nm 1 (.pr .bool (.sl false (.int .u32)))))),(9,sI),(10,sX 2 [.bool,.imm (.int .u32)]),(13,.a (.c (.imm (.sl false (.pr .bool (.sl false (.int .u32))))))),(14,sI),(15,sI),(20,sI),(21,sI),(24,.a (.c (.imm (.pr .bool (.sl false (.int .u32)))))),(25,sI),(26,sI)],[(.exit 4,[(1,.a (.c (.imm (.sl false (.pr .bool (.sl false (.int .u32))))))),(5,.a (.c (.dp 0 (.pr .bool (.sl false (.int .u32)))))),(7,.a (.c (.imm (.pr .bool (.sl false (.int .u32)))))),(8,.a (.c (.nm 1 (.pr .bool (.sl false (.int .u32)))))),(10,sX 2 [.bool,.imm (.int .u32)]),(13,.a (.c (.imm (.sl false (.pr .bool (.sl false (.int .u32))))))),(14,sI),(15,sI),(20,sI),(21,sI)])],fun n x=>g142L2 m n x.1 x.2.1 x.2.2.1 x.2.2.2.1 x.2.2.2.2.1 x.2.2.2.2.2.1.1 x.2.2.2.2.2.1.2.1 x.2.2.2.2.2.2.1 x.2.2.2.2.2.2.2.1 x.2.2.2.2.2.2.2.2.1 x.2.2.2.2.2.2.2.2.2.1 x.2.2.2.2.2.2.2.2.2.2.1 x.2.2.2.2.2.2.2.2.2.2.2.1 x.2.2.2.2.2.2.2.2.2.2.2.2.1 x.2.2.2.2.2.2.2.2.2.2.2.2.2.1⟩
theorem g142L2ok {E} (hE:EO E 54 g142H) (n):LO E g142B4 ((g142L2X m).at n):=lk hE (g142K m) (g142L2X m) n
def g142L1X:LT:=⟨2,[(1,.a (.c (.imm (.sl false (.pr .bool (.sl false (.int .u32))))))),(5,.a (.c (.dp 0 (.pr .bool (.sl false (.int .u32)))))),(7,.a (.c (.imm (.pr .bool (.sl false (.int .u32)))))),(8,.a (.c (.nm 1 (.pr .bool (.sl false (.int .u32)))))),(13,.a (.c (.imm (.sl false (.pr .bool (.sl false (.int .u32))))))),(14,sI),(15,sI),(20,sI),(21,sI)],[(.exit 2,[(1,.a (.c (.imm (.sl false (.pr .bool (.sl false (.int .u32))))))),(5,.a (.c (.dp 0 (.pr .bool (.sl false (.int .u32)))))),(8,.a (.c (.nm 1 (.pr .bool (.sl false (.int .u32)))))),(13,.a (.c (.imm (.sl false (.pr .bool (.sl false (.int .u32))))))),(14,sI),(15,sI)])],fun n x=>g142L1 m n x.1 x.2.1 x.2.2.1 x.2.2.2.1 x.2.2.2.2.1 x.2.2.2.2.2.1 x.2.2.2.2.2.2.1 x.2.2.2.2.2.2.2.1 x.2.2.2.2.2.2.2.2.1⟩
theorem g142L1ok {E} (hE:EO E 54 g142H) (n):LO E g142B2 ((g142L1X m).at n):=
 lok hmix htt hE (g142K m) (L:=[(g142L2X m).at m]) (g142L1X m) (l:=[(4,g142B4)]) kR (fun _ _=>⟨qj ⟨yb (g142L2ok m hE m),trivial⟩,trivial⟩) (fun n x=>kR) (fun _=>kR) n
def g142L0X:LT:=⟨0,[(1,.a (.c (.imm (.sl false (.pr .bool (.sl false (.int .u32))))))),(5,.a (.c (.dp 0 (.pr .bool (.sl false (.int .u32)))))),(13,.a (.c (.imm (.sl false (.pr .bool (.sl false (.int .u32))))))),(14,sI),(15,sI)],[(.exit 0,[(5,.a (.c (.dp 0 (.pr .bool (.sl false (.int .u32))))))])],fun n x=>g142L0 m n x.1 x.2.1 x.2.2.1 x.2.2.2.1 x.2.2.2.2.1⟩
theorem g142L0ok {E} (hE:EO E 54 g142H) (n):LO E g142B0 ((g142L0X m).at n):=
 lok hmix htt hE (g142K m) (L:=[(g142L1X m).at m]) (g142L0X m) (l:=[(2,g142B2)]) kR (fun _ _=>⟨qj ⟨yb (g142L1ok m hE m),trivial⟩,trivial⟩) (fun n x=>kR) (fun _=>kR) n
theorem g142ok:FO (g142T m):=f1' g142H (g142T m) func142 (g142K m) fun _ h=>g142L0ok m h m
def g207H:Hints:=⟨[J [0,1],J [0,1,6],J [0,1,6,7],J [0,1,6,7,8],J [0,1,6,7,8,17],J' [(0,1)] [0,1,6,7,8],J' [(0,1)] [0,1,6,8,9],J [0,1,6,8,9],J' [(0,1)] [0,1,6,7,8],J' [(0,1),(2,1)] [4,5]],[(0,[0,1,6,7,8])],[(0,[6,7]),(1,[0,1,6,7,8])],[4,5],[],[[false],[false]]⟩
def g207T:FunT:=⟨207,[.a (.c (.imm (.int .u32))),.a (.c (.int .u32))],.tup [(.c (.imm (.int .u32))),(.c (.int .u32))],[sD,sD],fun x=>g207 m x.1 x.2.1⟩
noncomputable def g207C:Code:=codeOf f207
noncomputable def g207B0:Code:=qo g207C 0 0
theorem g207K:FL [g140T m]:=AllF.mem ⟨g140ok m,trivial⟩
def g207L0X:LT:=⟨0,[(0,.a (.c (.imm (.int .u32)))),(1,.a (.c (.int .u32))),(6,.a (.c (.nm 0 (.int .u32)))),(7,sU),(8,sI)],[(.exit 0,[(6,.a (.c (.nm 0 (.int .u32)))),(7,sU)])],fun n x=>g207L0 m n x.1 x.2.1 x.2.2.1 x.2.2.2.1 x.2.2.2.2.1⟩
theorem g207L0ok {E} (hE:EO E 44 g207H) (n):LO E g207B0 ((g207L0X m).at n):=lk hE (g207K m) (g207L0X m) n
theorem g207ok:FO (g207T m):=f1' g207H (g207T m) func207 (g207K m) fun _ h=>g207L0ok m h m
def g208H:Hints:=⟨[J [0],J' [(0,1)] [2]],[],[],[2],[],[[false]]⟩
def g208T:FunT:=⟨208,[.a (.c (.int .u32))],sI,[sD],fun x=>g208 m x.1⟩
theorem g208ok:FO (g208T m):=fk g208H (g208T m) func208 (AllF.mem (l:=[g170T m]) ⟨g170ok m,trivial⟩)
def g201H:Hints:=⟨[J [0,1],J [0,1,16],J' [(0,1)] [4,5],J [0,1,21],J' [(0,1),(1,1),(5,1)] [6,7],J' [(0,1),(1,1)] [4,5],J [0,1,8],J' [(0,1)] [0,8,9],J [0,8,9,10],J' [(1,1)] [8,9,10],J [8,9,10,11],J [4,8,9,10,11],J [4,8,9,10,11,12],J [4,8,9,10,11,12,64],J' [(0,1)] [4,8,9,10,11,12],J [4,8,9,10,11,12],J' [(0,1),(1,1),(4,1),(6,1)] [4,5],J' [(0,1),(2,1)] [4,5]],[(0,[4,8,9,10,11,12])],[(0,[4,8,10,11]),(1,[4,8,9,10,11,12])],[4,5],[],[[false],[false]]⟩
def g201T:FunT:=⟨201,[.a (.c (.imm (.int .u32))),.a (.c (.imm (.int .u32)))],.tup [(.c (.imm (.int .u32))),(.c (.imm (.int .u32)))],[sD,sD],fun x=>g201 m x.1 x.2.1⟩
noncomputable def g201C:Code:=codeOf f201
noncomputable def g201B0:Code:=qo g201C 0 0
theorem g201ok:FO (g201T m):=
 fok hmix htt (H:=g201H) (g201T m) func201 kR (AllF.mem (l:=[g139T m,g147T m,g207T m,g140T m,g208T m,g182T m]) ⟨g139ok m,g147ok m,g207ok m,g140ok m,g208ok m,g182ok m,trivial⟩) (L:=[]) (l:=[(0,g201B0)]) kR (fun _ hE _ _=>⟨qj trivial,trivial⟩) (fun x=>kR)
def g181H:Hints:=⟨[J [2,3,4,5],J [2,3,4,5,7],J [2,3,4,5,7,15],J [4,5,6],J' [(5,1)] [2,3,4,5,7,8,9],J' [(2,1)] [2,3,4,5,7,8,9,32],J' [(0,1),(3,1),(4,1)] [2,3,4,5,8,9],J' [(5,1),(7,1)] [4,5,6]],[],[],[4,5,6],[],[[false,false],[false,false],[false]]⟩
def g181T:FunT:=⟨181,[.a (.agg [.bool,(.imm (.int .u32))]),.a (.agg [.bool,(.imm (.int .u32))])],.tup [(.agg [.bool,(.imm (.int .u32))]),(.agg [.bool,(.imm (.int .u32))]),(.c (.int .i64))],[sD,sD],fun x=>g181 m x.1.1 x.1.2.1 x.2.1.1 x.2.1.2.1⟩
theorem g181ok:FO (g181T m):=fk g181H (g181T m) func181 (AllF.mem (l:=[g140T m,g201T m,g178T m,g179T m,g146T m]) ⟨g140ok m,g201ok m,g178ok m,g179ok m,g146ok m,trivial⟩)
def g143H:Hints:=⟨[J [2,3,4],J' [(3,1)] [4,6,7,8],J' [(2,1)] [4,6,8,23],J [4,5],J' [(1,1)] [4,5]],[],[],[4,5],[],[[false,false],[false]]⟩
def g143T:FunT:=⟨143,[.a (.agg [.bool,(.imm (.int .u32))]),.a (.agg [.bool,(.imm (.int .u32))])],.tup [(.agg [.bool,(.imm (.int .u32))]),(.c (.int .i64))],[sD,sD],fun x=>g143 m x.1.1 x.1.2.1 x.2.1.1 x.2.1.2.1⟩
theorem g143ok:FO (g143T m):=fk g143H (g143T m) func143 (AllF.mem (l:=[g181T m]) ⟨g181ok m,trivial⟩)
def g89H:Hints:=⟨[J [0],J [0,3],J [0,3,4],J [0,3,4],J' [(1,4)] [0,3,4,5],J [0,3,4,5,26,27],J [0,3,4,5,26,27,28],J [0,3,4,5,6,26,27],J' [(1,1),(5,4)] [0,3,4,5,26,27],J' [(1,1)] [0,3,4,5,26,27],J [0,3,4,5,7],J [0,3,4,5,7,38],J' [(0,1)] [0,3,4,5,7],J [0,3,4,5,7,42,43],J [0,3,4,5,7,42,43,44],J [0,3,4,5,7,8,42,43],J [0,3,4,5,7,42,43],J' [(1,1)] [0,3,4,5,7,42,43],J' [(1,1)] [0,3,4,7,9],J' [(0,2)] [0,3,4,7,9,10],J [0,3,4,7,9,10,72,73],J [0,3,4,7,9,10,72,73,74],J [0,3,4,7,9,10,11,72,73],J' [(0,2)] [0,3,4,7,9,10,72,73],J' [(1,1)] [0,3,4,7,9,10,72,73],J' [(4,1)] [0,3,4,7,9,12],J' [(6,1)] [0,3,4,5,7],J' [(0,1)] [2]],[(0,[0,3,4,5,26,27]),(2,[0,3,4,5,7]),(4,[0,3,4,5,7,42,43]),(6,[0,3,4,7,9,10,72,73])],[(0,[0,3,4,5]),(1,[0,3,4,5,26,27]),(2,[4]),(3,[0,3,4,5,7]),(4,[0,3,4,5,7]),(5,[0,3,4,5,7,42,43]),(6,[0,3,4,7,9,10]),(7,[0,3,4,7,9,10,72,73])],[2],[],[[true]]⟩
def g89T:FunT:=⟨89,[.a (.c (.imm (.sl false (.pr .bool (.sl false (.int .u32))))))],.a (.c (.nm 0 (.pr .bool (.sl false (.int .u32))))),[sD],fun x=>g89 m x.1⟩
noncomputable def g89C:Code:=codeOf f89
noncomputable def g89B0:Code:=qo g89C 0 0
noncomputable def g89B2:Code:=qo g89C 0 1
noncomputable def g89B4:Code:=qo g89B2 2 0
noncomputable def g89B6:Code:=qo g89B2 2 1
theorem g89K:FL [g109T m,g141T m,g142T m,g143T m,g111T m]:=AllF.mem ⟨g109ok m,g141ok m,g142ok m,g143ok m,g111ok m,trivial⟩
def g89L3X:LT:=⟨6,[(0,.a (.c (.imm (.sl false (.pr .bool (.sl false (.int .u32))))))),(3,sI),(4,.a (.c (.nm 0 (.pr .bool (.sl false (.int .u32)))))),(7,sI),(9,.a (.c (.dp 1 (.pr .bool (.sl false (.int .u32)))))),(10,sX 2 [.bool,.imm (.int .u32)]),(72,sI),(73,sI)],[(.exit 6,[(0,.a (.c (.imm (.sl false (.pr .bool (.sl false (.int .u32))))))),(3,sI),(4,.a (.c (.nm 0 (.pr .bool (.sl false (.int .u32)))))),(7,sI),(9,.a (.c (.dp 1 (.pr .bool (.sl false (.int .u32)))))),(10,sX 2 [.bool,.imm (.int .u32)])])],fun n x=>g89L3 m n x.1 x.2.1 x.2.2.1 x.2.2.2.1 x.2.2.2.2.1 x.2.2.2.2.2.1.1 x.2.2.2.2.2.1.2.1 x.2.2.2.2.2.2.1 x.2.2.2.2.2.2.2.1⟩
theorem g89L3ok {E} (hE:EO E 102 g89H) (n):LO E g89B6 ((g89L3X m).at n):=lk hE (g89K m) (g89L3X m) n
def g89L2X:LT:=⟨4,[(0,.a (.c (.imm (.sl false (.pr .bool (.sl false (.int .u32))))))),(3,sI),(4,.a (.c (.nm 0 (.pr .bool (.sl false (.int .u32)))))),(5,.a (.c (.dp 1 (.pr .bool (.sl false (.int .u32)))))),(7,sI),(42,sI),(43,sI)],[(.exit 4,[(0,.a (.c (.imm (.sl false (.pr .bool (.sl false (.int .u32))))))),(3,sI),(4,.a (.c (.nm 0 (.pr .bool (.sl false (.int .u32)))))),(5,.a (.c (.dp 1 (.pr .bool (.sl false (.int .u32)))))),(7,sI)])],fun n x=>g89L2 m n x.1 x.2.1 x.2.2.1 x.2.2.2.1 x.2.2.2.2.1 x.2.2.2.2.2.1 x.2.2.2.2.2.2.1⟩
theorem g89L2ok {E} (hE:EO E 102 g89H) (n):LO E g89B4 ((g89L2X m).at n):=lk hE (g89K m) (g89L2X m) n
def g89L1X:LT:=⟨2,[(0,.a (.c (.imm (.sl false (.pr .bool (.sl false (.int .u32))))))),(3,sI),(4,.a (.c (.nm 0 (.pr .bool (.sl false (.int .u32)))))),(5,.a (.c (.dp 1 (.pr .bool (.sl false (.int .u32)))))),(7,sI)],[(.exit 2,[(4,.a (.c (.nm 0 (.pr .bool (.sl false (.int .u32))))))])],fun n x=>g89L1 m n x.1 x.2.1 x.2.2.1 x.2.2.2.1 x.2.2.2.2.1⟩
theorem g89L1ok {E} (hE:EO E 102 g89H) (n):LO E g89B2 ((g89L1X m).at n):=
 lok hmix htt hE (g89K m) (L:=[(g89L2X m).at m,(g89L3X m).at m]) (g89L1X m) (l:=[(4,g89B4),(6,g89B6)]) kR (fun _ _=>⟨qj ⟨yb (g89L2ok m hE m),nb rfl,trivial⟩,qj ⟨nb rfl,yb (g89L3ok m hE m),trivial⟩,trivial⟩) (fun n x=>kR) (fun _=>kR) n
def g89L0X:LT:=⟨0,[(0,.a (.c (.imm (.sl false (.pr .bool (.sl false (.int .u32))))))),(3,sI),(4,.a (.c (.nm 0 (.pr .bool (.sl false (.int .u32)))))),(5,.a (.c (.dp 1 (.pr .bool (.sl false (.int .u32)))))),(26,sI),(27,sI)],[(.exit 0,[(0,.a (.c (.imm (.sl false (.pr .bool (.sl false (.int .u32))))))),(3,sI),(4,.a (.c (.nm 0 (.pr .bool (.sl false (.int .u32)))))),(5,.a (.c (.dp 1 (.pr .bool (.sl false (.int .u32))))))])],fun n x=>g89L0 m n x.1 x.2.1 x.2.2.1 x.2.2.2.1 x.2.2.2.2.1 x.2.2.2.2.2.1⟩
theorem g89L0ok {E} (hE:EO E 102 g89H) (n):LO E g89B0 ((g89L0X m).at n):=lk hE (g89K m) (g89L0X m) n
theorem g89ok:FO (g89T m):=
 fok hmix htt (H:=g89H) (g89T m) func89 kR (g89K m) (L:=[(g89L0X m).at m,(g89L1X m).at m]) (l:=[(0,g89B0),(2,g89B2)]) kR (fun _ hE _ _=>⟨qj ⟨yb (g89L0ok m hE m),nb rfl,trivial⟩,qj ⟨nb rfl,yb (g89L1ok m hE m),trivial⟩,trivial⟩) (fun x=>kR)
def g51H:Hints:=⟨[J [0,3,4],J [0,3,4,5],J [0,3,4,5,18],J' [(0,1)] [2,3,4,5],J [0,3,4,20,21,22],J [0,3,4,20,21,22,23],J [0,3,4,6,7,20,21,22],J' [(0,1)] [0,3,4,6,20,21,22,27,28,29],J [0,3,4,6,20,21,22,27,28,29,30],J [0,3,4,6,8,9,20,21,22,27,28,29],J' [(2,1)] [0,3,4,6,20,21,22,27,28,29,43],J [2,3,4,5],J' [(1,1)] [0,3,4,6,20,21,22,27,28,29],J' [(1,1)] [0,3,4,20,21,22],J [0,3,4,10],J' [(4,1)] [0,3,4,10,60],J' [(0,1)] [0,3,4,10],J [0,3,4,10,11],J' [(0,1)] [0,3,4,11,63,64,65],J [0,3,4,11,63,64,65,66],J [0,3,4,11,13,63,64,65],J [0,3,4,11,14,63,64,65],J [0,3,4,11,14,63,64,65,74],J' [(0,1)] [0,3,4,11,14,63,64,65],J [0,3,4,11,14,63,64,65,78],J' [(0,1)] [0,3,4,11,63,64,65],J' [(1,1)] [0,3,4,11,63,64,65],J' [(0,1)] [2,3,4,5]],[(0,[0,3,4,20,21,22]),(2,[0,3,4,6,20,21,22,27,28,29]),(4,[0,3,4,10]),(6,[0,3,4,11,63,64,65])],[(0,[0,3,4]),(1,[0,3,4,20,21,22]),(2,[0,3,4,20,21,22]),(3,[0,3,4,6,20,21,22,27,28,29]),(4,[0,3,4,10]),(5,[0,3,4,10]),(6,[0,3,4]),(7,[0,3,4,11,63,64,65])],[2,3,4,5],[],[[false],[false],[false],[false]]⟩
def g51T:FunT:=⟨51,[.a (.c (.imm (.sl false (.pr .bool (.sl false (.int .u32))))))],.tup [(.c (.int .i64)),(.c (.int .i64)),(.c (.int .i64)),(.c (.int .i64))],[sD],fun x=>g51 m x.1⟩
noncomputable def g51C:Code:=codeOf f51
noncomputable def g51B0:Code:=qo g51C 0 0
noncomputable def g51B2:Code:=qo g51B0 0 0
noncomputable def g51B4:Code:=qo g51C 0 1
noncomputable def g51B6:Code:=qo g51C 0 2
theorem g51K:FL [g87T m,g88T m,g90T m,g89T m,g91T m]:=AllF.mem ⟨g87ok m,g88ok m,g90ok m,g89ok m,g91ok m,trivial⟩
def g51L3X:LT:=⟨6,[(0,.a (.c (.imm (.sl false (.pr .bool (.sl false (.int .u32))))))),(3,sI),(4,sI),(11,sI),(63,.a (.c (.nm 0 (.pr .bool (.sl false (.int .u32)))))),(64,sI),(65,sI)],[(.exit 6,[(0,.a (.c (.imm (.sl false (.pr .bool (.sl false (.int .u32))))))),(3,sI),(4,sI)])],fun n x=>g51L3 m n x.1 x.2.1 x.2.2.1 x.2.2.2.1 x.2.2.2.2.1 x.2.2.2.2.2.1 x.2.2.2.2.2.2.1⟩
theorem g51L3ok {E} (hE:EO E 89 g51H) (n):LO E g51B6 ((g51L3X m).at n):=lk hE (g51K m) (g51L3X m) n
def g51L2X:LT:=⟨4,[(0,.a (.c (.imm (.sl false (.pr .bool (.sl false (.int .u32))))))),(3,sI),(4,sI),(10,.a (.c (.nm 0 (.pr .bool (.sl false (.int .u32))))))],[(.exit 4,[(0,.a (.c (.imm (.sl false (.pr .bool (.sl false (.int .u32))))))),(3,sI),(4,sI),(10,.a (.c (.nm 0 (.pr .bool (.sl false (.int .u32))))))])],fun n x=>g51L2 m n x.1 x.2.1 x.2.2.1 x.2.2.2.1⟩
theorem g51L2ok {E} (hE:EO E 89 g51H) (n):LO E g51B4 ((g51L2X m).at n):=lk hE (g51K m) (g51L2X m) n
def g51L1X:LT:=⟨2,[(0,.a (.c (.imm (.sl false (.pr .bool (.sl false (.int .u32))))))),(3,sI),(4,sI),(6,sI),(20,.a (.c (.imm (.sl false (.pr .bool (.sl false (.int .u32))))))),(21,sI),(22,sI),(27,.a (.c (.imm (.pr .bool (.sl false (.int .u32)))))),(28,sI),(29,sI)],[(.ret,[(2,sI),(3,sI),(4,sI),(5,sI)]),(.exit 2,[(0,.a (.c (.imm (.sl false (.pr .bool (.sl false (.int .u32))))))),(3,sI),(4,sI),(20,.a (.c (.imm (.sl false (.pr .bool (.sl false (.int .u32))))))),(21,sI),(22,sI)])],fun n x=>g51L1 m n x.1 x.2.1 x.2.2.1 x.2.2.2.1 x.2.2.2.2.1 x.2.2.2.2.2.1 x.2.2.2.2.2.2.1 x.2.2.2.2.2.2.2.1 x.2.2.2.2.2.2.2.2.1 x.2.2.2.2.2.2.2.2.2.1⟩
theorem g51L1ok {E} (hE:EO E 89 g51H) (n):LO E g51B2 ((g51L1X m).at n):=lk hE (g51K m) (g51L1X m) n
def g51L0X:LT:=⟨0,[(0,.a (.c (.imm (.sl false (.pr .bool (.sl false (.int .u32))))))),(3,sI),(4,sI),(20,.a (.c (.imm (.sl false (.pr .bool (.sl false (.int .u32))))))),(21,sI),(22,sI)],[(.ret,[(2,sI),(3,sI),(4,sI),(5,sI)]),(.exit 0,[(0,.a (.c (.imm (.sl false (.pr .bool (.sl false (.int .u32))))))),(3,sI),(4,sI)])],fun n x=>g51L0 m n x.1 x.2.1 x.2.2.1 x.2.2.2.1 x.2.2.2.2.1 x.2.2.2.2.2.1⟩
theorem g51L0ok {E} (hE:EO E 89 g51H) (n):LO E g51B0 ((g51L0X m).at n):=
 lok hmix htt hE (g51K m) (L:=[(g51L1X m).at m]) (g51L0X m) (l:=[(2,g51B2)]) kR (fun _ _=>⟨qj ⟨yb (g51L1ok m hE m),trivial⟩,trivial⟩) (fun n x=>kR) (fun _=>kR) n
theorem g51ok:FO (g51T m):=
 fok hmix htt (H:=g51H) (g51T m) func51 kR (g51K m) (L:=[(g51L0X m).at m,(g51L2X m).at m,(g51L3X m).at m]) (l:=[(0,g51B0),(4,g51B4),(6,g51B6)]) kR (fun _ hE _ _=>⟨qj ⟨yb (g51L0ok m hE m),nb rfl,nb rfl,trivial⟩,qj ⟨nb rfl,yb (g51L2ok m hE m),nb rfl,trivial⟩,qj ⟨nb rfl,nb rfl,yb (g51L3ok m hE m),trivial⟩,trivial⟩) (fun x=>kR)
def g20H:Hints:=⟨[J [1,2,4],J [1,2,4,6],J [1,2,4,6,15],J' [(1,1)] [4,5],J' [(1,1),(5,1)] [4,7,8,9,10],J' [(0,1),(1,1),(2,1),(4,1)] [4,5]],[],[],[4,5],[],[[false,false,false],[false]]⟩
def g20T:FunT:=⟨20,[.a (.agg [(.int .i64),(.int .i64),(.imm (.int .i64)),(.imm (.int .i64)),(.imm (.int .u64))]),sU],.tup [(.agg [(.int .i64),(.int .i64),(.int .i64)]),(.c (.int .i64))],[sD,sD],fun x=>g20 m x.1.1 x.1.2.1 x.1.2.2.1 x.1.2.2.2.1 x.1.2.2.2.2.1 x.2.1⟩
theorem g20ok:FO (g20T m):=fk g20H (g20T m) func20 (AllF.mem (l:=[g33T m,g35T m,g52T m,g51T m]) ⟨g33ok m,g35ok m,g52ok m,g51ok m,trivial⟩)
def g63H:Hints:=⟨[J [1],J [1,3],J [2],J [8],J [2],J [2]],[],[(0,[])],[2],[],[[false]]⟩
def g63T:FunT:=⟨63,[.a (.agg [.bool,.bool,(.imm (.int .u32)),(.int .i64),.bool,.bool,(.imm (.int .u32)),(.int .i64)])],sI,[sD],fun x=>g63 m x.1.1 x.1.2.1 x.1.2.2.1 x.1.2.2.2.1 x.1.2.2.2.2.1 x.1.2.2.2.2.2.1 x.1.2.2.2.2.2.2.1 x.1.2.2.2.2.2.2.2.1⟩
theorem g63ok:FO (g63T m):=fk g63H (g63T m) func63 (AllF.mem (l:=[g92T m]) ⟨g92ok m,trivial⟩)
def g187H:Hints:=⟨[J [1,2],J [2]],[],[],[2],[],[[false,false]]⟩
def g187T:FunT:=⟨187,[.a (.agg [.bool,(.imm (.int .u32))])],.a (.agg [.bool,(.imm (.int .u32))]),[sD],fun x=>g187 m x.1.1 x.1.2.1⟩
theorem g187ok:FO (g187T m):=fk g187H (g187T m) func187 (AllF.mem (l:=[g147T m,g146T m]) ⟨g147ok m,g146ok m,trivial⟩)
def g156H:Hints:=⟨[J [1,2],J' [(2,1)] [1,2,3],J' [(0,1)] [1,2,9],J [1,2],J [2]],[],[],[2],[],[[false,false,false,false]]⟩
def g156T:FunT:=⟨156,[.a (.agg [.bool,.bool,(.imm (.int .u32)),(.int .i64)])],.a (.agg [.bool,.bool,(.imm (.int .u32)),(.int .i64)]),[sD],fun x=>g156 m x.1.1 x.1.2.1 x.1.2.2.1 x.1.2.2.2.1⟩
theorem g156ok:FO (g156T m):=fk g156H (g156T m) func156 (AllF.mem (l:=[g97T m,g187T m]) ⟨g97ok m,g187ok m,trivial⟩)
def g155H:Hints:=⟨[J [2,3],J' [(3,1)] [2,3,6],J' [(0,1)] [2,3,18],J [4,5],J' [(3,1)] [7,8],J [4,5]],[],[],[4,5],[],[[false],[false]]⟩
def g155T:FunT:=⟨155,[.a (.agg [.bool,.bool,(.imm (.int .u32)),(.int .i64)]),.a (.agg [.bool,.bool,(.imm (.int .u32)),(.int .i64)])],.tup [(.c (.int .i64)),(.c .bool)],[sD,sD],fun x=>g155 m x.1.1 x.1.2.1 x.1.2.2.1 x.1.2.2.2.1 x.2.1.1 x.2.1.2.1 x.2.1.2.2.1 x.2.1.2.2.2.1⟩
theorem g155ok:FO (g155T m):=fk g155H (g155T m) func155 (AllF.mem (l:=[g161T m,g162T m,g88T m]) ⟨g161ok m,g162ok m,g88ok m,trivial⟩)
def g104H:Hints:=⟨[J [2,3],J' [(3,1)] [5],J' [(0,1)] [4]],[],[],[4],[],[[false]]⟩
def g104T:FunT:=⟨104,[.a (.agg [.bool,.bool,(.imm (.int .u32)),(.int .i64)]),.a (.agg [.bool,.bool,(.imm (.int .u32)),(.int .i64)])],sB,[sD,sD],fun x=>g104 m x.1.1 x.1.2.1 x.1.2.2.1 x.1.2.2.2.1 x.2.1.1 x.2.1.2.1 x.2.1.2.2.1 x.2.1.2.2.2.1⟩
theorem g104ok:FO (g104T m):=fk g104H (g104T m) func104 (AllF.mem (l:=[g155T m]) ⟨g155ok m,trivial⟩)
def g105H:Hints:=⟨[J [1,2],J [2,3,4],J [2,3,4,13],J [2],J [2]],[],[],[2],[],[[false,false,false,false]]⟩
def g105T:FunT:=⟨105,[.a (.agg [.bool,.bool,(.imm (.int .u32)),(.int .i64),.bool,.bool,(.imm (.int .u32)),(.int .i64)])],.a (.agg [.bool,.bool,(.imm (.int .u32)),(.int .i64)]),[sD],fun x=>g105 m x.1.1 x.1.2.1 x.1.2.2.1 x.1.2.2.2.1 x.1.2.2.2.2.1 x.1.2.2.2.2.2.1 x.1.2.2.2.2.2.2.1 x.1.2.2.2.2.2.2.2.1⟩
theorem g105ok:FO (g105T m):=fk g105H (g105T m) func105 (AllF.mem (l:=[g156T m,g104T m]) ⟨g156ok m,g104ok m,trivial⟩)
def g62H:Hints:=⟨[J [0],J [0,3],J [0,3,9,10],J [0,3,9,10,11],J [0,3,4,9,10],J' [(8,1)] [0,3,4,9,10,34],J' [(2,1)] [0,3,4,9,10,61],J' [(0,1)] [0,3,9,10],J' [(1,1)] [0,3,9,10],J' [(0,1)] [0,2]],[(0,[0,3,9,10])],[(0,[0,3]),(1,[0,3,9,10])],[0,2],[0],[[false]]⟩
def g62T:FunT:=⟨62,[sX 0 [.dp 1 (.pr (.pr .bool (.pr (.pr .bool (.sl false (.int .u32))) (.int .i64))) (.pr .bool (.pr (.pr .bool (.sl false (.int .u32))) (.int .i64)))),.nm 2 .bool,iI]],sI,[sX 0 [.dp 1 (.pr (.pr .bool (.pr (.pr .bool (.sl false (.int .u32))) (.int .i64))) (.pr .bool (.pr (.pr .bool (.sl false (.int .u32))) (.int .i64)))),.nm 2 .bool,iI]],fun x=>g62 m x.1.1 x.1.2.1 x.1.2.2.1⟩
noncomputable def g62C:Code:=codeOf f62
noncomputable def g62B0:Code:=qo g62C 0 0
theorem g62K:FL [g63T m,g105T m,g104T m]:=AllF.mem ⟨g63ok m,g105ok m,g104ok m,trivial⟩
def g62L0X:LT:=⟨0,[(0,sX 0 [.dp 1 (.pr (.pr .bool (.pr (.pr .bool (.sl false (.int .u32))) (.int .i64))) (.pr .bool (.pr (.pr .bool (.sl false (.int .u32))) (.int .i64)))),.nm 2 .bool,iI]),(3,sI),(9,sI),(10,sI)],[(.exit 0,[(0,sX 0 [.dp 1 (.pr (.pr .bool (.pr (.pr .bool (.sl false (.int .u32))) (.int .i64))) (.pr .bool (.pr (.pr .bool (.sl false (.int .u32))) (.int .i64)))),.nm 2 .bool,iI]),(3,sI)])],fun n x=>g62L0 m n x.1.1 x.1.2.1 x.1.2.2.1 x.2.1 x.2.2.1 x.2.2.2.1⟩
theorem g62L0ok {E} (hE:EO E 65 g62H) (n):LO E g62B0 ((g62L0X m).at n):=lk hE (g62K m) (g62L0X m) n
theorem g62ok:FO (g62T m):=f1' g62H (g62T m) func62 (g62K m) fun _ h=>g62L0ok m h m
def g157H:Hints:=⟨[J [2,3,4],J' [(3,1)] [2,3,4,5],J' [(0,1)] [2,3,4,14],J [4],J [4]],[],[],[4],[],[[false,false,false,false]]⟩
def g157T:FunT:=⟨157,[.a (.agg [.bool,.bool,(.imm (.int .u32)),(.int .i64)]),.a (.agg [.bool,.bool,(.imm (.int .u32)),(.int .i64)])],.a (.agg [.bool,.bool,(.imm (.int .u32)),(.int .i64)]),[sD,sD],fun x=>g157 m x.1.1 x.1.2.1 x.1.2.2.1 x.1.2.2.2.1 x.2.1.1 x.2.1.2.1 x.2.1.2.2.1 x.2.1.2.2.2.1⟩
theorem g157ok:FO (g157T m):=fk g157H (g157T m) func157 (AllF.mem (l:=[g161T m,g145T m,g180T m,g112T m]) ⟨g161ok m,g145ok m,g180ok m,g112ok m,trivial⟩)
def g158H:Hints:=⟨[J [1],J' [(2,1)] [4],J' [(0,1)] [2]],[],[],[2],[],[[false]]⟩
def g158T:FunT:=⟨158,[.a (.agg [.bool,.bool,(.imm (.int .u32)),(.int .i64)])],sB,[sD],fun x=>g158 m x.1.1 x.1.2.1 x.1.2.2.1 x.1.2.2.2.1⟩
theorem g158ok:FO (g158T m):=fk g158H (g158T m) func158 (AllF.mem (l:=[g97T m]) ⟨g97ok m,trivial⟩)
def g106H:Hints:=⟨[J [2,3,4],J' [(0,2)] [2,3,4,6],J [4,6,29,30,31],J [4,6,29,30,31,32],J [4,6,7,8,29,30,31],J [4,6,7,8,29,30,31,38],J' [(0,1)] [4,5],J' [(2,1)] [4,6,7,8,29,30,31,47],J [4,6,7,8,29,30,31],J' [(0,1),(2,1)] [4,6,8,29,30,31,57],J [4,6,29,30,31],J' [(1,1)] [4,6,29,30,31],J [4,5]],[(0,[4,6,29,30,31])],[(0,[4,6]),(1,[4,6,29,30,31])],[4,5],[],[[false,false,false,false,false,false,false,false],[false]]⟩
def g106T:FunT:=⟨106,[.a (.agg [.bool,.bool,(.imm (.int .u32)),(.int .i64),.bool,.bool,(.imm (.int .u32)),(.int .i64)]),.a (.agg [.bool,.bool,(.imm (.int .u32)),(.int .i64),.bool,.bool,(.imm (.int .u32)),(.int .i64)])],.tup [(.agg [.bool,.bool,(.imm (.int .u32)),(.int .i64),.bool,.bool,(.imm (.int .u32)),(.int .i64)]),(.c .bool)],[sD,sD],fun x=>g106 m x.1.1 x.1.2.1 x.1.2.2.1 x.1.2.2.2.1 x.1.2.2.2.2.1 x.1.2.2.2.2.2.1 x.1.2.2.2.2.2.2.1 x.1.2.2.2.2.2.2.2.1 x.2.1.1 x.2.1.2.1 x.2.1.2.2.1 x.2.1.2.2.2.1 x.2.1.2.2.2.2.1 x.2.1.2.2.2.2.2.1 x.2.1.2.2.2.2.2.2.1 x.2.1.2.2.2.2.2.2.2.1⟩
noncomputable def g106C:Code:=codeOf f106
noncomputable def g106B0:Code:=qo g106C 0 0
theorem g106K:FL [g157T m,g158T m,g104T m]:=AllF.mem ⟨g157ok m,g158ok m,g104ok m,trivial⟩
def g106L0X:LT:=⟨0,[(4,sX 0 [.bool,.bool,.nm 1 (.int .u32),iI,.bool,.bool,.nm 2 (.int .u32),iI]),(6,sX 3 [.bool,.bool,.imm (.int .u32),iI,.bool,.bool,.imm (.int .u32),iI]),(29,.a (.c (.nm 4 (.pr .bool (.pr (.pr .bool (.sl false (.int .u32))) (.int .i64)))))),(30,sI),(31,sI)],[(.ret,[(4,sX 0 [.bool,.bool,.imm (.int .u32),iI,.bool,.bool,.imm (.int .u32),iI]),(5,sB)]),(.exit 0,[(4,sX 0 [.bool,.bool,.nm 1 (.int .u32),iI,.bool,.bool,.nm 2 (.int .u32),iI]),(6,sX 3 [.bool,.bool,.imm (.int .u32),iI,.bool,.bool,.imm (.int .u32),iI])])],fun n x=>g106L0 m n x.1.1 x.1.2.1 x.1.2.2.1 x.1.2.2.2.1 x.1.2.2.2.2.1 x.1.2.2.2.2.2.1 x.1.2.2.2.2.2.2.1 x.1.2.2.2.2.2.2.2.1 x.2.1.1 x.2.1.2.1 x.2.1.2.2.1 x.2.1.2.2.2.1 x.2.1.2.2.2.2.1 x.2.1.2.2.2.2.2.1 x.2.1.2.2.2.2.2.2.1 x.2.1.2.2.2.2.2.2.2.1 x.2.2.1 x.2.2.2.1 x.2.2.2.2.1⟩
theorem g106L0ok {E} (hE:EO E 62 g106H) (n):LO E g106B0 ((g106L0X m).at n):=lk hE (g106K m) (g106L0X m) n
theorem g106ok:FO (g106T m):=f1' g106H (g106T m) func106 (g106K m) fun _ h=>g106L0ok m h m
def g188H:Hints:=⟨[J [0],J' [(2,1)] [2]],[],[],[2],[],[[false]]⟩
def g188T:FunT:=⟨188,[sI],sB,[sD],fun x=>g188 m x.1⟩
theorem g188ok:FO (g188T m):=fk g188H (g188T m) func188 noF
def g190H:Hints:=⟨[J [2,3,4,6],J' [(0,1)] [3,4,6,7],J' [(9,1)] [3,4,6,7,8,9],J' [(10,1)] [6]],[],[],[6],[],[[false,false,false,false,false]]⟩
def g190T:FunT:=⟨190,[.a (.agg [.bool,.bool,(.imm (.int .u32)),(.int .i64)]),.a (.agg [.bool,.bool,(.imm (.int .u32)),(.int .i64)]),sI],.a (.agg [.bool,.bool,(.imm (.int .u32)),(.int .i64),.bool]),[sD,sD,sD],fun x=>g190 m x.1.1 x.1.2.1 x.1.2.2.1 x.1.2.2.2.1 x.2.1.1 x.2.1.2.1 x.2.1.2.2.1 x.2.1.2.2.2.1 x.2.2.1⟩
theorem g190ok:FO (g190T m):=fk g190H (g190T m) func190 (AllF.mem (l:=[g150T m,g187T m,g192T m,g181T m,g91T m]) ⟨g150ok m,g187ok m,g192ok m,g181ok m,g91ok m,trivial⟩)
def g204H:Hints:=⟨[J [1],J [2]],[],[],[2],[],[[false]]⟩
def g204T:FunT:=⟨204,[.a (.agg [.bool,.bool,(.imm (.int .u32)),(.int .i64),.bool])],sI,[sD],fun x=>g204 m x.1.1 x.1.2.1 x.1.2.2.1 x.1.2.2.2.1 x.1.2.2.2.2.1⟩
theorem g204ok:FO (g204T m):=fk g204H (g204T m) func204 (AllF.mem (l:=[g150T m]) ⟨g150ok m,trivial⟩)
def g213H:Hints:=⟨[J [2,3,4],J [2,3,4],J [4]],[],[],[4],[],[[false,false]]⟩
def g213T:FunT:=⟨213,[.a (.agg [.bool,(.imm (.int .u32))]),.a (.agg [.bool,(.imm (.int .u32))])],.a (.agg [.bool,(.imm (.int .u32))]),[sD,sD],fun x=>g213 m x.1.1 x.1.2.1 x.2.1.1 x.2.1.2.1⟩
theorem g213ok:FO (g213T m):=fk g213H (g213T m) func213 (AllF.mem (l:=[g141T m]) ⟨g141ok m,trivial⟩)
def g211H:Hints:=⟨[J [1,2,4],J [1,2,4,7],J' [(1,1)] [1,2,4,14],J [4,5,6],J [1,2,4],J [1,2,4,8],J' [(2,1)] [2,4,5,8],J' [(2,1)] [2,4,5,8,37],J [2,4,5,8],J' [(1,1),(5,1)] [4,5,6]],[],[],[4,5,6],[],[[false,false],[false],[false]]⟩
def g211T:FunT:=⟨211,[.a (.agg [.bool,.bool,(.imm (.int .u32)),(.int .i64),.bool]),sI],.tup [(.agg [.bool,(.imm (.int .u32))]),(.c (.int .i64)),(.c .bool)],[sD,sD],fun x=>g211 m x.1.1 x.1.2.1 x.1.2.2.1 x.1.2.2.2.1 x.1.2.2.2.2.1 x.2.1⟩
theorem g211ok:FO (g211T m):=fk g211H (g211T m) func211 (AllF.mem (l:=[g150T m,g151T m,g192T m,g213T m,g109T m,g88T m,g91T m]) ⟨g150ok m,g151ok m,g192ok m,g213ok m,g109ok m,g88ok m,g91ok m,trivial⟩)
def g205H:Hints:=⟨[J [1,2,3,6],J [1,2,3,6,7,8,9],J [1,2,3,6,7,8,9,16],J' [(3,1)] [2,3,6,7,8,9],J' [(1,1),(6,1)] [2,3,6,7,8,9],J [2,3,6,7,8,9,10],J' [(2,1),(5,1),(10,1)] [3,6,7,10],J' [(0,1)] [2,3,6,7,8,10,49],J [2,3,6,7,8,10,51],J [3,6,7,10],J [2,3,6,7,8,10,56],J [3,6,7,10],J' [(0,1)] [3,6,7,8,10,62],J' [(0,1)] [3,6,7,65],J [3,6,7],J [6,7,70],J [6,7],J [6]],[],[(0,[3,6,7,10])],[6],[],[[false,false]]⟩
def g205T:FunT:=⟨205,[.a (.agg [.bool,.bool,(.imm (.int .u32)),(.int .i64),.bool]),sI,sI],.a (.agg [.bool,(.imm (.int .u32))]),[sD,sD,sD],fun x=>g205 m x.1.1 x.1.2.1 x.1.2.2.1 x.1.2.2.2.1 x.1.2.2.2.2.1 x.2.1 x.2.2.1⟩
theorem g205ok:FO (g205T m):=fk g205H (g205T m) func205 (AllF.mem (l:=[g192T m,g111T m,g211T m,g109T m,g141T m,g91T m,g149T m]) ⟨g192ok m,g111ok m,g211ok m,g109ok m,g141ok m,g91ok m,g149ok m,trivial⟩)
def g189H:Hints:=⟨[J [1,2,3,6],J' [(3,1)] [2,3,6,7],J' [(2,1)] [6]],[],[],[6],[],[[false,false,false,false]]⟩
def g189T:FunT:=⟨189,[.a (.agg [.bool,.bool,(.imm (.int .u32)),(.int .i64),.bool]),sI,sI],.a (.agg [.bool,.bool,(.imm (.int .u32)),(.int .i64)]),[sD,sD,sD],fun x=>g189 m x.1.1 x.1.2.1 x.1.2.2.1 x.1.2.2.2.1 x.1.2.2.2.2.1 x.2.1 x.2.2.1⟩
theorem g189ok:FO (g189T m):=fk g189H (g189T m) func189 (AllF.mem (l:=[g204T m,g205T m,g112T m]) ⟨g204ok m,g205ok m,g112ok m,trivial⟩)
def g159H:Hints:=⟨[J [2,3,4,5,8],J' [(3,1)] [2,3,4,5,8,9],J' [(0,1),(2,1),(7,1)] [2,3,4,5,8,29],J [8],J [2,3,4,5,8,34],J [8],J' [(5,1)] [8]],[],[],[8],[],[[false,false,false,false]]⟩
def g159T:FunT:=⟨159,[.a (.agg [.bool,.bool,(.imm (.int .u32)),(.int .i64)]),.a (.agg [.bool,.bool,(.imm (.int .u32)),(.int .i64)]),sI,sI],.a (.agg [.bool,.bool,(.imm (.int .u32)),(.int .i64)]),[sD,sD,sD,sD],fun x=>g159 m x.1.1 x.1.2.1 x.1.2.2.1 x.1.2.2.2.1 x.2.1.1 x.2.1.2.1 x.2.1.2.2.1 x.2.1.2.2.2.1 x.2.2.1 x.2.2.2.1⟩
theorem g159ok:FO (g159T m):=fk g159H (g159T m) func159 (AllF.mem (l:=[g161T m,g145T m,g188T m,g91T m,g190T m,g189T m]) ⟨g161ok m,g145ok m,g188ok m,g91ok m,g190ok m,g189ok m,trivial⟩)
def g107H:Hints:=⟨[J [2,3,4,6],J' [(0,2)] [2,3,4,6,8],J [2,3,4,6,8,9],J [2,4,6,8,9,20,21,22],J [2,4,6,8,9,20,21,22,23],J' [(2,2)] [2,4,6,8,9,11,20,21,22],J [2,4,6,8,9,11,20,21,22,30,31,32],J [2,4,6,8,9,11,20,21,22,30,31,32,33],J [2,4,6,8,9,11,13,20,21,22,30,31,32],J [2,4,6,8,9,11,14,15,20,21,22,30,31,32],J' [(3,1)] [2,4,6,8,9,11,14,15,20,21,22,30,31,32,51],J' [(0,1)] [6,7],J' [(1,1)] [2,4,6,8,9,11,14,15,20,21,22,30,31,32,59],J [2,4,6,8,9,11,15,20,21,22,30,31,32],J' [(0,1),(1,1)] [2,4,6,8,11,15,20,21,22,30,31,32,68],J [2,4,6,8,11,20,21,22,30,31,32],J [2,4,6,8,9,11,20,21,22,30,31,32],J' [(1,1)] [2,4,6,8,9,11,20,21,22,30,31,32],J' [(1,1)] [2,4,6,8,9,20,21,22],J [6,7]],[(0,[2,4,6,8,9,20,21,22]),(2,[2,4,6,8,9,11,20,21,22,30,31,32])],[(0,[6,8]),(1,[2,4,6,8,9,20,21,22]),(2,[2,4,6,8,9,20,21,22]),(3,[2,4,6,8,9,11,20,21,22,30,31,32])],[6,7],[],[[false,false,false,false,false,false,false,false],[false]]⟩
def g107T:FunT:=⟨107,[.a (.agg [.bool,.bool,(.imm (.int .u32)),(.int .i64),.bool,.bool,(.imm (.int .u32)),(.int .i64)]),.a (.agg [.bool,.bool,(.imm (.int .u32)),(.int .i64),.bool,.bool,(.imm (.int .u32)),(.int .i64)]),sI],.tup [(.agg [.bool,.bool,(.imm (.int .u32)),(.int .i64),.bool,.bool,(.imm (.int .u32)),(.int .i64)]),(.c .bool)],[sD,sD,sD],fun x=>g107 m x.1.1 x.1.2.1 x.1.2.2.1 x.1.2.2.2.1 x.1.2.2.2.2.1 x.1.2.2.2.2.2.1 x.1.2.2.2.2.2.2.1 x.1.2.2.2.2.2.2.2.1 x.2.1.1 x.2.1.2.1 x.2.1.2.2.1 x.2.1.2.2.2.1 x.2.1.2.2.2.2.1 x.2.1.2.2.2.2.2.1 x.2.1.2.2.2.2.2.2.1 x.2.1.2.2.2.2.2.2.2.1 x.2.2.1⟩
noncomputable def g107C:Code:=codeOf f107
noncomputable def g107B0:Code:=qo g107C 0 0
noncomputable def g107B2:Code:=qo g107B0 0 0
theorem g107K:FL [g159T m,g158T m,g104T m]:=AllF.mem ⟨g159ok m,g158ok m,g104ok m,trivial⟩
def g107L1X:LT:=⟨2,[(2,sI),(4,sX 0 [.bool,.bool,.imm (.int .u32),iI,.bool,.bool,.imm (.int .u32),iI]),(6,sX 1 [.bool,.bool,.nm 2 (.int .u32),iI,.bool,.bool,.nm 3 (.int .u32),iI]),(8,sX 4 [.bool,.bool,.imm (.int .u32),iI,.bool,.bool,.imm (.int .u32),iI]),(9,sB),(11,sX 5 [.bool,.bool,.imm (.int .u32),iI]),(20,.a (.c (.nm 6 (.pr .bool (.pr (.pr .bool (.sl false (.int .u32))) (.int .i64)))))),(21,sI),(22,sI),(30,.a (.c (.nm 7 (.pr .bool (.pr (.pr .bool (.sl false (.int .u32))) (.int .i64)))))),(31,sI),(32,sI)],[(.ret,[(6,sX 0 [.bool,.bool,.imm (.int .u32),iI,.bool,.bool,.imm (.int .u32),iI]),(7,sB)]),(.exit 2,[(2,sI),(4,sX 0 [.bool,.bool,.imm (.int .u32),iI,.bool,.bool,.imm (.int .u32),iI]),(6,sX 1 [.bool,.bool,.nm 2 (.int .u32),iI,.bool,.bool,.nm 3 (.int .u32),iI]),(8,sX 4 [.bool,.bool,.imm (.int .u32),iI,.bool,.bool,.imm (.int .u32),iI]),(9,sB),(20,.a (.c (.nm 5 (.pr .bool (.pr (.pr .bool (.sl false (.int .u32))) (.int .i64)))))),(21,sI),(22,sI)])],fun n x=>g107L1 m n x.1 x.2.1.1 x.2.1.2.1 x.2.1.2.2.1 x.2.1.2.2.2.1 x.2.1.2.2.2.2.1 x.2.1.2.2.2.2.2.1 x.2.1.2.2.2.2.2.2.1 x.2.1.2.2.2.2.2.2.2.1 x.2.2.1.1 x.2.2.1.2.1 x.2.2.1.2.2.1 x.2.2.1.2.2.2.1 x.2.2.1.2.2.2.2.1 x.2.2.1.2.2.2.2.2.1 x.2.2.1.2.2.2.2.2.2.1 x.2.2.1.2.2.2.2.2.2.2.1 x.2.2.2.1.1 x.2.2.2.1.2.1 x.2.2.2.1.2.2.1 x.2.2.2.1.2.2.2.1 x.2.2.2.1.2.2.2.2.1 x.2.2.2.1.2.2.2.2.2.1 x.2.2.2.1.2.2.2.2.2.2.1 x.2.2.2.1.2.2.2.2.2.2.2.1 x.2.2.2.2.1 x.2.2.2.2.2.1.1 x.2.2.2.2.2.1.2.1 x.2.2.2.2.2.1.2.2.1 x.2.2.2.2.2.1.2.2.2.1 x.2.2.2.2.2.2.1 x.2.2.2.2.2.2.2.1 x.2.2.2.2.2.2.2.2.1 x.2.2.2.2.2.2.2.2.2.1 x.2.2.2.2.2.2.2.2.2.2.1 x.2.2.2.2.2.2.2.2.2.2.2.1⟩
theorem g107L1ok {E} (hE:EO E 74 g107H) (n):LO E g107B2 ((g107L1X m).at n):=lk hE (g107K m) (g107L1X m) n
def g107L0X:LT:=⟨0,[(2,sI),(4,sX 0 [.bool,.bool,.imm (.int .u32),iI,.bool,.bool,.imm (.int .u32),iI]),(6,sX 1 [.bool,.bool,.nm 2 (.int .u32),iI,.bool,.bool,.nm 3 (.int .u32),iI]),(8,sX 4 [.bool,.bool,.imm (.int .u32),iI,.bool,.bool,.imm (.int .u32),iI]),(9,sB),(20,.a (.c (.nm 5 (.pr .bool (.pr (.pr .bool (.sl false (.int .u32))) (.int .i64)))))),(21,sI),(22,sI)],[(.ret,[(6,sX 0 [.bool,.bool,.imm (.int .u32),iI,.bool,.bool,.imm (.int .u32),iI]),(7,sB)]),(.exit 0,[(6,sX 0 [.bool,.bool,.nm 1 (.int .u32),iI,.bool,.bool,.nm 2 (.int .u32),iI]),(8,sX 3 [.bool,.bool,.imm (.int .u32),iI,.bool,.bool,.imm (.int .u32),iI])])],fun n x=>g107L0 m n x.1 x.2.1.1 x.2.1.2.1 x.2.1.2.2.1 x.2.1.2.2.2.1 x.2.1.2.2.2.2.1 x.2.1.2.2.2.2.2.1 x.2.1.2.2.2.2.2.2.1 x.2.1.2.2.2.2.2.2.2.1 x.2.2.1.1 x.2.2.1.2.1 x.2.2.1.2.2.1 x.2.2.1.2.2.2.1 x.2.2.1.2.2.2.2.1 x.2.2.1.2.2.2.2.2.1 x.2.2.1.2.2.2.2.2.2.1 x.2.2.1.2.2.2.2.2.2.2.1 x.2.2.2.1.1 x.2.2.2.1.2.1 x.2.2.2.1.2.2.1 x.2.2.2.1.2.2.2.1 x.2.2.2.1.2.2.2.2.1 x.2.2.2.1.2.2.2.2.2.1 x.2.2.2.1.2.2.2.2.2.2.1 x.2.2.2.1.2.2.2.2.2.2.2.1 x.2.2.2.2.1 x.2.2.2.2.2.1 x.2.2.2.2.2.2.1 x.2.2.2.2.2.2.2.1⟩
theorem g107L0ok {E} (hE:EO E 74 g107H) (n):LO E g107B0 ((g107L0X m).at n):=
 lok hmix htt hE (g107K m) (L:=[(g107L1X m).at m]) (g107L0X m) (l:=[(2,g107B2)]) kR (fun _ _=>⟨qj ⟨yb (g107L1ok m hE m),trivial⟩,trivial⟩) (fun n x=>kR) (fun _=>kR) n
theorem g107ok:FO (g107T m):=f1' g107H (g107T m) func107 (g107K m) fun _ h=>g107L0ok m h m
def g191H:Hints:=⟨[J [1,2],J [2]],[],[],[2],[],[[false,false,false,false,false]]⟩
def g191T:FunT:=⟨191,[.a (.agg [.bool,.bool,(.imm (.int .u32)),(.int .i64)])],.a (.agg [.bool,.bool,(.imm (.int .u32)),(.int .i64),.bool]),[sD],fun x=>g191 m x.1.1 x.1.2.1 x.1.2.2.1 x.1.2.2.2.1⟩
theorem g191ok:FO (g191T m):=fk g191H (g191T m) func191 (AllF.mem (l:=[g187T m]) ⟨g187ok m,trivial⟩)
def g160H:Hints:=⟨[J [1,2,3,6],J' [(2,1)] [1,2,3,6,7],J' [(0,1),(2,1)] [1,2,3,6,19],J [6],J [1,2,3,6,24],J [6],J' [(2,1),(3,1)] [6]],[],[],[6],[],[[false,false,false,false]]⟩
def g160T:FunT:=⟨160,[.a (.agg [.bool,.bool,(.imm (.int .u32)),(.int .i64)]),sI,sI],.a (.agg [.bool,.bool,(.imm (.int .u32)),(.int .i64)]),[sD,sD,sD],fun x=>g160 m x.1.1 x.1.2.1 x.1.2.2.1 x.1.2.2.2.1 x.2.1 x.2.2.1⟩
theorem g160ok:FO (g160T m):=fk g160H (g160T m) func160 (AllF.mem (l:=[g97T m,g145T m,g188T m,g91T m,g191T m,g189T m]) ⟨g97ok m,g145ok m,g188ok m,g91ok m,g191ok m,g189ok m,trivial⟩)
def g108H:Hints:=⟨[J [2,3,4,6],J [6,8],J' [(4,1)] [6,7]],[],[],[6,7],[],[[false,false,false,false,false,false,false,false],[false]]⟩
def g108T:FunT:=⟨108,[.a (.agg [.bool,.bool,(.imm (.int .u32)),(.int .i64),.bool,.bool,(.imm (.int .u32)),(.int .i64)]),.a (.agg [.bool,.bool,(.imm (.int .u32)),(.int .i64),.bool,.bool,(.imm (.int .u32)),(.int .i64)]),sI],.tup [(.agg [.bool,.bool,(.imm (.int .u32)),(.int .i64),.bool,.bool,(.imm (.int .u32)),(.int .i64)]),(.c .bool)],[sD,sD,sD],fun x=>g108 m x.1.1 x.1.2.1 x.1.2.2.1 x.1.2.2.2.1 x.1.2.2.2.2.1 x.1.2.2.2.2.2.1 x.1.2.2.2.2.2.2.1 x.1.2.2.2.2.2.2.2.1 x.2.1.1 x.2.1.2.1 x.2.1.2.2.1 x.2.1.2.2.2.1 x.2.1.2.2.2.2.1 x.2.1.2.2.2.2.2.1 x.2.1.2.2.2.2.2.2.1 x.2.1.2.2.2.2.2.2.2.1 x.2.2.1⟩
theorem g108ok:FO (g108T m):=fk g108H (g108T m) func108 (AllF.mem (l:=[g66T m,g160T m,g158T m]) ⟨g66ok m,g160ok m,g158ok m,trivial⟩)
def g64H:Hints:=⟨[J [0,1],J [0,1],J [0,1,21,22],J [0,1,21,22,23],J [0,1,5,21,22],J [0,1,5,21,22,26,27],J [0,1,5,21,22,26,27,28],J [0,1,5,6,21,22,26,27],J' [(8,1)] [0,1,5,6,21,22,26,27,47],J' [(21,1)] [0,1,5,6,7,8,21,22,26,27],J' [(0,1)] [0,1,5,6,7,21,22,26,27,73],J [0,4],J' [(16,1)] [0,1,5,6,8,9,21,22,26,27],J' [(0,1)] [0,1,5,6,9,21,22,26,27,94],J [0,4],J' [(16,1)] [0,1,5,6,8,10,21,22,26,27],J' [(0,1)] [0,1,5,6,10,21,22,26,27,115],J [0,4],J [0,1,5,21,22,26,27],J' [(1,1)] [0,1,5,21,22,26,27],J' [(1,1)] [0,1,21,22],J [0,4]],[(0,[0,1,21,22]),(2,[0,1,5,21,22,26,27])],[(0,[0]),(1,[0,1,21,22]),(2,[0,1,21,22]),(3,[0,1,5,21,22,26,27])],[0,4],[0],[[false]]⟩
def g64T:FunT:=⟨64,[sX 0 [.dp 1 (.pr (.pr .bool (.pr (.pr .bool (.sl false (.int .u32))) (.int .i64))) (.pr .bool (.pr (.pr .bool (.sl false (.int .u32))) (.int .i64)))),.nm 2 .bool,iI],sI],sB,[sX 0 [.dp 1 (.pr (.pr .bool (.pr (.pr .bool (.sl false (.int .u32))) (.int .i64))) (.pr .bool (.pr (.pr .bool (.sl false (.int .u32))) (.int .i64)))),.nm 2 .bool,iI],sD],fun x=>g64 m x.1.1 x.1.2.1 x.1.2.2.1 x.2.1⟩
noncomputable def g64C:Code:=codeOf f64
noncomputable def g64B0:Code:=qo g64C 0 0
noncomputable def g64B2:Code:=qo g64B0 0 0
theorem g64K:FL [g106T m,g107T m,g108T m]:=AllF.mem ⟨g106ok m,g107ok m,g108ok m,trivial⟩
def g64L1X:LT:=⟨2,[(0,sX 0 [.dp 1 (.pr (.pr .bool (.pr (.pr .bool (.sl false (.int .u32))) (.int .i64))) (.pr .bool (.pr (.pr .bool (.sl false (.int .u32))) (.int .i64)))),.nm 2 .bool,iI]),(1,sI),(5,sI),(21,sI),(22,sI),(26,sI),(27,sI)],[(.ret,[(0,sX 0 [.dp 1 (.pr (.pr .bool (.pr (.pr .bool (.sl false (.int .u32))) (.int .i64))) (.pr .bool (.pr (.pr .bool (.sl false (.int .u32))) (.int .i64)))),.nm 2 .bool,iI]),(4,sB)]),(.exit 2,[(0,sX 0 [.dp 1 (.pr (.pr .bool (.pr (.pr .bool (.sl false (.int .u32))) (.int .i64))) (.pr .bool (.pr (.pr .bool (.sl false (.int .u32))) (.int .i64)))),.nm 2 .bool,iI]),(1,sI),(21,sI),(22,sI)])],fun n x=>g64L1 m n x.1.1 x.1.2.1 x.1.2.2.1 x.2.1 x.2.2.1 x.2.2.2.1 x.2.2.2.2.1 x.2.2.2.2.2.1 x.2.2.2.2.2.2.1⟩
theorem g64L1ok {E} (hE:EO E 138 g64H) (n):LO E g64B2 ((g64L1X m).at n):=lk hE (g64K m) (g64L1X m) n
def g64L0X:LT:=⟨0,[(0,sX 0 [.dp 1 (.pr (.pr .bool (.pr (.pr .bool (.sl false (.int .u32))) (.int .i64))) (.pr .bool (.pr (.pr .bool (.sl false (.int .u32))) (.int .i64)))),.nm 2 .bool,iI]),(1,sI),(21,sI),(22,sI)],[(.ret,[(0,sX 0 [.dp 1 (.pr (.pr .bool (.pr (.pr .bool (.sl false (.int .u32))) (.int .i64))) (.pr .bool (.pr (.pr .bool (.sl false (.int .u32))) (.int .i64)))),.nm 2 .bool,iI]),(4,sB)]),(.exit 0,[(0,sX 0 [.dp 1 (.pr (.pr .bool (.pr (.pr .bool (.sl false (.int .u32))) (.int .i64))) (.pr .bool (.pr (.pr .bool (.sl false (.int .u32))) (.int .i64)))),.nm 2 .bool,iI])])],fun n x=>g64L0 m n x.1.1 x.1.2.1 x.1.2.2.1 x.2.1 x.2.2.1 x.2.2.2.1⟩
theorem g64L0ok {E} (hE:EO E 138 g64H) (n):LO E g64B0 ((g64L0X m).at n):=
 lok hmix htt hE (g64K m) (L:=[(g64L1X m).at m]) (g64L0X m) (l:=[(2,g64B2)]) kR (fun _ _=>⟨qj ⟨yb (g64L1ok m hE m),trivial⟩,trivial⟩) (fun n x=>kR) (fun _=>kR) n
theorem g64ok:FO (g64T m):=f1' g64H (g64T m) func64 (g64K m) fun _ h=>g64L0ok m h m
def g34H:Hints:=⟨[J [0,1,4],J' [(2,4),(6,1)] [0,4,6],J [0,4,6,22,23,24],J [0,4,6,22,23,24,25],J [0,4,6,7,8,22,23,24],J [0,4,6,7,8,22,23,24],J' [(0,1)] [0,4,6,7,22,23,24,35,36,37],J [0,4,6,7,22,23,24,35,36,37,38],J [0,4,6,7,10,22,23,24,35,36,37],J' [(11,4),(18,4)] [0,4,6,7,22,23,24,35,36,37],J' [(1,1)] [0,4,6,7,22,23,24,35,36,37],J' [(1,1)] [0,4,6,22,23,24],J [0,4,6,11],J' [(0,1)] [4,6,11,62,63],J [4,6,11,62,63,64],J [4,6,11,12,62,63],J [4,6,11,12,62,63,68],J [4,5],J [4,6,11,12,62,63,81],J [4,6,11,12,62,63],J [4,6,11,12,62,63],J' [(1,1)] [4,6,11,62,63,93],J [4,5],J' [(1,1)] [4,6,11,62,63],J [4,5]],[(0,[0,4,6,22,23,24]),(2,[0,4,6,7,22,23,24,35,36,37]),(4,[4,6,11,62,63])],[(0,[0,4,6]),(1,[0,4,6,22,23,24]),(2,[0,4,6,22,23,24]),(3,[0,4,6,7,22,23,24,35,36,37]),(4,[4,11]),(5,[4,6,11,62,63])],[4,5],[],[[false,false,false],[false]]⟩
def g34T:FunT:=⟨34,[.a (.c (.imm (.sl false (.pr .bool (.pr (.pr .bool (.sl false (.int .u32))) (.int .i64)))))),sI],.tup [(.agg [(.int .i64),(.int .i64),(.int .i64)]),(.c .bool)],[sD,sD],fun x=>g34 m x.1 x.2.1⟩
noncomputable def g34C:Code:=codeOf f34
noncomputable def g34B0:Code:=qo g34C 0 0
noncomputable def g34B2:Code:=qo g34B0 0 0
noncomputable def g34B4:Code:=qo g34C 0 1
theorem g34K:FL [g62T m,g63T m,g64T m]:=AllF.mem ⟨g62ok m,g63ok m,g64ok m,trivial⟩
def g34L2X:LT:=⟨4,[(4,sX 0 [iI,iI,iI]),(6,sX 1 [.dp 2 (.pr (.pr .bool (.pr (.pr .bool (.sl false (.int .u32))) (.int .i64))) (.pr .bool (.pr (.pr .bool (.sl false (.int .u32))) (.int .i64)))),.nm 3 .bool,iI]),(11,sX 4 [iI,iI,iI]),(62,sI),(63,sI)],[(.ret,[(4,sX 0 [iI,iI,iI]),(5,sB)]),(.exit 4,[(4,sX 0 [iI,iI,iI]),(11,sX 1 [iI,iI,iI])])],fun n x=>g34L2 m n x.1.1 x.1.2.1 x.1.2.2.1 x.2.1.1 x.2.1.2.1 x.2.1.2.2.1 x.2.2.1.1 x.2.2.1.2.1 x.2.2.1.2.2.1 x.2.2.2.1 x.2.2.2.2.1⟩
theorem g34L2ok {E} (hE:EO E 97 g34H) (n):LO E g34B4 ((g34L2X m).at n):=lk hE (g34K m) (g34L2X m) n
def g34L1X:LT:=⟨2,[(0,.a (.c (.imm (.sl false (.pr .bool (.pr (.pr .bool (.sl false (.int .u32))) (.int .i64))))))),(4,sX 0 [iI,iI,iI]),(6,sX 1 [.dp 2 (.pr (.pr .bool (.pr (.pr .bool (.sl false (.int .u32))) (.int .i64))) (.pr .bool (.pr (.pr .bool (.sl false (.int .u32))) (.int .i64)))),.nm 3 .bool,iI]),(7,sI),(22,.a (.c (.imm (.sl false (.pr .bool (.pr (.pr .bool (.sl false (.int .u32))) (.int .i64))))))),(23,sI),(24,sI),(35,.a (.c (.imm (.pr .bool (.pr (.pr .bool (.sl false (.int .u32))) (.int .i64)))))),(36,sI),(37,sI)],[(.exit 2,[(0,.a (.c (.imm (.sl false (.pr .bool (.pr (.pr .bool (.sl false (.int .u32))) (.int .i64))))))),(4,sX 0 [iI,iI,iI]),(6,sX 1 [.dp 2 (.pr (.pr .bool (.pr (.pr .bool (.sl false (.int .u32))) (.int .i64))) (.pr .bool (.pr (.pr .bool (.sl false (.int .u32))) (.int .i64)))),.nm 3 .bool,iI]),(22,.a (.c (.imm (.sl false (.pr .bool (.pr (.pr .bool (.sl false (.int .u32))) (.int .i64))))))),(23,sI),(24,sI)])],fun n x=>g34L1 m n x.1 x.2.1.1 x.2.1.2.1 x.2.1.2.2.1 x.2.2.1.1 x.2.2.1.2.1 x.2.2.1.2.2.1 x.2.2.2.1 x.2.2.2.2.1 x.2.2.2.2.2.1 x.2.2.2.2.2.2.1 x.2.2.2.2.2.2.2.1 x.2.2.2.2.2.2.2.2.1 x.2.2.2.2.2.2.2.2.2.1⟩
theorem g34L1ok {E} (hE:EO E 97 g34H) (n):LO E g34B2 ((g34L1X m).at n):=lk hE (g34K m) (g34L1X m) n
def g34L0X:LT:=⟨0,[(0,.a (.c (.imm (.sl false (.pr .bool (.pr (.pr .bool (.sl false (.int .u32))) (.int .i64))))))),(4,sX 0 [iI,iI,iI]),(6,sX 1 [.dp 2 (.pr (.pr .bool (.pr (.pr .bool (.sl false (.int .u32))) (.int .i64))) (.pr .bool (.pr (.pr .bool (.sl false (.int .u32))) (.int .i64)))),.nm 3 .bool,iI]),(22,.a (.c (.imm (.sl false (.pr .bool (.pr (.pr .bool (.sl false (.int .u32))) (.int .i64))))))),(23,sI),(24,sI)],[(.exit 0,[(0,.a (.c (.imm (.sl false (.pr .bool (.pr (.pr .bool (.sl false (.int .u32))) (.int .i64))))))),(4,sX 0 [iI,iI,iI]),(6,sX 1 [.dp 2 (.pr (.pr .bool (.pr (.pr .bool (.sl false (.int .u32))) (.int .i64))) (.pr .bool (.pr (.pr .bool (.sl false (.int .u32))) (.int .i64)))),.nm 3 .bool,iI])])],fun n x=>g34L0 m n x.1 x.2.1.1 x.2.1.2.1 x.2.1.2.2.1 x.2.2.1.1 x.2.2.1.2.1 x.2.2.1.2.2.1 x.2.2.2.1 x.2.2.2.2.1 x.2.2.2.2.2.1⟩
theorem g34L0ok {E} (hE:EO E 97 g34H) (n):LO E g34B0 ((g34L0X m).at n):=
 lok hmix htt hE (g34K m) (L:=[(g34L1X m).at m]) (g34L0X m) (l:=[(2,g34B2)]) kR (fun _ _=>⟨qj ⟨yb (g34L1ok m hE m),trivial⟩,trivial⟩) (fun n x=>kR) (fun _=>kR) n
theorem g34ok:FO (g34T m):=
 fok hmix htt (H:=g34H) (g34T m) func34 kR (g34K m) (L:=[(g34L0X m).at m,(g34L2X m).at m]) (l:=[(0,g34B0),(4,g34B4)]) kR (fun _ hE _ _=>⟨qj ⟨yb (g34L0ok m hE m),nb rfl,trivial⟩,qj ⟨nb rfl,yb (g34L2ok m hE m),trivial⟩,trivial⟩) (fun x=>kR)
def g12H:Hints:=⟨[J [1,2,3,6],J [1,2,3,6,9],J [1,2,3,6,9,16],J' [(1,1)] [6,7,8],J' [(2,1)] [1,2,3,6,24],J [6,7,8],J' [(1,1),(3,1),(5,1)] [6,10,11],J' [(1,1)] [6,7,8]],[],[],[6,7,8],[],[[false,false,false],[false],[false]]⟩
def g12T:FunT:=⟨12,[.a (.agg [(.int .i64),(.int .i64),(.imm (.int .i64)),(.imm (.int .i64)),(.imm (.int .u64))]),sU,sI],.tup [(.agg [(.int .i64),(.int .i64),(.int .i64)]),(.c .bool),(.c (.int .i64))],[sD,sD,sD],fun x=>g12 m x.1.1 x.1.2.1 x.1.2.2.1 x.1.2.2.2.1 x.1.2.2.2.2.1 x.2.1 x.2.2.1⟩
theorem g12ok:FO (g12T m):=fk g12H (g12T m) func12 (AllF.mem (l:=[g33T m,g35T m,g34T m]) ⟨g33ok m,g35ok m,g34ok m,trivial⟩)
def g42H:Hints:=⟨[J [0],J [0,4],J [2],J' [(0,1)] [2]],[],[],[2],[],[[false]]⟩
def g42T:FunT:=⟨42,[sU],sU,[sD],fun x=>g42 m x.1⟩
theorem g42ok:FO (g42T m):=fk g42H (g42T m) func42 (AllF.mem (l:=[g45T m]) ⟨g45ok m,trivial⟩)
def g24H:Hints:=⟨[J [1,2],J [1,2,6],J [1,2,6,13],J' [(0,1)] [4,5],J [1,2,15],J [1,2,15,16],J [4,5],J [1,2,20],J [4,5],J' [(1,1),(3,1)] [7,8],J' [(5,1)] [4,5]],[],[(0,[1,2])],[4,5],[],[[false],[false]]⟩
def g24T:FunT:=⟨24,[.a (.agg [(.int .i64),(.int .i64),(.imm (.int .i64)),(.imm (.int .i64)),(.imm (.int .u64))]),sU],.tup [(.c (.int .i64)),(.c (.int .i64))],[sD,sD],fun x=>g24 m x.1.1 x.1.2.1 x.1.2.2.1 x.1.2.2.2.1 x.1.2.2.2.2.1 x.2.1⟩
theorem g24ok:FO (g24T m):=fk g24H (g24T m) func24 (AllF.mem (l:=[g33T m,g20T m]) ⟨g33ok m,g20ok m,trivial⟩)
def sparselaw39_awake_H:Hints:=⟨[J [],J [1],J' [(2,1)] [1,2,3],J' [(2,1)] [1,2,3,5,6],J' [(3,1)] [2,3,5,6,7,8],J' [(0,1),(2,1),(3,1),(6,1),(7,1),(10,1),(15,1),(16,1),(19,1),(20,1)] [0]],[],[],[0],[],[[false]]⟩
abbrev sparselaw39_awake_A:List Sh:=[]
abbrev sparselaw39_awake_S:Sh:= sB
abbrev sparselaw39_awake_U:List Sh:=[]
def sparselaw39_awake_R:X4 sparselaw39_awake_A->Option (sparselaw39_awake_S.Val×X4 sparselaw39_awake_U):=fun(x:Unit)=>sparselaw39_awake m
def sparselaw39_awake_T:FunT:=⟨15,sparselaw39_awake_A,sparselaw39_awake_S,sparselaw39_awake_U,sparselaw39_awake_R m⟩
theorem sparselaw39_awake_ok:FO (sparselaw39_awake_T m):=fk sparselaw39_awake_H (sparselaw39_awake_T m) func15 (AllF.mem (l:=[g20T m,g12T m,g42T m,g24T m]) ⟨g20ok m,g12ok m,g42ok m,g24ok m,trivial⟩)
def g54H:Hints:=⟨[J [0],J [0,4],J' [(0,1)] [2],J' [(0,1)] [2]],[],[],[2],[],[[false]]⟩
def g54T:FunT:=⟨54,[sU],sI,[sD],fun x=>g54 m x.1⟩
theorem g54ok:FO (g54T m):=fk g54H (g54T m) func54 (AllF.mem (l:=[g85T m]) ⟨g85ok m,trivial⟩)
def g22H:Hints:=⟨[J [0,1],J' [(2,1)] [0,1,11],J [4,5],J [0,1,12],J [4,5],J' [(0,1),(2,1)] [18],J [4,5],J [4,5]],[],[(0,[])],[4,5],[],[[false],[false]]⟩
def g22T:FunT:=⟨22,[sU,sU],.tup [(.c (.int .i64)),(.c .bool)],[sD,sD],fun x=>g22 m x.1 x.2.1⟩
theorem g22ok:FO (g22T m):=fk g22H (g22T m) func22 (AllF.mem (l:=[g45T m,g54T m]) ⟨g45ok m,g54ok m,trivial⟩)
def sparselaw39_InertiaMonotone_H:Hints:=⟨[J [0,1,2,3,4],J' [(0,1),(1,1),(4,1),(6,1)] [2,4,11,12],J' [(0,1)] [2,11,12,13],J' [(3,1)] [2,11,12,13,14],J' [(0,1)] [2,11,12,13,45],J' [(0,1),(1,1)] [2,11,12,13],J' [(3,1),(8,1),(9,1)] [11,12,13,60],J [10],J' [(3,1)] [11,12,13,16,17],J' [(1,1),(3,1)] [11,12,16,17,18,19],J' [(1,1),(3,1)] [11,16,17,18,19,20,21],J' [(2,1)] [11,16,17,18,19,20,21,22,23],J' [(2,1)] [11,16,17,18,19,20,21,22,23,24,25],J' [(0,1),(2,1),(3,1),(6,1),(7,1),(10,1),(11,1),(14,1),(15,1),(18,1),(20,1),(23,1),(32,1),(33,1),(36,1),(37,1),(42,1)] [10]],[],[],[10],[],[[false]]⟩
abbrev sparselaw39_InertiaMonotone_A:List Sh:=[.a (.c (.imm (.int .u64))),sI,sI,sU,sU]
abbrev sparselaw39_InertiaMonotone_S:Sh:= sB
abbrev sparselaw39_InertiaMonotone_U:List Sh:=[sD,sD,sD,sD,sD]
def sparselaw39_InertiaMonotone_R:X4 sparselaw39_InertiaMonotone_A->Option (sparselaw39_InertiaMonotone_S.Val×X4 sparselaw39_InertiaMonotone_U):=fun(x:LI×Int×Int×Int×Int×Unit)=>sparselaw39_InertiaMonotone m x.1 x.2.1 x.2.2.1 x.2.2.2.1 x.2.2.2.2.1
def sparselaw39_InertiaMonotone_T:FunT:=⟨6,sparselaw39_InertiaMonotone_A,sparselaw39_InertiaMonotone_S,sparselaw39_InertiaMonotone_U,sparselaw39_InertiaMonotone_R m⟩
theorem sparselaw39_InertiaMonotone_ok:FO (sparselaw39_InertiaMonotone_T m):=fk sparselaw39_InertiaMonotone_H (sparselaw39_InertiaMonotone_T m) func6 (AllF.mem (l:=[g14T m,sparselaw39_pick_T m,g21T m,g22T m,g23T m,sparselaw39_awake_T m,g24T m,g20T m]) ⟨g14ok m,sparselaw39_pick_ok m,g21ok m,g22ok m,g23ok m,sparselaw39_awake_ok m,g24ok m,g20ok m,trivial⟩)
end
end Go.Vs.F
