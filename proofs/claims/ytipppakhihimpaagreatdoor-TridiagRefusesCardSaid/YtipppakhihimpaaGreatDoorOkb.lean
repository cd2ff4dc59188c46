/-The plain functions are what the code does (by program:gen.py). -/
import Derived.Test.YtipppakhihimpaaGreatDoorOka
set_option linter.unusedVariables false
set_option maxRecDepth 100000
namespace Go.Vs.F
open Go.Proofs
open Tryz
section
variable (m:Nat)
def g56H:Hints:=⟨[J [0,3,4],J [0,3,4,5],J [0,3,4,5,18],J' [(0,1)] [2,3,4,5],J [0,3,4,20,21,22],J [0,3,4,20,21,22,23],J [0,3,4,6,7,20,21,22],J' [(0,1)] [0,3,4,6,20,21,22,27,28,29],J [0,3,4,6,20,21,22,27,28,29,30],J [0,3,4,6,8,9,20,21,22,27,28,29],J' [(2,1)] [0,3,4,6,20,21,22,27,28,29,43],J [2,3,4,5],J' [(1,1)] [0,3,4,6,20,21,22,27,28,29],J' [(1,1)] [0,3,4,20,21,22],J [0,3,4,10],J' [(4,1)] [0,3,4,10,60],J' [(0,1)] [0,3,4,10],J [0,3,4,10,11],J' [(0,1)] [0,3,4,11,63,64,65],J [0,3,4,11,63,64,65,66],J [0,3,4,11,13,63,64,65],J [0,3,4,11,14,63,64,65],J [0,3,4,11,14,63,64,65,74],J' [(0,1)] [0,3,4,11,14,63,64,65],J [0,3,4,11,14,63,64,65,78],J' [(0,1)] [0,3,4,11,63,64,65],J' [(1,1)] [0,3,4,11,63,64,65],J' [(0,1)] [2,3,4,5]],[(0,[0,3,4,20,21,22]),(2,[0,3,4,6,20,21,22,27,28,29]),(4,[0,3,4,10]),(6,[0,3,4,11,63,64,65])],[(0,[0,3,4]),(1,[0,3,4,20,21,22]),(2,[0,3,4,20,21,22]),(3,[0,3,4,6,20,21,22,27,28,29]),(4,[0,3,4,10]),(5,[0,3,4,10]),(6,[0,3,4]),(7,[0,3,4,11,63,64,65])],[2,3,4,5],[],[[false],[false],[false],[false]]⟩
def g56T:FunT:=⟨56,[.a (.c (.imm (.sl false (.pr .bool (.sl false (.int .u32))))))],.tup [(.c (.int .i64)),(.c (.int .i64)),(.c (.int .i64)),(.c (.int .i64))],[sD],fun x=>g56 m x.1⟩
noncomputable def g56C:Code:=codeOf f56
noncomputable def g56B0:Code:=Q5 g56C 0 0
noncomputable def g56B2:Code:=Q5 g56B0 0 0
noncomputable def g56B4:Code:=Q5 g56C 0 1
noncomputable def g56B6:Code:=Q5 g56C 0 2
theorem g56K:FL [g92T m,g93T m,g95T m,g94T m,g96T m]:=AllF.mem ⟨g92ok m,g93ok m,g95ok m,g94ok m,g96ok m,trivial⟩
def g56L3X:LT:=⟨6,[(0,.a (.c (.imm (.sl false (.pr .bool (.sl false (.int .u32))))))),(3,sI),(4,sI),(11,sI),(63,.a (.c (.nm 0 (.pr .bool (.sl false (.int .u32)))))),(64,sI),(65,sI)],[(.exit 6,[(0,.a (.c (.imm (.sl false (.pr .bool (.sl false (.int .u32))))))),(3,sI),(4,sI)])],fun n x=>g56L3 m n x.1 x.2.1 x.2.2.1 x.2.2.2.1 x.2.2.2.2.1 x.2.2.2.2.2.1 x.2.2.2.2.2.2.1⟩
theorem g56L3ok {E} (hE:EO E 89 g56H) (n):LO E g56B6 ((g56L3X m).at n):=lk hE (g56K m) (g56L3X m) n
def g56L2X:LT:=⟨4,[(0,.a (.c (.imm (.sl false (.pr .bool (.sl false (.int .u32))))))),(3,sI),(4,sI),(10,.a (.c (.nm 0 (.pr .bool (.sl false (.int .u32))))))],[(.exit 4,[(0,.a (.c (.imm (.sl false (.pr .bool (.sl false (.int .u32))))))),(3,sI),(4,sI),(10,.a (.c (.nm 0 (.pr .bool (.sl false (.int .u32))))))])],fun n x=>g56L2 m n x.1 x.2.1 x.2.2.1 x.2.2.2.1⟩
theorem g56L2ok {E} (hE:EO E 89 g56H) (n):LO E g56B4 ((g56L2X m).at n):=lk hE (g56K m) (g56L2X m) n
def g56L1X:LT:=⟨2,[(0,.a (.c (.imm (.sl false (.pr .bool (.sl false (.int .u32))))))),(3,sI),(4,sI),(6,sI),(20,.a (.c (.imm (.sl false (.pr .bool (.sl false (.int .u32))))))),(21,sI),(22,sI),(27,.a (.c (.imm (.pr .bool (.sl false (.int .u32)))))),(28,sI),(29,sI)],[(.ret,[(2,sI),(3,sI),(4,sI),(5,sI)]),(.exit 2,[(0,.a (.c (.imm (.sl false (.pr .bool (.sl false (.int .u32))))))),(3,sI),(4,sI),(20,.a (.c (.imm (.sl false (.pr .bool (.sl false (.int .u32))))))),(21,sI),(22,sI)])],fun n x=>g56L1 m n x.1 x.2.1 x.2.2.1 x.2.2.2.1 x.2.2.2.2.1 x.2.2.2.2.2.1 x.2.2.2.2.2.2.1 x.2.2.2.2.2.2.2.1 x.2.2.2.2.2.2.2.2.1 x.2.2.2.2.2.2.2.2.2.1⟩
theorem g56L1ok {E} (hE:EO E 89 g56H) (n):LO E g56B2 ((g56L1X m).at n):=lk hE (g56K m) (g56L1X m) n
def g56L0X:LT:=⟨0,[(0,.a (.c (.imm (.sl false (.pr .bool (.sl false (.int .u32))))))),(3,sI),(4,sI),(20,.a (.c (.imm (.sl false (.pr .bool (.sl false (.int .u32))))))),(21,sI),(22,sI)],[(.ret,[(2,sI),(3,sI),(4,sI),(5,sI)]),(.exit 0,[(0,.a (.c (.imm (.sl false (.pr .bool (.sl false (.int .u32))))))),(3,sI),(4,sI)])],fun n x=>g56L0 m n x.1 x.2.1 x.2.2.1 x.2.2.2.1 x.2.2.2.2.1 x.2.2.2.2.2.1⟩
theorem g56L0ok {E} (hE:EO E 89 g56H) (n):LO E g56B0 ((g56L0X m).at n):=
 lok hmix htt hE (g56K m) (L:=[(g56L1X m).at m]) (g56L0X m) (l:=[(2,g56B2)]) kR (fun _ _=>⟨qm ⟨yb (g56L1ok m hE m),trivial⟩,trivial⟩) (fun n x=>kR) (fun _=>kR) n
theorem g56ok:FO (g56T m):=
 fok hmix htt (H:=g56H) (g56T m) func56 kR (g56K m) (L:=[(g56L0X m).at m,(g56L2X m).at m,(g56L3X m).at m]) (l:=[(0,g56B0),(4,g56B4),(6,g56B6)]) kR (fun _ hE _ _=>⟨qm ⟨yb (g56L0ok m hE m),nb rfl,nb rfl,trivial⟩,qm ⟨nb rfl,yb (g56L2ok m hE m),nb rfl,trivial⟩,qm ⟨nb rfl,nb rfl,yb (g56L3ok m hE m),trivial⟩,trivial⟩) (fun x=>kR)
def g24H:Hints:=⟨[J [0,1,2],J [0,1,2,11],J' [(0,1)] [6],J [0,1,2,16],J [6],J' [(0,1),(1,1),(2,1),(6,1)] [7,8],J' [(0,1),(1,1)] [6]],[],[(0,[0,1,2])],[6],[],[[false]]⟩
def g24T:FunT:=⟨24,[.a (.c (.imm (.int .u64))),.a (.c (.imm (.int .u64))),sU],sI,[sD,sD,sD],fun x=>g24 m x.1 x.2.1 x.2.2.1⟩
theorem g24ok:FO (g24T m):=fk g24H (g24T m) func24 (AllF.mem (l:=[g53T m,g58T m,g57T m,g56T m]) ⟨g53ok m,g58ok m,g57ok m,g56ok m,trivial⟩)
def g10H:Hints:=⟨[J [0,1,2],J [0,1,2,8],J [0,1,2,8,13],J' [(0,1)] [6,7],J [0,1,2,17],J [6,7],J' [(0,1),(1,1),(2,1)] [6,7]],[],[],[6,7],[],[[false],[false]]⟩
def g10T:FunT:=⟨10,[.a (.c (.imm (.int .u64))),.a (.c (.imm (.int .u64))),sU],.tup [(.c (.int .i64)),(.c (.int .i64))],[sD,sD,sD],fun x=>g10 m x.1 x.2.1 x.2.2.1⟩
theorem g10ok:FO (g10T m):=fk g10H (g10T m) func10 (AllF.mem (l:=[g22T m,g23T m,g24T m]) ⟨g22ok m,g23ok m,g24ok m,trivial⟩)
def g59H:Hints:=⟨[J [0],J [0,3],J [0,3,7],J' [(0,1)] [0,3],J [0,3,15],J [2],J [2]],[(0,[0,3])],[(0,[]),(1,[0,3])],[2],[],[[false]]⟩
def g59T:FunT:=⟨59,[.a (.c (.imm (.int .u64)))],sB,[sD],fun x=>g59 m x.1⟩
noncomputable def g59C:Code:=codeOf f59
noncomputable def g59B0:Code:=Q5 g59C 0 0
theorem g59K:FL [g30T m]:=AllF.mem ⟨g30ok m,trivial⟩
def g59L0X:LT:=⟨0,[(0,.a (.c (.imm (.int .u64)))),(3,sI)],[(.ret,[(2,sB)]),(.exit 0,[])],fun n x=>g59L0 m n x.1 x.2.1⟩
theorem g59L0ok {E} (hE:EO E 16 g59H) (n):LO E g59B0 ((g59L0X m).at n):=lk hE (g59K m) (g59L0X m) n
theorem g59ok:FO (g59T m):=f1' g59H (g59T m) func59 (g59K m) fun _ h=>g59L0ok m h m
def g25H:Hints:=⟨[J [0,1],J [0,1,5],J [4],J [0,1,9],J [4],J' [(0,1),(3,1),(4,1)] [17],J [4],J [4]],[],[(0,[])],[4],[],[[false]]⟩
def g25T:FunT:=⟨25,[.a (.c (.imm (.int .u64))),.a (.c (.imm (.int .u64)))],sI,[sD,sD],fun x=>g25 m x.1 x.2.1⟩
theorem g25ok:FO (g25T m):=fk g25H (g25T m) func25 (AllF.mem (l:=[g59T m]) ⟨g59ok m,trivial⟩)
def g26H:Hints:=⟨[J [0],J [3,4],J' [(2,1)] [3,4,10],J [2],J [3,4,17],J [2],J' [(0,1),(2,1),(3,1)] [20],J [2],J [2]],[],[(0,[])],[2],[],[[false]]⟩
def g26T:FunT:=⟨26,[sU],sI,[sD],fun x=>g26 m x.1⟩
theorem g26ok:FO (g26T m):=fk g26H (g26T m) func26 noF
def g63H:Hints:=⟨[J [0],J' [(0,1)] [2]],[],[],[2],[],[[false]]⟩
def g63T:FunT:=⟨63,[sU],sB,[sD],fun x=>g63 m x.1⟩
theorem g63ok:FO (g63T m):=fk g63H (g63T m) func63 noF
def g28H:Hints:=⟨[J [0,2],J [0,2,8],J [2],J [0,2,3,4],J [0,2,3,4,5],J [0,2,3,4,5,17],J' [(0,1)] [0,2,3,4],J' [(0,1)] [0,2,4,5],J' [(0,1),(9,1)] [2]],[],[],[2],[],[[false,false,false,false]]⟩
def g28T:FunT:=⟨28,[sU],.a (.agg [.bool,.bool,(.imm (.int .u32)),(.int .i64)]),[sD],fun x=>g28 m x.1⟩
theorem g28ok:FO (g28T m):=fk g28H (g28T m) func28 (AllF.mem (l:=[g30T m,g61T m,g63T m,g62T m]) ⟨g30ok m,g61ok m,g63ok m,g62ok m,trivial⟩)
def g60H:Hints:=⟨[J [1,2],J [1,2],J [1,2,6],J [2],J [2]],[],[],[2],[],[[false,false,false,false]]⟩
def g60T:FunT:=⟨60,[.a (.agg [.bool,.bool,(.imm (.int .u32)),(.int .i64)])],.a (.agg [.bool,.bool,(.imm (.int .u32)),(.int .i64)]),[sD],fun x=>g60 m x.1.1 x.1.2.1 x.1.2.2.1 x.1.2.2.2.1⟩
theorem g60ok:FO (g60T m):=fk g60H (g60T m) func60 (AllF.mem (l:=[g83T m,g100T m,g62T m]) ⟨g83ok m,g100ok m,g62ok m,trivial⟩)
def g84H:Hints:=⟨[J [2,3,4,5],J [2,3,4,5,7,8],J [2,3,4,5,7,8,13],J [4,5,6],J [2,3,4,5,7,8,21],J [4,5,6],J [2,3,4,5,7,8,29],J [4,5,6],J [4,5,6]],[],[(0,[2,3,4,5,7,8])],[4,5,6],[],[[false,false],[false,false],[false]]⟩
def g84T:FunT:=⟨84,[.a (.agg [.bool,.bool,(.imm (.int .u32)),(.int .i64)]),.a (.agg [.bool,.bool,(.imm (.int .u32)),(.int .i64)])],.tup [(.agg [.bool,(.imm (.int .u32))]),(.agg [.bool,(.imm (.int .u32))]),(.c (.int .i64))],[sD,sD],fun x=>g84 m x.1.1 x.1.2.1 x.1.2.2.1 x.1.2.2.2.1 x.2.1.1 x.2.1.2.1 x.2.1.2.2.1 x.2.1.2.2.2.1⟩
theorem g84ok:FO (g84T m):=fk g84H (g84T m) func84 (AllF.mem (l:=[g88T m,g109T m]) ⟨g88ok m,g109ok m,trivial⟩)
def g46H:Hints:=⟨[J [2,3,4],J [2,3,4],J' [(2,1)] [2,3,4,17],J [4],J' [(3,1)] [4,5,6,7],J' [(3,1)] [4]],[],[],[4],[],[[false,false,false,false]]⟩
def g46T:FunT:=⟨46,[.a (.agg [.bool,.bool,(.imm (.int .u32)),(.int .i64)]),.a (.agg [.bool,.bool,(.imm (.int .u32)),(.int .i64)])],.a (.agg [.bool,.bool,(.imm (.int .u32)),(.int .i64)]),[sD,sD],fun x=>g46 m x.1.1 x.1.2.1 x.1.2.2.1 x.1.2.2.2.1 x.2.1.1 x.2.1.2.1 x.2.1.2.2.1 x.2.1.2.2.2.1⟩
theorem g46ok:FO (g46T m):=fk g46H (g46T m) func46 (AllF.mem (l:=[g83T m,g61T m,g84T m,g85T m,g62T m]) ⟨g83ok m,g61ok m,g84ok m,g85ok m,g62ok m,trivial⟩)
def g27H:Hints:=⟨[J [2,3,4],J [4]],[],[],[4],[],[[false,false,false,false]]⟩
def g27T:FunT:=⟨27,[.a (.agg [.bool,.bool,(.imm (.int .u32)),(.int .i64)]),.a (.agg [.bool,.bool,(.imm (.int .u32)),(.int .i64)])],.a (.agg [.bool,.bool,(.imm (.int .u32)),(.int .i64)]),[sD,sD],fun x=>g27 m x.1.1 x.1.2.1 x.1.2.2.1 x.1.2.2.2.1 x.2.1.1 x.2.1.2.1 x.2.1.2.2.1 x.2.1.2.2.2.1⟩
theorem g27ok:FO (g27T m):=fk g27H (g27T m) func27 (AllF.mem (l:=[g60T m,g46T m]) ⟨g60ok m,g46ok m,trivial⟩)
def g108H:Hints:=⟨[J [1],J [1],J [1,6],J [2],J [2]],[],[],[2],[],[[false]]⟩
def g108T:FunT:=⟨108,[.a (.agg [.bool,.bool,(.imm (.int .u32)),(.int .i64)])],sI,[sD],fun x=>g108 m x.1.1 x.1.2.1 x.1.2.2.1 x.1.2.2.2.1⟩
theorem g108ok:FO (g108T m):=fk g108H (g108T m) func108 (AllF.mem (l:=[g83T m,g88T m]) ⟨g83ok m,g88ok m,trivial⟩)
def g65H:Hints:=⟨[J [0],J [0,3],J [0,3,4],J [0,3,4,15],J' [(0,1)] [0,3,4],J [0,3,4,5],J [0,3,4,5,24],J' [(0,1)] [0,3,4,5],J [0,3,4,5,35],J' [(0,1)] [0,3,4,5],J' [(0,6)] [0,3,6],J [0,3,6,7],J [0,3,6,7,50],J' [(0,1)] [0,3,6,7],J [0,3,6,7,8],J [0,3,6,7,8,9],J [0,3,6,7,8,9,59],J' [(0,1)] [0,3,6,7,8,9],J [0,3,6,7,8,9,10],J' [(1,2),(2,2)] [0,3,6,7,8,9,10,11],J [0,3,6,7,8,9,10,11,73],J [0,3,6,7,8,9,11],J' [(0,1)] [0,3,6,7,8,9],J' [(0,1),(1,1),(2,6),(3,6)] [0,3,6,7],J' [(0,1)] [2]],[(0,[0,3,4]),(2,[0,3,4,5]),(4,[0,3,6,7]),(6,[0,3,6,7,8,9])],[(0,[0,3]),(1,[0,3,4]),(2,[0,3,4]),(3,[0,3,4,5]),(4,[6]),(5,[0,3,6,7]),(6,[0,3,6,7,8]),(7,[0,3,6,7,8,9])],[2],[],[[false]]⟩
def g65T:FunT:=⟨65,[.a (.c (.imm (.sl false (.pr .bool (.pr (.pr .bool (.sl false (.int .u32))) (.int .i64))))))],.a (.c (.imm (.sl false (.pr .bool (.sl false (.int .u32)))))),[sD],fun x=>g65 m x.1⟩
noncomputable def g65C:Code:=codeOf f65
noncomputable def g65B0:Code:=Q5 g65C 0 0
noncomputable def g65B2:Code:=Q5 g65B0 0 0
noncomputable def g65B4:Code:=Q5 g65C 0 1
noncomputable def g65B6:Code:=Q5 g65B4 4 0
theorem g65K:FL [g108T m,g83T m,g109T m]:=AllF.mem ⟨g108ok m,g83ok m,g109ok m,trivial⟩
def g65L3X:LT:=⟨6,[(0,.a (.c (.imm (.sl false (.pr .bool (.pr (.pr .bool (.sl false (.int .u32))) (.int .i64))))))),(3,sI),(6,.a (.c (.dp 0 (.pr .bool (.sl false (.int .u32)))))),(7,sI),(8,.a (.c (.nm 1 (.pr .bool (.sl false (.int .u32)))))),(9,sI)],[(.exit 6,[(0,.a (.c (.imm (.sl false (.pr .bool (.pr (.pr .bool (.sl false (.int .u32))) (.int .i64))))))),(3,sI),(6,.a (.c (.dp 0 (.pr .bool (.sl false (.int .u32)))))),(7,sI),(8,.a (.c (.nm 1 (.pr .bool (.sl false (.int .u32))))))])],fun n x=>g65L3 m n x.1 x.2.1 x.2.2.1 x.2.2.2.1 x.2.2.2.2.1 x.2.2.2.2.2.1⟩
theorem g65L3ok {E} (hE:EO E 90 g65H) (n):LO E g65B6 ((g65L3X m).at n):=lk hE (g65K m) (g65L3X m) n
def g65L2X:LT:=⟨4,[(0,.a (.c (.imm (.sl false (.pr .bool (.pr (.pr .bool (.sl false (.int .u32))) (.int .i64))))))),(3,sI),(6,.a (.c (.dp 0 (.pr .bool (.sl false (.int .u32)))))),(7,sI)],[(.exit 4,[(6,.a (.c (.dp 0 (.pr .bool (.sl false (.int .u32))))))])],fun n x=>g65L2 m n x.1 x.2.1 x.2.2.1 x.2.2.2.1⟩
theorem g65L2ok {E} (hE:EO E 90 g65H) (n):LO E g65B4 ((g65L2X m).at n):=
 lok hmix htt hE (g65K m) (L:=[(g65L3X m).at m]) (g65L2X m) (l:=[(6,g65B6)]) kR (fun _ _=>⟨qm ⟨yb (g65L3ok m hE m),trivial⟩,trivial⟩) (fun n x=>kR) (fun _=>kR) n
def g65L1X:LT:=⟨2,[(0,.a (.c (.imm (.sl false (.pr .bool (.pr (.pr .bool (.sl false (.int .u32))) (.int .i64))))))),(3,sI),(4,sI),(5,sI)],[(.exit 2,[(0,.a (.c (.imm (.sl false (.pr .bool (.pr (.pr .bool (.sl false (.int .u32))) (.int .i64))))))),(3,sI),(4,sI)])],fun n x=>g65L1 m n x.1 x.2.1 x.2.2.1 x.2.2.2.1⟩
theorem g65L1ok {E} (hE:EO E 90 g65H) (n):LO E g65B2 ((g65L1X m).at n):=lk hE (g65K m) (g65L1X m) n
def g65L0X:LT:=⟨0,[(0,.a (.c (.imm (.sl false (.pr .bool (.pr (.pr .bool (.sl false (.int .u32))) (.int .i64))))))),(3,sI),(4,sI)],[(.exit 0,[(0,.a (.c (.imm (.sl false (.pr .bool (.pr (.pr .bool (.sl false (.int .u32))) (.int .i64))))))),(3,sI)])],fun n x=>g65L0 m n x.1 x.2.1 x.2.2.1⟩
theorem g65L0ok {E} (hE:EO E 90 g65H) (n):LO E g65B0 ((g65L0X m).at n):=
 lok hmix htt hE (g65K m) (L:=[(g65L1X m).at m]) (g65L0X m) (l:=[(2,g65B2)]) kR (fun _ _=>⟨qm ⟨yb (g65L1ok m hE m),trivial⟩,trivial⟩) (fun n x=>kR) (fun _=>kR) n
theorem g65ok:FO (g65T m):=
 fok hmix htt (H:=g65H) (g65T m) func65 kR (g65K m) (L:=[(g65L0X m).at m,(g65L2X m).at m]) (l:=[(0,g65B0),(4,g65B4)]) kR (fun _ hE _ _=>⟨qm ⟨yb (g65L0ok m hE m),nb rfl,trivial⟩,qm ⟨nb rfl,yb (g65L2ok m hE m),trivial⟩,trivial⟩) (fun x=>kR)
def g105H:Hints:=⟨[J [0],J' [(0,6)] [0,3],J [0,3,4],J [0,3,4,10],J' [(0,1)] [0,3,4],J [0,3,4,5],J [0,3,4,5,6],J [0,3,4,5,6,19],J' [(0,1)] [0,3,4,5,6],J' [(0,1)] [0,3,4,5,6],J' [(0,1),(1,1),(2,6),(3,6)] [0,3,4],J' [(0,1)] [2]],[(0,[0,3,4]),(2,[0,3,4,5,6])],[(0,[3]),(1,[0,3,4]),(2,[0,3,4,5]),(3,[0,3,4,5,6])],[2],[],[[true]]⟩
def g105T:FunT:=⟨105,[.a (.c (.imm (.sl false (.pr .bool (.sl false (.int .u32))))))],.a (.c (.dp 0 (.pr (.pr .bool (.sl false (.int .u32))) (.pr .bool (.sl false (.int .u32)))))),[sD],fun x=>g105 m x.1⟩
noncomputable def g105C:Code:=codeOf f105
noncomputable def g105B0:Code:=Q5 g105C 0 0
noncomputable def g105B2:Code:=Q5 g105B0 0 0
theorem g105K:FL [g101T m,g142T m]:=AllF.mem ⟨g101ok m,g142ok m,trivial⟩
def g105L1X:LT:=⟨2,[(0,.a (.c (.imm (.sl false (.pr .bool (.sl false (.int .u32))))))),(3,.a (.c (.dp 0 (.pr (.pr .bool (.sl false (.int .u32))) (.pr .bool (.sl false (.int .u32))))))),(4,sI),(5,.a (.c (.nm 1 (.pr (.pr .bool (.sl false (.int .u32))) (.pr .bool (.sl false (.int .u32))))))),(6,sI)],[(.exit 2,[(0,.a (.c (.imm (.sl false (.pr .bool (.sl false (.int .u32))))))),(3,.a (.c (.dp 0 (.pr (.pr .bool (.sl false (.int .u32))) (.pr .bool (.sl false (.int .u32))))))),(4,sI),(5,.a (.c (.nm 1 (.pr (.pr .bool (.sl false (.int .u32))) (.pr .bool (.sl false (.int .u32)))))))])],fun n x=>g105L1 m n x.1 x.2.1 x.2.2.1 x.2.2.2.1 x.2.2.2.2.1⟩
theorem g105L1ok {E} (hE:EO E 40 g105H) (n):LO E g105B2 ((g105L1X m).at n):=lk hE (g105K m) (g105L1X m) n
def g105L0X:LT:=⟨0,[(0,.a (.c (.imm (.sl false (.pr .bool (.sl false (.int .u32))))))),(3,.a (.c (.dp 0 (.pr (.pr .bool (.sl false (.int .u32))) (.pr .bool (.sl false (.int .u32))))))),(4,sI)],[(.exit 0,[(3,.a (.c (.dp 0 (.pr (.pr .bool (.sl false (.int .u32))) (.pr .bool (.sl false (.int .u32)))))))])],fun n x=>g105L0 m n x.1 x.2.1 x.2.2.1⟩
theorem g105L0ok {E} (hE:EO E 40 g105H) (n):LO E g105B0 ((g105L0X m).at n):=
 lok hmix htt hE (g105K m) (L:=[(g105L1X m).at m]) (g105L0X m) (l:=[(2,g105B2)]) kR (fun _ _=>⟨qm ⟨yb (g105L1ok m hE m),trivial⟩,trivial⟩) (fun n x=>kR) (fun _=>kR) n
theorem g105ok:FO (g105T m):=f1' g105H (g105T m) func105 (g105K m) fun _ h=>g105L0ok m h m
def g143H:Hints:=⟨[J [1],J [2]],[],[],[2],[],[[false]]⟩
def g143T:FunT:=⟨143,[.a (.agg [.bool,(.imm (.int .u32)),.bool,(.imm (.int .u32))])],sB,[sD],fun x=>g143 m x.1.1 x.1.2.1 x.1.2.2.1 x.1.2.2.2.1⟩
theorem g143ok:FO (g143T m):=fk g143H (g143T m) func143 (AllF.mem (l:=[g88T m]) ⟨g88ok m,trivial⟩)
def g106H:Hints:=⟨[J [0,1],J [0,1,6],J [0,1,6,12],J' [(0,1)] [0,1,6],J [0,1,6,29],J [4,5],J [0,1,7],J [0,1,7,41],J' [(0,1)] [0,1,7],J [0,1,7,8],J [0,1,7,8,46],J' [(0,1)] [0,1,7,8],J [0,1,7,8,63],J' [(1,1),(5,1)] [4,5],J [4,5]],[(0,[0,1,6]),(2,[0,1,7]),(4,[0,1,7,8])],[(0,[0,1]),(1,[0,1,6]),(2,[]),(3,[0,1,7]),(4,[0,1,7]),(5,[0,1,7,8])],[4,5],[],[[false],[false]]⟩
def g106T:FunT:=⟨106,[.a (.c (.imm (.sl false (.pr (.pr .bool (.sl false (.int .u32))) (.pr .bool (.sl false (.int .u32))))))),sL],.tup [(.c (.int .i64)),(.c (.int .i64))],[sD,sD],fun x=>g106 m x.1 x.2.1⟩
noncomputable def g106C:Code:=codeOf f106
noncomputable def g106B0:Code:=Q5 g106C 0 0
noncomputable def g106B2:Code:=Q5 g106C 0 1
noncomputable def g106B4:Code:=Q5 g106B2 2 0
theorem g106K:FL [g143T m]:=AllF.mem ⟨g143ok m,trivial⟩
def g106L2X:LT:=⟨4,[(0,.a (.c (.imm (.sl false (.pr (.pr .bool (.sl false (.int .u32))) (.pr .bool (.sl false (.int .u32)))))))),(1,sL),(7,sI),(8,sI)],[(.ret,[(4,sI),(5,sI)]),(.exit 4,[(0,.a (.c (.imm (.sl false (.pr (.pr .bool (.sl false (.int .u32))) (.pr .bool (.sl false (.int .u32)))))))),(1,sL),(7,sI)])],fun n x=>g106L2 m n x.1 x.2.1 x.2.2.1 x.2.2.2.1⟩
theorem g106L2ok {E} (hE:EO E 72 g106H) (n):LO E g106B4 ((g106L2X m).at n):=lk hE (g106K m) (g106L2X m) n
def g106L1X:LT:=⟨2,[(0,.a (.c (.imm (.sl false (.pr (.pr .bool (.sl false (.int .u32))) (.pr .bool (.sl false (.int .u32)))))))),(1,sL),(7,sI)],[(.ret,[(4,sI),(5,sI)]),(.exit 2,[])],fun n x=>g106L1 m n x.1 x.2.1 x.2.2.1⟩
theorem g106L1ok {E} (hE:EO E 72 g106H) (n):LO E g106B2 ((g106L1X m).at n):=
 lok hmix htt hE (g106K m) (L:=[(g106L2X m).at m]) (g106L1X m) (l:=[(4,g106B4)]) kR (fun _ _=>⟨qm ⟨yb (g106L2ok m hE m),trivial⟩,trivial⟩) (fun n x=>kR) (fun _=>kR) n
def g106L0X:LT:=⟨0,[(0,.a (.c (.imm (.sl false (.pr (.pr .bool (.sl false (.int .u32))) (.pr .bool (.sl false (.int .u32)))))))),(1,sL),(6,sI)],[(.ret,[(4,sI),(5,sI)]),(.exit 0,[(0,.a (.c (.imm (.sl false (.pr (.pr .bool (.sl false (.int .u32))) (.pr .bool (.sl false (.int .u32)))))))),(1,sL)])],fun n x=>g106L0 m n x.1 x.2.1 x.2.2.1⟩
theorem g106L0ok {E} (hE:EO E 72 g106H) (n):LO E g106B0 ((g106L0X m).at n):=lk hE (g106K m) (g106L0X m) n
theorem g106ok:FO (g106T m):=
 fok hmix htt (H:=g106H) (g106T m) func106 kR (g106K m) (L:=[(g106L0X m).at m,(g106L1X m).at m]) (l:=[(0,g106B0),(2,g106B2)]) kR (fun _ hE _ _=>⟨qm ⟨yb (g106L0ok m hE m),nb rfl,trivial⟩,qm ⟨nb rfl,yb (g106L1ok m hE m),trivial⟩,trivial⟩) (fun x=>kR)
def g165H:Hints:=⟨[J [0,1],J [0,1,5],J [0,1,5,6],J [0,1,5,6,18],J' [(0,1)] [0,1,5,6],J [0,1,5,6,7],J [0,1,5,6,7,8],J [0,1,5,6,7,8,24],J' [(0,1)] [0,1,5,6,7,8],J' [(0,1)] [0,1,5,6,7,8],J [0,1,5,6,7,8],J' [(0,1)] [0,1,5,6,7,8],J' [(5,1)] [0,1,5,6],J' [(0,1)] [4]],[(0,[0,1,5,6]),(2,[0,1,5,6,7,8])],[(0,[5]),(1,[0,1,5,6]),(2,[0,1,5,6,7]),(3,[0,1,5,6,7,8])],[4],[],[[true]]⟩
def g165T:FunT:=⟨165,[.a (.c (.imm (.int .u32))),.a (.c (.imm (.int .u32)))],.a (.c (.nm 0 (.int .u32))),[sD,sD],fun x=>g165 m x.1 x.2.1⟩
noncomputable def g165C:Code:=codeOf f165
noncomputable def g165B0:Code:=Q5 g165C 0 0
noncomputable def g165B2:Code:=Q5 g165B0 0 0
def g165L1X:LT:=⟨2,[(0,.a (.c (.imm (.int .u32)))),(1,.a (.c (.imm (.int .u32)))),(5,.a (.c (.nm 0 (.int .u32)))),(6,sI),(7,sU),(8,sI)],[(.exit 2,[(0,.a (.c (.imm (.int .u32)))),(1,.a (.c (.imm (.int .u32)))),(5,.a (.c (.nm 0 (.int .u32)))),(6,sI),(7,sU)])],fun n x=>g165L1 m n x.1 x.2.1 x.2.2.1 x.2.2.2.1 x.2.2.2.2.1 x.2.2.2.2.2.1⟩
theorem g165L1ok {E} (hE:EO E 66 g165H) (n):LO E g165B2 ((g165L1X m).at n):=lk hE noF (g165L1X m) n
def g165L0X:LT:=⟨0,[(0,.a (.c (.imm (.int .u32)))),(1,.a (.c (.imm (.int .u32)))),(5,.a (.c (.nm 0 (.int .u32)))),(6,sI)],[(.exit 0,[(5,.a (.c (.nm 0 (.int .u32))))])],fun n x=>g165L0 m n x.1 x.2.1 x.2.2.1 x.2.2.2.1⟩
theorem g165L0ok {E} (hE:EO E 66 g165H) (n):LO E g165B0 ((g165L0X m).at n):=
 lok hmix htt hE noF (L:=[(g165L1X m).at m]) (g165L0X m) (l:=[(2,g165B2)]) kR (fun _ _=>⟨qm ⟨yb (g165L1ok m hE m),trivial⟩,trivial⟩) (fun n x=>kR) (fun _=>kR) n
theorem g165ok:FO (g165T m):=f1' g165H (g165T m) func165 noF fun _ h=>g165L0ok m h m
def g145H:Hints:=⟨[J [2,3,4],J [4]],[],[],[4],[],[[false,false]]⟩
def g145T:FunT:=⟨145,[.a (.agg [.bool,(.imm (.int .u32))]),.a (.agg [.bool,(.imm (.int .u32))])],.a (.agg [.bool,(.imm (.int .u32))]),[sD,sD],fun x=>g145 m x.1.1 x.1.2.1 x.2.1.1 x.2.1.2.1⟩
theorem g145ok:FO (g145T m):=fk g145H (g145T m) func145 (AllF.mem (l:=[g125T m,g165T m,g126T m]) ⟨g125ok m,g165ok m,g126ok m,trivial⟩)
def g181H:Hints:=⟨[J [0,1,2,3],J [0,1,2,3,9],J [0,1,2,3,9,10],J [0,1,2,3,9,10,11,12],J [0,1,2,3,9,10,11,12,13],J [0,1,2,3,9,10,11,12,13,23],J' [(0,1)] [0,1,2,3,9,10,11,12,13],J [0,1,2,3,9,10,11,12,13,28],J' [(0,1)] [0,1,2,3,9,10,11,12,13],J' [(7,1)] [0,1,2,3,9,10,12,13,14],J' [(0,1)] [0,1,2,3,9,10,12,13,14],J [0,1,2,3,9,10,12,13,14],J' [(0,1)] [0,1,2,3,9,10,11,12,13],J' [(0,1)] [0,2,9,10,60],J [0,8],J [0,2,9,10,15],J [0,2,9,10,15,63],J' [(0,1)] [0,2,9,10,15],J [0,2,9,10,15],J [0,8]],[(0,[0,1,2,3,9,10,11,12,13]),(2,[0,2,9,10,15])],[(0,[0,2,9,10,11]),(1,[0,1,2,3,9,10,11,12,13]),(2,[0]),(3,[0,2,9,10,15])],[0,8],[0],[[false]]⟩
def g181T:FunT:=⟨181,[.a (.c (.nm 0 (.int .u32))),.a (.c (.imm (.int .u32))),sI,sU],sB,[.a (.c (.nm 0 (.int .u32))),sD,sD,sD],fun x=>g181 m x.1 x.2.1 x.2.2.1 x.2.2.2.1⟩
noncomputable def g181C:Code:=codeOf f181
noncomputable def g181B0:Code:=Q5 g181C 0 0
noncomputable def g181B2:Code:=Q5 g181C 0 1
def g181L1X:LT:=⟨2,[(0,.a (.c (.nm 0 (.int .u32)))),(2,sI),(9,sI),(10,.a (.c (.nm 1 (.int .u32)))),(15,sI)],[(.exit 2,[(0,.a (.c (.nm 0 (.int .u32))))])],fun n x=>g181L1 m n x.1 x.2.1 x.2.2.1 x.2.2.2.1 x.2.2.2.2.1⟩
theorem g181L1ok {E} (hE:EO E 75 g181H) (n):LO E g181B2 ((g181L1X m).at n):=lk hE noF (g181L1X m) n
def g181L0X:LT:=⟨0,[(0,.a (.c (.nm 0 (.int .u32)))),(1,.a (.c (.imm (.int .u32)))),(2,sI),(3,sU),(9,sI),(10,.a (.c (.nm 1 (.int .u32)))),(11,sU),(12,sU),(13,sI)],[(.exit 0,[(0,.a (.c (.nm 0 (.int .u32)))),(2,sI),(9,sI),(10,.a (.c (.nm 1 (.int .u32)))),(11,sU)])],fun n x=>g181L0 m n x.1 x.2.1 x.2.2.1 x.2.2.2.1 x.2.2.2.2.1 x.2.2.2.2.2.1 x.2.2.2.2.2.2.1 x.2.2.2.2.2.2.2.1 x.2.2.2.2.2.2.2.2.1⟩
theorem g181L0ok {E} (hE:EO E 75 g181H) (n):LO E g181B0 ((g181L0X m).at n):=lk hE noF (g181L0X m) n
theorem g181ok:FO (g181T m):=
 fok hmix htt (H:=g181H) (g181T m) func181 kR noF (L:=[(g181L0X m).at m,(g181L1X m).at m]) (l:=[(0,g181B0),(2,g181B2)]) kR (fun _ hE _ _=>⟨qm ⟨yb (g181L0ok m hE m),nb rfl,trivial⟩,qm ⟨nb rfl,yb (g181L1ok m hE m),trivial⟩,trivial⟩) (fun x=>kR)
def g180H:Hints:=⟨[J [0,1],J [0,1,19],J' [(0,1)] [4,5],J [0,1,6],J [0,1,6,7],J' [(3,1)] [0,6,7,8,9],J [0,6,7,8,9,41],J' [(0,1)] [0,6,7,8,9],J [0,6,7,8,9,10],J' [(0,1)] [6,7,8,9,10,11],J [6,7,8,9,10,11,56],J' [(0,1)] [6,7,8,9,10,11],J [6,7,8,9,10,11,12],J' [(0,1)] [6,7,8,9,10,11,13],J' [(4,11)] [6,7,8,9,10,11,13,90],J' [(0,1)] [6,7,8,9,10,11,13],J' [(2,1)] [6,7,8,9,10,11],J' [(0,1),(2,1),(4,1)] [10,14],J' [(0,1),(2,1)] [4,5]],[(0,[6,7,8,9,10,11]),(2,[6,7,8,9,10,11,13])],[(0,[7,8,10]),(1,[6,7,8,9,10,11]),(2,[6,7,8,9,10,11,13]),(3,[6,7,8,9,10,11,13])],[4,5],[],[[true],[false]]⟩
def g180T:FunT:=⟨180,[.a (.c (.imm (.int .u32))),.a (.c (.imm (.int .u32)))],.tup [(.c (.nm 0 (.int .u32))),(.c (.imm (.int .u32)))],[sD,sD],fun x=>g180 m x.1 x.2.1⟩
noncomputable def g180C:Code:=codeOf f180
noncomputable def g180B0:Code:=Q5 g180C 0 0
noncomputable def g180B2:Code:=Q5 g180B0 0 0
theorem g180K:FL [g128T m,g177T m,g147T m,g181T m,g125T m,g148T m]:=AllF.mem ⟨g128ok m,g177ok m,g147ok m,g181ok m,g125ok m,g148ok m,trivial⟩
def g180L1X:LT:=⟨2,[(6,sI),(7,sI),(8,.a (.c (.nm 0 (.int .u32)))),(9,.a (.c (.nm 1 (.int .u32)))),(10,.a (.c (.nm 2 (.int .u32)))),(11,sI),(13,sU)],[(.exit 2,[(6,sI),(7,sI),(8,.a (.c (.nm 0 (.int .u32)))),(9,.a (.c (.nm 1 (.int .u32)))),(10,.a (.c (.nm 2 (.int .u32)))),(11,sI),(13,sU)])],fun n x=>g180L1 m n x.1 x.2.1 x.2.2.1 x.2.2.2.1 x.2.2.2.2.1 x.2.2.2.2.2.1 x.2.2.2.2.2.2.1⟩
theorem g180L1ok {E} (hE:EO E 109 g180H) (n):LO E g180B2 ((g180L1X m).at n):=lk hE (g180K m) (g180L1X m) n
def g180L0X:LT:=⟨0,[(6,sI),(7,sI),(8,.a (.c (.nm 0 (.int .u32)))),(9,.a (.c (.nm 1 (.int .u32)))),(10,.a (.c (.nm 2 (.int .u32)))),(11,sI)],[(.exit 0,[(7,sI),(8,.a (.c (.nm 0 (.int .u32)))),(10,.a (.c (.nm 1 (.int .u32))))])],fun n x=>g180L0 m n x.1 x.2.1 x.2.2.1 x.2.2.2.1 x.2.2.2.2.1 x.2.2.2.2.2.1⟩
theorem g180L0ok {E} (hE:EO E 109 g180H) (n):LO E g180B0 ((g180L0X m).at n):=
 lok hmix htt hE (g180K m) (L:=[(g180L1X m).at m]) (g180L0X m) (l:=[(2,g180B2)]) kR (fun _ _=>⟨qm ⟨yb (g180L1ok m hE m),trivial⟩,trivial⟩) (fun n x=>kR) (fun _=>kR) n
theorem g180ok:FO (g180T m):=f1' g180H (g180T m) func180 (g180K m) fun _ h=>g180L0ok m h m
def g175H:Hints:=⟨[J [2,3,4,5],J [2,3,4,5],J' [(5,1)] [2,3,4,5,6,7],J' [(5,1),(9,1)] [3,4,5,8,9],J [3,4,5,8,9,35],J [3,4,5,8,9],J [4,5,8,9,41],J [4,5,8,9],J [4,5,8,9],J [4,5]],[],[],[4,5],[],[[false,false],[false,false]]⟩
def g175T:FunT:=⟨175,[.a (.agg [.bool,(.imm (.int .u32))]),.a (.agg [.bool,(.imm (.int .u32))])],.tup [(.agg [.bool,(.imm (.int .u32))]),(.agg [.bool,(.imm (.int .u32))])],[sD,sD],fun x=>g175 m x.1.1 x.1.2.1 x.2.1.1 x.2.1.2.1⟩
theorem g175ok:FO (g175T m):=fk g175H (g175T m) func175 (AllF.mem (l:=[g101T m,g180T m,g126T m,g88T m,g86T m,g85T m,g142T m,g146T m]) ⟨g101ok m,g180ok m,g126ok m,g88ok m,g86ok m,g85ok m,g142ok m,g146ok m,trivial⟩)
def g163H:Hints:=⟨[J [2,3,4],J [4,5,6],J [4,5,6,15],J' [(3,1)] [4,5,6,8],J [4,5,6],J [4]],[(0,[4,5,6])],[(0,[4,5]),(1,[4,5,6])],[4],[],[[false,false]]⟩
def g163T:FunT:=⟨163,[.a (.agg [.bool,(.imm (.int .u32))]),.a (.agg [.bool,(.imm (.int .u32))])],.a (.agg [.bool,(.imm (.int .u32))]),[sD,sD],fun x=>g163 m x.1.1 x.1.2.1 x.2.1.1 x.2.1.2.1⟩
noncomputable def g163C:Code:=codeOf f163
noncomputable def g163B0:Code:=Q5 g163C 0 0
theorem g163K:FL [g86T m,g88T m,g175T m]:=AllF.mem ⟨g86ok m,g88ok m,g175ok m,trivial⟩
def g163L0X:LT:=⟨0,[(4,sX 0 [.bool,.nm 1 (.int .u32)]),(5,sX 2 [.bool,.imm (.int .u32)]),(6,sX 3 [.bool,.imm (.int .u32)])],[(.exit 0,[(4,sX 0 [.bool,.nm 1 (.int .u32)]),(5,sX 2 [.bool,.imm (.int .u32)])])],fun n x=>g163L0 m n x.1.1 x.1.2.1 x.2.1.1 x.2.1.2.1 x.2.2.1.1 x.2.2.1.2.1⟩
theorem g163L0ok {E} (hE:EO E 25 g163H) (n):LO E g163B0 ((g163L0X m).at n):=lk hE (g163K m) (g163L0X m) n
theorem g163ok:FO (g163T m):=f1' g163H (g163T m) func163 (g163K m) fun _ h=>g163L0ok m h m
def g164H:Hints:=⟨[J [2,3,4],J' [(3,1)] [4,6,7],J [4,6,16],J [4,5],J [4,5]],[],[],[4,5],[],[[false,false],[false]]⟩
def g164T:FunT:=⟨164,[.a (.agg [.bool,(.imm (.int .u32))]),.a (.agg [.bool,(.imm (.int .u32))])],.tup [(.agg [.bool,(.imm (.int .u32))]),(.c .bool)],[sD,sD],fun x=>g164 m x.1.1 x.1.2.1 x.2.1.1 x.2.1.2.1⟩
theorem g164ok:FO (g164T m):=fk g164H (g164T m) func164 (AllF.mem (l:=[g175T m,g88T m]) ⟨g175ok m,g88ok m,trivial⟩)
def g144H:Hints:=⟨[J [2,3,4],J [2,3,4,5],J [2,3,4,5,15],J [2,3,4,5],J' [(3,1)] [3,4,5,6],J' [(3,1)] [4,6,8],J [4]],[],[],[4],[],[[false,false,false,false]]⟩
def g144T:FunT:=⟨144,[.a (.agg [.bool,(.imm (.int .u32))]),.a (.agg [.bool,(.imm (.int .u32))])],.a (.agg [.bool,(.imm (.int .u32)),.bool,(.imm (.int .u32))]),[sD,sD],fun x=>g144 m x.1.1 x.1.2.1 x.2.1.1 x.2.1.2.1⟩
theorem g144ok:FO (g144T m):=fk g144H (g144T m) func144 (AllF.mem (l:=[g163T m,g88T m,g100T m,g164T m]) ⟨g163ok m,g88ok m,g100ok m,g164ok m,trivial⟩)
def g107H:Hints:=⟨[J [4,5,6,7,8],J [4,8,9],J [8]],[],[],[8],[],[[false,false,false,false]]⟩
def g107T:FunT:=⟨107,[.a (.agg [.bool,(.imm (.int .u32)),.bool,(.imm (.int .u32))]),.a (.agg [.bool,(.imm (.int .u32)),.bool,(.imm (.int .u32))]),.a (.agg [.bool,(.imm (.int .u32)),.bool,(.imm (.int .u32))]),.a (.agg [.bool,(.imm (.int .u32)),.bool,(.imm (.int .u32))])],.a (.agg [.bool,(.imm (.int .u32)),.bool,(.imm (.int .u32))]),[sD,sD,sD,sD],fun x=>g107 m x.1.1 x.1.2.1 x.1.2.2.1 x.1.2.2.2.1 x.2.1.1 x.2.1.2.1 x.2.1.2.2.1 x.2.1.2.2.2.1 x.2.2.1.1 x.2.2.1.2.1 x.2.2.1.2.2.1 x.2.2.1.2.2.2.1 x.2.2.2.1.1 x.2.2.2.1.2.1 x.2.2.2.1.2.2.1 x.2.2.2.1.2.2.2.1⟩
theorem g107ok:FO (g107T m):=fk g107H (g107T m) func107 (AllF.mem (l:=[g145T m,g144T m,g146T m]) ⟨g145ok m,g144ok m,g146ok m,trivial⟩)
def g64H:Hints:=⟨[J [0],J [0,5],J [0,5,6,7],J [0,5,6,7,8],J [0,5,6,7,8,9],J [0,5,6,7,8,9,25],J' [(0,1)] [0,5,6,7,8,9],J' [(0,1)] [0,5,6,7,8,9],J [5,6,7,8,34],J' [(3,1)] [5,6,7,8,10,11],J [5,6,7,8,10,11,42],J [5,6,7,8,10,11,12],J [5,6,7,8,10,11,12,13],J [5,6,7,8,10,11,12,13,46],J' [(0,1)] [5,6,7,8,10,11,12,13],J' [(6,1)] [5,6,7,8,10,11,12,13,62],J' [(0,1)] [5,6,7,8,10,11,12,13],J [5,6,7,10,11,12,72],J [5,6,7,10,11,12,82],J' [(0,1)] [5,6,7,10,11,12],J' [(0,1)] [5,6,7,10,11,12],J' [(0,1),(2,1)] [5,6,7,10,11,12],J [5,6,7,10,11,12,14],J [5,6,7,10,11,12,14,15],J [5,6,7,10,11,12,14,15,101],J' [(0,1)] [5,6,7,10,11,12,14,15],J [5,6,7,10,11,12,14,15,16],J [5,6,7,10,11,12,14,15,16,106],J' [(0,1)] [5,6,7,10,11,12,14,15,16],J [5,6,7,10,11,12,14,15,16,17,18],J [5,6,7,10,11,12,14,15,16,17,18,19],J [5,6,7,10,11,12,14,15,16,17,18,19,142],J [5,6,7,10,11,12,14,15,16,17,18,19],J [5,6,7,10,11,12,14,15,16,17,18,19],J' [(1,1),(4,1)] [5,6,7,10,11,12,14,15,16],J' [(0,1)] [5,6,7,8],J' [(0,1),(1,1),(3,1)] [2,3,4]],[(0,[0,5,6,7,8,9]),(2,[5,6,7,8]),(4,[5,6,7,8,10,11,12,13]),(6,[5,6,7,10,11,12,14,15]),(8,[5,6,7,10,11,12,14,15,16])],[(0,[5,6,7,8]),(1,[0,5,6,7,8,9]),(2,[6,7,8]),(3,[5,6,7,8]),(4,[5,6,7,10,11,12]),(5,[5,6,7,8,10,11,12,13]),(6,[5,6,7,12]),(7,[5,6,7,10,11,12,14,15]),(8,[5,6,7,10,11,12,14,15]),(9,[5,6,7,10,11,12,14,15,16])],[2,3,4],[],[[false],[false],[false]]⟩
def g64T:FunT:=⟨64,[.a (.c (.imm (.sl false (.pr .bool (.sl false (.int .u32))))))],.tup [(.c (.int .i64)),(.c (.int .i64)),(.c (.int .i64))],[sD],fun x=>g64 m x.1⟩
noncomputable def g64C:Code:=codeOf f64
noncomputable def g64B0:Code:=Q5 g64C 0 0
noncomputable def g64B2:Code:=Q5 g64C 0 1
noncomputable def g64B4:Code:=Q5 g64B2 2 0
noncomputable def g64B6:Code:=Q5 g64B2 2 1
noncomputable def g64B8:Code:=Q5 g64B6 6 0
theorem g64K:FL [g105T m,g106T m,g88T m,g107T m]:=AllF.mem ⟨g105ok m,g106ok m,g88ok m,g107ok m,trivial⟩
def g64L4X:LT:=⟨8,[(5,.a (.c (.dp 0 (.pr (.pr .bool (.sl false (.int .u32))) (.pr .bool (.sl false (.int .u32))))))),(6,sI),(7,sI),(10,sI),(11,sI),(12,sN 1),(14,sX 2 [.bool,.imm (.int .u32),.bool,.imm (.int .u32)]),(15,sI),(16,sI)],[(.exit 8,[(5,.a (.c (.dp 0 (.pr (.pr .bool (.sl false (.int .u32))) (.pr .bool (.sl false (.int .u32))))))),(6,sI),(7,sI),(10,sI),(11,sI),(12,sN 1),(14,sX 2 [.bool,.imm (.int .u32),.bool,.imm (.int .u32)]),(15,sI)])],fun n x=>g64L4 m n x.1 x.2.1 x.2.2.1 x.2.2.2.1 x.2.2.2.2.1 x.2.2.2.2.2.1 x.2.2.2.2.2.2.1.1 x.2.2.2.2.2.2.1.2.1 x.2.2.2.2.2.2.1.2.2.1 x.2.2.2.2.2.2.1.2.2.2.1 x.2.2.2.2.2.2.2.1 x.2.2.2.2.2.2.2.2.1⟩
theorem g64L4ok {E} (hE:EO E 179 g64H) (n):LO E g64B8 ((g64L4X m).at n):=lk hE (g64K m) (g64L4X m) n
def g64L3X:LT:=⟨6,[(5,.a (.c (.dp 0 (.pr (.pr .bool (.sl false (.int .u32))) (.pr .bool (.sl false (.int .u32))))))),(6,sI),(7,sI),(10,sI),(11,sI),(12,sN 1),(14,sX 2 [.bool,.imm (.int .u32),.bool,.imm (.int .u32)]),(15,sI)],[(.exit 6,[(5,.a (.c (.dp 0 (.pr (.pr .bool (.sl false (.int .u32))) (.pr .bool (.sl false (.int .u32))))))),(6,sI),(7,sI),(12,sN 1)])],fun n x=>g64L3 m n x.1 x.2.1 x.2.2.1 x.2.2.2.1 x.2.2.2.2.1 x.2.2.2.2.2.1 x.2.2.2.2.2.2.1.1 x.2.2.2.2.2.2.1.2.1 x.2.2.2.2.2.2.1.2.2.1 x.2.2.2.2.2.2.1.2.2.2.1 x.2.2.2.2.2.2.2.1⟩
theorem g64L3ok {E} (hE:EO E 179 g64H) (n):LO E g64B6 ((g64L3X m).at n):=
 lok hmix htt hE (g64K m) (L:=[(g64L4X m).at m]) (g64L3X m) (l:=[(8,g64B8)]) kR (fun _ _=>⟨qm ⟨yb (g64L4ok m hE m),trivial⟩,trivial⟩) (fun n x=>kR) (fun _=>kR) n
def g64L2X:LT:=⟨4,[(5,.a (.c (.dp 0 (.pr (.pr .bool (.sl false (.int .u32))) (.pr .bool (.sl false (.int .u32))))))),(6,sI),(7,sI),(8,sN 1),(10,sI),(11,sI),(12,sN 2),(13,sI)],[(.exit 4,[(5,.a (.c (.dp 0 (.pr (.pr .bool (.sl false (.int .u32))) (.pr .bool (.sl false (.int .u32))))))),(6,sI),(7,sI),(10,sI),(11,sI),(12,sN 1)])],fun n x=>g64L2 m n x.1 x.2.1 x.2.2.1 x.2.2.2.1 x.2.2.2.2.1 x.2.2.2.2.2.1 x.2.2.2.2.2.2.1 x.2.2.2.2.2.2.2.1⟩
theorem g64L2ok {E} (hE:EO E 179 g64H) (n):LO E g64B4 ((g64L2X m).at n):=lk hE (g64K m) (g64L2X m) n
def g64L1X:LT:=⟨2,[(5,.a (.c (.dp 0 (.pr (.pr .bool (.sl false (.int .u32))) (.pr .bool (.sl false (.int .u32))))))),(6,sI),(7,sI),(8,sN 1)],[(.exit 2,[(6,sI),(7,sI),(8,sN 0)])],fun n x=>g64L1 m n x.1 x.2.1 x.2.2.1 x.2.2.2.1⟩
theorem g64L1ok {E} (hE:EO E 179 g64H) (n):LO E g64B2 ((g64L1X m).at n):=
 lok hmix htt hE (g64K m) (L:=[(g64L2X m).at m,(g64L3X m).at m]) (g64L1X m) (l:=[(4,g64B4),(6,g64B6)]) kR (fun _ _=>⟨qm ⟨yb (g64L2ok m hE m),nb rfl,trivial⟩,qm ⟨nb rfl,yb (g64L3ok m hE m),trivial⟩,trivial⟩) (fun n x=>kR) (fun _=>kR) n
def g64L0X:LT:=⟨0,[(0,.a (.c (.imm (.sl false (.pr .bool (.sl false (.int .u32))))))),(5,.a (.c (.dp 0 (.pr (.pr .bool (.sl false (.int .u32))) (.pr .bool (.sl false (.int .u32))))))),(6,sI),(7,sI),(8,sN 1),(9,sI)],[(.exit 0,[(5,.a (.c (.dp 0 (.pr (.pr .bool (.sl false (.int .u32))) (.pr .bool (.sl false (.int .u32))))))),(6,sI),(7,sI),(8,sN 1)])],fun n x=>g64L0 m n x.1 x.2.1 x.2.2.1 x.2.2.2.1 x.2.2.2.2.1 x.2.2.2.2.2.1⟩
theorem g64L0ok {E} (hE:EO E 179 g64H) (n):LO E g64B0 ((g64L0X m).at n):=lk hE (g64K m) (g64L0X m) n
theorem g64ok:FO (g64T m):=
 fok hmix htt (H:=g64H) (g64T m) func64 kR (g64K m) (L:=[(g64L0X m).at m,(g64L1X m).at m]) (l:=[(0,g64B0),(2,g64B2)]) kR (fun _ hE _ _=>⟨qm ⟨yb (g64L0ok m hE m),nb rfl,trivial⟩,qm ⟨nb rfl,yb (g64L1ok m hE m),trivial⟩,trivial⟩) (fun x=>kR)
def g29H:Hints:=⟨[J [0],J' [(0,1),(3,1)] [3,4],J' [(0,1),(1,1)] [2]],[],[],[2],[],[[false]]⟩
def g29T:FunT:=⟨29,[.a (.c (.imm (.sl false (.pr .bool (.pr (.pr .bool (.sl false (.int .u32))) (.int .i64))))))],sI,[sD],fun x=>g29 m x.1⟩
theorem g29ok:FO (g29T m):=fk g29H (g29T m) func29 (AllF.mem (l:=[g65T m,g64T m]) ⟨g65ok m,g64ok m,trivial⟩)
def g11H:Hints:=⟨[J [0,1,2],J [0,1,2,8],J [0,1,2,8,16],J' [(0,1)] [6,7],J [0,1,2,18],J [6,7],J [0,1,2,22],J [6,7],J [0,1,2,25],J' [(0,1)] [6,7],J' [(0,6)] [0,1,2,9],J [0,1,2,9,10],J [0,1,2,9,10,33],J' [(0,1)] [0,1,2,9,10],J [0,1,2,9,10,11],J [0,1,2,9,10,11],J [0,1,2,9,10,11,51],J [0,1,2,9,10,11],J [0,1,2,9,10,11,65],J [0,1,2,9,10,11],J' [(0,1),(1,1),(2,6),(3,6)] [0,1,2,9,10],J' [(0,1)] [6,7]],[(1,[0,1,2,9,10])],[(0,[0,1,2]),(1,[9]),(2,[0,1,2,9,10])],[6,7],[],[[false],[false]]⟩
def g11T:FunT:=⟨11,[.a (.c (.imm (.int .u64))),.a (.c (.imm (.int .u64))),sU],.tup [(.c (.int .i64)),(.c (.int .i64))],[sD,sD,sD],fun x=>g11 m x.1 x.2.1 x.2.2.1⟩
noncomputable def g11C:Code:=codeOf f11
noncomputable def g11B1:Code:=Q5 g11C 0 0
theorem g11K:FL [g25T m,g26T m,g28T m,g27T m,g29T m]:=AllF.mem ⟨g25ok m,g26ok m,g28ok m,g27ok m,g29ok m,trivial⟩
def g11L0X:LT:=⟨1,[(0,.a (.c (.imm (.int .u64)))),(1,.a (.c (.imm (.int .u64)))),(2,sU),(9,.a (.c (.dp 0 (.pr .bool (.pr (.pr .bool (.sl false (.int .u32))) (.int .i64)))))),(10,sI)],[(.exit 1,[(9,.a (.c (.dp 0 (.pr .bool (.pr (.pr .bool (.sl false (.int .u32))) (.int .i64))))))])],fun n x=>g11L0 m n x.1 x.2.1 x.2.2.1 x.2.2.2.1 x.2.2.2.2.1⟩
theorem g11L0ok {E} (hE:EO E 81 g11H) (n):LO E g11B1 ((g11L0X m).at n):=lk hE (g11K m) (g11L0X m) n
theorem g11ok:FO (g11T m):=f1' g11H (g11T m) func11 (g11K m) fun _ h=>g11L0ok m h m
def g32H:Hints:=⟨[J [0],J' [(0,1)] [2]],[],[],[2],[],[[false]]⟩
def g32T:FunT:=⟨32,[sU],sB,[sD],fun x=>g32 m x.1⟩
theorem g32ok:FO (g32T m):=fk g32H (g32T m) func32 (AllF.mem (l:=[g26T m]) ⟨g26ok m,trivial⟩)
def g15H:Hints:=⟨[J [0],J [0,4],J [2],J' [(0,1)] [2]],[],[],[2],[],[[false]]⟩
def g15T:FunT:=⟨15,[sU],sU,[sD],fun x=>g15 m x.1⟩
theorem g15ok:FO (g15T m):=fk g15H (g15T m) func15 (AllF.mem (l:=[g32T m]) ⟨g32ok m,trivial⟩)
def sparselaw37_awake_H:Hints:=⟨[J [],J [1,2],J' [(4,1)] [1,2,3,4],J' [(3,1)] [1,2,3,4,5,6],J' [(0,1),(1,1),(3,1)] [3,4,5,6,7,8],J' [(0,1),(2,1),(3,1),(6,1),(7,1),(10,1),(11,1),(14,1),(15,1),(18,1),(19,1)] [0]],[],[],[0],[],[[false]]⟩
abbrev sparselaw37_awake_A:List Sh:=[]
abbrev sparselaw37_awake_S:Sh:= sB
abbrev sparselaw37_awake_U:List Sh:=[]
def sparselaw37_awake_R:X3 sparselaw37_awake_A->Option (sparselaw37_awake_S.Val×X3 sparselaw37_awake_U):=fun(x:Unit)=>sparselaw37_awake m
def sparselaw37_awake_T:FunT:=⟨13,sparselaw37_awake_A,sparselaw37_awake_S,sparselaw37_awake_U,sparselaw37_awake_R m⟩
theorem sparselaw37_awake_ok:FO (sparselaw37_awake_T m):=fk sparselaw37_awake_H (sparselaw37_awake_T m) func13 (AllF.mem (l:=[g15T m,g10T m]) ⟨g15ok m,g10ok m,trivial⟩)
def g34H:Hints:=⟨[J [0,1],J [4]],[],[],[4],[],[[false]]⟩
def g34T:FunT:=⟨34,[sI,sI],sI,[sD,sD],fun x=>g34 m x.1 x.2.1⟩
theorem g34ok:FO (g34T m):=fk g34H (g34T m) func34 noF
def g76H:Hints:=⟨[J [0],J' [(0,1)] [5,6,7],J [5,6,7,8],J [4,5,6,7],J' [(0,1)] [5,6,7,13],J [2],J' [(1,1)] [5,6,7],J [2]],[(0,[5,6,7])],[(0,[]),(1,[5,6,7])],[2],[],[[false]]⟩
def g76T:FunT:=⟨76,[.a (.c (.imm (.int .u64)))],sB,[sD],fun x=>g76 m x.1⟩
noncomputable def g76C:Code:=codeOf f76
noncomputable def g76B0:Code:=Q5 g76C 0 0
theorem g76K:FL [g23T m]:=AllF.mem ⟨g23ok m,trivial⟩
def g76L0X:LT:=⟨0,[(5,.a (.c (.imm (.int .u64)))),(6,sI),(7,sI)],[(.ret,[(2,sB)]),(.exit 0,[])],fun n x=>g76L0 m n x.1 x.2.1 x.2.2.1⟩
theorem g76L0ok {E} (hE:EO E 15 g76H) (n):LO E g76B0 ((g76L0X m).at n):=lk hE (g76K m) (g76L0X m) n
theorem g76ok:FO (g76T m):=f1' g76H (g76T m) func76 (g76K m) fun _ h=>g76L0ok m h m
def g67H:Hints:=⟨[J [0],J [0,5],J [2],J' [(0,1)] [2]],[],[],[2],[],[[false]]⟩
def g67T:FunT:=⟨67,[sU],sU,[sD],fun x=>g67 m x.1⟩
theorem g67ok:FO (g67T m):=fk g67H (g67T m) func67 (AllF.mem (l:=[g76T m]) ⟨g76ok m,trivial⟩)
def g35H:Hints:=⟨[J [0],J' [(2,1)] [0,4],J [2,3],J [0,11],J' [(0,1)] [2,3],J' [(0,1)] [2,3]],[],[(0,[0])],[2,3],[],[[false],[false]]⟩
def g35T:FunT:=⟨35,[sI],.tup [(.c (.int .u64)),(.c .bool)],[sD],fun x=>g35 m x.1⟩
theorem g35ok:FO (g35T m):=fk g35H (g35T m) func35 (AllF.mem (l:=[g67T m]) ⟨g67ok m,trivial⟩)
def g16H:Hints:=⟨[J [0,1,2,6],J [0,1,2,6,8],J [0,1,2,6,8,19],J' [(1,1)] [6,7],J' [(2,1)] [0,1,2,6,29],J [6,7],J [0,1,2,6,9,10],J [0,1,2,6,9,10,34],J [0,1,2,6,9,10,11],J' [(2,1)] [0,1,2,6,9,10,11,12],J' [(2,1)] [0,1,2,6,9,10,11,48],J' [(0,1)] [0,1,2,6,9,10],J' [(0,1)] [0,1,2,6,9,10],J [0,1,6,9,10,14],J' [(0,1),(2,1)] [0,1,6,10,14],J' [(0,1),(2,1)] [0,1,6,14],J [6,14],J [6,7]],[(0,[0,1,2,6,9,10])],[(0,[0,1,6,9,10]),(1,[0,1,2,6,9,10])],[6,7],[],[[false,false,false],[false]]⟩
def g16T:FunT:=⟨16,[.a (.c (.imm (.int .u64))),.a (.c (.imm (.int .u64))),sI],.tup [(.agg [(.int .u64),(.int .u64),(.int .i64)]),(.c (.int .i64))],[sD,sD,sD],fun x=>g16 m x.1 x.2.1 x.2.2.1⟩
noncomputable def g16C:Code:=codeOf f16
noncomputable def g16B0:Code:=Q5 g16C 0 0
theorem g16K:FL [g22T m,g34T m,g35T m,g24T m]:=AllF.mem ⟨g22ok m,g34ok m,g35ok m,g24ok m,trivial⟩
def g16L0X:LT:=⟨0,[(0,.a (.c (.imm (.int .u64)))),(1,.a (.c (.imm (.int .u64)))),(2,sI),(6,sX 0 [iU,iU,iI]),(9,sI),(10,sI)],[(.exit 0,[(0,.a (.c (.imm (.int .u64)))),(1,.a (.c (.imm (.int .u64)))),(6,sX 0 [iU,iU,iI]),(9,sI),(10,sI)])],fun n x=>g16L0 m n x.1 x.2.1 x.2.2.1 x.2.2.2.1.1 x.2.2.2.1.2.1 x.2.2.2.1.2.2.1 x.2.2.2.2.1 x.2.2.2.2.2.1⟩
theorem g16L0ok {E} (hE:EO E 76 g16H) (n):LO E g16B0 ((g16L0X m).at n):=lk hE (g16K m) (g16L0X m) n
theorem g16ok:FO (g16T m):=f1' g16H (g16T m) func16 (g16K m) fun _ h=>g16L0ok m h m
def g39H:Hints:=⟨[J [0,2],J' [(0,1)] [2]],[],[],[2],[],[[false,false,false,false]]⟩
def g39T:FunT:=⟨39,[sI],.a (.agg [.bool,.bool,(.imm (.int .u32)),(.int .i64)]),[sD],fun x=>g39 m x.1⟩
theorem g39ok:FO (g39T m):=fk g39H (g39T m) func39 (AllF.mem (l:=[g69T m,g68T m]) ⟨g69ok m,g68ok m,trivial⟩)
def g42H:Hints:=⟨[J [0],J [0,5],J [2],J' [(0,1)] [2]],[],[],[2],[],[[false]]⟩
def g42T:FunT:=⟨42,[sU],sU,[sD],fun x=>g42 m x.1⟩
theorem g42ok:FO (g42T m):=fk g42H (g42T m) func42 (AllF.mem (l:=[g76T m]) ⟨g76ok m,trivial⟩)
def g121H:Hints:=⟨[J [1,2],J [2]],[],[],[2],[],[[false,false]]⟩
def g121T:FunT:=⟨121,[.a (.agg [.bool,(.imm (.int .u32))])],.a (.agg [.bool,(.imm (.int .u32))]),[sD],fun x=>g121 m x.1.1 x.1.2.1⟩
theorem g121ok:FO (g121T m):=fk g121H (g121T m) func121 (AllF.mem (l:=[g118T m,g112T m]) ⟨g118ok m,g112ok m,trivial⟩)
def g80H:Hints:=⟨[J [1,2],J [2]],[],[],[2],[],[[false,false,false,false,false]]⟩
def g80T:FunT:=⟨80,[.a (.agg [.bool,.bool,(.imm (.int .u32)),(.int .i64)])],.a (.agg [.bool,.bool,(.imm (.int .u32)),(.int .i64),.bool]),[sD],fun x=>g80 m x.1.1 x.1.2.1 x.1.2.2.1 x.1.2.2.2.1⟩
theorem g80ok:FO (g80T m):=fk g80H (g80T m) func80 (AllF.mem (l:=[g121T m]) ⟨g121ok m,trivial⟩)
def g119H:Hints:=⟨[J [1],J [2]],[],[],[2],[],[[false]]⟩
def g119T:FunT:=⟨119,[.a (.agg [.bool,.bool,(.imm (.int .u32)),(.int .i64),.bool])],sI,[sD],fun x=>g119 m x.1.1 x.1.2.1 x.1.2.2.1 x.1.2.2.2.1 x.1.2.2.2.2.1⟩
theorem g119ok:FO (g119T m):=fk g119H (g119T m) func119 (AllF.mem (l:=[g150T m]) ⟨g150ok m,trivial⟩)
def g169H:Hints:=⟨[J [2,3,4],J [2,3,4],J [4]],[],[],[4],[],[[false,false]]⟩
def g169T:FunT:=⟨169,[.a (.agg [.bool,(.imm (.int .u32))]),.a (.agg [.bool,(.imm (.int .u32))])],.a (.agg [.bool,(.imm (.int .u32))]),[sD,sD],fun x=>g169 m x.1.1 x.1.2.1 x.2.1.1 x.2.1.2.1⟩
theorem g169ok:FO (g169T m):=fk g169H (g169T m) func169 (AllF.mem (l:=[g73T m]) ⟨g73ok m,trivial⟩)
def g154H:Hints:=⟨[J [1,2,4],J [1,2,4,7],J' [(1,1)] [1,2,4,14],J [4,5,6],J [1,2,4],J [1,2,4,8],J' [(2,1)] [2,4,5,8],J' [(2,1)] [2,4,5,8,37],J [2,4,5,8],J' [(1,1),(5,1)] [4,5,6]],[],[],[4,5,6],[],[[false,false],[false],[false]]⟩
def g154T:FunT:=⟨154,[.a (.agg [.bool,.bool,(.imm (.int .u32)),(.int .i64),.bool]),sI],.tup [(.agg [.bool,(.imm (.int .u32))]),(.c (.int .i64)),(.c .bool)],[sD,sD],fun x=>g154 m x.1.1 x.1.2.1 x.1.2.2.1 x.1.2.2.2.1 x.1.2.2.2.2.1 x.2.1⟩
theorem g154ok:FO (g154T m):=fk g154H (g154T m) func154 (AllF.mem (l:=[g150T m,g151T m,g113T m,g169T m,g69T m,g93T m,g96T m]) ⟨g150ok m,g151ok m,g113ok m,g169ok m,g69ok m,g93ok m,g96ok m,trivial⟩)
def g122H:Hints:=⟨[J [1,2,3,6],J [1,2,3,6,7,8,9],J [1,2,3,6,7,8,9,16],J' [(3,1)] [2,3,6,7,8,9],J' [(1,1),(6,1)] [2,3,6,7,8,9],J [2,3,6,7,8,9,10],J' [(2,1),(5,1),(10,1)] [3,6,7,10],J' [(0,1)] [2,3,6,7,8,10,49],J [2,3,6,7,8,10,51],J [3,6,7,10],J [2,3,6,7,8,10,56],J [3,6,7,10],J' [(0,1)] [3,6,7,8,10,62],J' [(0,1)] [3,6,7,65],J [3,6,7],J [6,7,70],J [6,7],J [6]],[],[(0,[3,6,7,10])],[6],[],[[false,false]]⟩
def g122T:FunT:=⟨122,[.a (.agg [.bool,.bool,(.imm (.int .u32)),(.int .i64),.bool]),sI,sI],.a (.agg [.bool,(.imm (.int .u32))]),[sD,sD,sD],fun x=>g122 m x.1.1 x.1.2.1 x.1.2.2.1 x.1.2.2.2.1 x.1.2.2.2.2.1 x.2.1 x.2.2.1⟩
theorem g122ok:FO (g122T m):=fk g122H (g122T m) func122 (AllF.mem (l:=[g113T m,g75T m,g154T m,g69T m,g73T m,g96T m,g149T m]) ⟨g113ok m,g75ok m,g154ok m,g69ok m,g73ok m,g96ok m,g149ok m,trivial⟩)
def g120H:Hints:=⟨[J [1],J [1,4],J [1,4,13],J [2,3],J [1,4,5],J' [(0,1)] [1,5,14,15,16],J [1,5,14,15,16,17],J [1,5,6,7,14,15,16],J' [(0,1),(1,1),(3,1)] [1,5,14,15,16],J' [(1,1)] [1,5,14,15,16],J' [(2,1),(6,1)] [1,5,29],J' [(0,1)] [2,3],J' [(2,1),(6,1)] [5,45],J' [(0,1)] [2,3],J [2,3]],[(0,[1,5,14,15,16])],[(0,[1,5]),(1,[1,5,14,15,16]),(2,[])],[2,3],[],[[false],[false]]⟩
def g120T:FunT:=⟨120,[.a (.agg [.bool,(.imm (.int .u32))])],.tup [(.c (.int .i64)),(.c .bool)],[sD],fun x=>g120 m x.1.1 x.1.2.1⟩
noncomputable def g120C:Code:=codeOf f120
noncomputable def g120B0:Code:=Q5 g120C 0 0
theorem g120K:FL [g114T m]:=AllF.mem ⟨g114ok m,trivial⟩
def g120L0X:LT:=⟨0,[(1,sX 0 [.bool,.imm (.int .u32)]),(5,sU),(14,.a (.c (.imm (.int .u32)))),(15,sI),(16,sI)],[(.exit 0,[(1,sX 0 [.bool,.imm (.int .u32)]),(5,sU)])],fun n x=>g120L0 m n x.1.1 x.1.2.1 x.2.1 x.2.2.1 x.2.2.2.1 x.2.2.2.2.1⟩
theorem g120L0ok {E} (hE:EO E 59 g120H) (n):LO E g120B0 ((g120L0X m).at n):=lk hE (g120K m) (g120L0X m) n
theorem g120ok:FO (g120T m):=f1' g120H (g120T m) func120 (g120K m) fun _ h=>g120L0ok m h m
def g123H:Hints:=⟨[J [0,1],J' [(0,1)] [0,5],J' [(0,1)] [4],J' [(0,1)] [4]],[],[],[4],[],[[false]]⟩
def g123T:FunT:=⟨123,[sU,sB],sU,[sD,sD],fun x=>g123 m x.1 x.2.1⟩
theorem g123ok:FO (g123T m):=fk g123H (g123T m) func123 noF
def g124H:Hints:=⟨[J [0,1],J' [(2,1),(5,1),(10,1),(13,1)] [0,21],J' [(0,1)] [4],J' [(0,1)] [4]],[],[],[4],[],[[false]]⟩
def g124T:FunT:=⟨124,[sB,sI],sU,[sD,sD],fun x=>g124 m x.1 x.2.1⟩
theorem g124ok:FO (g124T m):=fk g124H (g124T m) func124 (AllF.mem (l:=[g123T m]) ⟨g123ok m,trivial⟩)
def g79H:Hints:=⟨[J [1,2],J [1,2,5],J' [(6,1)] [1,2,5,6],J' [(0,1)] [1,2,5,8],J [1,2,5,8,25],J' [(0,1)] [1,2,5,8],J [1,2,5,8,29],J' [(0,1)] [4],J [1,2,5,8,36],J' [(2,1)] [4],J' [(0,1),(4,1)] [4]],[],[],[4],[],[[false]]⟩
def g79T:FunT:=⟨79,[.a (.agg [.bool,.bool,(.imm (.int .u32)),(.int .i64),.bool]),sI],sU,[sD,sD],fun x=>g79 m x.1.1 x.1.2.1 x.1.2.2.1 x.1.2.2.2.1 x.1.2.2.2.2.1 x.2.1⟩
theorem g79ok:FO (g79T m):=fk g79H (g79T m) func79 (AllF.mem (l:=[g119T m,g122T m,g121T m,g120T m,g124T m,g123T m]) ⟨g119ok m,g122ok m,g121ok m,g120ok m,g124ok m,g123ok m,trivial⟩)
def g43H:Hints:=⟨[J [1,2],J [1,2],J [1,2,7],J [4],J [1,2,10],J [4],J' [(2,1)] [4]],[],[(0,[1,2])],[4],[],[[false]]⟩
def g43T:FunT:=⟨43,[.a (.agg [.bool,.bool,(.imm (.int .u32)),(.int .i64)]),sI],sU,[sD,sD],fun x=>g43 m x.1.1 x.1.2.1 x.1.2.2.1 x.1.2.2.2.1 x.2.1⟩
theorem g43ok:FO (g43T m):=fk g43H (g43T m) func43 (AllF.mem (l:=[g77T m,g78T m,g80T m,g79T m]) ⟨g77ok m,g78ok m,g80ok m,g79ok m,trivial⟩)
def g82H:Hints:=⟨[J [0],J [0,3],J' [(0,1)] [3,8],J' [(0,1)] [2],J' [(0,1)] [2]],[],[],[2],[],[[false]]⟩
def g82T:FunT:=⟨82,[sU],sI,[sD],fun x=>g82 m x.1⟩
theorem g82ok:FO (g82T m):=fk g82H (g82T m) func82 (AllF.mem (l:=[g74T m]) ⟨g74ok m,trivial⟩)
def g45H:Hints:=⟨[J [0,1],J [0,1,11],J [4,5],J' [(0,1),(2,1)] [6,7],J [6,7,16],J [4,5],J' [(0,1),(1,1)] [20],J [4,5],J [4,5]],[],[(0,[])],[4,5],[],[[false],[false]]⟩
def g45T:FunT:=⟨45,[sU,sU],.tup [(.c (.int .i64)),(.c .bool)],[sD,sD],fun x=>g45 m x.1 x.2.1⟩
theorem g45ok:FO (g45T m):=fk g45H (g45T m) func45 (AllF.mem (l:=[g76T m,g82T m]) ⟨g76ok m,g82ok m,trivial⟩)
def g18H:Hints:=⟨[J [0,1,4],J [0,1,4,6],J [0,1,4,6,21],J' [(1,1)] [4,5],J [0,1,4,7],J' [(0,1)] [1,4,7,24,25,26],J [1,4,7,24,25,26,27],J [1,4,7,8,9,24,25,26],J [1,4,7,8,9,10,24,25,26],J [1,4,7,8,9,10,24,25,26,33],J [1,4,7,8,9,10,24,25,26],J [1,4,7,8,9,10,24,25,26,46],J [1,4,7,8,9,10,24,25,26],J [1,4,7,8,9,10,11,24,25,26],J' [(0,1)] [1,4,7,8,11,12,24,25,26],J' [(4,1)] [1,4,7,8,11,12,13,24,25,26],J' [(2,1),(3,1)] [1,4,7,8,11,12,24,25,26,77],J' [(0,1)] [1,4,7,8,12,24,25,26],J' [(4,1)] [1,4,7,8,12,15,24,25,26],J' [(0,1),(2,1),(3,1)] [1,4,7,12,24,25,26,92],J' [(0,1)] [1,4,7,24,25,26],J' [(1,1)] [1,4,7,24,25,26],J [4,5]],[(0,[1,4,7,24,25,26])],[(0,[4,7]),(1,[1,4,7,24,25,26])],[4,5],[],[[false,false],[false]]⟩
def g18T:FunT:=⟨18,[.a (.c (.imm (.int .u64))),.a (.c (.imm (.int .u64)))],.tup [(.agg [(.int .u64),(.int .u64)]),(.c (.int .i64))],[sD,sD],fun x=>g18 m x.1 x.2.1⟩
noncomputable def g18C:Code:=codeOf f18
noncomputable def g18B0:Code:=Q5 g18C 0 0
theorem g18K:FL [g22T m,g39T m,g42T m,g41T m,g40T m,g44T m,g43T m,g45T m]:=AllF.mem ⟨g22ok m,g39ok m,g42ok m,g41ok m,g40ok m,g44ok m,g43ok m,g45ok m,trivial⟩
def g18L0X:LT:=⟨0,[(1,.a (.c (.imm (.int .u64)))),(4,sX 0 [iU,iU]),(7,sX 1 [iU,iU]),(24,.a (.c (.imm (.int .u64)))),(25,sI),(26,sI)],[(.exit 0,[(4,sX 0 [iU,iU]),(7,sX 1 [iU,iU])])],fun n x=>g18L0 m n x.1 x.2.1.1 x.2.1.2.1 x.2.2.1.1 x.2.2.1.2.1 x.2.2.2.1 x.2.2.2.2.1 x.2.2.2.2.2.1⟩
theorem g18L0ok {E} (hE:EO E 97 g18H) (n):LO E g18B0 ((g18L0X m).at n):=lk hE (g18K m) (g18L0X m) n
theorem g18ok:FO (g18T m):=f1' g18H (g18T m) func18 (g18K m) fun _ h=>g18L0ok m h m
def g47H:Hints:=⟨[J [1,2],J [1,2],J [1,2,6],J [2],J [2]],[],[],[2],[],[[false,false,false,false]]⟩
def g47T:FunT:=⟨47,[.a (.agg [.bool,.bool,(.imm (.int .u32)),(.int .i64)])],.a (.agg [.bool,.bool,(.imm (.int .u32)),(.int .i64)]),[sD],fun x=>g47 m x.1.1 x.1.2.1 x.1.2.2.1 x.1.2.2.2.1⟩
theorem g47ok:FO (g47T m):=fk g47H (g47T m) func47 (AllF.mem (l:=[g83T m,g86T m,g62T m]) ⟨g83ok m,g86ok m,g62ok m,trivial⟩)
def g130H:Hints:=⟨[J [2,3],J [4]],[],[],[4],[],[[false]]⟩
def g130T:FunT:=⟨130,[.a (.agg [.bool,(.imm (.int .u32))]),.a (.agg [.bool,(.imm (.int .u32))])],sI,[sD,sD],fun x=>g130 m x.1.1 x.1.2.1 x.2.1.1 x.2.1.2.1⟩
theorem g130ok:FO (g130T m):=fk g130H (g130T m) func130 (AllF.mem (l:=[g146T m,g88T m]) ⟨g146ok m,g88ok m,trivial⟩)
def g87H:Hints:=⟨[J [2,3],J [2,3],J' [(2,1)] [2,3,18],J [4,5],J' [(3,1)] [6,7],J [4,5]],[],[],[4,5],[],[[false],[false]]⟩
def g87T:FunT:=⟨87,[.a (.agg [.bool,.bool,(.imm (.int .u32)),(.int .i64)]),.a (.agg [.bool,.bool,(.imm (.int .u32)),(.int .i64)])],.tup [(.c (.int .i64)),(.c .bool)],[sD,sD],fun x=>g87 m x.1.1 x.1.2.1 x.1.2.2.1 x.1.2.2.2.1 x.2.1.1 x.2.1.2.1 x.2.1.2.2.1 x.2.1.2.2.2.1⟩
theorem g87ok:FO (g87T m):=fk g87H (g87T m) func87 (AllF.mem (l:=[g83T m,g84T m,g130T m]) ⟨g83ok m,g84ok m,g130ok m,trivial⟩)
def g48H:Hints:=⟨[J [2,3],J' [(3,1)] [5],J' [(0,1)] [4]],[],[],[4],[],[[false]]⟩
def g48T:FunT:=⟨48,[.a (.agg [.bool,.bool,(.imm (.int .u32)),(.int .i64)]),.a (.agg [.bool,.bool,(.imm (.int .u32)),(.int .i64)])],sB,[sD,sD],fun x=>g48 m x.1.1 x.1.2.1 x.1.2.2.1 x.1.2.2.2.1 x.2.1.1 x.2.1.2.1 x.2.1.2.2.1 x.2.1.2.2.2.1⟩
theorem g48ok:FO (g48T m):=fk g48H (g48T m) func48 (AllF.mem (l:=[g87T m]) ⟨g87ok m,trivial⟩)
def g19H:Hints:=⟨[J [0,1,4],J [0,1,4,6],J [0,1,4,6,17],J' [(1,1)] [4,5],J' [(0,2),(1,2)] [0,1,4,7,8],J [0,1,4,7,8,9],J [0,1,4,7,8,9,23],J' [(0,1)] [0,1,4,7,8,9],J' [(1,2),(2,2)] [0,1,4,7,8,9,10],J [0,1,4,7,8,9,10,28],J' [(0,2)] [0,1,4,7,8,9,10],J [0,1,4,7,8,9,10,41],J [0,1,4,7,8,9,10],J [0,1,4,7,8,9,11,12],J' [(2,1)] [0,1,4,7,8,9,11,12,70],J [0,1,4,7,8,9,12],J' [(2,1)] [0,1,4,7,8,9,12,78],J [0,1,4,7,8,9],J [4,5]],[(0,[0,1,4,7,8,9])],[(0,[4,7,8]),(1,[0,1,4,7,8,9])],[4,5],[],[[false,false],[false]]⟩
def g19T:FunT:=⟨19,[.a (.c (.imm (.int .u64))),.a (.c (.imm (.int .u64)))],.tup [(.agg [(.int .u64),(.int .u64)]),(.c (.int .i64))],[sD,sD],fun x=>g19 m x.1 x.2.1⟩
noncomputable def g19C:Code:=codeOf f19
noncomputable def g19B0:Code:=Q5 g19C 0 0
theorem g19K:FL [g25T m,g28T m,g47T m,g46T m,g27T m,g48T m,g49T m]:=AllF.mem ⟨g25ok m,g28ok m,g47ok m,g46ok m,g27ok m,g48ok m,g49ok m,trivial⟩
def g19L0X:LT:=⟨0,[(0,.a (.c (.imm (.int .u64)))),(1,.a (.c (.imm (.int .u64)))),(4,sX 0 [iU,iU]),(7,sX 1 [.bool,.bool,.imm (.int .u32),iI]),(8,sX 2 [.bool,.bool,.imm (.int .u32),iI]),(9,sI)],[(.exit 0,[(4,sX 0 [iU,iU]),(7,sX 1 [.bool,.bool,.imm (.int .u32),iI]),(8,sX 2 [.bool,.bool,.imm (.int .u32),iI])])],fun n x=>g19L0 m n x.1 x.2.1 x.2.2.1.1 x.2.2.1.2.1 x.2.2.2.1.1 x.2.2.2.1.2.1 x.2.2.2.1.2.2.1 x.2.2.2.1.2.2.2.1 x.2.2.2.2.1.1 x.2.2.2.2.1.2.1 x.2.2.2.2.1.2.2.1 x.2.2.2.2.1.2.2.2.1 x.2.2.2.2.2.1⟩
theorem g19L0ok {E} (hE:EO E 85 g19H) (n):LO E g19B0 ((g19L0X m).at n):=lk hE (g19K m) (g19L0X m) n
theorem g19ok:FO (g19T m):=f1' g19H (g19T m) func19 (g19K m) fun _ h=>g19L0ok m h m
end
end Go.Vs.F
