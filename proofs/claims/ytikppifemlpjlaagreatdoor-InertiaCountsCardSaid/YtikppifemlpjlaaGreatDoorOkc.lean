/-The plain functions are what the code does (by program:gen.py). -/
import Derived.Test.YtikppifemlpjlaaGreatDoorOkb
set_option linter.unusedVariables false
set_option maxRecDepth 100000
namespace Go.Vs.F
open Go.Proofs
open Tryz
section
variable (m:Nat)
def g206H:Hints:=⟨[J [0,1],J [0,1,19],J' [(0,1)] [4,5],J [0,1,6],J [0,1,6,7],J' [(3,1)] [0,6,7,8,9],J [0,6,7,8,9,41],J' [(0,1)] [0,6,7,8,9],J [0,6,7,8,9,10],J' [(0,1)] [6,7,8,9,10,11],J [6,7,8,9,10,11,56],J' [(0,1)] [6,7,8,9,10,11],J [6,7,8,9,10,11,12],J' [(0,1)] [6,7,8,9,10,11,13],J' [(4,11)] [6,7,8,9,10,11,13,90],J' [(0,1)] [6,7,8,9,10,11,13],J' [(2,1)] [6,7,8,9,10,11],J' [(0,1),(2,1),(4,1)] [10,14],J' [(0,1),(2,1)] [4,5]],[(0,[6,7,8,9,10,11]),(2,[6,7,8,9,10,11,13])],[(0,[7,8,10]),(1,[6,7,8,9,10,11]),(2,[6,7,8,9,10,11,13]),(3,[6,7,8,9,10,11,13])],[4,5],[],[[true],[false]]⟩
def g206T:FunT:=⟨206,[.a (.c (.imm (.int .u32))),.a (.c (.imm (.int .u32)))],.tup [(.c (.nm 0 (.int .u32))),(.c (.imm (.int .u32)))],[sD,sD],fun x=>g206 m x.1 x.2.1⟩
noncomputable def g206C:Code:=codeOf f206
noncomputable def g206B0:Code:=qo g206C 0 0
noncomputable def g206B2:Code:=qo g206B0 0 0
theorem g206K:FL [g194T m,g208T m,g128T m,g212T m,g166T m,g129T m]:=AllF.mem ⟨g194ok m,g208ok m,g128ok m,g212ok m,g166ok m,g129ok m,trivial⟩
def g206L1X:LT:=⟨2,[(6,sI),(7,sI),(8,.a (.c (.nm 0 (.int .u32)))),(9,.a (.c (.nm 1 (.int .u32)))),(10,.a (.c (.nm 2 (.int .u32)))),(11,sI),(13,sU)],[(.exit 2,[(6,sI),(7,sI),(8,.a (.c (.nm 0 (.int .u32)))),(9,.a (.c (.nm 1 (.int .u32)))),(10,.a (.c (.nm 2 (.int .u32)))),(11,sI),(13,sU)])],fun n x=>g206L1 m n x.1 x.2.1 x.2.2.1 x.2.2.2.1 x.2.2.2.2.1 x.2.2.2.2.2.1 x.2.2.2.2.2.2.1⟩
theorem g206L1ok {E} (hE:EO E 109 g206H) (n):LO E g206B2 ((g206L1X m).at n):=lk hE (g206K m) (g206L1X m) n
def g206L0X:LT:=⟨0,[(6,sI),(7,sI),(8,.a (.c (.nm 0 (.int .u32)))),(9,.a (.c (.nm 1 (.int .u32)))),(10,.a (.c (.nm 2 (.int .u32)))),(11,sI)],[(.exit 0,[(7,sI),(8,.a (.c (.nm 0 (.int .u32)))),(10,.a (.c (.nm 1 (.int .u32))))])],fun n x=>g206L0 m n x.1 x.2.1 x.2.2.1 x.2.2.2.1 x.2.2.2.2.1 x.2.2.2.2.2.1⟩
theorem g206L0ok {E} (hE:EO E 109 g206H) (n):LO E g206B0 ((g206L0X m).at n):=
 lok hmix htt hE (g206K m) (L:=[(g206L1X m).at m]) (g206L0X m) (l:=[(2,g206B2)]) kR (fun _ _=>⟨qj ⟨yb (g206L1ok m hE m),trivial⟩,trivial⟩) (fun n x=>kR) (fun _=>kR) n
theorem g206ok:FO (g206T m):=f1' g206H (g206T m) func206 (g206K m) fun _ h=>g206L0ok m h m
def g196H:Hints:=⟨[J [2,3,4,5],J [2,3,4,5],J' [(5,1)] [2,3,4,5,6,7],J' [(5,1),(9,1)] [3,4,5,8,9],J [3,4,5,8,9,35],J [3,4,5,8,9],J [4,5,8,9,41],J [4,5,8,9],J [4,5,8,9],J [4,5]],[],[],[4,5],[],[[false,false],[false,false]]⟩
def g196T:FunT:=⟨196,[.a (.agg [.bool,(.imm (.int .u32))]),.a (.agg [.bool,(.imm (.int .u32))])],.tup [(.agg [.bool,(.imm (.int .u32))]),(.agg [.bool,(.imm (.int .u32))])],[sD,sD],fun x=>g196 m x.1.1 x.1.2.1 x.2.1.1 x.2.1.2.1⟩
theorem g196ok:FO (g196T m):=fk g196H (g196T m) func196 (AllF.mem (l:=[g117T m,g206T m,g127T m,g69T m,g82T m,g163T m,g123T m,g126T m]) ⟨g117ok m,g206ok m,g127ok m,g69ok m,g82ok m,g163ok m,g123ok m,g126ok m,trivial⟩)
def g168H:Hints:=⟨[J [2,3,4],J [4,5,6],J [4,5,6,15],J' [(3,1)] [4,5,6,8],J [4,5,6],J [4]],[(0,[4,5,6])],[(0,[4,5]),(1,[4,5,6])],[4],[],[[false,false]]⟩
def g168T:FunT:=⟨168,[.a (.agg [.bool,(.imm (.int .u32))]),.a (.agg [.bool,(.imm (.int .u32))])],.a (.agg [.bool,(.imm (.int .u32))]),[sD,sD],fun x=>g168 m x.1.1 x.1.2.1 x.2.1.1 x.2.1.2.1⟩
noncomputable def g168C:Code:=codeOf f168
noncomputable def g168B0:Code:=qo g168C 0 0
theorem g168K:FL [g82T m,g69T m,g196T m]:=AllF.mem ⟨g82ok m,g69ok m,g196ok m,trivial⟩
def g168L0X:LT:=⟨0,[(4,sX 0 [.bool,.nm 1 (.int .u32)]),(5,sX 2 [.bool,.imm (.int .u32)]),(6,sX 3 [.bool,.imm (.int .u32)])],[(.exit 0,[(4,sX 0 [.bool,.nm 1 (.int .u32)]),(5,sX 2 [.bool,.imm (.int .u32)])])],fun n x=>g168L0 m n x.1.1 x.1.2.1 x.2.1.1 x.2.1.2.1 x.2.2.1.1 x.2.2.1.2.1⟩
theorem g168L0ok {E} (hE:EO E 25 g168H) (n):LO E g168B0 ((g168L0X m).at n):=lk hE (g168K m) (g168L0X m) n
theorem g168ok:FO (g168T m):=f1' g168H (g168T m) func168 (g168K m) fun _ h=>g168L0ok m h m
def g169H:Hints:=⟨[J [2,3,4],J' [(3,1)] [4,6,7],J [4,6,16],J [4,5],J [4,5]],[],[],[4,5],[],[[false,false],[false]]⟩
def g169T:FunT:=⟨169,[.a (.agg [.bool,(.imm (.int .u32))]),.a (.agg [.bool,(.imm (.int .u32))])],.tup [(.agg [.bool,(.imm (.int .u32))]),(.c .bool)],[sD,sD],fun x=>g169 m x.1.1 x.1.2.1 x.2.1.1 x.2.1.2.1⟩
theorem g169ok:FO (g169T m):=fk g169H (g169T m) func169 (AllF.mem (l:=[g196T m,g69T m]) ⟨g196ok m,g69ok m,trivial⟩)
def g125H:Hints:=⟨[J [2,3,4],J [2,3,4,5],J [2,3,4,5,15],J [2,3,4,5],J' [(3,1)] [3,4,5,6],J' [(3,1)] [4,6,8],J [4]],[],[],[4],[],[[false,false,false,false]]⟩
def g125T:FunT:=⟨125,[.a (.agg [.bool,(.imm (.int .u32))]),.a (.agg [.bool,(.imm (.int .u32))])],.a (.agg [.bool,(.imm (.int .u32)),.bool,(.imm (.int .u32))]),[sD,sD],fun x=>g125 m x.1.1 x.1.2.1 x.2.1.1 x.2.1.2.1⟩
theorem g125ok:FO (g125T m):=fk g125H (g125T m) func125 (AllF.mem (l:=[g168T m,g69T m,g164T m,g169T m]) ⟨g168ok m,g69ok m,g164ok m,g169ok m,trivial⟩)
def g79H:Hints:=⟨[J [4,5,6,7,8],J [4,8,9],J [8]],[],[],[8],[],[[false,false,false,false]]⟩
def g79T:FunT:=⟨79,[.a (.agg [.bool,(.imm (.int .u32)),.bool,(.imm (.int .u32))]),.a (.agg [.bool,(.imm (.int .u32)),.bool,(.imm (.int .u32))]),.a (.agg [.bool,(.imm (.int .u32)),.bool,(.imm (.int .u32))]),.a (.agg [.bool,(.imm (.int .u32)),.bool,(.imm (.int .u32))])],.a (.agg [.bool,(.imm (.int .u32)),.bool,(.imm (.int .u32))]),[sD,sD,sD,sD],fun x=>g79 m x.1.1 x.1.2.1 x.1.2.2.1 x.1.2.2.2.1 x.2.1.1 x.2.1.2.1 x.2.1.2.2.1 x.2.1.2.2.2.1 x.2.2.1.1 x.2.2.1.2.1 x.2.2.1.2.2.1 x.2.2.1.2.2.2.1 x.2.2.2.1.1 x.2.2.2.1.2.1 x.2.2.2.1.2.2.1 x.2.2.2.1.2.2.2.1⟩
theorem g79ok:FO (g79T m):=fk g79H (g79T m) func79 (AllF.mem (l:=[g120T m,g125T m,g126T m]) ⟨g120ok m,g125ok m,g126ok m,trivial⟩)
def g43H:Hints:=⟨[J [0],J [0,5],J [0,5,6,7],J [0,5,6,7,8],J [0,5,6,7,8,9],J [0,5,6,7,8,9,25],J' [(0,1)] [0,5,6,7,8,9],J' [(0,1)] [0,5,6,7,8,9],J [5,6,7,8,34],J' [(3,1)] [5,6,7,8,10,11],J [5,6,7,8,10,11,42],J [5,6,7,8,10,11,12],J [5,6,7,8,10,11,12,13],J [5,6,7,8,10,11,12,13,46],J' [(0,1)] [5,6,7,8,10,11,12,13],J' [(6,1)] [5,6,7,8,10,11,12,13,62],J' [(0,1)] [5,6,7,8,10,11,12,13],J [5,6,7,10,11,12,72],J [5,6,7,10,11,12,82],J' [(0,1)] [5,6,7,10,11,12],J' [(0,1)] [5,6,7,10,11,12],J' [(0,1),(2,1)] [5,6,7,10,11,12],J [5,6,7,10,11,12,14],J [5,6,7,10,11,12,14,15],J [5,6,7,10,11,12,14,15,101],J' [(0,1)] [5,6,7,10,11,12,14,15],J [5,6,7,10,11,12,14,15,16],J [5,6,7,10,11,12,14,15,16,106],J' [(0,1)] [5,6,7,10,11,12,14,15,16],J [5,6,7,10,11,12,14,15,16,17,18],J [5,6,7,10,11,12,14,15,16,17,18,19],J [5,6,7,10,11,12,14,15,16,17,18,19,142],J [5,6,7,10,11,12,14,15,16,17,18,19],J [5,6,7,10,11,12,14,15,16,17,18,19],J' [(1,1),(4,1)] [5,6,7,10,11,12,14,15,16],J' [(0,1)] [5,6,7,8],J' [(0,1),(1,1),(3,1)] [2,3,4]],[(0,[0,5,6,7,8,9]),(2,[5,6,7,8]),(4,[5,6,7,8,10,11,12,13]),(6,[5,6,7,10,11,12,14,15]),(8,[5,6,7,10,11,12,14,15,16])],[(0,[5,6,7,8]),(1,[0,5,6,7,8,9]),(2,[6,7,8]),(3,[5,6,7,8]),(4,[5,6,7,10,11,12]),(5,[5,6,7,8,10,11,12,13]),(6,[5,6,7,12]),(7,[5,6,7,10,11,12,14,15]),(8,[5,6,7,10,11,12,14,15]),(9,[5,6,7,10,11,12,14,15,16])],[2,3,4],[],[[false],[false],[false]]⟩
def g43T:FunT:=⟨43,[.a (.c (.imm (.sl false (.pr .bool (.sl false (.int .u32))))))],.tup [(.c (.int .i64)),(.c (.int .i64)),(.c (.int .i64))],[sD],fun x=>g43 m x.1⟩
noncomputable def g43C:Code:=codeOf f43
noncomputable def g43B0:Code:=qo g43C 0 0
noncomputable def g43B2:Code:=qo g43C 0 1
noncomputable def g43B4:Code:=qo g43B2 2 0
noncomputable def g43B6:Code:=qo g43B2 2 1
noncomputable def g43B8:Code:=qo g43B6 6 0
theorem g43K:FL [g77T m,g78T m,g69T m,g79T m]:=AllF.mem ⟨g77ok m,g78ok m,g69ok m,g79ok m,trivial⟩
def g43L4X:LT:=⟨8,[(5,.a (.c (.dp 0 (.pr (.pr .bool (.sl false (.int .u32))) (.pr .bool (.sl false (.int .u32))))))),(6,sI),(7,sI),(10,sI),(11,sI),(12,sN 1),(14,sX 2 [.bool,.imm (.int .u32),.bool,.imm (.int .u32)]),(15,sI),(16,sI)],[(.exit 8,[(5,.a (.c (.dp 0 (.pr (.pr .bool (.sl false (.int .u32))) (.pr .bool (.sl false (.int .u32))))))),(6,sI),(7,sI),(10,sI),(11,sI),(12,sN 1),(14,sX 2 [.bool,.imm (.int .u32),.bool,.imm (.int .u32)]),(15,sI)])],fun n x=>g43L4 m n x.1 x.2.1 x.2.2.1 x.2.2.2.1 x.2.2.2.2.1 x.2.2.2.2.2.1 x.2.2.2.2.2.2.1.1 x.2.2.2.2.2.2.1.2.1 x.2.2.2.2.2.2.1.2.2.1 x.2.2.2.2.2.2.1.2.2.2.1 x.2.2.2.2.2.2.2.1 x.2.2.2.2.2.2.2.2.1⟩
theorem g43L4ok {E} (hE:EO E 179 g43H) (n):LO E g43B8 ((g43L4X m).at n):=lk hE (g43K m) (g43L4X m) n
def g43L3X:LT:=⟨6,[(5,.a (.c (.dp 0 (.pr (.pr .bool (.sl false (.int .u32))) (.pr .bool (.sl false (.int .u32))))))),(6,sI),(7,sI),(10,sI),(11,sI),(12,sN 1),(14,sX 2 [.bool,.imm (.int .u32),.bool,.imm (.int .u32)]),(15,sI)],[(.exit 6,[(5,.a (.c (.dp 0 (.pr (.pr .bool (.sl false (.int .u32))) (.pr .bool (.sl false (.int .u32))))))),(6,sI),(7,sI),(12,sN 1)])],fun n x=>g43L3 m n x.1 x.2.1 x.2.2.1 x.2.2.2.1 x.2.2.2.2.1 x.2.2.2.2.2.1 x.2.2.2.2.2.2.1.1 x.2.2.2.2.2.2.1.2.1 x.2.2.2.2.2.2.1.2.2.1 x.2.2.2.2.2.2.1.2.2.2.1 x.2.2.2.2.2.2.2.1⟩
theorem g43L3ok {E} (hE:EO E 179 g43H) (n):LO E g43B6 ((g43L3X m).at n):=
 lok hmix htt hE (g43K m) (L:=[(g43L4X m).at m]) (g43L3X m) (l:=[(8,g43B8)]) kR (fun _ _=>⟨qj ⟨yb (g43L4ok m hE m),trivial⟩,trivial⟩) (fun n x=>kR) (fun _=>kR) n
def g43L2X:LT:=⟨4,[(5,.a (.c (.dp 0 (.pr (.pr .bool (.sl false (.int .u32))) (.pr .bool (.sl false (.int .u32))))))),(6,sI),(7,sI),(8,sN 1),(10,sI),(11,sI),(12,sN 2),(13,sI)],[(.exit 4,[(5,.a (.c (.dp 0 (.pr (.pr .bool (.sl false (.int .u32))) (.pr .bool (.sl false (.int .u32))))))),(6,sI),(7,sI),(10,sI),(11,sI),(12,sN 1)])],fun n x=>g43L2 m n x.1 x.2.1 x.2.2.1 x.2.2.2.1 x.2.2.2.2.1 x.2.2.2.2.2.1 x.2.2.2.2.2.2.1 x.2.2.2.2.2.2.2.1⟩
theorem g43L2ok {E} (hE:EO E 179 g43H) (n):LO E g43B4 ((g43L2X m).at n):=lk hE (g43K m) (g43L2X m) n
def g43L1X:LT:=⟨2,[(5,.a (.c (.dp 0 (.pr (.pr .bool (.sl false (.int .u32))) (.pr .bool (.sl false (.int .u32))))))),(6,sI),(7,sI),(8,sN 1)],[(.exit 2,[(6,sI),(7,sI),(8,sN 0)])],fun n x=>g43L1 m n x.1 x.2.1 x.2.2.1 x.2.2.2.1⟩
theorem g43L1ok {E} (hE:EO E 179 g43H) (n):LO E g43B2 ((g43L1X m).at n):=
 lok hmix htt hE (g43K m) (L:=[(g43L2X m).at m,(g43L3X m).at m]) (g43L1X m) (l:=[(4,g43B4),(6,g43B6)]) kR (fun _ _=>⟨qj ⟨yb (g43L2ok m hE m),nb rfl,trivial⟩,qj ⟨nb rfl,yb (g43L3ok m hE m),trivial⟩,trivial⟩) (fun n x=>kR) (fun _=>kR) n
def g43L0X:LT:=⟨0,[(0,.a (.c (.imm (.sl false (.pr .bool (.sl false (.int .u32))))))),(5,.a (.c (.dp 0 (.pr (.pr .bool (.sl false (.int .u32))) (.pr .bool (.sl false (.int .u32))))))),(6,sI),(7,sI),(8,sN 1),(9,sI)],[(.exit 0,[(5,.a (.c (.dp 0 (.pr (.pr .bool (.sl false (.int .u32))) (.pr .bool (.sl false (.int .u32))))))),(6,sI),(7,sI),(8,sN 1)])],fun n x=>g43L0 m n x.1 x.2.1 x.2.2.1 x.2.2.2.1 x.2.2.2.2.1 x.2.2.2.2.2.1⟩
theorem g43L0ok {E} (hE:EO E 179 g43H) (n):LO E g43B0 ((g43L0X m).at n):=lk hE (g43K m) (g43L0X m) n
theorem g43ok:FO (g43T m):=
 fok hmix htt (H:=g43H) (g43T m) func43 kR (g43K m) (L:=[(g43L0X m).at m,(g43L1X m).at m]) (l:=[(0,g43B0),(2,g43B2)]) kR (fun _ hE _ _=>⟨qj ⟨yb (g43L0ok m hE m),nb rfl,trivial⟩,qj ⟨nb rfl,yb (g43L1ok m hE m),trivial⟩,trivial⟩) (fun x=>kR)
def g16H:Hints:=⟨[J [1,2,4],J [1,2,4,6],J [1,2,4,6,14],J' [(1,1)] [4,5],J' [(1,1),(5,1)] [4,7,8,9],J' [(0,1),(1,1),(2,1)] [4,5]],[],[],[4,5],[],[[false,false,false],[false]]⟩
def g16T:FunT:=⟨16,[.a (.agg [(.int .i64),(.int .i64),(.imm (.int .i64)),(.imm (.int .i64)),(.imm (.int .u64))]),sU],.tup [(.agg [(.int .i64),(.int .i64),(.int .i64)]),(.c (.int .i64))],[sD,sD],fun x=>g16 m x.1.1 x.1.2.1 x.1.2.2.1 x.1.2.2.2.1 x.1.2.2.2.2.1 x.2.1⟩
theorem g16ok:FO (g16T m):=fk g16H (g16T m) func16 (AllF.mem (l:=[g36T m,g37T m,g44T m,g43T m]) ⟨g36ok m,g37ok m,g44ok m,g43ok m,trivial⟩)
def g55H:Hints:=⟨[J [0],J' [(0,1),(3,1)] [3,4],J' [(0,1),(1,1)] [2]],[],[],[2],[],[[false]]⟩
def g55T:FunT:=⟨55,[.a (.c (.imm (.sl false (.pr .bool (.pr (.pr .bool (.sl false (.int .u32))) (.int .i64))))))],sI,[sD],fun x=>g55 m x.1⟩
theorem g55ok:FO (g55T m):=fk g55H (g55T m) func55 (AllF.mem (l:=[g44T m,g43T m]) ⟨g44ok m,g43ok m,trivial⟩)
def g28H:Hints:=⟨[J [1,2],J [1,2,6],J [1,2,6,11],J' [(0,1)] [4,5],J [1,2,13],J [1,2,13,14],J [4,5],J [1,2,16],J [4,5],J' [(1,1)] [4,5]],[],[(0,[1,2])],[4,5],[],[[false],[false]]⟩
def g28T:FunT:=⟨28,[.a (.agg [(.int .i64),(.int .i64),(.imm (.int .i64)),(.imm (.int .i64)),(.imm (.int .u64))]),sU],.tup [(.c (.int .i64)),(.c (.int .i64))],[sD,sD],fun x=>g28 m x.1.1 x.1.2.1 x.1.2.2.1 x.1.2.2.2.1 x.1.2.2.2.2.1 x.2.1⟩
theorem g28ok:FO (g28T m):=fk g28H (g28T m) func28 (AllF.mem (l:=[g36T m,g37T m,g55T m]) ⟨g36ok m,g37ok m,g55ok m,trivial⟩)
def g29H:Hints:=⟨[J [1,2,4],J [1,2,4,6],J [1,2,4,6,15],J' [(1,1)] [4,5],J [1,2,4,7],J' [(1,1)] [2,4,7,8],J [2,4,7,8,27,28],J [2,4,7,8,27,28,29],J [2,4,7,8,9,27,28],J [2,4,7,8,9,27,28,32,33],J [2,4,7,8,9,27,28,32,33,34],J [2,4,7,8,9,10,27,28,32,33],J' [(3,1),(11,3)] [2,4,7,8,9,27,28,32,33],J' [(1,1)] [2,4,7,8,9,27,28,32,33],J' [(1,1)] [2,4,7,8,27,28],J' [(0,1)] [4,5]],[(0,[2,4,7,8,27,28]),(2,[2,4,7,8,9,27,28,32,33])],[(0,[4,7]),(1,[2,4,7,8,27,28]),(2,[2,4,7,8,27,28]),(3,[2,4,7,8,9,27,28,32,33])],[4,5],[],[[false,false,true],[false]]⟩
def g29T:FunT:=⟨29,[.a (.agg [(.int .i64),(.int .i64),(.imm (.int .i64)),(.imm (.int .i64)),(.imm (.int .u64))]),sU],.tup [(.agg [(.int .i64),(.int .i64),(.nm 0 (.pr .bool (.pr (.pr .bool (.sl false (.int .u32))) (.int .i64))))]),(.c (.int .i64))],[sD,sD],fun x=>g29 m x.1.1 x.1.2.1 x.1.2.2.1 x.1.2.2.2.1 x.1.2.2.2.2.1 x.2.1⟩
noncomputable def g29C:Code:=codeOf f29
noncomputable def g29B0:Code:=qo g29C 0 0
noncomputable def g29B2:Code:=qo g29B0 0 0
theorem g29K:FL [g33T m,g35T m,g56T m]:=AllF.mem ⟨g33ok m,g35ok m,g56ok m,trivial⟩
def g29L1X:LT:=⟨2,[(2,sX 0 [iI,iI,iL,iL,.imm (.int .u64)]),(4,sX 1 [iI,iI,.nm 2 (.pr .bool (.pr (.pr .bool (.sl false (.int .u32))) (.int .i64)))]),(7,sX 3 [iI,iI,.nm 4 (.pr .bool (.pr (.pr .bool (.sl false (.int .u32))) (.int .i64)))]),(8,.a (.c (.imm (.sl false (.pr .bool (.pr (.pr .bool (.sl false (.int .u32))) (.int .i64))))))),(9,sI),(27,sI),(28,sI),(32,sI),(33,sI)],[(.exit 2,[(2,sX 0 [iI,iI,iL,iL,.imm (.int .u64)]),(4,sX 1 [iI,iI,.nm 2 (.pr .bool (.pr (.pr .bool (.sl false (.int .u32))) (.int .i64)))]),(7,sX 3 [iI,iI,.nm 4 (.pr .bool (.pr (.pr .bool (.sl false (.int .u32))) (.int .i64)))]),(8,.a (.c (.imm (.sl false (.pr .bool (.pr (.pr .bool (.sl false (.int .u32))) (.int .i64))))))),(27,sI),(28,sI)])],fun n x=>g29L1 m n x.1.1 x.1.2.1 x.1.2.2.1 x.1.2.2.2.1 x.1.2.2.2.2.1 x.2.1.1 x.2.1.2.1 x.2.1.2.2.1 x.2.2.1.1 x.2.2.1.2.1 x.2.2.1.2.2.1 x.2.2.2.1 x.2.2.2.2.1 x.2.2.2.2.2.1 x.2.2.2.2.2.2.1 x.2.2.2.2.2.2.2.1 x.2.2.2.2.2.2.2.2.1⟩
theorem g29L1ok {E} (hE:EO E 52 g29H) (n):LO E g29B2 ((g29L1X m).at n):=lk hE (g29K m) (g29L1X m) n
def g29L0X:LT:=⟨0,[(2,sX 0 [iI,iI,iL,iL,.imm (.int .u64)]),(4,sX 1 [iI,iI,.nm 2 (.pr .bool (.pr (.pr .bool (.sl false (.int .u32))) (.int .i64)))]),(7,sX 3 [iI,iI,.nm 4 (.pr .bool (.pr (.pr .bool (.sl false (.int .u32))) (.int .i64)))]),(8,.a (.c (.imm (.sl false (.pr .bool (.pr (.pr .bool (.sl false (.int .u32))) (.int .i64))))))),(27,sI),(28,sI)],[(.exit 0,[(4,sX 0 [iI,iI,.nm 1 (.pr .bool (.pr (.pr .bool (.sl false (.int .u32))) (.int .i64)))]),(7,sX 2 [iI,iI,.nm 3 (.pr .bool (.pr (.pr .bool (.sl false (.int .u32))) (.int .i64)))])])],fun n x=>g29L0 m n x.1.1 x.1.2.1 x.1.2.2.1 x.1.2.2.2.1 x.1.2.2.2.2.1 x.2.1.1 x.2.1.2.1 x.2.1.2.2.1 x.2.2.1.1 x.2.2.1.2.1 x.2.2.1.2.2.1 x.2.2.2.1 x.2.2.2.2.1 x.2.2.2.2.2.1⟩
theorem g29L0ok {E} (hE:EO E 52 g29H) (n):LO E g29B0 ((g29L0X m).at n):=
 lok hmix htt hE (g29K m) (L:=[(g29L1X m).at m]) (g29L0X m) (l:=[(2,g29B2)]) kR (fun _ _=>⟨qj ⟨yb (g29L1ok m hE m),trivial⟩,trivial⟩) (fun n x=>kR) (fun _=>kR) n
theorem g29ok:FO (g29T m):=f1' g29H (g29T m) func29 (g29K m) fun _ h=>g29L0ok m h m
def g57H:Hints:=⟨[J [0,1,4],J [4]],[],[],[4],[],[[false,false,true]]⟩
def g57T:FunT:=⟨57,[sI,sI],.a (.agg [(.int .i64),(.int .i64),(.nm 0 (.pr .bool (.pr (.pr .bool (.sl false (.int .u32))) (.int .i64))))]),[sD,sD],fun x=>g57 m x.1 x.2.1⟩
theorem g57ok:FO (g57T m):=fk g57H (g57T m) func57 noF
def g30H:Hints:=⟨[J [1,2,4],J [1,2,4,6],J [1,2,4,6,15],J' [(1,1)] [4,5],J [1,2,4,7],J' [(1,1)] [2,4,7,8],J [2,4,7,8,9],J [2,4,7,8,9,29],J' [(0,1)] [2,4,7,8,9],J [2,4,7,8,9,10],J [2,4,7,8,9,10,35],J' [(0,1)] [2,4,7,8,9,10],J [2,4,7,8,9,10],J' [(0,1)] [4,5]],[(0,[2,4,7,8,9]),(2,[2,4,7,8,9,10])],[(0,[4,7]),(1,[2,4,7,8,9]),(2,[2,4,7,8,9]),(3,[2,4,7,8,9,10])],[4,5],[],[[false,false,true],[false]]⟩
def g30T:FunT:=⟨30,[.a (.agg [(.int .i64),(.int .i64),(.imm (.int .i64)),(.imm (.int .i64)),(.imm (.int .u64))]),sU],.tup [(.agg [(.int .i64),(.int .i64),(.nm 0 (.pr .bool (.pr (.pr .bool (.sl false (.int .u32))) (.int .i64))))]),(.c (.int .i64))],[sD,sD],fun x=>g30 m x.1.1 x.1.2.1 x.1.2.2.1 x.1.2.2.2.1 x.1.2.2.2.2.1 x.2.1⟩
noncomputable def g30C:Code:=codeOf f30
noncomputable def g30B0:Code:=qo g30C 0 0
noncomputable def g30B2:Code:=qo g30B0 0 0
theorem g30K:FL [g36T m,g57T m,g37T m]:=AllF.mem ⟨g36ok m,g57ok m,g37ok m,trivial⟩
def g30L1X:LT:=⟨2,[(2,sX 0 [iI,iI,iL,iL,.imm (.int .u64)]),(4,sX 1 [iI,iI,.nm 2 (.pr .bool (.pr (.pr .bool (.sl false (.int .u32))) (.int .i64)))]),(7,sX 3 [iI,iI,.nm 4 (.pr .bool (.pr (.pr .bool (.sl false (.int .u32))) (.int .i64)))]),(8,.a (.c (.imm (.sl false (.pr .bool (.pr (.pr .bool (.sl false (.int .u32))) (.int .i64))))))),(9,sI),(10,sI)],[(.exit 2,[(2,sX 0 [iI,iI,iL,iL,.imm (.int .u64)]),(4,sX 1 [iI,iI,.nm 2 (.pr .bool (.pr (.pr .bool (.sl false (.int .u32))) (.int .i64)))]),(7,sX 3 [iI,iI,.nm 4 (.pr .bool (.pr (.pr .bool (.sl false (.int .u32))) (.int .i64)))]),(8,.a (.c (.imm (.sl false (.pr .bool (.pr (.pr .bool (.sl false (.int .u32))) (.int .i64))))))),(9,sI)])],fun n x=>g30L1 m n x.1.1 x.1.2.1 x.1.2.2.1 x.1.2.2.2.1 x.1.2.2.2.2.1 x.2.1.1 x.2.1.2.1 x.2.1.2.2.1 x.2.2.1.1 x.2.2.1.2.1 x.2.2.1.2.2.1 x.2.2.2.1 x.2.2.2.2.1 x.2.2.2.2.2.1⟩
theorem g30L1ok {E} (hE:EO E 55 g30H) (n):LO E g30B2 ((g30L1X m).at n):=lk hE (g30K m) (g30L1X m) n
def g30L0X:LT:=⟨0,[(2,sX 0 [iI,iI,iL,iL,.imm (.int .u64)]),(4,sX 1 [iI,iI,.nm 2 (.pr .bool (.pr (.pr .bool (.sl false (.int .u32))) (.int .i64)))]),(7,sX 3 [iI,iI,.nm 4 (.pr .bool (.pr (.pr .bool (.sl false (.int .u32))) (.int .i64)))]),(8,.a (.c (.imm (.sl false (.pr .bool (.pr (.pr .bool (.sl false (.int .u32))) (.int .i64))))))),(9,sI)],[(.exit 0,[(4,sX 0 [iI,iI,.nm 1 (.pr .bool (.pr (.pr .bool (.sl false (.int .u32))) (.int .i64)))]),(7,sX 2 [iI,iI,.nm 3 (.pr .bool (.pr (.pr .bool (.sl false (.int .u32))) (.int .i64)))])])],fun n x=>g30L0 m n x.1.1 x.1.2.1 x.1.2.2.1 x.1.2.2.2.1 x.1.2.2.2.2.1 x.2.1.1 x.2.1.2.1 x.2.1.2.2.1 x.2.2.1.1 x.2.2.1.2.1 x.2.2.1.2.2.1 x.2.2.2.1 x.2.2.2.2.1⟩
theorem g30L0ok {E} (hE:EO E 55 g30H) (n):LO E g30B0 ((g30L0X m).at n):=
 lok hmix htt hE (g30K m) (L:=[(g30L1X m).at m]) (g30L0X m) (l:=[(2,g30B2)]) kR (fun _ _=>⟨qj ⟨yb (g30L1ok m hE m),trivial⟩,trivial⟩) (fun n x=>kR) (fun _=>kR) n
theorem g30ok:FO (g30T m):=f1' g30H (g30T m) func30 (g30K m) fun _ h=>g30L0ok m h m
def g185H:Hints:=⟨[J [0,1],J [0,1,10],J [4],J [0,1,5],J [0,1,5,14],J' [(0,1)] [0,1,5],J [0,1,5,25],J [4],J [4]],[(0,[0,1,5])],[(0,[]),(1,[0,1,5])],[4],[],[[false]]⟩
def g185T:FunT:=⟨185,[.a (.c (.imm (.int .u32))),.a (.c (.imm (.int .u32)))],sB,[sD,sD],fun x=>g185 m x.1 x.2.1⟩
noncomputable def g185C:Code:=codeOf f185
noncomputable def g185B0:Code:=qo g185C 0 0
def g185L0X:LT:=⟨0,[(0,.a (.c (.imm (.int .u32)))),(1,.a (.c (.imm (.int .u32)))),(5,sI)],[(.ret,[(4,sB)]),(.exit 0,[])],fun n x=>g185L0 m n x.1 x.2.1 x.2.2.1⟩
theorem g185L0ok {E} (hE:EO E 26 g185H) (n):LO E g185B0 ((g185L0X m).at n):=lk hE noF (g185L0X m) n
theorem g185ok:FO (g185T m):=f1' g185H (g185T m) func185 noF fun _ h=>g185L0ok m h m
def g152H:Hints:=⟨[J [2,3],J' [(5,1)] [4]],[],[],[4],[],[[false]]⟩
def g152T:FunT:=⟨152,[.a (.agg [.bool,(.imm (.int .u32))]),.a (.agg [.bool,(.imm (.int .u32))])],sB,[sD,sD],fun x=>g152 m x.1.1 x.1.2.1 x.2.1.1 x.2.1.2.1⟩
theorem g152ok:FO (g152T m):=fk g152H (g152T m) func152 (AllF.mem (l:=[g185T m]) ⟨g185ok m,trivial⟩)
def g98H:Hints:=⟨[J [2,3],J' [(5,1),(12,1)] [4]],[],[],[4],[],[[false]]⟩
def g98T:FunT:=⟨98,[.a (.agg [.bool,.bool,(.imm (.int .u32)),(.int .i64)]),.a (.agg [.bool,.bool,(.imm (.int .u32)),(.int .i64)])],sB,[sD,sD],fun x=>g98 m x.1.1 x.1.2.1 x.1.2.2.1 x.1.2.2.2.1 x.2.1.1 x.2.1.2.1 x.2.1.2.2.1 x.2.1.2.2.2.1⟩
theorem g98ok:FO (g98T m):=fk g98H (g98T m) func98 (AllF.mem (l:=[g152T m]) ⟨g152ok m,trivial⟩)
def g58H:Hints:=⟨[J [2,3],J [4]],[],[],[4],[],[[false]]⟩
def g58T:FunT:=⟨58,[.a (.agg [.bool,.bool,(.imm (.int .u32)),(.int .i64)]),.a (.agg [.bool,.bool,(.imm (.int .u32)),(.int .i64)])],sB,[sD,sD],fun x=>g58 m x.1.1 x.1.2.1 x.1.2.2.1 x.1.2.2.2.1 x.2.1.1 x.2.1.2.1 x.2.1.2.2.1 x.2.1.2.2.2.1⟩
theorem g58ok:FO (g58T m):=fk g58H (g58T m) func58 (AllF.mem (l:=[g68T m,g98T m]) ⟨g68ok m,g98ok m,trivial⟩)
def g31H:Hints:=⟨[J [2,3],J' [(5,1),(12,1)] [2,3,26],J [4],J [2,3,5],J [2,3,5,31],J' [(0,1)] [2,3,5],J [2,3,5,45],J [4],J [4]],[(0,[2,3,5])],[(0,[]),(1,[2,3,5])],[4],[],[[false]]⟩
def g31T:FunT:=⟨31,[.a (.agg [(.int .i64),(.int .i64),(.imm (.pr .bool (.pr (.pr .bool (.sl false (.int .u32))) (.int .i64))))]),.a (.agg [(.int .i64),(.int .i64),(.imm (.pr .bool (.pr (.pr .bool (.sl false (.int .u32))) (.int .i64))))])],sB,[sD,sD],fun x=>g31 m x.1.1 x.1.2.1 x.1.2.2.1 x.2.1.1 x.2.1.2.1 x.2.1.2.2.1⟩
noncomputable def g31C:Code:=codeOf f31
noncomputable def g31B0:Code:=qo g31C 0 0
theorem g31K:FL [g58T m]:=AllF.mem ⟨g58ok m,trivial⟩
def g31L0X:LT:=⟨0,[(2,sX 0 [iI,iI,.imm (.pr .bool (.pr (.pr .bool (.sl false (.int .u32))) (.int .i64)))]),(3,sX 1 [iI,iI,.imm (.pr .bool (.pr (.pr .bool (.sl false (.int .u32))) (.int .i64)))]),(5,sI)],[(.ret,[(4,sB)]),(.exit 0,[])],fun n x=>g31L0 m n x.1.1 x.1.2.1 x.1.2.2.1 x.2.1.1 x.2.1.2.1 x.2.1.2.2.1 x.2.2.1⟩
theorem g31L0ok {E} (hE:EO E 46 g31H) (n):LO E g31B0 ((g31L0X m).at n):=lk hE (g31K m) (g31L0X m) n
theorem g31ok:FO (g31T m):=f1' g31H (g31T m) func31 (g31K m) fun _ h=>g31L0ok m h m
def sparselaw39_InertiaCounts_H:Hints:=⟨[J [0,1,2,3,4],J' [(0,1),(1,1),(2,1),(3,1),(4,1),(6,1),(9,2),(10,2)] [11,12],J' [(3,1)] [11,12,13,14],J' [(3,1)] [11,12,13,14,15,16],J' [(3,1)] [11,12,13,14,15,16,17,18],J' [(3,1)] [11,12,13,14,15,16,17,18,19,20],J' [(0,2),(3,1)] [11,12,13,14,15,16,17,18,19,20,21,22],J' [(1,1),(3,1)] [13,14,15,16,17,18,19,20,21,22,23,24],J' [(3,1),(4,1),(5,1),(8,1),(9,1),(10,1),(13,1),(14,1),(15,1),(18,1),(19,1),(20,1),(23,1),(28,1)] [10]],[],[],[10],[],[[false]]⟩
abbrev sparselaw39_InertiaCounts_A:List Sh:=[.a (.c (.imm (.int .u64))),sI,sI,sU,sB]
abbrev sparselaw39_InertiaCounts_S:Sh:= sB
abbrev sparselaw39_InertiaCounts_U:List Sh:=[sD,sD,sD,sD,sD]
def sparselaw39_InertiaCounts_R:X4 sparselaw39_InertiaCounts_A->Option (sparselaw39_InertiaCounts_S.Val×X4 sparselaw39_InertiaCounts_U):=fun(x:LI×Int×Int×Int×Bool×Unit)=>sparselaw39_InertiaCounts m x.1 x.2.1 x.2.2.1 x.2.2.2.1 x.2.2.2.2.1
def sparselaw39_InertiaCounts_T:FunT:=⟨9,sparselaw39_InertiaCounts_A,sparselaw39_InertiaCounts_S,sparselaw39_InertiaCounts_U,sparselaw39_InertiaCounts_R m⟩
theorem sparselaw39_InertiaCounts_ok:FO (sparselaw39_InertiaCounts_T m):=fk sparselaw39_InertiaCounts_H (sparselaw39_InertiaCounts_T m) func9 (AllF.mem (l:=[sparselaw39_pick_T m,g20T m,g16T m,g24T m,g28T m,g29T m,g30T m,g31T m,sparselaw39_awake_T m]) ⟨sparselaw39_pick_ok m,g20ok m,g16ok m,g24ok m,g28ok m,g29ok m,g30ok m,g31ok m,sparselaw39_awake_ok m,trivial⟩)
end
end Go.Vs.F
