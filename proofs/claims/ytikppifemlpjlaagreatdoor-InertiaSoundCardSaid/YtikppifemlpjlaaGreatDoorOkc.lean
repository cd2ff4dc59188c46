/-The plain functions are what the code does (by program:gen.py). -/
import Derived.Test.YtikppifemlpjlaaGreatDoorOkb
set_option linter.unusedVariables false
set_option maxRecDepth 100000
namespace Go.Vs.F
open Go.Proofs
open Tryz
section
variable (m:Nat)
def g51H:Hints:=⟨[J [0,3,4],J [0,3,4,5],J [0,3,4,5,18],J' [(0,1)] [2,3,4,5],J [0,3,4,20,21,22],J [0,3,4,20,21,22,23],J [0,3,4,6,7,20,21,22],J' [(0,1)] [0,3,4,6,20,21,22,27,28,29],J [0,3,4,6,20,21,22,27,28,29,30],J [0,3,4,6,8,9,20,21,22,27,28,29],J' [(2,1)] [0,3,4,6,20,21,22,27,28,29,43],J [2,3,4,5],J' [(1,1)] [0,3,4,6,20,21,22,27,28,29],J' [(1,1)] [0,3,4,20,21,22],J [0,3,4,10],J' [(4,1)] [0,3,4,10,60],J' [(0,1)] [0,3,4,10],J [0,3,4,10,11],J' [(0,1)] [0,3,4,11,63,64,65],J [0,3,4,11,63,64,65,66],J [0,3,4,11,13,63,64,65],J [0,3,4,11,14,63,64,65],J [0,3,4,11,14,63,64,65,74],J' [(0,1)] [0,3,4,11,14,63,64,65],J [0,3,4,11,14,63,64,65,78],J' [(0,1)] [0,3,4,11,63,64,65],J' [(1,1)] [0,3,4,11,63,64,65],J' [(0,1)] [2,3,4,5]],[(0,[0,3,4,20,21,22]),(2,[0,3,4,6,20,21,22,27,28,29]),(4,[0,3,4,10]),(6,[0,3,4,11,63,64,65])],[(0,[0,3,4]),(1,[0,3,4,20,21,22]),(2,[0,3,4,20,21,22]),(3,[0,3,4,6,20,21,22,27,28,29]),(4,[0,3,4,10]),(5,[0,3,4,10]),(6,[0,3,4]),(7,[0,3,4,11,63,64,65])],[2,3,4,5],[],[[false],[false],[false],[false]]⟩
def g51T:FunT:=⟨51,[.a (.c (.imm (.sl false (.pr .bool (.sl false (.int .u32))))))],.tup [(.c (.int .i64)),(.c (.int .i64)),(.c (.int .i64)),(.c (.int .i64))],[sD],fun x=>g51 m x.1⟩
noncomputable def g51C:Code:=codeOf f51
noncomputable def g51B0:Code:=qp g51C 0 0
noncomputable def g51B2:Code:=qp g51B0 0 0
noncomputable def g51B4:Code:=qp g51C 0 1
noncomputable def g51B6:Code:=qp g51C 0 2
theorem g51K:FL [g87T m,g88T m,g90T m,g89T m,g91T m]:=AllF.mem ⟨g87ok m,g88ok m,g90ok m,g89ok m,g91ok m,trivial⟩
def g51L3X:LT:=⟨6,[(0,.a (.c (.imm (.sl false (.pr .bool (.sl false (.int .u32))))))),(3,sI),(4,sI),(11,sI),(63,.a (.c (.nm 0 (.pr .bool (.sl false (.int .u32)))))),(64,sI),(65,sI)],[(.exit 6,[(0,.a (.c (.imm (.sl false (.pr .bool (.sl false (.int .u32))))))),(3,sI),(4,sI)])],fun n x=>g51L3 m n x.1 x.2.1 x.2.2.1 x.2.2.2.1 x.2.2.2.2.1 x.2.2.2.2.2.1 x.2.2.2.2.2.2.1⟩
theorem g51L3ok {E} (hE:EO E 89 g51H) (n):LO E g51B6 ((g51L3X m).at n):=lk hE (g51K m) (g51L3X m) n
def g51L2X:LT:=⟨4,[(0,.a (.c (.imm (.sl false (.pr .bool (.sl false (.int .u32))))))),(3,sI),(4,sI),(10,.a (.c (.nm 0 (.pr .bool (.sl false (.int .u32))))))],[(.exit 4,[(0,.a (.c (.imm (.sl false (.pr .bool (.sl false (.int .u32))))))),(3,sI),(4,sI),(10,.a (.c (.nm 0 (.pr .bool (.sl false (.int .u32))))))])],fun n x=>g51L2 m n x.1 x.2.1 x.2.2.1 x.2.2.2.1⟩
theorem g51L2ok {E} (hE:EO E 89 g51H) (n):LO E g51B4 ((g51L2X m).at n):=lk hE (g51K m) (g51L2X m) n
def g51L1X:LT:=⟨2,[(0,.a (.c (.imm (.sl false (.pr .bool (.sl false (.int .u32))))))),(3,sI),(4,sI),(6,sI),(20,.a (.c (.imm (.sl false (.pr .bool (.sl false (.int .u32))))))),(21,sI),(22,sI),(27,.a (.c (.imm (.pr .bool (.sl false (.int .u32)))))),(28,sI),(29,sI)],[(.ret,[(2,sI),(3,sI),(4,sI),(5,sI)]),(.exit 2,[(0,.a (.c (.imm (.sl false (.pr .bool (.sl false (.int .u32))))))),(3,sI),(4,sI),(20,.a (.c (.imm (.sl false (.pr .bool (.sl false (.int .u32))))))),(21,sI),(22,sI)])],fun n x=>g51L1 m n x.1 x.2.1 x.2.2.1 x.2.2.2.1 x.2.2.2.2.1 x.2.2.2.2.2.1 x.2.2.2.2.2.2.1 x.2.2.2.2.2.2.2.1 x.2.2.2.2.2.2.2.2.1 x.2.2.2.2.2.2.2.2.2.1⟩
theorem g51L1ok {E} (hE:EO E 89 g51H) (n):LO E g51B2 ((g51L1X m).at n):=lk hE (g51K m) (g51L1X m) n
def g51L0X:LT:=⟨0,[(0,.a (.c (.imm (.sl false (.pr .bool (.sl false (.int .u32))))))),(3,sI),(4,sI),(20,.a (.c (.imm (.sl false (.pr .bool (.sl false (.int .u32))))))),(21,sI),(22,sI)],[(.ret,[(2,sI),(3,sI),(4,sI),(5,sI)]),(.exit 0,[(0,.a (.c (.imm (.sl false (.pr .bool (.sl false (.int .u32))))))),(3,sI),(4,sI)])],fun n x=>g51L0 m n x.1 x.2.1 x.2.2.1 x.2.2.2.1 x.2.2.2.2.1 x.2.2.2.2.2.1⟩
theorem g51L0ok {E} (hE:EO E 89 g51H) (n):LO E g51B0 ((g51L0X m).at n):=
 lok hmix htt hE (g51K m) (L:=[(g51L1X m).at m]) (g51L0X m) (l:=[(2,g51B2)]) kR (fun _ _=>⟨qi ⟨yb (g51L1ok m hE m),trivial⟩,trivial⟩) (fun n x=>kR) (fun _=>kR) n
theorem g51ok:FO (g51T m):=
 fok hmix htt (H:=g51H) (g51T m) func51 kR (g51K m) (L:=[(g51L0X m).at m,(g51L2X m).at m,(g51L3X m).at m]) (l:=[(0,g51B0),(4,g51B4),(6,g51B6)]) kR (fun _ hE _ _=>⟨qi ⟨yb (g51L0ok m hE m),nb rfl,nb rfl,trivial⟩,qi ⟨nb rfl,yb (g51L2ok m hE m),nb rfl,trivial⟩,qi ⟨nb rfl,nb rfl,yb (g51L3ok m hE m),trivial⟩,trivial⟩) (fun x=>kR)
def g20H:Hints:=⟨[J [1,2,4],J [1,2,4,6],J [1,2,4,6,15],J' [(1,1)] [4,5],J' [(1,1),(5,1)] [4,7,8,9,10],J' [(0,1),(1,1),(2,1),(4,1)] [4,5]],[],[],[4,5],[],[[false,false,false],[false]]⟩
def g20T:FunT:=⟨20,[.a (.agg [(.int .i64),(.int .i64),(.imm (.int .i64)),(.imm (.int .i64)),(.imm (.int .u64))]),sU],.tup [(.agg [(.int .i64),(.int .i64),(.int .i64)]),(.c (.int .i64))],[sD,sD],fun x=>g20 m x.1.1 x.1.2.1 x.1.2.2.1 x.1.2.2.2.1 x.1.2.2.2.2.1 x.2.1⟩
theorem g20ok:FO (g20T m):=fk g20H (g20T m) func20 (AllF.mem (l:=[g33T m,g35T m,g52T m,g51T m]) ⟨g33ok m,g35ok m,g52ok m,g51ok m,trivial⟩)
def g45H:Hints:=⟨[J [0],J' [(0,1)] [2]],[],[],[2],[],[[false]]⟩
def g45T:FunT:=⟨45,[sU],sB,[sD],fun x=>g45 m x.1⟩
theorem g45ok:FO (g45T m):=fk g45H (g45T m) func45 (AllF.mem (l:=[g46T m]) ⟨g46ok m,trivial⟩)
def g42H:Hints:=⟨[J [0],J [0,4],J [2],J' [(0,1)] [2]],[],[],[2],[],[[false]]⟩
def g42T:FunT:=⟨42,[sU],sU,[sD],fun x=>g42 m x.1⟩
theorem g42ok:FO (g42T m):=fk g42H (g42T m) func42 (AllF.mem (l:=[g45T m]) ⟨g45ok m,trivial⟩)
def g24H:Hints:=⟨[J [1,2],J [1,2,6],J [1,2,6,13],J' [(0,1)] [4,5],J [1,2,15],J [1,2,15,16],J [4,5],J [1,2,20],J [4,5],J' [(1,1),(3,1)] [7,8],J' [(5,1)] [4,5]],[],[(0,[1,2])],[4,5],[],[[false],[false]]⟩
def g24T:FunT:=⟨24,[.a (.agg [(.int .i64),(.int .i64),(.imm (.int .i64)),(.imm (.int .i64)),(.imm (.int .u64))]),sU],.tup [(.c (.int .i64)),(.c (.int .i64))],[sD,sD],fun x=>g24 m x.1.1 x.1.2.1 x.1.2.2.1 x.1.2.2.2.1 x.1.2.2.2.2.1 x.2.1⟩
theorem g24ok:FO (g24T m):=fk g24H (g24T m) func24 (AllF.mem (l:=[g33T m,g20T m]) ⟨g33ok m,g20ok m,trivial⟩)
def sparselaw39_awake_H:Hints:=⟨[J [],J [1],J' [(2,1)] [1,2,3],J' [(2,1)] [1,2,3,5,6],J' [(3,1)] [2,3,5,6,7,8],J' [(0,1),(2,1),(3,1),(6,1),(7,1),(10,1),(15,1),(16,1),(19,1),(20,1)] [0]],[],[],[0],[],[[false]]⟩
abbrev sparselaw39_awake_A:List Sh:=[]
abbrev sparselaw39_awake_S:Sh:= sB
abbrev sparselaw39_awake_U:List Sh:=[]
def sparselaw39_awake_R:X4 sparselaw39_awake_A->Option (sparselaw39_awake_S.Val×X4 sparselaw39_awake_U):=fun(x:Unit)=>sparselaw39_awake m
def sparselaw39_awake_T:FunT:=⟨15,sparselaw39_awake_A,sparselaw39_awake_S,sparselaw39_awake_U,sparselaw39_awake_R m⟩
theorem sparselaw39_awake_ok:FO (sparselaw39_awake_T m):=fk sparselaw39_awake_H (sparselaw39_awake_T m) func15 (AllF.mem (l:=[g20T m,g12T m,g42T m,g24T m]) ⟨g20ok m,g12ok m,g42ok m,g24ok m,trivial⟩)
def g44H:Hints:=⟨[J [0],J [0,3],J [0,3,4],J [0,3,4,15],J' [(0,1)] [0,3,4],J [0,3,4,5],J [0,3,4,5,24],J' [(0,1)] [0,3,4,5],J [0,3,4,5,35],J' [(0,1)] [0,3,4,5],J' [(0,6)] [0,3,6],J [0,3,6,7],J [0,3,6,7,50],J' [(0,1)] [0,3,6,7],J [0,3,6,7,8],J [0,3,6,7,8,9],J [0,3,6,7,8,9,59],J' [(0,1)] [0,3,6,7,8,9],J [0,3,6,7,8,9,10],J' [(1,2),(2,2)] [0,3,6,7,8,9,10,11],J [0,3,6,7,8,9,10,11,73],J [0,3,6,7,8,9,11],J' [(0,1)] [0,3,6,7,8,9],J' [(0,1),(1,1),(2,6),(3,6)] [0,3,6,7],J' [(0,1)] [2]],[(0,[0,3,4]),(2,[0,3,4,5]),(4,[0,3,6,7]),(6,[0,3,6,7,8,9])],[(0,[0,3]),(1,[0,3,4]),(2,[0,3,4]),(3,[0,3,4,5]),(4,[6]),(5,[0,3,6,7]),(6,[0,3,6,7,8]),(7,[0,3,6,7,8,9])],[2],[],[[false]]⟩
def g44T:FunT:=⟨44,[.a (.c (.imm (.sl false (.pr .bool (.pr (.pr .bool (.sl false (.int .u32))) (.int .i64))))))],.a (.c (.imm (.sl false (.pr .bool (.sl false (.int .u32)))))),[sD],fun x=>g44 m x.1⟩
noncomputable def g44C:Code:=codeOf f44
noncomputable def g44B0:Code:=qp g44C 0 0
noncomputable def g44B2:Code:=qp g44B0 0 0
noncomputable def g44B4:Code:=qp g44C 0 1
noncomputable def g44B6:Code:=qp g44B4 4 0
theorem g44K:FL [g38T m,g68T m,g80T m]:=AllF.mem ⟨g38ok m,g68ok m,g80ok m,trivial⟩
def g44L3X:LT:=⟨6,[(0,.a (.c (.imm (.sl false (.pr .bool (.pr (.pr .bool (.sl false (.int .u32))) (.int .i64))))))),(3,sI),(6,.a (.c (.dp 0 (.pr .bool (.sl false (.int .u32)))))),(7,sI),(8,.a (.c (.nm 1 (.pr .bool (.sl false (.int .u32)))))),(9,sI)],[(.exit 6,[(0,.a (.c (.imm (.sl false (.pr .bool (.pr (.pr .bool (.sl false (.int .u32))) (.int .i64))))))),(3,sI),(6,.a (.c (.dp 0 (.pr .bool (.sl false (.int .u32)))))),(7,sI),(8,.a (.c (.nm 1 (.pr .bool (.sl false (.int .u32))))))])],fun n x=>g44L3 m n x.1 x.2.1 x.2.2.1 x.2.2.2.1 x.2.2.2.2.1 x.2.2.2.2.2.1⟩
theorem g44L3ok {E} (hE:EO E 90 g44H) (n):LO E g44B6 ((g44L3X m).at n):=lk hE (g44K m) (g44L3X m) n
def g44L2X:LT:=⟨4,[(0,.a (.c (.imm (.sl false (.pr .bool (.pr (.pr .bool (.sl false (.int .u32))) (.int .i64))))))),(3,sI),(6,.a (.c (.dp 0 (.pr .bool (.sl false (.int .u32)))))),(7,sI)],[(.exit 4,[(6,.a (.c (.dp 0 (.pr .bool (.sl false (.int .u32))))))])],fun n x=>g44L2 m n x.1 x.2.1 x.2.2.1 x.2.2.2.1⟩
theorem g44L2ok {E} (hE:EO E 90 g44H) (n):LO E g44B4 ((g44L2X m).at n):=
 lok hmix htt hE (g44K m) (L:=[(g44L3X m).at m]) (g44L2X m) (l:=[(6,g44B6)]) kR (fun _ _=>⟨qi ⟨yb (g44L3ok m hE m),trivial⟩,trivial⟩) (fun n x=>kR) (fun _=>kR) n
def g44L1X:LT:=⟨2,[(0,.a (.c (.imm (.sl false (.pr .bool (.pr (.pr .bool (.sl false (.int .u32))) (.int .i64))))))),(3,sI),(4,sI),(5,sI)],[(.exit 2,[(0,.a (.c (.imm (.sl false (.pr .bool (.pr (.pr .bool (.sl false (.int .u32))) (.int .i64))))))),(3,sI),(4,sI)])],fun n x=>g44L1 m n x.1 x.2.1 x.2.2.1 x.2.2.2.1⟩
theorem g44L1ok {E} (hE:EO E 90 g44H) (n):LO E g44B2 ((g44L1X m).at n):=lk hE (g44K m) (g44L1X m) n
def g44L0X:LT:=⟨0,[(0,.a (.c (.imm (.sl false (.pr .bool (.pr (.pr .bool (.sl false (.int .u32))) (.int .i64))))))),(3,sI),(4,sI)],[(.exit 0,[(0,.a (.c (.imm (.sl false (.pr .bool (.pr (.pr .bool (.sl false (.int .u32))) (.int .i64))))))),(3,sI)])],fun n x=>g44L0 m n x.1 x.2.1 x.2.2.1⟩
theorem g44L0ok {E} (hE:EO E 90 g44H) (n):LO E g44B0 ((g44L0X m).at n):=
 lok hmix htt hE (g44K m) (L:=[(g44L1X m).at m]) (g44L0X m) (l:=[(2,g44B2)]) kR (fun _ _=>⟨qi ⟨yb (g44L1ok m hE m),trivial⟩,trivial⟩) (fun n x=>kR) (fun _=>kR) n
theorem g44ok:FO (g44T m):=
 fok hmix htt (H:=g44H) (g44T m) func44 kR (g44K m) (L:=[(g44L0X m).at m,(g44L2X m).at m]) (l:=[(0,g44B0),(4,g44B4)]) kR (fun _ hE _ _=>⟨qi ⟨yb (g44L0ok m hE m),nb rfl,trivial⟩,qi ⟨nb rfl,yb (g44L2ok m hE m),trivial⟩,trivial⟩) (fun x=>kR)
def g77H:Hints:=⟨[J [0],J' [(0,6)] [0,3],J [0,3,4],J [0,3,4,10],J' [(0,1)] [0,3,4],J [0,3,4,5],J [0,3,4,5,6],J [0,3,4,5,6,19],J' [(0,1)] [0,3,4,5,6],J' [(0,1)] [0,3,4,5,6],J' [(0,1),(1,1),(2,6),(3,6)] [0,3,4],J' [(0,1)] [2]],[(0,[0,3,4]),(2,[0,3,4,5,6])],[(0,[3]),(1,[0,3,4]),(2,[0,3,4,5]),(3,[0,3,4,5,6])],[2],[],[[true]]⟩
def g77T:FunT:=⟨77,[.a (.c (.imm (.sl false (.pr .bool (.sl false (.int .u32))))))],.a (.c (.dp 0 (.pr (.pr .bool (.sl false (.int .u32))) (.pr .bool (.sl false (.int .u32)))))),[sD],fun x=>g77 m x.1⟩
noncomputable def g77C:Code:=codeOf f77
noncomputable def g77B0:Code:=qp g77C 0 0
noncomputable def g77B2:Code:=qp g77B0 0 0
theorem g77K:FL [g117T m,g123T m]:=AllF.mem ⟨g117ok m,g123ok m,trivial⟩
def g77L1X:LT:=⟨2,[(0,.a (.c (.imm (.sl false (.pr .bool (.sl false (.int .u32))))))),(3,.a (.c (.dp 0 (.pr (.pr .bool (.sl false (.int .u32))) (.pr .bool (.sl false (.int .u32))))))),(4,sI),(5,.a (.c (.nm 1 (.pr (.pr .bool (.sl false (.int .u32))) (.pr .bool (.sl false (.int .u32))))))),(6,sI)],[(.exit 2,[(0,.a (.c (.imm (.sl false (.pr .bool (.sl false (.int .u32))))))),(3,.a (.c (.dp 0 (.pr (.pr .bool (.sl false (.int .u32))) (.pr .bool (.sl false (.int .u32))))))),(4,sI),(5,.a (.c (.nm 1 (.pr (.pr .bool (.sl false (.int .u32))) (.pr .bool (.sl false (.int .u32)))))))])],fun n x=>g77L1 m n x.1 x.2.1 x.2.2.1 x.2.2.2.1 x.2.2.2.2.1⟩
theorem g77L1ok {E} (hE:EO E 40 g77H) (n):LO E g77B2 ((g77L1X m).at n):=lk hE (g77K m) (g77L1X m) n
def g77L0X:LT:=⟨0,[(0,.a (.c (.imm (.sl false (.pr .bool (.sl false (.int .u32))))))),(3,.a (.c (.dp 0 (.pr (.pr .bool (.sl false (.int .u32))) (.pr .bool (.sl false (.int .u32))))))),(4,sI)],[(.exit 0,[(3,.a (.c (.dp 0 (.pr (.pr .bool (.sl false (.int .u32))) (.pr .bool (.sl false (.int .u32)))))))])],fun n x=>g77L0 m n x.1 x.2.1 x.2.2.1⟩
theorem g77L0ok {E} (hE:EO E 40 g77H) (n):LO E g77B0 ((g77L0X m).at n):=
 lok hmix htt hE (g77K m) (L:=[(g77L1X m).at m]) (g77L0X m) (l:=[(2,g77B2)]) kR (fun _ _=>⟨qi ⟨yb (g77L1ok m hE m),trivial⟩,trivial⟩) (fun n x=>kR) (fun _=>kR) n
theorem g77ok:FO (g77T m):=f1' g77H (g77T m) func77 (g77K m) fun _ h=>g77L0ok m h m
def g124H:Hints:=⟨[J [1],J [2]],[],[],[2],[],[[false]]⟩
def g124T:FunT:=⟨124,[.a (.agg [.bool,(.imm (.int .u32)),.bool,(.imm (.int .u32))])],sB,[sD],fun x=>g124 m x.1.1 x.1.2.1 x.1.2.2.1 x.1.2.2.2.1⟩
theorem g124ok:FO (g124T m):=fk g124H (g124T m) func124 (AllF.mem (l:=[g69T m]) ⟨g69ok m,trivial⟩)
def g78H:Hints:=⟨[J [0,1],J [0,1,6],J [0,1,6,12],J' [(0,1)] [0,1,6],J [0,1,6,29],J [4,5],J [0,1,7],J [0,1,7,41],J' [(0,1)] [0,1,7],J [0,1,7,8],J [0,1,7,8,46],J' [(0,1)] [0,1,7,8],J [0,1,7,8,63],J' [(1,1),(5,1)] [4,5],J [4,5]],[(0,[0,1,6]),(2,[0,1,7]),(4,[0,1,7,8])],[(0,[0,1]),(1,[0,1,6]),(2,[]),(3,[0,1,7]),(4,[0,1,7]),(5,[0,1,7,8])],[4,5],[],[[false],[false]]⟩
def g78T:FunT:=⟨78,[.a (.c (.imm (.sl false (.pr (.pr .bool (.sl false (.int .u32))) (.pr .bool (.sl false (.int .u32))))))),sL],.tup [(.c (.int .i64)),(.c (.int .i64))],[sD,sD],fun x=>g78 m x.1 x.2.1⟩
noncomputable def g78C:Code:=codeOf f78
noncomputable def g78B0:Code:=qp g78C 0 0
noncomputable def g78B2:Code:=qp g78C 0 1
noncomputable def g78B4:Code:=qp g78B2 2 0
theorem g78K:FL [g124T m]:=AllF.mem ⟨g124ok m,trivial⟩
def g78L2X:LT:=⟨4,[(0,.a (.c (.imm (.sl false (.pr (.pr .bool (.sl false (.int .u32))) (.pr .bool (.sl false (.int .u32)))))))),(1,sL),(7,sI),(8,sI)],[(.ret,[(4,sI),(5,sI)]),(.exit 4,[(0,.a (.c (.imm (.sl false (.pr (.pr .bool (.sl false (.int .u32))) (.pr .bool (.sl false (.int .u32)))))))),(1,sL),(7,sI)])],fun n x=>g78L2 m n x.1 x.2.1 x.2.2.1 x.2.2.2.1⟩
theorem g78L2ok {E} (hE:EO E 72 g78H) (n):LO E g78B4 ((g78L2X m).at n):=lk hE (g78K m) (g78L2X m) n
def g78L1X:LT:=⟨2,[(0,.a (.c (.imm (.sl false (.pr (.pr .bool (.sl false (.int .u32))) (.pr .bool (.sl false (.int .u32)))))))),(1,sL),(7,sI)],[(.ret,[(4,sI),(5,sI)]),(.exit 2,[])],fun n x=>g78L1 m n x.1 x.2.1 x.2.2.1⟩
theorem g78L1ok {E} (hE:EO E 72 g78H) (n):LO E g78B2 ((g78L1X m).at n):=
 lok hmix htt hE (g78K m) (L:=[(g78L2X m).at m]) (g78L1X m) (l:=[(4,g78B4)]) kR (fun _ _=>⟨qi ⟨yb (g78L2ok m hE m),trivial⟩,trivial⟩) (fun n x=>kR) (fun _=>kR) n
def g78L0X:LT:=⟨0,[(0,.a (.c (.imm (.sl false (.pr (.pr .bool (.sl false (.int .u32))) (.pr .bool (.sl false (.int .u32)))))))),(1,sL),(6,sI)],[(.ret,[(4,sI),(5,sI)]),(.exit 0,[(0,.a (.c (.imm (.sl false (.pr (.pr .bool (.sl false (.int .u32))) (.pr .bool (.sl false (.int .u32)))))))),(1,sL)])],fun n x=>g78L0 m n x.1 x.2.1 x.2.2.1⟩
theorem g78L0ok {E} (hE:EO E 72 g78H) (n):LO E g78B0 ((g78L0X m).at n):=lk hE (g78K m) (g78L0X m) n
theorem g78ok:FO (g78T m):=
 fok hmix htt (H:=g78H) (g78T m) func78 kR (g78K m) (L:=[(g78L0X m).at m,(g78L1X m).at m]) (l:=[(0,g78B0),(2,g78B2)]) kR (fun _ hE _ _=>⟨qi ⟨yb (g78L0ok m hE m),nb rfl,trivial⟩,qi ⟨nb rfl,yb (g78L1ok m hE m),trivial⟩,trivial⟩) (fun x=>kR)
def g168H:Hints:=⟨[J [2,3,4],J [4,5,6],J [4,5,6,15],J' [(3,1)] [4,5,6,8],J [4,5,6],J [4]],[(0,[4,5,6])],[(0,[4,5]),(1,[4,5,6])],[4],[],[[false,false]]⟩
def g168T:FunT:=⟨168,[.a (.agg [.bool,(.imm (.int .u32))]),.a (.agg [.bool,(.imm (.int .u32))])],.a (.agg [.bool,(.imm (.int .u32))]),[sD,sD],fun x=>g168 m x.1.1 x.1.2.1 x.2.1.1 x.2.1.2.1⟩
noncomputable def g168C:Code:=codeOf f168
noncomputable def g168B0:Code:=qp g168C 0 0
theorem g168K:FL [g82T m,g69T m,g196T m]:=AllF.mem ⟨g82ok m,g69ok m,g196ok m,trivial⟩
def g168L0X:LT:=⟨0,[(4,sX 0 [.bool,.nm 1 (.int .u32)]),(5,sX 2 [.bool,.imm (.int .u32)]),(6,sX 3 [.bool,.imm (.int .u32)])],[(.exit 0,[(4,sX 0 [.bool,.nm 1 (.int .u32)]),(5,sX 2 [.bool,.imm (.int .u32)])])],fun n x=>g168L0 m n x.1.1 x.1.2.1 x.2.1.1 x.2.1.2.1 x.2.2.1.1 x.2.2.1.2.1⟩
theorem g168L0ok {E} (hE:EO E 25 g168H) (n):LO E g168B0 ((g168L0X m).at n):=lk hE (g168K m) (g168L0X m) n
theorem g168ok:FO (g168T m):=f1' g168H (g168T m) func168 (g168K m) fun _ h=>g168L0ok m h m
def g169H:Hints:=⟨[J [2,3,4],J' [(3,1)] [4,6,7],J [4,6,16],J [4,5],J [4,5]],[],[],[4,5],[],[[false,false],[false]]⟩
def g169T:FunT:=⟨169,[.a (.agg [.bool,(.imm (.int .u32))]),.a (.agg [.bool,(.imm (.int .u32))])],.tup [(.agg [.bool,(.imm (.int .u32))]),(.c .bool)],[sD,sD],fun x=>g169 m x.1.1 x.1.2.1 x.2.1.1 x.2.1.2.1⟩
theorem g169ok:FO (g169T m):=fk g169H (g169T m) func169 (AllF.mem (l:=[g196T m,g69T m]) ⟨g196ok m,g69ok m,trivial⟩)
def g125H:Hints:=⟨[J [2,3,4],J [2,3,4,5],J [2,3,4,5,15],J [2,3,4,5],J' [(3,1)] [3,4,5,6],J' [(3,1)] [4,6,8],J [4]],[],[],[4],[],[[false,false,false,false]]⟩
def g125T:FunT:=⟨125,[.a (.agg [.bool,(.imm (.int .u32))]),.a (.agg [.bool,(.imm (.int .u32))])],.a (.agg [.bool,(.imm (.int .u32)),.bool,(.imm (.int .u32))]),[sD,sD],fun x=>g125 m x.1.1 x.1.2.1 x.2.1.1 x.2.1.2.1⟩
theorem g125ok:FO (g125T m):=fk g125H (g125T m) func125 (AllF.mem (l:=[g168T m,g69T m,g164T m,g169T m]) ⟨g168ok m,g69ok m,g164ok m,g169ok m,trivial⟩)
def g79H:Hints:=⟨[J [4,5,6,7,8],J [4,8,9],J [8]],[],[],[8],[],[[false,false,false,false]]⟩
def g79T:FunT:=⟨79,[.a (.agg [.bool,(.imm (.int .u32)),.bool,(.imm (.int .u32))]),.a (.agg [.bool,(.imm (.int .u32)),.bool,(.imm (.int .u32))]),.a (.agg [.bool,(.imm (.int .u32)),.bool,(.imm (.int .u32))]),.a (.agg [.bool,(.imm (.int .u32)),.bool,(.imm (.int .u32))])],.a (.agg [.bool,(.imm (.int .u32)),.bool,(.imm (.int .u32))]),[sD,sD,sD,sD],fun x=>g79 m x.1.1 x.1.2.1 x.1.2.2.1 x.1.2.2.2.1 x.2.1.1 x.2.1.2.1 x.2.1.2.2.1 x.2.1.2.2.2.1 x.2.2.1.1 x.2.2.1.2.1 x.2.2.1.2.2.1 x.2.2.1.2.2.2.1 x.2.2.2.1.1 x.2.2.2.1.2.1 x.2.2.2.1.2.2.1 x.2.2.2.1.2.2.2.1⟩
theorem g79ok:FO (g79T m):=fk g79H (g79T m) func79 (AllF.mem (l:=[g120T m,g125T m,g126T m]) ⟨g120ok m,g125ok m,g126ok m,trivial⟩)
def g43H:Hints:=⟨[J [0],J [0,5],J [0,5,6,7],J [0,5,6,7,8],J [0,5,6,7,8,9],J [0,5,6,7,8,9,25],J' [(0,1)] [0,5,6,7,8,9],J' [(0,1)] [0,5,6,7,8,9],J [5,6,7,8,34],J' [(3,1)] [5,6,7,8,10,11],J [5,6,7,8,10,11,42],J [5,6,7,8,10,11,12],J [5,6,7,8,10,11,12,13],J [5,6,7,8,10,11,12,13,46],J' [(0,1)] [5,6,7,8,10,11,12,13],J' [(6,1)] [5,6,7,8,10,11,12,13,62],J' [(0,1)] [5,6,7,8,10,11,12,13],J [5,6,7,10,11,12,72],J [5,6,7,10,11,12,82],J' [(0,1)] [5,6,7,10,11,12],J' [(0,1)] [5,6,7,10,11,12],J' [(0,1),(2,1)] [5,6,7,10,11,12],J [5,6,7,10,11,12,14],J [5,6,7,10,11,12,14,15],J [5,6,7,10,11,12,14,15,101],J' [(0,1)] [5,6,7,10,11,12,14,15],J [5,6,7,10,11,12,14,15,16],J [5,6,7,10,11,12,14,15,16,106],J' [(0,1)] [5,6,7,10,11,12,14,15,16],J [5,6,7,10,11,12,14,15,16,17,18],J [5,6,7,10,11,12,14,15,16,17,18,19],J [5,6,7,10,11,12,14,15,16,17,18,19,142],J [5,6,7,10,11,12,14,15,16,17,18,19],J [5,6,7,10,11,12,14,15,16,17,18,19],J' [(1,1),(4,1)] [5,6,7,10,11,12,14,15,16],J' [(0,1)] [5,6,7,8],J' [(0,1),(1,1),(3,1)] [2,3,4]],[(0,[0,5,6,7,8,9]),(2,[5,6,7,8]),(4,[5,6,7,8,10,11,12,13]),(6,[5,6,7,10,11,12,14,15]),(8,[5,6,7,10,11,12,14,15,16])],[(0,[5,6,7,8]),(1,[0,5,6,7,8,9]),(2,[6,7,8]),(3,[5,6,7,8]),(4,[5,6,7,10,11,12]),(5,[5,6,7,8,10,11,12,13]),(6,[5,6,7,12]),(7,[5,6,7,10,11,12,14,15]),(8,[5,6,7,10,11,12,14,15]),(9,[5,6,7,10,11,12,14,15,16])],[2,3,4],[],[[false],[false],[false]]⟩
def g43T:FunT:=⟨43,[.a (.c (.imm (.sl false (.pr .bool (.sl false (.int .u32))))))],.tup [(.c (.int .i64)),(.c (.int .i64)),(.c (.int .i64))],[sD],fun x=>g43 m x.1⟩
noncomputable def g43C:Code:=codeOf f43
noncomputable def g43B0:Code:=qp g43C 0 0
noncomputable def g43B2:Code:=qp g43C 0 1
noncomputable def g43B4:Code:=qp g43B2 2 0
noncomputable def g43B6:Code:=qp g43B2 2 1
noncomputable def g43B8:Code:=qp g43B6 6 0
theorem g43K:FL [g77T m,g78T m,g69T m,g79T m]:=AllF.mem ⟨g77ok m,g78ok m,g69ok m,g79ok m,trivial⟩
def g43L4X:LT:=⟨8,[(5,.a (.c (.dp 0 (.pr (.pr .bool (.sl false (.int .u32))) (.pr .bool (.sl false (.int .u32))))))),(6,sI),(7,sI),(10,sI),(11,sI),(12,sN 1),(14,sX 2 [.bool,.imm (.int .u32),.bool,.imm (.int .u32)]),(15,sI),(16,sI)],[(.exit 8,[(5,.a (.c (.dp 0 (.pr (.pr .bool (.sl false (.int .u32))) (.pr .bool (.sl false (.int .u32))))))),(6,sI),(7,sI),(10,sI),(11,sI),(12,sN 1),(14,sX 2 [.bool,.imm (.int .u32),.bool,.imm (.int .u32)]),(15,sI)])],fun n x=>g43L4 m n x.1 x.2.1 x.2.2.1 x.2.2.2.1 x.2.2.2.2.1 x.2.2.2.2.2.1 x.2.2.2.2.2.2.1.1 x.2.2.2.2.2.2.1.2.1 x.2.2.2.2.2.2.1.2.2.1 x.2.2.2.2.2.2.1.2.2.2.1 x.2.2.2.2.2.2.2.1 x.2.2.2.2.2.2.2.2.1⟩
theorem g43L4ok {E} (hE:EO E 179 g43H) (n):LO E g43B8 ((g43L4X m).at n):=lk hE (g43K m) (g43L4X m) n
def g43L3X:LT:=⟨6,[(5,.a (.c (.dp 0 (.pr (.pr .bool (.sl false (.int .u32))) (.pr .bool (.sl false (.int .u32))))))),(6,sI),(7,sI),(10,sI),(11,sI),(12,sN 1),(14,sX 2 [.bool,.imm (.int .u32),.bool,.imm (.int .u32)]),(15,sI)],[(.exit 6,[(5,.a (.c (.dp 0 (.pr (.pr .bool (.sl false (.int .u32))) (.pr .bool (.sl false (.int .u32))))))),(6,sI),(7,sI),(12,sN 1)])],fun n x=>g43L3 m n x.1 x.2.1 x.2.2.1 x.2.2.2.1 x.2.2.2.2.1 x.2.2.2.2.2.1 x.2.2.2.2.2.2.1.1 x.2.2.2.2.2.2.1.2.1 x.2.2.2.2.2.2.1.2.2.1 x.2.2.2.2.2.2.1.2.2.2.1 x.2.2.2.2.2.2.2.1⟩
theorem g43L3ok {E} (hE:EO E 179 g43H) (n):LO E g43B6 ((g43L3X m).at n):=
 lok hmix htt hE (g43K m) (L:=[(g43L4X m).at m]) (g43L3X m) (l:=[(8,g43B8)]) kR (fun _ _=>⟨qi ⟨yb (g43L4ok m hE m),trivial⟩,trivial⟩) (fun n x=>kR) (fun _=>kR) n
def g43L2X:LT:=⟨4,[(5,.a (.c (.dp 0 (.pr (.pr .bool (.sl false (.int .u32))) (.pr .bool (.sl false (.int .u32))))))),(6,sI),(7,sI),(8,sN 1),(10,sI),(11,sI),(12,sN 2),(13,sI)],[(.exit 4,[(5,.a (.c (.dp 0 (.pr (.pr .bool (.sl false (.int .u32))) (.pr .bool (.sl false (.int .u32))))))),(6,sI),(7,sI),(10,sI),(11,sI),(12,sN 1)])],fun n x=>g43L2 m n x.1 x.2.1 x.2.2.1 x.2.2.2.1 x.2.2.2.2.1 x.2.2.2.2.2.1 x.2.2.2.2.2.2.1 x.2.2.2.2.2.2.2.1⟩
theorem g43L2ok {E} (hE:EO E 179 g43H) (n):LO E g43B4 ((g43L2X m).at n):=lk hE (g43K m) (g43L2X m) n
def g43L1X:LT:=⟨2,[(5,.a (.c (.dp 0 (.pr (.pr .bool (.sl false (.int .u32))) (.pr .bool (.sl false (.int .u32))))))),(6,sI),(7,sI),(8,sN 1)],[(.exit 2,[(6,sI),(7,sI),(8,sN 0)])],fun n x=>g43L1 m n x.1 x.2.1 x.2.2.1 x.2.2.2.1⟩
theorem g43L1ok {E} (hE:EO E 179 g43H) (n):LO E g43B2 ((g43L1X m).at n):=
 lok hmix htt hE (g43K m) (L:=[(g43L2X m).at m,(g43L3X m).at m]) (g43L1X m) (l:=[(4,g43B4),(6,g43B6)]) kR (fun _ _=>⟨qi ⟨yb (g43L2ok m hE m),nb rfl,trivial⟩,qi ⟨nb rfl,yb (g43L3ok m hE m),trivial⟩,trivial⟩) (fun n x=>kR) (fun _=>kR) n
def g43L0X:LT:=⟨0,[(0,.a (.c (.imm (.sl false (.pr .bool (.sl false (.int .u32))))))),(5,.a (.c (.dp 0 (.pr (.pr .bool (.sl false (.int .u32))) (.pr .bool (.sl false (.int .u32))))))),(6,sI),(7,sI),(8,sN 1),(9,sI)],[(.exit 0,[(5,.a (.c (.dp 0 (.pr (.pr .bool (.sl false (.int .u32))) (.pr .bool (.sl false (.int .u32))))))),(6,sI),(7,sI),(8,sN 1)])],fun n x=>g43L0 m n x.1 x.2.1 x.2.2.1 x.2.2.2.1 x.2.2.2.2.1 x.2.2.2.2.2.1⟩
theorem g43L0ok {E} (hE:EO E 179 g43H) (n):LO E g43B0 ((g43L0X m).at n):=lk hE (g43K m) (g43L0X m) n
theorem g43ok:FO (g43T m):=
 fok hmix htt (H:=g43H) (g43T m) func43 kR (g43K m) (L:=[(g43L0X m).at m,(g43L1X m).at m]) (l:=[(0,g43B0),(2,g43B2)]) kR (fun _ hE _ _=>⟨qi ⟨yb (g43L0ok m hE m),nb rfl,trivial⟩,qi ⟨nb rfl,yb (g43L1ok m hE m),trivial⟩,trivial⟩) (fun x=>kR)
def g16H:Hints:=⟨[J [1,2,4],J [1,2,4,6],J [1,2,4,6,14],J' [(1,1)] [4,5],J' [(1,1),(5,1)] [4,7,8,9],J' [(0,1),(1,1),(2,1)] [4,5]],[],[],[4,5],[],[[false,false,false],[false]]⟩
def g16T:FunT:=⟨16,[.a (.agg [(.int .i64),(.int .i64),(.imm (.int .i64)),(.imm (.int .i64)),(.imm (.int .u64))]),sU],.tup [(.agg [(.int .i64),(.int .i64),(.int .i64)]),(.c (.int .i64))],[sD,sD],fun x=>g16 m x.1.1 x.1.2.1 x.1.2.2.1 x.1.2.2.2.1 x.1.2.2.2.2.1 x.2.1⟩
theorem g16ok:FO (g16T m):=fk g16H (g16T m) func16 (AllF.mem (l:=[g36T m,g37T m,g44T m,g43T m]) ⟨g36ok m,g37ok m,g44ok m,g43ok m,trivial⟩)
def sparselaw39_InertiaSound_H:Hints:=⟨[J [0,1,2,3,4,5],J' [(0,1),(1,1),(2,1),(3,1),(4,1),(6,1)] [5,13,14],J' [(2,1),(6,1)] [13,14,15,16,17],J' [(1,1),(3,1)] [15,16,17,18,19],J' [(0,1),(2,1),(3,1),(6,1),(7,1),(9,1),(15,1)] [12]],[],[],[12],[],[[false]]⟩
abbrev sparselaw39_InertiaSound_A:List Sh:=[.a (.c (.imm (.int .u64))),sI,sI,sU,sB,sI]
abbrev sparselaw39_InertiaSound_S:Sh:= sB
abbrev sparselaw39_InertiaSound_U:List Sh:=[sD,sD,sD,sD,sD,sD]
def sparselaw39_InertiaSound_R:X4 sparselaw39_InertiaSound_A->Option (sparselaw39_InertiaSound_S.Val×X4 sparselaw39_InertiaSound_U):=fun(x:LI×Int×Int×Int×Bool×Int×Unit)=>sparselaw39_InertiaSound m x.1 x.2.1 x.2.2.1 x.2.2.2.1 x.2.2.2.2.1 x.2.2.2.2.2.1
def sparselaw39_InertiaSound_T:FunT:=⟨4,sparselaw39_InertiaSound_A,sparselaw39_InertiaSound_S,sparselaw39_InertiaSound_U,sparselaw39_InertiaSound_R m⟩
theorem sparselaw39_InertiaSound_ok:FO (sparselaw39_InertiaSound_T m):=fk sparselaw39_InertiaSound_H (sparselaw39_InertiaSound_T m) func4 (AllF.mem (l:=[sparselaw39_pick_T m,g14T m,g12T m,g16T m,sparselaw39_awake_T m]) ⟨sparselaw39_pick_ok m,g14ok m,g12ok m,g16ok m,sparselaw39_awake_ok m,trivial⟩)
end
end Go.Vs.F
