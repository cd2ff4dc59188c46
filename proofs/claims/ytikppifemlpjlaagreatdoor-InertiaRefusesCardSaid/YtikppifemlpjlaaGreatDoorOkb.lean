import Derived.Test.YtikppifemlpjlaaGreatDoorOka
set_option linter.unusedVariables false
set_option maxRecDepth 100000
set_option linter.defProp false
namespace Go.Vs.F
open Go.Proofs
open Tryz
section
variable (m:Nat)
def g207H:Hints:=⟨[J [0,1],J [0,1,6],J [0,1,6,7],J [0,1,6,7,8],J [0,1,6,7,8,17],J' [(0,1)] [0,1,6,7,8],J' [(0,1)] [0,1,6,8,9],J [0,1,6,8,9],J' [(0,1)] [0,1,6,7,8],J' [(0,1),(2,1)] [4,5]],[(0,[0,1,6,7,8])],[(0,[6,7]),(1,[0,1,6,7,8])],[4,5],[],[[false],[false]]⟩
def g207T:FunT:=⟨207,[h83,hA4],.tup [(.c (.imm (.int .u32))),(.c (.int .u32))],[sD,sD],un (g207 m)⟩
noncomputable def g207C:Code:=codeOf f207
noncomputable def g207B0:Code:=qm g207C 0 0
def g207K:FL [g140T m]:=AllF.mem ⟨g140ok m,trivial⟩
def g207L0X:LT:=⟨0,[(0,h83),(1,hA4),(6,ha3),(7,sU),(8,sI)],[(.exit 0,[(6,ha3),(7,sU)])],λn=>uq (g207L0 m n)⟩
def g207L0ok {E} (hE:EO E 44 g207H) (n):LO E g207B0 ((g207L0X m).at n):=lk hE (g207K m) (g207L0X m) n
def g207ok:FO (g207T m):=f1' g207H (g207T m) func207 (g207K m) λ_ h=>g207L0ok m h m
def g208H:Hints:=⟨[J [0],J' [(0,1)] [2]],[],[],[2],[],[[false]]⟩
def g208T:FunT:=⟨208,[hA4],sI,[sD],un (g208 m)⟩
def g208ok:FO (g208T m):=fk g208H (g208T m) func208 (AllF.mem (l:=[g170T m]) ⟨g170ok m,trivial⟩)
def g209H:Hints:=⟨[J [0,1],J [0,1,5],J [0,1,5,6],J [0,1,5,7,8],J' [(2,1)] [0,1,5,7,8,71],J' [(0,1)] [0,1,5,7,8],J' [(0,1)] [0,1,5,7,8],J [0,1,5,7,8,83],J [0,1,5,7,9,10],J [0,1,5,7,9,10,84,85,86],J [0,1,5,7,9,10,84,85,86,87],J [0,1,5,7,9,10,11,12,84,85,86],J' [(1,1),(4,1)] [0,1,5,7,10,11,13,84,85,86],J [0,1,5,7,9,10,11,13,84,85,86],J' [(5,1),(8,1)] [0,1,5,7,9,11,14,84,85,86],J' [(1,1)] [0,1,5,7,9,14,84,85,86],J' [(0,1)] [0,1,5,7,9,10,84,85,86],J' [(1,1)] [0,1,5,7,9,10,84,85,86],J' [(5,1),(7,1)] [0,1,5,7,15],J [0,1,5,7,15],J' [(0,1)] [0,1,5,7,137],J' [(0,1)] [0,4],J [0,1,5,7,9],J' [(0,1)] [0,5,7,9,140,141,142],J [0,5,7,9,140,141,142,143],J [0,5,7,9,16,17,140,141,142],J' [(5,1),(8,1)] [0,5,7,16,18,140,141,142],J' [(1,1)] [0,5,7,18,140,141,142],J' [(0,1)] [0,5,7,9,140,141,142],J' [(1,1)] [0,5,7,9,140,141,142],J' [(1,1),(4,1)] [0,7],J' [(0,1)] [0,4]],[(0,[0,1,5,7,8]),(2,[0,1,5,7,9,10,84,85,86]),(4,[0,5,7,9,140,141,142])],[(0,[0,1,5,7]),(1,[0,1,5,7,8]),(2,[0,1,5,7,9,10]),(3,[0,1,5,7,9,10,84,85,86]),(4,[0,5,7,9]),(5,[0,5,7,9,140,141,142])],[0,4],[0],[[false]]⟩
def g209T:FunT:=⟨209,[hm3,h83],hA4,[hm3,sD],un (g209 m)⟩
noncomputable def g209C:Code:=codeOf f209
noncomputable def g209B0:Code:=qm g209C 0 0
noncomputable def g209B2:Code:=qm g209C 0 1
noncomputable def g209B4:Code:=qm g209C 0 2
def g209L2X:LT:=⟨4,[(0,hm3),(5,sI),(7,sU),(9,sU),(140,h83),(141,sI),(142,sI)],[(.exit 4,[(0,hm3),(5,sI),(7,sU),(9,sU)])],λn=>uq (g209L2 m n)⟩
def g209L2ok {E} (hE:EO E 177 g209H) (n):LO E g209B4 ((g209L2X m).at n):=lk hE noF (g209L2X m) n
def g209L1X:LT:=⟨2,[(0,hm3),(1,h83),(5,sI),(7,sU),(9,sU),(10,sU),(84,h83),(85,sI),(86,sI)],[(.exit 2,[(0,hm3),(1,h83),(5,sI),(7,sU),(9,sU),(10,sU)])],λn=>uq (g209L1 m n)⟩
def g209L1ok {E} (hE:EO E 177 g209H) (n):LO E g209B2 ((g209L1X m).at n):=lk hE noF (g209L1X m) n
def g209L0X:LT:=⟨0,[(0,hm3),(1,h83),(5,sI),(7,sU),(8,sU)],[(.exit 0,[(0,hm3),(1,h83),(5,sI),(7,sU)])],λn=>uq (g209L0 m n)⟩
def g209L0ok {E} (hE:EO E 177 g209H) (n):LO E g209B0 ((g209L0X m).at n):=lk hE noF (g209L0X m) n
def g209ok:FO (g209T m):=
 fok hmix htt (H:=g209H) (g209T m) func209 kR noF (L:=[(g209L0X m).at m,(g209L1X m).at m,(g209L2X m).at m]) (l:=[(0,g209B0),(2,g209B2),(4,g209B4)]) kR (λ_ hE _ _=>⟨qi ⟨yb (g209L0ok m hE m),nb rfl,nb rfl,trivial⟩,qi ⟨nb rfl,yb (g209L1ok m hE m),nb rfl,trivial⟩,qi ⟨nb rfl,nb rfl,yb (g209L2ok m hE m),trivial⟩,trivial⟩) (λx=>kR)
def g201H:Hints:=⟨[J [0,1],J [0,1,16],J' [(0,1)] [4,5],J [0,1,21],J' [(0,1),(1,1),(5,1)] [6,7],J' [(0,1),(1,1)] [4,5],J [0,1,8],J' [(0,1)] [0,8,9],J [0,8,9,10],J' [(1,1)] [8,9,10],J [8,9,10,11],J [4,8,9,10,11],J [4,8,9,10,11,12],J [4,8,9,10,11,12,64],J' [(0,1)] [4,8,9,10,11,12],J' [(10,300)] [4,8,9,10,11,12],J' [(0,1),(1,1),(4,1),(6,1)] [4,5],J' [(0,1),(2,1)] [4,5]],[(0,[4,8,9,10,11,12])],[(0,[4,8,10,11]),(1,[4,8,9,10,11,12])],[4,5],[],[[false],[false]]⟩
def g201T:FunT:=⟨201,[h83,h83],.tup [(.c (.imm (.int .u32))),(.c (.imm (.int .u32)))],[sD,sD],un (g201 m)⟩
noncomputable def g201C:Code:=codeOf f201
noncomputable def g201B0:Code:=qm g201C 0 0
def g201K:FL [g139T m,g147T m,g207T m,g140T m,g208T m,g182T m,g209T m,g183T m]:=AllF.mem ⟨g139ok m,g147ok m,g207ok m,g140ok m,g208ok m,g182ok m,g209ok m,g183ok m,trivial⟩
def g201L0X:LT:=⟨0,[(4,ha3),(8,sI),(9,h83),(10,h33),(11,sI),(12,sI)],[(.exit 0,[(4,ha3),(8,sI),(10,h33),(11,sI)])],λn=>uq (g201L0 m n)⟩
def g201L0ok {E} (hE:EO E 91 g201H) (n):LO E g201B0 ((g201L0X m).at n):=lk hE (g201K m) (g201L0X m) n
def g201ok:FO (g201T m):=f1' g201H (g201T m) func201 (g201K m) λ_ h=>g201L0ok m h m
def g181H:Hints:=⟨[J [2,3,4,5],J [2,3,4,5,7],J [2,3,4,5,7,15],J [4,5,6],J' [(5,1)] [2,3,4,5,7,8,9],J' [(2,1)] [2,3,4,5,7,8,9,32],J' [(0,1),(3,1),(4,1)] [2,3,4,5,8,9],J' [(5,1),(7,1)] [4,5,6]],[],[],[4,5,6],[],[[false,false],[false,false],[false]]⟩
def g181T:FunT:=⟨181,[hY3,hY3],.tup [(.agg [.bool,(.imm (.int .u32))]),(.agg [.bool,(.imm (.int .u32))]),(.c (.int .i64))],[sD,sD],un (g181 m)⟩
def g181ok:FO (g181T m):=fk g181H (g181T m) func181 (AllF.mem (l:=[g140T m,g201T m,g178T m,g179T m,g146T m]) ⟨g140ok m,g201ok m,g178ok m,g179ok m,g146ok m,trivial⟩)
def g143H:Hints:=⟨[J [2,3,4],J' [(3,1)] [4,6,7,8],J' [(2,1)] [4,6,8,23],J [4,5],J' [(1,1)] [4,5]],[],[],[4,5],[],[[false,false],[false]]⟩
def g143T:FunT:=⟨143,[hY3,hY3],.tup [(.agg [.bool,(.imm (.int .u32))]),(.c (.int .i64))],[sD,sD],un (g143 m)⟩
def g143ok:FO (g143T m):=fk g143H (g143T m) func143 (AllF.mem (l:=[g181T m]) ⟨g181ok m,trivial⟩)
def g89H:Hints:=⟨[J [0],J [0,3],J [0,3,4],J [0,3,4],J' [(1,4)] [0,3,4,5],J [0,3,4,5,26,27],J [0,3,4,5,26,27,28],J [0,3,4,5,6,26,27],J' [(1,1),(5,4)] [0,3,4,5,26,27],J' [(1,1)] [0,3,4,5,26,27],J [0,3,4,5,7],J [0,3,4,5,7,38],J' [(0,1)] [0,3,4,5,7],J [0,3,4,5,7,42,43],J [0,3,4,5,7,42,43,44],J [0,3,4,5,7,8,42,43],J [0,3,4,5,7,42,43],J' [(1,1)] [0,3,4,5,7,42,43],J' [(1,1)] [0,3,4,7,9],J' [(0,2)] [0,3,4,7,9,10],J [0,3,4,7,9,10,72,73],J [0,3,4,7,9,10,72,73,74],J [0,3,4,7,9,10,11,72,73],J' [(0,2)] [0,3,4,7,9,10,72,73],J' [(1,1)] [0,3,4,7,9,10,72,73],J' [(4,1)] [0,3,4,7,9,12],J' [(6,1)] [0,3,4,5,7],J' [(0,1)] [2]],[(0,[0,3,4,5,26,27]),(2,[0,3,4,5,7]),(4,[0,3,4,5,7,42,43]),(6,[0,3,4,7,9,10,72,73])],[(0,[0,3,4,5]),(1,[0,3,4,5,26,27]),(2,[4]),(3,[0,3,4,5,7]),(4,[0,3,4,5,7]),(5,[0,3,4,5,7,42,43]),(6,[0,3,4,7,9,10]),(7,[0,3,4,7,9,10,72,73])],[2],[],[[true]]⟩
def g89T:FunT:=⟨89,[h92],hT3,[sD],un (g89 m)⟩
noncomputable def g89C:Code:=codeOf f89
noncomputable def g89B0:Code:=qm g89C 0 0
noncomputable def g89B2:Code:=qm g89C 0 1
noncomputable def g89B4:Code:=qm g89B2 2 0
noncomputable def g89B6:Code:=qm g89B2 2 1
def g89K:FL [g109T m,g141T m,g142T m,g143T m,g111T m]:=AllF.mem ⟨g109ok m,g141ok m,g142ok m,g143ok m,g111ok m,trivial⟩
def g89L3X:LT:=⟨6,[(0,h92),(3,sI),(4,hT3),(7,sI),(9,hU3),(10,sX 2 [.bool,.imm (.int .u32)]),(72,sI),(73,sI)],[(.exit 6,[(0,h92),(3,sI),(4,hT3),(7,sI),(9,hU3),(10,sX 2 [.bool,.imm (.int .u32)])])],λn=>uq (g89L3 m n)⟩
def g89L3ok {E} (hE:EO E 102 g89H) (n):LO E g89B6 ((g89L3X m).at n):=lk hE (g89K m) (g89L3X m) n
def g89L2X:LT:=⟨4,[(0,h92),(3,sI),(4,hT3),(5,hU3),(7,sI),(42,sI),(43,sI)],[(.exit 4,[(0,h92),(3,sI),(4,hT3),(5,hU3),(7,sI)])],λn=>uq (g89L2 m n)⟩
def g89L2ok {E} (hE:EO E 102 g89H) (n):LO E g89B4 ((g89L2X m).at n):=lk hE (g89K m) (g89L2X m) n
def g89L1X:LT:=⟨2,[(0,h92),(3,sI),(4,hT3),(5,hU3),(7,sI)],[(.exit 2,[(4,hT3)])],λn=>uq (g89L1 m n)⟩
def g89L1ok {E} (hE:EO E 102 g89H) (n):LO E g89B2 ((g89L1X m).at n):=
 lok hmix htt hE (g89K m) (L:=[(g89L2X m).at m,(g89L3X m).at m]) (g89L1X m) (l:=[(4,g89B4),(6,g89B6)]) kR (λ_ _=>⟨qi ⟨yb (g89L2ok m hE m),nb rfl,trivial⟩,qi ⟨nb rfl,yb (g89L3ok m hE m),trivial⟩,trivial⟩) (λn x=>kR) (λ_=>kR) n
def g89L0X:LT:=⟨0,[(0,h92),(3,sI),(4,hT3),(5,hU3),(26,sI),(27,sI)],[(.exit 0,[(0,h92),(3,sI),(4,hT3),(5,hU3)])],λn=>uq (g89L0 m n)⟩
def g89L0ok {E} (hE:EO E 102 g89H) (n):LO E g89B0 ((g89L0X m).at n):=lk hE (g89K m) (g89L0X m) n
def g89ok:FO (g89T m):=
 fok hmix htt (H:=g89H) (g89T m) func89 kR (g89K m) (L:=[(g89L0X m).at m,(g89L1X m).at m]) (l:=[(0,g89B0),(2,g89B2)]) kR (λ_ hE _ _=>⟨qi ⟨yb (g89L0ok m hE m),nb rfl,trivial⟩,qi ⟨nb rfl,yb (g89L1ok m hE m),trivial⟩,trivial⟩) (λx=>kR)
def g51H:Hints:=⟨[J [0,3,4],J [0,3,4,5],J [0,3,4,5,18],J' [(0,1)] [2,3,4,5],J [0,3,4,20,21,22],J [0,3,4,20,21,22,23],J [0,3,4,6,7,20,21,22],J' [(0,1)] [0,3,4,6,20,21,22,27,28,29],J [0,3,4,6,20,21,22,27,28,29,30],J [0,3,4,6,8,9,20,21,22,27,28,29],J' [(2,1)] [0,3,4,6,20,21,22,27,28,29,43],J [2,3,4,5],J' [(1,1)] [0,3,4,6,20,21,22,27,28,29],J' [(1,1)] [0,3,4,20,21,22],J [0,3,4,10],J' [(4,1)] [0,3,4,10,60],J' [(0,1)] [0,3,4,10],J [0,3,4,10,11],J' [(0,1)] [0,3,4,11,63,64,65],J [0,3,4,11,63,64,65,66],J [0,3,4,11,13,63,64,65],J [0,3,4,11,14,63,64,65],J [0,3,4,11,14,63,64,65,74],J' [(0,1)] [0,3,4,11,14,63,64,65],J [0,3,4,11,14,63,64,65,78],J' [(0,1)] [0,3,4,11,63,64,65],J' [(1,1)] [0,3,4,11,63,64,65],J' [(0,1)] [2,3,4,5]],[(0,[0,3,4,20,21,22]),(2,[0,3,4,6,20,21,22,27,28,29]),(4,[0,3,4,10]),(6,[0,3,4,11,63,64,65])],[(0,[0,3,4]),(1,[0,3,4,20,21,22]),(2,[0,3,4,20,21,22]),(3,[0,3,4,6,20,21,22,27,28,29]),(4,[0,3,4,10]),(5,[0,3,4,10]),(6,[0,3,4]),(7,[0,3,4,11,63,64,65])],[2,3,4,5],[],[[false],[false],[false],[false]]⟩
def g51T:FunT:=⟨51,[h92],.tup [(.c (.int .i64)),(.c (.int .i64)),(.c (.int .i64)),(.c (.int .i64))],[sD],un (g51 m)⟩
noncomputable def g51C:Code:=codeOf f51
noncomputable def g51B0:Code:=qm g51C 0 0
noncomputable def g51B2:Code:=qm g51B0 0 0
noncomputable def g51B4:Code:=qm g51C 0 1
noncomputable def g51B6:Code:=qm g51C 0 2
def g51K:FL [g87T m,g88T m,g90T m,g89T m,g91T m]:=AllF.mem ⟨g87ok m,g88ok m,g90ok m,g89ok m,g91ok m,trivial⟩
def g51L3X:LT:=⟨6,[(0,h92),(3,sI),(4,sI),(11,sI),(63,hT3),(64,sI),(65,sI)],[(.exit 6,[(0,h92),(3,sI),(4,sI)])],λn=>uq (g51L3 m n)⟩
def g51L3ok {E} (hE:EO E 89 g51H) (n):LO E g51B6 ((g51L3X m).at n):=lk hE (g51K m) (g51L3X m) n
def g51L2X:LT:=⟨4,[(0,h92),(3,sI),(4,sI),(10,hT3)],[(.exit 4,[(0,h92),(3,sI),(4,sI),(10,hT3)])],λn=>uq (g51L2 m n)⟩
def g51L2ok {E} (hE:EO E 89 g51H) (n):LO E g51B4 ((g51L2X m).at n):=lk hE (g51K m) (g51L2X m) n
def g51L1X:LT:=⟨2,[(0,h92),(3,sI),(4,sI),(6,sI),(20,h92),(21,sI),(22,sI),(27,hV3),(28,sI),(29,sI)],[(.ret,[(2,sI),(3,sI),(4,sI),(5,sI)]),(.exit 2,[(0,h92),(3,sI),(4,sI),(20,h92),(21,sI),(22,sI)])],λn=>uq (g51L1 m n)⟩
def g51L1ok {E} (hE:EO E 89 g51H) (n):LO E g51B2 ((g51L1X m).at n):=lk hE (g51K m) (g51L1X m) n
def g51L0X:LT:=⟨0,[(0,h92),(3,sI),(4,sI),(20,h92),(21,sI),(22,sI)],[(.ret,[(2,sI),(3,sI),(4,sI),(5,sI)]),(.exit 0,[(0,h92),(3,sI),(4,sI)])],λn=>uq (g51L0 m n)⟩
def g51L0ok {E} (hE:EO E 89 g51H) (n):LO E g51B0 ((g51L0X m).at n):=
 lok hmix htt hE (g51K m) (L:=[(g51L1X m).at m]) (g51L0X m) (l:=[(2,g51B2)]) kR (λ_ _=>⟨qi ⟨yb (g51L1ok m hE m),trivial⟩,trivial⟩) (λn x=>kR) (λ_=>kR) n
def g51ok:FO (g51T m):=
 fok hmix htt (H:=g51H) (g51T m) func51 kR (g51K m) (L:=[(g51L0X m).at m,(g51L2X m).at m,(g51L3X m).at m]) (l:=[(0,g51B0),(4,g51B4),(6,g51B6)]) kR (λ_ hE _ _=>⟨qi ⟨yb (g51L0ok m hE m),nb rfl,nb rfl,trivial⟩,qi ⟨nb rfl,yb (g51L2ok m hE m),nb rfl,trivial⟩,qi ⟨nb rfl,nb rfl,yb (g51L3ok m hE m),trivial⟩,trivial⟩) (λx=>kR)
def g20H:Hints:=⟨[J [1,2,4],J [1,2,4,6],J [1,2,4,6,15],J' [(1,1)] [4,5],J' [(1,1),(5,1)] [4,7,8,9,10],J' [(0,1),(1,1),(2,1),(4,1)] [4,5]],[],[],[4,5],[],[[false,false,false],[false]]⟩
def g20T:FunT:=⟨20,[h71,sU],.tup [(.agg [(.int .i64),(.int .i64),(.int .i64)]),(.c (.int .i64))],[sD,sD],un (g20 m)⟩
def g20ok:FO (g20T m):=fk g20H (g20T m) func20 (AllF.mem (l:=[g33T m,g35T m,g52T m,g51T m]) ⟨g33ok m,g35ok m,g52ok m,g51ok m,trivial⟩)
def g86H:Hints:=⟨[J [0],J [0,3],J [0,3,7],J' [(0,1)] [0,3],J [0,3,15],J [2],J [2]],[(0,[0,3])],[(0,[]),(1,[0,3])],[2],[],[[false]]⟩
def g86T:FunT:=⟨86,[h73],sB,[sD],un (g86 m)⟩
noncomputable def g86C:Code:=codeOf f86
noncomputable def g86B0:Code:=qm g86C 0 0
def g86K:FL [g23T m]:=AllF.mem ⟨g23ok m,trivial⟩
def g86L0X:LT:=⟨0,[(0,h73),(3,sI)],[(.ret,[(2,sB)]),(.exit 0,[])],λn=>uq (g86L0 m n)⟩
def g86L0ok {E} (hE:EO E 16 g86H) (n):LO E g86B0 ((g86L0X m).at n):=lk hE (g86K m) (g86L0X m) n
def g86ok:FO (g86T m):=f1' g86H (g86T m) func86 (g86K m) λ_ h=>g86L0ok m h m
def g50H:Hints:=⟨[J [1],J' [(3,1),(8,1),(13,1),(18,1)] [1,30],J [2],J [1,3],J' [(5,1),(14,1),(21,1)] [1,64],J [2],J [1,4],J [1,4,68],J' [(0,1)] [1,4],J [1,4,82],J [2],J [1,5],J [1,5,86],J' [(0,1)] [1,5],J [1,5,6],J [1,5,6,101],J' [(0,1)] [1,5,6],J' [(6,1),(16,1),(24,1)] [1,5,6,142],J [2],J [146],J [2],J [2]],[(0,[1,4]),(2,[1,5]),(4,[1,5,6])],[(0,[1]),(1,[1,4]),(2,[1]),(3,[1,5]),(4,[1,5]),(5,[1,5,6])],[2],[],[[false]]⟩
def g50T:FunT:=⟨50,[h71],sI,[sD],un (g50 m)⟩
noncomputable def g50C:Code:=codeOf f50
noncomputable def g50B0:Code:=qm g50C 0 0
noncomputable def g50B2:Code:=qm g50C 0 1
noncomputable def g50B4:Code:=qm g50B2 2 0
def g50K:FL [g86T m]:=AllF.mem ⟨g86ok m,trivial⟩
def g50L2X:LT:=⟨4,[(1,sX 0 [iI,iI,iL,iL,.imm (.int .u64)]),(5,sI),(6,sI)],[(.ret,[(2,sI)]),(.exit 4,[(1,sX 0 [iI,iI,iL,iL,.imm (.int .u64)]),(5,sI)])],λn=>uq (g50L2 m n)⟩
def g50L2ok {E} (hE:EO E 147 g50H) (n):LO E g50B4 ((g50L2X m).at n):=lk hE (g50K m) (g50L2X m) n
def g50L1X:LT:=⟨2,[(1,sX 0 [iI,iI,iL,iL,.imm (.int .u64)]),(5,sI)],[(.ret,[(2,sI)]),(.exit 2,[(1,sX 0 [iI,iI,iL,iL,.imm (.int .u64)])])],λn=>uq (g50L1 m n)⟩
def g50L1ok {E} (hE:EO E 147 g50H) (n):LO E g50B2 ((g50L1X m).at n):=
 lok hmix htt hE (g50K m) (L:=[(g50L2X m).at m]) (g50L1X m) (l:=[(4,g50B4)]) kR (λ_ _=>⟨qi ⟨yb (g50L2ok m hE m),trivial⟩,trivial⟩) (λn x=>kR) (λ_=>kR) n
def g50L0X:LT:=⟨0,[(1,sX 0 [iI,iI,iL,iL,.imm (.int .u64)]),(4,sI)],[(.ret,[(2,sI)]),(.exit 0,[(1,sX 0 [iI,iI,iL,iL,.imm (.int .u64)])])],λn=>uq (g50L0 m n)⟩
def g50L0ok {E} (hE:EO E 147 g50H) (n):LO E g50B0 ((g50L0X m).at n):=lk hE (g50K m) (g50L0X m) n
def g50ok:FO (g50T m):=
 fok hmix htt (H:=g50H) (g50T m) func50 kR (g50K m) (L:=[(g50L0X m).at m,(g50L1X m).at m]) (l:=[(0,g50B0),(2,g50B2)]) kR (λ_ hE _ _=>⟨qi ⟨yb (g50L0ok m hE m),nb rfl,trivial⟩,qi ⟨nb rfl,yb (g50L1ok m hE m),trivial⟩,trivial⟩) (λx=>kR)
def g46H:Hints:=⟨[J [0],J [3,4],J' [(2,1)] [3,4,10],J [2],J [3,4,17],J [2],J' [(0,1),(2,1),(3,1)] [20],J [2],J [2]],[],[(0,[])],[2],[],[[false]]⟩
def g46T:FunT:=⟨46,[sU],sI,[sD],un (g46 m)⟩
def g46ok:FO (g46T m):=fk g46H (g46T m) func46 noF
def g36H:Hints:=⟨[J [1,2,3],J [1,2,3,7],J [1,2,3,7,11],J' [(0,1)] [6],J [1,2,3,13],J [6],J [1,2,19],J [6],J' [(3,1),(4,1),(6,1)] [23],J [6],J [6]],[],[(0,[])],[6],[],[[false]]⟩
def g36T:FunT:=⟨36,[h71,sU,sB],sI,[sD,sD,sD],un (g36 m)⟩
def g36ok:FO (g36T m):=fk g36H (g36T m) func36 (AllF.mem (l:=[g50T m,g23T m,g46T m]) ⟨g50ok m,g23ok m,g46ok m,trivial⟩)
def g19H:Hints:=⟨[J [1,2,3],J' [(3,1),(7,1)] [1,2,3,20],J [6],J [1,2,3,7],J [1,2,3,7,33],J' [(0,1)] [1,2,3,7],J [1,2,3,7,42],J' [(2,1)] [6],J [6]],[(0,[1,2,3,7])],[(0,[]),(1,[1,2,3,7])],[6],[],[[false]]⟩
def g19T:FunT:=⟨19,[h71,sI,sI],sU,[sD,sD,sD],un (g19 m)⟩
noncomputable def g19C:Code:=codeOf f19
noncomputable def g19B0:Code:=qm g19C 0 0
def g19K:FL [g50T m]:=AllF.mem ⟨g50ok m,trivial⟩
def g19L0X:LT:=⟨0,[(1,sI),(2,sI),(3,sX 0 [iI,iI,iL,iL,.imm (.int .u64)]),(7,sI)],[(.ret,[(6,sU)]),(.exit 0,[])],λn=>uq (g19L0 m n)⟩
def g19L0ok {E} (hE:EO E 48 g19H) (n):LO E g19B0 ((g19L0X m).at n):=lk hE (g19K m) (g19L0X m) n
def g19ok:FO (g19T m):=f1' g19H (g19T m) func19 (g19K m) λ_ h=>g19L0ok m h m
def g85H:Hints:=⟨[J [0],J' [(0,1)] [2]],[],[],[2],[],[[false]]⟩
def g85T:FunT:=⟨85,[sU],sB,[sD],un (g85 m)⟩
def g85ok:FO (g85T m):=fk g85H (g85T m) func85 noF
def g49H:Hints:=⟨[J [0,2],J [0,2,8],J [2],J [0,2,3,4],J [0,2,3,4,5],J [0,2,3,4,5,17],J' [(0,1)] [0,2,3,4],J' [(0,1)] [0,2,4,5],J' [(0,1),(9,1)] [2]],[],[],[2],[],[[false,false,false,false]]⟩
def g49T:FunT:=⟨49,[sU],hM3,[sD],un (g49 m)⟩
def g49ok:FO (g49T m):=fk g49H (g49T m) func49 (AllF.mem (l:=[g23T m,g83T m,g85T m,g84T m]) ⟨g23ok m,g83ok m,g85ok m,g84ok m,trivial⟩)
def g116H:Hints:=⟨[J [1,2],J [1,2],J [1,2,6],J [2],J [2]],[],[],[2],[],[[false,false,false,false]]⟩
def g116T:FunT:=⟨116,[hM3],hM3,[sD],un (g116 m)⟩
def g116ok:FO (g116T m):=fk g116H (g116T m) func116 (AllF.mem (l:=[g68T m,g164T m,g84T m]) ⟨g68ok m,g164ok m,g84ok m,trivial⟩)
def g118H:Hints:=⟨[J [2,3,4,5],J [2,3,4,5,7,8],J [2,3,4,5,7,8,13],J [4,5,6],J [2,3,4,5,7,8,21],J [4,5,6],J [2,3,4,5,7,8,29],J [4,5,6],J [4,5,6]],[],[(0,[2,3,4,5,7,8])],[4,5,6],[],[[false,false],[false,false],[false]]⟩
def g118T:FunT:=⟨118,[hM3,hM3],.tup [(.agg [.bool,(.imm (.int .u32))]),(.agg [.bool,(.imm (.int .u32))]),(.c (.int .i64))],[sD,sD],un (g118 m)⟩
def g118ok:FO (g118T m):=fk g118H (g118T m) func118 (AllF.mem (l:=[g69T m,g80T m]) ⟨g69ok m,g80ok m,trivial⟩)
def g115H:Hints:=⟨[J [2,3,4],J [2,3,4],J' [(2,1)] [2,3,4,17],J [4],J' [(3,1)] [4,5,6,7],J' [(3,1)] [4]],[],[],[4],[],[[false,false,false,false]]⟩
def g115T:FunT:=⟨115,[hM3,hM3],hM3,[sD,sD],un (g115 m)⟩
def g115ok:FO (g115T m):=fk g115H (g115T m) func115 (AllF.mem (l:=[g68T m,g83T m,g118T m,g163T m,g84T m]) ⟨g68ok m,g83ok m,g118ok m,g163ok m,g84ok m,trivial⟩)
def g67H:Hints:=⟨[J [2,3,4],J [4]],[],[],[4],[],[[false,false,false,false]]⟩
def g67T:FunT:=⟨67,[hM3,hM3],hM3,[sD,sD],un (g67 m)⟩
def g67ok:FO (g67T m):=fk g67H (g67T m) func67 (AllF.mem (l:=[g116T m,g115T m]) ⟨g116ok m,g115ok m,trivial⟩)
def g37H:Hints:=⟨[J [1,2],J' [(0,6)] [1,2,5],J [1,2,5,6],J [1,2,5,6,13],J' [(0,1)] [1,2,5,6],J [1,2,5,6,7],J [1,2,5,6,7,8],J [1,2,5,6,7,8,19],J' [(0,1)] [1,2,5,6,7,8],J [1,2,5,6,7,8,9],J [1,2,5,6,7,8,9,33],J [1,2,5,6,7,8,9],J' [(0,1)] [1,2,5,6,7,8],J' [(0,1),(1,1),(2,6),(3,6)] [1,2,5,6],J' [(0,1)] [4]],[(0,[1,2,5,6]),(2,[1,2,5,6,7,8])],[(0,[5]),(1,[1,2,5,6]),(2,[1,2,5,6,7]),(3,[1,2,5,6,7,8])],[4],[],[[false]]⟩
def g37T:FunT:=⟨37,[h71,sU],h81,[sD,sD],un (g37 m)⟩
noncomputable def g37C:Code:=codeOf f37
noncomputable def g37B0:Code:=qm g37C 0 0
noncomputable def g37B2:Code:=qm g37B0 0 0
def g37K:FL [g19T m,g49T m,g67T m]:=AllF.mem ⟨g19ok m,g49ok m,g67ok m,trivial⟩
def g37L1X:LT:=⟨2,[(1,sU),(2,sX 0 [iI,iI,iL,iL,.imm (.int .u64)]),(5,hU2),(6,sI),(7,h52),(8,sI)],[(.exit 2,[(1,sU),(2,sX 0 [iI,iI,iL,iL,.imm (.int .u64)]),(5,hU2),(6,sI),(7,h52)])],λn=>uq (g37L1 m n)⟩
def g37L1ok {E} (hE:EO E 47 g37H) (n):LO E g37B2 ((g37L1X m).at n):=lk hE (g37K m) (g37L1X m) n
def g37L0X:LT:=⟨0,[(1,sU),(2,sX 0 [iI,iI,iL,iL,.imm (.int .u64)]),(5,hU2),(6,sI)],[(.exit 0,[(5,h91)])],λn=>uq (g37L0 m n)⟩
def g37L0ok {E} (hE:EO E 47 g37H) (n):LO E g37B0 ((g37L0X m).at n):=
 lok hmix htt hE (g37K m) (L:=[(g37L1X m).at m]) (g37L0X m) (l:=[(2,g37B2)]) kR (λ_ _=>⟨qi ⟨yb (g37L1ok m hE m),trivial⟩,trivial⟩) (λn x=>kR) (λ_=>kR) n
def g37ok:FO (g37T m):=f1' g37H (g37T m) func37 (g37K m) λ_ h=>g37L0ok m h m
def g38H:Hints:=⟨[J [1],J [1],J [1,6],J [2],J [2]],[],[],[2],[],[[false]]⟩
def g38T:FunT:=⟨38,[hM3],sI,[sD],un (g38 m)⟩
def g38ok:FO (g38T m):=fk g38H (g38T m) func38 (AllF.mem (l:=[g68T m,g69T m]) ⟨g68ok m,g69ok m,trivial⟩)
def g44H:Hints:=⟨[J [0],J [0,3],J [0,3,4],J [0,3,4,15],J' [(0,1)] [0,3,4],J [0,3,4,5],J [0,3,4,5,24],J' [(0,1)] [0,3,4,5],J [0,3,4,5,35],J' [(0,1)] [0,3,4,5],J' [(0,6)] [0,3,6],J [0,3,6,7],J [0,3,6,7,50],J' [(0,1)] [0,3,6,7],J [0,3,6,7,8],J [0,3,6,7,8,9],J [0,3,6,7,8,9,59],J' [(0,1)] [0,3,6,7,8,9],J [0,3,6,7,8,9,10],J' [(1,2),(2,2)] [0,3,6,7,8,9,10,11],J [0,3,6,7,8,9,10,11,73],J [0,3,6,7,8,9,11],J' [(0,1)] [0,3,6,7,8,9],J' [(0,1),(1,1),(2,6),(3,6)] [0,3,6,7],J' [(0,1)] [2]],[(0,[0,3,4]),(2,[0,3,4,5]),(4,[0,3,6,7]),(6,[0,3,6,7,8,9])],[(0,[0,3]),(1,[0,3,4]),(2,[0,3,4]),(3,[0,3,4,5]),(4,[6]),(5,[0,3,6,7]),(6,[0,3,6,7,8]),(7,[0,3,6,7,8,9])],[2],[],[[false]]⟩
def g44T:FunT:=⟨44,[h81],h92,[sD],un (g44 m)⟩
noncomputable def g44C:Code:=codeOf f44
noncomputable def g44B0:Code:=qm g44C 0 0
noncomputable def g44B2:Code:=qm g44B0 0 0
noncomputable def g44B4:Code:=qm g44C 0 1
noncomputable def g44B6:Code:=qm g44B4 4 0
def g44K:FL [g38T m,g68T m,g80T m]:=AllF.mem ⟨g38ok m,g68ok m,g80ok m,trivial⟩
def g44L3X:LT:=⟨6,[(0,h81),(3,sI),(6,hQ3),(7,sI),(8,hR3),(9,sI)],[(.exit 6,[(0,h81),(3,sI),(6,hQ3),(7,sI),(8,hR3)])],λn=>uq (g44L3 m n)⟩
def g44L3ok {E} (hE:EO E 90 g44H) (n):LO E g44B6 ((g44L3X m).at n):=lk hE (g44K m) (g44L3X m) n
def g44L2X:LT:=⟨4,[(0,h81),(3,sI),(6,hQ3),(7,sI)],[(.exit 4,[(6,hQ3)])],λn=>uq (g44L2 m n)⟩
def g44L2ok {E} (hE:EO E 90 g44H) (n):LO E g44B4 ((g44L2X m).at n):=
 lok hmix htt hE (g44K m) (L:=[(g44L3X m).at m]) (g44L2X m) (l:=[(6,g44B6)]) kR (λ_ _=>⟨qi ⟨yb (g44L3ok m hE m),trivial⟩,trivial⟩) (λn x=>kR) (λ_=>kR) n
def g44L1X:LT:=⟨2,[(0,h81),(3,sI),(4,sI),(5,sI)],[(.exit 2,[(0,h81),(3,sI),(4,sI)])],λn=>uq (g44L1 m n)⟩
def g44L1ok {E} (hE:EO E 90 g44H) (n):LO E g44B2 ((g44L1X m).at n):=lk hE (g44K m) (g44L1X m) n
def g44L0X:LT:=⟨0,[(0,h81),(3,sI),(4,sI)],[(.exit 0,[(0,h81),(3,sI)])],λn=>uq (g44L0 m n)⟩
def g44L0ok {E} (hE:EO E 90 g44H) (n):LO E g44B0 ((g44L0X m).at n):=
 lok hmix htt hE (g44K m) (L:=[(g44L1X m).at m]) (g44L0X m) (l:=[(2,g44B2)]) kR (λ_ _=>⟨qi ⟨yb (g44L1ok m hE m),trivial⟩,trivial⟩) (λn x=>kR) (λ_=>kR) n
def g44ok:FO (g44T m):=
 fok hmix htt (H:=g44H) (g44T m) func44 kR (g44K m) (L:=[(g44L0X m).at m,(g44L2X m).at m]) (l:=[(0,g44B0),(4,g44B4)]) kR (λ_ hE _ _=>⟨qi ⟨yb (g44L0ok m hE m),nb rfl,trivial⟩,qi ⟨nb rfl,yb (g44L2ok m hE m),trivial⟩,trivial⟩) (λx=>kR)
def g77H:Hints:=⟨[J [0],J' [(0,6)] [0,3],J [0,3,4],J [0,3,4,10],J' [(0,1)] [0,3,4],J [0,3,4,5],J [0,3,4,5,6],J [0,3,4,5,6,19],J' [(0,1)] [0,3,4,5,6],J' [(0,1)] [0,3,4,5,6],J' [(0,1),(1,1),(2,6),(3,6)] [0,3,4],J' [(0,1)] [2]],[(0,[0,3,4]),(2,[0,3,4,5,6])],[(0,[3]),(1,[0,3,4]),(2,[0,3,4,5]),(3,[0,3,4,5,6])],[2],[],[[true]]⟩
def g77T:FunT:=⟨77,[h92],h51,[sD],un (g77 m)⟩
noncomputable def g77C:Code:=codeOf f77
noncomputable def g77B0:Code:=qm g77C 0 0
noncomputable def g77B2:Code:=qm g77B0 0 0
def g77K:FL [g117T m,g123T m]:=AllF.mem ⟨g117ok m,g123ok m,trivial⟩
def g77L1X:LT:=⟨2,[(0,h92),(3,h51),(4,sI),(5,h61),(6,sI)],[(.exit 2,[(0,h92),(3,h51),(4,sI),(5,h61)])],λn=>uq (g77L1 m n)⟩
def g77L1ok {E} (hE:EO E 40 g77H) (n):LO E g77B2 ((g77L1X m).at n):=lk hE (g77K m) (g77L1X m) n
def g77L0X:LT:=⟨0,[(0,h92),(3,h51),(4,sI)],[(.exit 0,[(3,h51)])],λn=>uq (g77L0 m n)⟩
def g77L0ok {E} (hE:EO E 40 g77H) (n):LO E g77B0 ((g77L0X m).at n):=
 lok hmix htt hE (g77K m) (L:=[(g77L1X m).at m]) (g77L0X m) (l:=[(2,g77B2)]) kR (λ_ _=>⟨qi ⟨yb (g77L1ok m hE m),trivial⟩,trivial⟩) (λn x=>kR) (λ_=>kR) n
def g77ok:FO (g77T m):=f1' g77H (g77T m) func77 (g77K m) λ_ h=>g77L0ok m h m
def g124H:Hints:=⟨[J [1],J [2]],[],[],[2],[],[[false]]⟩
def g124T:FunT:=⟨124,[hC3],sB,[sD],un (g124 m)⟩
def g124ok:FO (g124T m):=fk g124H (g124T m) func124 (AllF.mem (l:=[g69T m]) ⟨g69ok m,trivial⟩)
def g78H:Hints:=⟨[J [0,1],J [0,1,6],J [0,1,6,12],J' [(0,1)] [0,1,6],J [0,1,6,29],J [4,5],J [0,1,7],J [0,1,7,41],J' [(0,1)] [0,1,7],J [0,1,7,8],J [0,1,7,8,46],J' [(0,1)] [0,1,7,8],J [0,1,7,8,63],J' [(1,1),(5,1)] [4,5],J [4,5]],[(0,[0,1,6]),(2,[0,1,7]),(4,[0,1,7,8])],[(0,[0,1]),(1,[0,1,6]),(2,[]),(3,[0,1,7]),(4,[0,1,7]),(5,[0,1,7,8])],[4,5],[],[[false],[false]]⟩
def g78T:FunT:=⟨78,[hY1,sL],.tup [(.c (.int .i64)),(.c (.int .i64))],[sD,sD],un (g78 m)⟩
noncomputable def g78C:Code:=codeOf f78
noncomputable def g78B0:Code:=qm g78C 0 0
noncomputable def g78B2:Code:=qm g78C 0 1
noncomputable def g78B4:Code:=qm g78B2 2 0
def g78K:FL [g124T m]:=AllF.mem ⟨g124ok m,trivial⟩
def g78L2X:LT:=⟨4,[(0,hY1),(1,sL),(7,sI),(8,sI)],[(.ret,[(4,sI),(5,sI)]),(.exit 4,[(0,hY1),(1,sL),(7,sI)])],λn=>uq (g78L2 m n)⟩
def g78L2ok {E} (hE:EO E 72 g78H) (n):LO E g78B4 ((g78L2X m).at n):=lk hE (g78K m) (g78L2X m) n
def g78L1X:LT:=⟨2,[(0,hY1),(1,sL),(7,sI)],[(.ret,[(4,sI),(5,sI)]),(.exit 2,[])],λn=>uq (g78L1 m n)⟩
def g78L1ok {E} (hE:EO E 72 g78H) (n):LO E g78B2 ((g78L1X m).at n):=
 lok hmix htt hE (g78K m) (L:=[(g78L2X m).at m]) (g78L1X m) (l:=[(4,g78B4)]) kR (λ_ _=>⟨qi ⟨yb (g78L2ok m hE m),trivial⟩,trivial⟩) (λn x=>kR) (λ_=>kR) n
def g78L0X:LT:=⟨0,[(0,hY1),(1,sL),(6,sI)],[(.ret,[(4,sI),(5,sI)]),(.exit 0,[(0,hY1),(1,sL)])],λn=>uq (g78L0 m n)⟩
def g78L0ok {E} (hE:EO E 72 g78H) (n):LO E g78B0 ((g78L0X m).at n):=lk hE (g78K m) (g78L0X m) n
def g78ok:FO (g78T m):=
 fok hmix htt (H:=g78H) (g78T m) func78 kR (g78K m) (L:=[(g78L0X m).at m,(g78L1X m).at m]) (l:=[(0,g78B0),(2,g78B2)]) kR (λ_ hE _ _=>⟨qi ⟨yb (g78L0ok m hE m),nb rfl,trivial⟩,qi ⟨nb rfl,yb (g78L1ok m hE m),trivial⟩,trivial⟩) (λx=>kR)
def g165H:Hints:=⟨[J [0,1],J [0,1,5],J [0,1,5,6],J [0,1,5,6,18],J' [(0,1)] [0,1,5,6],J [0,1,5,6,7],J [0,1,5,6,7,8],J [0,1,5,6,7,8,24],J' [(0,1)] [0,1,5,6,7,8],J' [(0,1)] [0,1,5,6,7,8],J [0,1,5,6,7,8],J' [(0,1)] [0,1,5,6,7,8],J' [(5,1)] [0,1,5,6],J' [(0,1)] [4]],[(0,[0,1,5,6]),(2,[0,1,5,6,7,8])],[(0,[5]),(1,[0,1,5,6]),(2,[0,1,5,6,7]),(3,[0,1,5,6,7,8])],[4],[],[[true]]⟩
def g165T:FunT:=⟨165,[h83,h83],ha3,[sD,sD],un (g165 m)⟩
noncomputable def g165C:Code:=codeOf f165
noncomputable def g165B0:Code:=qm g165C 0 0
noncomputable def g165B2:Code:=qm g165B0 0 0
def g165L1X:LT:=⟨2,[(0,h83),(1,h83),(5,ha3),(6,sI),(7,sU),(8,sI)],[(.exit 2,[(0,h83),(1,h83),(5,ha3),(6,sI),(7,sU)])],λn=>uq (g165L1 m n)⟩
def g165L1ok {E} (hE:EO E 66 g165H) (n):LO E g165B2 ((g165L1X m).at n):=lk hE noF (g165L1X m) n
def g165L0X:LT:=⟨0,[(0,h83),(1,h83),(5,ha3),(6,sI)],[(.exit 0,[(5,ha3)])],λn=>uq (g165L0 m n)⟩
def g165L0ok {E} (hE:EO E 66 g165H) (n):LO E g165B0 ((g165L0X m).at n):=
 lok hmix htt hE noF (L:=[(g165L1X m).at m]) (g165L0X m) (l:=[(2,g165B2)]) kR (λ_ _=>⟨qi ⟨yb (g165L1ok m hE m),trivial⟩,trivial⟩) (λn x=>kR) (λ_=>kR) n
def g165ok:FO (g165T m):=f1' g165H (g165T m) func165 noF λ_ h=>g165L0ok m h m
def g120H:Hints:=⟨[J [2,3,4],J [4]],[],[],[4],[],[[false,false]]⟩
def g120T:FunT:=⟨120,[hY3,hY3],hY3,[sD,sD],un (g120 m)⟩
def g120ok:FO (g120T m):=fk g120H (g120T m) func120 (AllF.mem (l:=[g166T m,g165T m,g127T m]) ⟨g166ok m,g165ok m,g127ok m,trivial⟩)
def g212H:Hints:=⟨[J [0,1,2,3],J [0,1,2,3,9],J [0,1,2,3,9,10],J [0,1,2,3,9,10,11,12],J [0,1,2,3,9,10,11,12,13],J [0,1,2,3,9,10,11,12,13,23],J' [(0,1)] [0,1,2,3,9,10,11,12,13],J [0,1,2,3,9,10,11,12,13,28],J' [(0,1)] [0,1,2,3,9,10,11,12,13],J' [(7,1)] [0,1,2,3,9,10,12,13,14],J' [(0,1)] [0,1,2,3,9,10,12,13,14],J [0,1,2,3,9,10,12,13,14],J' [(0,1)] [0,1,2,3,9,10,11,12,13],J' [(0,1)] [0,2,9,10,60],J [0,8],J [0,2,9,10,15],J [0,2,9,10,15,63],J' [(0,1)] [0,2,9,10,15],J [0,2,9,10,15],J [0,8]],[(0,[0,1,2,3,9,10,11,12,13]),(2,[0,2,9,10,15])],[(0,[0,2,9,10,11]),(1,[0,1,2,3,9,10,11,12,13]),(2,[0]),(3,[0,2,9,10,15])],[0,8],[0],[[false]]⟩
def g212T:FunT:=⟨212,[ha3,h83,sI,sU],sB,[ha3,sD,sD,sD],un (g212 m)⟩
noncomputable def g212C:Code:=codeOf f212
noncomputable def g212B0:Code:=qm g212C 0 0
noncomputable def g212B2:Code:=qm g212C 0 1
def g212L1X:LT:=⟨2,[(0,ha3),(2,sI),(9,sI),(10,h33),(15,sI)],[(.exit 2,[(0,ha3)])],λn=>uq (g212L1 m n)⟩
def g212L1ok {E} (hE:EO E 75 g212H) (n):LO E g212B2 ((g212L1X m).at n):=lk hE noF (g212L1X m) n
def g212L0X:LT:=⟨0,[(0,ha3),(1,h83),(2,sI),(3,sU),(9,sI),(10,h33),(11,sU),(12,sU),(13,sI)],[(.exit 0,[(0,ha3),(2,sI),(9,sI),(10,h33),(11,sU)])],λn=>uq (g212L0 m n)⟩
def g212L0ok {E} (hE:EO E 75 g212H) (n):LO E g212B0 ((g212L0X m).at n):=lk hE noF (g212L0X m) n
def g212ok:FO (g212T m):=
 fok hmix htt (H:=g212H) (g212T m) func212 kR noF (L:=[(g212L0X m).at m,(g212L1X m).at m]) (l:=[(0,g212B0),(2,g212B2)]) kR (λ_ hE _ _=>⟨qi ⟨yb (g212L0ok m hE m),nb rfl,trivial⟩,qi ⟨nb rfl,yb (g212L1ok m hE m),trivial⟩,trivial⟩) (λx=>kR)
def g206H:Hints:=⟨[J [0,1],J [0,1,19],J' [(0,1)] [4,5],J [0,1,6],J [0,1,6,7],J' [(3,1)] [0,6,7,8,9],J [0,6,7,8,9,41],J' [(0,1)] [0,6,7,8,9],J [0,6,7,8,9,10],J' [(0,1)] [6,7,8,9,10,11],J [6,7,8,9,10,11,56],J' [(0,1)] [6,7,8,9,10,11],J [6,7,8,9,10,11,12],J' [(0,1)] [6,7,8,9,10,11,13],J' [(4,11)] [6,7,8,9,10,11,13,90],J' [(0,1)] [6,7,8,9,10,11,13],J' [(2,1)] [6,7,8,9,10,11],J' [(0,1),(2,1),(4,1)] [10,14],J' [(0,1),(2,1)] [4,5]],[(0,[6,7,8,9,10,11]),(2,[6,7,8,9,10,11,13])],[(0,[7,8,10]),(1,[6,7,8,9,10,11]),(2,[6,7,8,9,10,11,13]),(3,[6,7,8,9,10,11,13])],[4,5],[],[[true],[false]]⟩
def g206T:FunT:=⟨206,[h83,h83],.tup [(.c (.nm 0 (.int .u32))),(.c (.imm (.int .u32)))],[sD,sD],un (g206 m)⟩
noncomputable def g206C:Code:=codeOf f206
noncomputable def g206B0:Code:=qm g206C 0 0
noncomputable def g206B2:Code:=qm g206B0 0 0
def g206K:FL [g194T m,g208T m,g128T m,g212T m,g166T m,g129T m]:=AllF.mem ⟨g194ok m,g208ok m,g128ok m,g212ok m,g166ok m,g129ok m,trivial⟩
def g206L1X:LT:=⟨2,[(6,sI),(7,sI),(8,ha3),(9,h33),(10,h53),(11,sI),(13,sU)],[(.exit 2,[(6,sI),(7,sI),(8,ha3),(9,h33),(10,h53),(11,sI),(13,sU)])],λn=>uq (g206L1 m n)⟩
def g206L1ok {E} (hE:EO E 109 g206H) (n):LO E g206B2 ((g206L1X m).at n):=lk hE (g206K m) (g206L1X m) n
def g206L0X:LT:=⟨0,[(6,sI),(7,sI),(8,ha3),(9,h33),(10,h53),(11,sI)],[(.exit 0,[(7,sI),(8,ha3),(10,h33)])],λn=>uq (g206L0 m n)⟩
def g206L0ok {E} (hE:EO E 109 g206H) (n):LO E g206B0 ((g206L0X m).at n):=
 lok hmix htt hE (g206K m) (L:=[(g206L1X m).at m]) (g206L0X m) (l:=[(2,g206B2)]) kR (λ_ _=>⟨qi ⟨yb (g206L1ok m hE m),trivial⟩,trivial⟩) (λn x=>kR) (λ_=>kR) n
def g206ok:FO (g206T m):=f1' g206H (g206T m) func206 (g206K m) λ_ h=>g206L0ok m h m
def g196H:Hints:=⟨[J [2,3,4,5],J [2,3,4,5],J' [(5,1)] [2,3,4,5,6,7],J' [(5,1),(9,1)] [3,4,5,8,9],J [3,4,5,8,9,35],J [3,4,5,8,9],J [4,5,8,9,41],J [4,5,8,9],J [4,5,8,9],J [4,5]],[],[],[4,5],[],[[false,false],[false,false]]⟩
def g196T:FunT:=⟨196,[hY3,hY3],.tup [(.agg [.bool,(.imm (.int .u32))]),(.agg [.bool,(.imm (.int .u32))])],[sD,sD],un (g196 m)⟩
def g196ok:FO (g196T m):=fk g196H (g196T m) func196 (AllF.mem (l:=[g117T m,g206T m,g127T m,g69T m,g82T m,g163T m,g123T m,g126T m]) ⟨g117ok m,g206ok m,g127ok m,g69ok m,g82ok m,g163ok m,g123ok m,g126ok m,trivial⟩)
def g168H:Hints:=⟨[J [2,3,4],J [4,5,6],J [4,5,6,15],J' [(3,1)] [4,5,6,8],J [4,5,6],J [4]],[(0,[4,5,6])],[(0,[4,5]),(1,[4,5,6])],[4],[],[[false,false]]⟩
def g168T:FunT:=⟨168,[hY3,hY3],hY3,[sD,sD],un (g168 m)⟩
noncomputable def g168C:Code:=codeOf f168
noncomputable def g168B0:Code:=qm g168C 0 0
def g168K:FL [g82T m,g69T m,g196T m]:=AllF.mem ⟨g82ok m,g69ok m,g196ok m,trivial⟩
def g168L0X:LT:=⟨0,[(4,sX 0 [.bool,.nm 1 (.int .u32)]),(5,sX 2 [.bool,.imm (.int .u32)]),(6,sX 3 [.bool,.imm (.int .u32)])],[(.exit 0,[(4,sX 0 [.bool,.nm 1 (.int .u32)]),(5,sX 2 [.bool,.imm (.int .u32)])])],λn=>uq (g168L0 m n)⟩
def g168L0ok {E} (hE:EO E 25 g168H) (n):LO E g168B0 ((g168L0X m).at n):=lk hE (g168K m) (g168L0X m) n
def g168ok:FO (g168T m):=f1' g168H (g168T m) func168 (g168K m) λ_ h=>g168L0ok m h m
def g169H:Hints:=⟨[J [2,3,4],J' [(3,1)] [4,6,7],J [4,6,16],J [4,5],J [4,5]],[],[],[4,5],[],[[false,false],[false]]⟩
def g169T:FunT:=⟨169,[hY3,hY3],.tup [(.agg [.bool,(.imm (.int .u32))]),(.c .bool)],[sD,sD],un (g169 m)⟩
def g169ok:FO (g169T m):=fk g169H (g169T m) func169 (AllF.mem (l:=[g196T m,g69T m]) ⟨g196ok m,g69ok m,trivial⟩)
def g125H:Hints:=⟨[J [2,3,4],J [2,3,4,5],J [2,3,4,5,15],J [2,3,4,5],J' [(3,1)] [3,4,5,6],J' [(3,1)] [4,6,8],J [4]],[],[],[4],[],[[false,false,false,false]]⟩
def g125T:FunT:=⟨125,[hY3,hY3],hC3,[sD,sD],un (g125 m)⟩
def g125ok:FO (g125T m):=fk g125H (g125T m) func125 (AllF.mem (l:=[g168T m,g69T m,g164T m,g169T m]) ⟨g168ok m,g69ok m,g164ok m,g169ok m,trivial⟩)
def g79H:Hints:=⟨[J [4,5,6,7,8],J [4,8,9],J [8]],[],[],[8],[],[[false,false,false,false]]⟩
def g79T:FunT:=⟨79,[hC3,hC3,hC3,hC3],hC3,[sD,sD,sD,sD],un (g79 m)⟩
def g79ok:FO (g79T m):=fk g79H (g79T m) func79 (AllF.mem (l:=[g120T m,g125T m,g126T m]) ⟨g120ok m,g125ok m,g126ok m,trivial⟩)
def g43H:Hints:=⟨[J [0],J [0,5],J [0,5,6,7],J [0,5,6,7,8],J [0,5,6,7,8,9],J [0,5,6,7,8,9,25],J' [(0,1)] [0,5,6,7,8,9],J' [(0,1)] [0,5,6,7,8,9],J [5,6,7,8,34],J' [(3,1)] [5,6,7,8,10,11],J [5,6,7,8,10,11,42],J [5,6,7,8,10,11,12],J [5,6,7,8,10,11,12,13],J [5,6,7,8,10,11,12,13,46],J' [(0,1)] [5,6,7,8,10,11,12,13],J' [(6,1)] [5,6,7,8,10,11,12,13,62],J' [(0,1)] [5,6,7,8,10,11,12,13],J [5,6,7,10,11,12,72],J [5,6,7,10,11,12,82],J' [(0,1)] [5,6,7,10,11,12],J' [(0,1)] [5,6,7,10,11,12],J' [(0,1),(2,1)] [5,6,7,10,11,12],J [5,6,7,10,11,12,14],J [5,6,7,10,11,12,14,15],J [5,6,7,10,11,12,14,15,101],J' [(0,1)] [5,6,7,10,11,12,14,15],J [5,6,7,10,11,12,14,15,16],J [5,6,7,10,11,12,14,15,16,106],J' [(0,1)] [5,6,7,10,11,12,14,15,16],J [5,6,7,10,11,12,14,15,16,17,18],J [5,6,7,10,11,12,14,15,16,17,18,19],J [5,6,7,10,11,12,14,15,16,17,18,19,142],J [5,6,7,10,11,12,14,15,16,17,18,19],J [5,6,7,10,11,12,14,15,16,17,18,19],J' [(1,1),(4,1)] [5,6,7,10,11,12,14,15,16],J' [(0,1)] [5,6,7,8],J' [(0,1),(1,1),(3,1)] [2,3,4]],[(0,[0,5,6,7,8,9]),(2,[5,6,7,8]),(4,[5,6,7,8,10,11,12,13]),(6,[5,6,7,10,11,12,14,15]),(8,[5,6,7,10,11,12,14,15,16])],[(0,[5,6,7,8]),(1,[0,5,6,7,8,9]),(2,[6,7,8]),(3,[5,6,7,8]),(4,[5,6,7,10,11,12]),(5,[5,6,7,8,10,11,12,13]),(6,[5,6,7,12]),(7,[5,6,7,10,11,12,14,15]),(8,[5,6,7,10,11,12,14,15]),(9,[5,6,7,10,11,12,14,15,16])],[2,3,4],[],[[false],[false],[false]]⟩
def g43T:FunT:=⟨43,[h92],.tup [(.c (.int .i64)),(.c (.int .i64)),(.c (.int .i64))],[sD],un (g43 m)⟩
noncomputable def g43C:Code:=codeOf f43
noncomputable def g43B0:Code:=qm g43C 0 0
noncomputable def g43B2:Code:=qm g43C 0 1
noncomputable def g43B4:Code:=qm g43B2 2 0
noncomputable def g43B6:Code:=qm g43B2 2 1
noncomputable def g43B8:Code:=qm g43B6 6 0
def g43K:FL [g77T m,g78T m,g69T m,g79T m]:=AllF.mem ⟨g77ok m,g78ok m,g69ok m,g79ok m,trivial⟩
def g43L4X:LT:=⟨8,[(5,h51),(6,sI),(7,sI),(10,sI),(11,sI),(12,sN 1),(14,sX 2 [.bool,.imm (.int .u32),.bool,.imm (.int .u32)]),(15,sI),(16,sI)],[(.exit 8,[(5,h51),(6,sI),(7,sI),(10,sI),(11,sI),(12,sN 1),(14,sX 2 [.bool,.imm (.int .u32),.bool,.imm (.int .u32)]),(15,sI)])],λn=>uq (g43L4 m n)⟩
def g43L4ok {E} (hE:EO E 179 g43H) (n):LO E g43B8 ((g43L4X m).at n):=lk hE (g43K m) (g43L4X m) n
def g43L3X:LT:=⟨6,[(5,h51),(6,sI),(7,sI),(10,sI),(11,sI),(12,sN 1),(14,sX 2 [.bool,.imm (.int .u32),.bool,.imm (.int .u32)]),(15,sI)],[(.exit 6,[(5,h51),(6,sI),(7,sI),(12,sN 1)])],λn=>uq (g43L3 m n)⟩
def g43L3ok {E} (hE:EO E 179 g43H) (n):LO E g43B6 ((g43L3X m).at n):=
 lok hmix htt hE (g43K m) (L:=[(g43L4X m).at m]) (g43L3X m) (l:=[(8,g43B8)]) kR (λ_ _=>⟨qi ⟨yb (g43L4ok m hE m),trivial⟩,trivial⟩) (λn x=>kR) (λ_=>kR) n
def g43L2X:LT:=⟨4,[(5,h51),(6,sI),(7,sI),(8,sN 1),(10,sI),(11,sI),(12,sN 2),(13,sI)],[(.exit 4,[(5,h51),(6,sI),(7,sI),(10,sI),(11,sI),(12,sN 1)])],λn=>uq (g43L2 m n)⟩
def g43L2ok {E} (hE:EO E 179 g43H) (n):LO E g43B4 ((g43L2X m).at n):=lk hE (g43K m) (g43L2X m) n
def g43L1X:LT:=⟨2,[(5,h51),(6,sI),(7,sI),(8,sN 1)],[(.exit 2,[(6,sI),(7,sI),(8,sN 0)])],λn=>uq (g43L1 m n)⟩
def g43L1ok {E} (hE:EO E 179 g43H) (n):LO E g43B2 ((g43L1X m).at n):=
 lok hmix htt hE (g43K m) (L:=[(g43L2X m).at m,(g43L3X m).at m]) (g43L1X m) (l:=[(4,g43B4),(6,g43B6)]) kR (λ_ _=>⟨qi ⟨yb (g43L2ok m hE m),nb rfl,trivial⟩,qi ⟨nb rfl,yb (g43L3ok m hE m),trivial⟩,trivial⟩) (λn x=>kR) (λ_=>kR) n
def g43L0X:LT:=⟨0,[(0,h92),(5,h51),(6,sI),(7,sI),(8,sN 1),(9,sI)],[(.exit 0,[(5,h51),(6,sI),(7,sI),(8,sN 1)])],λn=>uq (g43L0 m n)⟩
def g43L0ok {E} (hE:EO E 179 g43H) (n):LO E g43B0 ((g43L0X m).at n):=lk hE (g43K m) (g43L0X m) n
def g43ok:FO (g43T m):=
 fok hmix htt (H:=g43H) (g43T m) func43 kR (g43K m) (L:=[(g43L0X m).at m,(g43L1X m).at m]) (l:=[(0,g43B0),(2,g43B2)]) kR (λ_ hE _ _=>⟨qi ⟨yb (g43L0ok m hE m),nb rfl,trivial⟩,qi ⟨nb rfl,yb (g43L1ok m hE m),trivial⟩,trivial⟩) (λx=>kR)
def g16H:Hints:=⟨[J [1,2,4],J [1,2,4,6],J [1,2,4,6,14],J' [(1,1)] [4,5],J' [(1,1),(5,1)] [4,7,8,9],J' [(0,1),(1,1),(2,1)] [4,5]],[],[],[4,5],[],[[false,false,false],[false]]⟩
def g16T:FunT:=⟨16,[h71,sU],.tup [(.agg [(.int .i64),(.int .i64),(.int .i64)]),(.c (.int .i64))],[sD,sD],un (g16 m)⟩
def g16ok:FO (g16T m):=fk g16H (g16T m) func16 (AllF.mem (l:=[g36T m,g37T m,g44T m,g43T m]) ⟨g36ok m,g37ok m,g44ok m,g43ok m,trivial⟩)
def g24H:Hints:=⟨[J [1,2],J [1,2,6],J [1,2,6,13],J' [(0,1)] [4,5],J [1,2,15],J [1,2,15,16],J [4,5],J [1,2,20],J [4,5],J' [(1,1),(3,1)] [7,8],J' [(5,1)] [4,5]],[],[(0,[1,2])],[4,5],[],[[false],[false]]⟩
def g24T:FunT:=⟨24,[h71,sU],.tup [(.c (.int .i64)),(.c (.int .i64))],[sD,sD],un (g24 m)⟩
def g24ok:FO (g24T m):=fk g24H (g24T m) func24 (AllF.mem (l:=[g33T m,g20T m]) ⟨g33ok m,g20ok m,trivial⟩)
def g55H:Hints:=⟨[J [0],J' [(0,1),(3,1)] [3,4],J' [(0,1),(1,1)] [2]],[],[],[2],[],[[false]]⟩
def g55T:FunT:=⟨55,[h81],sI,[sD],un (g55 m)⟩
def g55ok:FO (g55T m):=fk g55H (g55T m) func55 (AllF.mem (l:=[g44T m,g43T m]) ⟨g44ok m,g43ok m,trivial⟩)
def g28H:Hints:=⟨[J [1,2],J [1,2,6],J [1,2,6,11],J' [(0,1)] [4,5],J [1,2,13],J [1,2,13,14],J [4,5],J [1,2,16],J [4,5],J' [(1,1)] [4,5]],[],[(0,[1,2])],[4,5],[],[[false],[false]]⟩
def g28T:FunT:=⟨28,[h71,sU],.tup [(.c (.int .i64)),(.c (.int .i64))],[sD,sD],un (g28 m)⟩
def g28ok:FO (g28T m):=fk g28H (g28T m) func28 (AllF.mem (l:=[g36T m,g37T m,g55T m]) ⟨g36ok m,g37ok m,g55ok m,trivial⟩)
def g29H:Hints:=⟨[J [1,2,4],J [1,2,4,6],J [1,2,4,6,15],J' [(1,1)] [4,5],J [1,2,4,7],J' [(1,1)] [2,4,7,8],J [2,4,7,8,27,28],J [2,4,7,8,27,28,29],J [2,4,7,8,9,27,28],J [2,4,7,8,9,27,28,32,33],J [2,4,7,8,9,27,28,32,33,34],J [2,4,7,8,9,10,27,28,32,33],J' [(3,1),(11,3)] [2,4,7,8,9,27,28,32,33],J' [(1,1)] [2,4,7,8,9,27,28,32,33],J' [(1,1)] [2,4,7,8,27,28],J' [(0,1)] [4,5]],[(0,[2,4,7,8,27,28]),(2,[2,4,7,8,9,27,28,32,33])],[(0,[4,7]),(1,[2,4,7,8,27,28]),(2,[2,4,7,8,27,28]),(3,[2,4,7,8,9,27,28,32,33])],[4,5],[],[[false,false,true],[false]]⟩
def g29T:FunT:=⟨29,[h71,sU],.tup [(.agg [(.int .i64),(.int .i64),(.nm 0 (.pr .bool (.pr (.pr .bool (.sl false (.int .u32))) (.int .i64))))]),(.c (.int .i64))],[sD,sD],un (g29 m)⟩
noncomputable def g29C:Code:=codeOf f29
noncomputable def g29B0:Code:=qm g29C 0 0
noncomputable def g29B2:Code:=qm g29B0 0 0
def g29K:FL [g33T m,g35T m,g56T m]:=AllF.mem ⟨g33ok m,g35ok m,g56ok m,trivial⟩
def g29L1X:LT:=⟨2,[(2,sX 0 [iI,iI,iL,iL,.imm (.int .u64)]),(4,sX 1 [iI,iI,.nm 2 (.pr .bool (.pr (.pr .bool (.sl false (.int .u32))) (.int .i64)))]),(7,sX 3 [iI,iI,.nm 4 (.pr .bool (.pr (.pr .bool (.sl false (.int .u32))) (.int .i64)))]),(8,h81),(9,sI),(27,sI),(28,sI),(32,sI),(33,sI)],[(.exit 2,[(2,sX 0 [iI,iI,iL,iL,.imm (.int .u64)]),(4,sX 1 [iI,iI,.nm 2 (.pr .bool (.pr (.pr .bool (.sl false (.int .u32))) (.int .i64)))]),(7,sX 3 [iI,iI,.nm 4 (.pr .bool (.pr (.pr .bool (.sl false (.int .u32))) (.int .i64)))]),(8,h81),(27,sI),(28,sI)])],λn=>uq (g29L1 m n)⟩
def g29L1ok {E} (hE:EO E 52 g29H) (n):LO E g29B2 ((g29L1X m).at n):=lk hE (g29K m) (g29L1X m) n
def g29L0X:LT:=⟨0,[(2,sX 0 [iI,iI,iL,iL,.imm (.int .u64)]),(4,sX 1 [iI,iI,.nm 2 (.pr .bool (.pr (.pr .bool (.sl false (.int .u32))) (.int .i64)))]),(7,sX 3 [iI,iI,.nm 4 (.pr .bool (.pr (.pr .bool (.sl false (.int .u32))) (.int .i64)))]),(8,h81),(27,sI),(28,sI)],[(.exit 0,[(4,sX 0 [iI,iI,.nm 1 (.pr .bool (.pr (.pr .bool (.sl false (.int .u32))) (.int .i64)))]),(7,sX 2 [iI,iI,.nm 3 (.pr .bool (.pr (.pr .bool (.sl false (.int .u32))) (.int .i64)))])])],λn=>uq (g29L0 m n)⟩
def g29L0ok {E} (hE:EO E 52 g29H) (n):LO E g29B0 ((g29L0X m).at n):=
 lok hmix htt hE (g29K m) (L:=[(g29L1X m).at m]) (g29L0X m) (l:=[(2,g29B2)]) kR (λ_ _=>⟨qi ⟨yb (g29L1ok m hE m),trivial⟩,trivial⟩) (λn x=>kR) (λ_=>kR) n
def g29ok:FO (g29T m):=f1' g29H (g29T m) func29 (g29K m) λ_ h=>g29L0ok m h m
def g57H:Hints:=⟨[J [0,1,4],J [4]],[],[],[4],[],[[false,false,true]]⟩
def g57T:FunT:=⟨57,[sI,sI],.a (.agg [(.int .i64),(.int .i64),(.nm 0 (.pr .bool (.pr (.pr .bool (.sl false (.int .u32))) (.int .i64))))]),[sD,sD],un (g57 m)⟩
def g57ok:FO (g57T m):=fk g57H (g57T m) func57 noF
def g30H:Hints:=⟨[J [1,2,4],J [1,2,4,6],J [1,2,4,6,15],J' [(1,1)] [4,5],J [1,2,4,7],J' [(1,1)] [2,4,7,8],J [2,4,7,8,9],J [2,4,7,8,9,29],J' [(0,1)] [2,4,7,8,9],J [2,4,7,8,9,10],J [2,4,7,8,9,10,35],J' [(0,1)] [2,4,7,8,9,10],J [2,4,7,8,9,10],J' [(0,1)] [4,5]],[(0,[2,4,7,8,9]),(2,[2,4,7,8,9,10])],[(0,[4,7]),(1,[2,4,7,8,9]),(2,[2,4,7,8,9]),(3,[2,4,7,8,9,10])],[4,5],[],[[false,false,true],[false]]⟩
def g30T:FunT:=⟨30,[h71,sU],.tup [(.agg [(.int .i64),(.int .i64),(.nm 0 (.pr .bool (.pr (.pr .bool (.sl false (.int .u32))) (.int .i64))))]),(.c (.int .i64))],[sD,sD],un (g30 m)⟩
noncomputable def g30C:Code:=codeOf f30
noncomputable def g30B0:Code:=qm g30C 0 0
noncomputable def g30B2:Code:=qm g30B0 0 0
def g30K:FL [g36T m,g57T m,g37T m]:=AllF.mem ⟨g36ok m,g57ok m,g37ok m,trivial⟩
def g30L1X:LT:=⟨2,[(2,sX 0 [iI,iI,iL,iL,.imm (.int .u64)]),(4,sX 1 [iI,iI,.nm 2 (.pr .bool (.pr (.pr .bool (.sl false (.int .u32))) (.int .i64)))]),(7,sX 3 [iI,iI,.nm 4 (.pr .bool (.pr (.pr .bool (.sl false (.int .u32))) (.int .i64)))]),(8,h81),(9,sI),(10,sI)],[(.exit 2,[(2,sX 0 [iI,iI,iL,iL,.imm (.int .u64)]),(4,sX 1 [iI,iI,.nm 2 (.pr .bool (.pr (.pr .bool (.sl false (.int .u32))) (.int .i64)))]),(7,sX 3 [iI,iI,.nm 4 (.pr .bool (.pr (.pr .bool (.sl false (.int .u32))) (.int .i64)))]),(8,h81),(9,sI)])],λn=>uq (g30L1 m n)⟩
def g30L1ok {E} (hE:EO E 55 g30H) (n):LO E g30B2 ((g30L1X m).at n):=lk hE (g30K m) (g30L1X m) n
def g30L0X:LT:=⟨0,[(2,sX 0 [iI,iI,iL,iL,.imm (.int .u64)]),(4,sX 1 [iI,iI,.nm 2 (.pr .bool (.pr (.pr .bool (.sl false (.int .u32))) (.int .i64)))]),(7,sX 3 [iI,iI,.nm 4 (.pr .bool (.pr (.pr .bool (.sl false (.int .u32))) (.int .i64)))]),(8,h81),(9,sI)],[(.exit 0,[(4,sX 0 [iI,iI,.nm 1 (.pr .bool (.pr (.pr .bool (.sl false (.int .u32))) (.int .i64)))]),(7,sX 2 [iI,iI,.nm 3 (.pr .bool (.pr (.pr .bool (.sl false (.int .u32))) (.int .i64)))])])],λn=>uq (g30L0 m n)⟩
def g30L0ok {E} (hE:EO E 55 g30H) (n):LO E g30B0 ((g30L0X m).at n):=
 lok hmix htt hE (g30K m) (L:=[(g30L1X m).at m]) (g30L0X m) (l:=[(2,g30B2)]) kR (λ_ _=>⟨qi ⟨yb (g30L1ok m hE m),trivial⟩,trivial⟩) (λn x=>kR) (λ_=>kR) n
def g30ok:FO (g30T m):=f1' g30H (g30T m) func30 (g30K m) λ_ h=>g30L0ok m h m
def g63H:Hints:=⟨[J [1],J [1,3],J [2],J [8],J [2],J [2]],[],[(0,[])],[2],[],[[false]]⟩
def g63T:FunT:=⟨63,[h41],sI,[sD],un (g63 m)⟩
def g63ok:FO (g63T m):=fk g63H (g63T m) func63 (AllF.mem (l:=[g92T m]) ⟨g92ok m,trivial⟩)
def g187H:Hints:=⟨[J [1,2],J [2]],[],[],[2],[],[[false,false]]⟩
def g187T:FunT:=⟨187,[hY3],hY3,[sD],un (g187 m)⟩
def g187ok:FO (g187T m):=fk g187H (g187T m) func187 (AllF.mem (l:=[g147T m,g146T m]) ⟨g147ok m,g146ok m,trivial⟩)
def g156H:Hints:=⟨[J [1,2],J' [(2,1)] [1,2,3],J' [(0,1)] [1,2,9],J [1,2],J [2]],[],[],[2],[],[[false,false,false,false]]⟩
def g156T:FunT:=⟨156,[hM3],hM3,[sD],un (g156 m)⟩
def g156ok:FO (g156T m):=fk g156H (g156T m) func156 (AllF.mem (l:=[g97T m,g187T m]) ⟨g97ok m,g187ok m,trivial⟩)
def g155H:Hints:=⟨[J [2,3],J' [(3,1)] [2,3,6],J' [(0,1)] [2,3,18],J [4,5],J' [(3,1)] [7,8],J [4,5]],[],[],[4,5],[],[[false],[false]]⟩
def g155T:FunT:=⟨155,[hM3,hM3],.tup [(.c (.int .i64)),(.c .bool)],[sD,sD],un (g155 m)⟩
def g155ok:FO (g155T m):=fk g155H (g155T m) func155 (AllF.mem (l:=[g161T m,g162T m,g88T m]) ⟨g161ok m,g162ok m,g88ok m,trivial⟩)
def g104H:Hints:=⟨[J [2,3],J' [(3,1)] [5],J' [(0,1)] [4]],[],[],[4],[],[[false]]⟩
def g104T:FunT:=⟨104,[hM3,hM3],sB,[sD,sD],un (g104 m)⟩
def g104ok:FO (g104T m):=fk g104H (g104T m) func104 (AllF.mem (l:=[g155T m]) ⟨g155ok m,trivial⟩)
def g105H:Hints:=⟨[J [1,2],J [2,3,4],J [2,3,4,13],J [2],J [2]],[],[],[2],[],[[false,false,false,false]]⟩
def g105T:FunT:=⟨105,[h41],hM3,[sD],un (g105 m)⟩
def g105ok:FO (g105T m):=fk g105H (g105T m) func105 (AllF.mem (l:=[g156T m,g104T m]) ⟨g156ok m,g104ok m,trivial⟩)
def g62H:Hints:=⟨[J [0],J [0,3],J [0,3,9,10],J [0,3,9,10,11],J [0,3,4,9,10],J' [(8,1)] [0,3,4,9,10,34],J' [(2,1)] [0,3,4,9,10,61],J' [(0,1)] [0,3,9,10],J' [(1,1)] [0,3,9,10],J' [(0,1)] [0,2]],[(0,[0,3,9,10])],[(0,[0,3]),(1,[0,3,9,10])],[0,2],[0],[[false]]⟩
def g62T:FunT:=⟨62,[sX 0 [.dp 1 (.pr (.pr .bool (.pr (.pr .bool (.sl false (.int .u32))) (.int .i64))) (.pr .bool (.pr (.pr .bool (.sl false (.int .u32))) (.int .i64)))),.nm 2 .bool,iI]],sI,[sX 0 [.dp 1 (.pr (.pr .bool (.pr (.pr .bool (.sl false (.int .u32))) (.int .i64))) (.pr .bool (.pr (.pr .bool (.sl false (.int .u32))) (.int .i64)))),.nm 2 .bool,iI]],un (g62 m)⟩
noncomputable def g62C:Code:=codeOf f62
noncomputable def g62B0:Code:=qm g62C 0 0
def g62K:FL [g63T m,g105T m,g104T m]:=AllF.mem ⟨g63ok m,g105ok m,g104ok m,trivial⟩
def g62L0X:LT:=⟨0,[(0,sX 0 [.dp 1 (.pr (.pr .bool (.pr (.pr .bool (.sl false (.int .u32))) (.int .i64))) (.pr .bool (.pr (.pr .bool (.sl false (.int .u32))) (.int .i64)))),.nm 2 .bool,iI]),(3,sI),(9,sI),(10,sI)],[(.exit 0,[(0,sX 0 [.dp 1 (.pr (.pr .bool (.pr (.pr .bool (.sl false (.int .u32))) (.int .i64))) (.pr .bool (.pr (.pr .bool (.sl false (.int .u32))) (.int .i64)))),.nm 2 .bool,iI]),(3,sI)])],λn=>uq (g62L0 m n)⟩
def g62L0ok {E} (hE:EO E 65 g62H) (n):LO E g62B0 ((g62L0X m).at n):=lk hE (g62K m) (g62L0X m) n
def g62ok:FO (g62T m):=f1' g62H (g62T m) func62 (g62K m) λ_ h=>g62L0ok m h m
def g157H:Hints:=⟨[J [2,3,4],J' [(3,1)] [2,3,4,5],J' [(0,1)] [2,3,4,14],J [4],J [4]],[],[],[4],[],[[false,false,false,false]]⟩
def g157T:FunT:=⟨157,[hM3,hM3],hM3,[sD,sD],un (g157 m)⟩
def g157ok:FO (g157T m):=fk g157H (g157T m) func157 (AllF.mem (l:=[g161T m,g145T m,g180T m,g112T m]) ⟨g161ok m,g145ok m,g180ok m,g112ok m,trivial⟩)
def g158H:Hints:=⟨[J [1],J' [(2,1)] [4],J' [(0,1)] [2]],[],[],[2],[],[[false]]⟩
def g158T:FunT:=⟨158,[hM3],sB,[sD],un (g158 m)⟩
def g158ok:FO (g158T m):=fk g158H (g158T m) func158 (AllF.mem (l:=[g97T m]) ⟨g97ok m,trivial⟩)
def g106H:Hints:=⟨[J [2,3,4],J' [(0,2)] [2,3,4,6],J [4,6,29,30,31],J [4,6,29,30,31,32],J [4,6,7,8,29,30,31],J [4,6,7,8,29,30,31,38],J' [(0,1)] [4,5],J' [(2,1)] [4,6,7,8,29,30,31,47],J [4,6,7,8,29,30,31],J' [(0,1),(2,1)] [4,6,8,29,30,31,57],J [4,6,29,30,31],J' [(1,1)] [4,6,29,30,31],J [4,5]],[(0,[4,6,29,30,31])],[(0,[4,6]),(1,[4,6,29,30,31])],[4,5],[],[[false,false,false,false,false,false,false,false],[false]]⟩
def g106T:FunT:=⟨106,[h41,h41],.tup [(.agg [.bool,.bool,(.imm (.int .u32)),(.int .i64),.bool,.bool,(.imm (.int .u32)),(.int .i64)]),(.c .bool)],[sD,sD],un (g106 m)⟩
noncomputable def g106C:Code:=codeOf f106
noncomputable def g106B0:Code:=qm g106C 0 0
def g106K:FL [g157T m,g158T m,g104T m]:=AllF.mem ⟨g157ok m,g158ok m,g104ok m,trivial⟩
def g106L0X:LT:=⟨0,[(4,sX 0 [.bool,.bool,.nm 1 (.int .u32),iI,.bool,.bool,.nm 2 (.int .u32),iI]),(6,sX 3 [.bool,.bool,.imm (.int .u32),iI,.bool,.bool,.imm (.int .u32),iI]),(29,.a (.c (.nm 4 (.pr .bool (.pr (.pr .bool (.sl false (.int .u32))) (.int .i64)))))),(30,sI),(31,sI)],[(.ret,[(4,sX 0 [.bool,.bool,.imm (.int .u32),iI,.bool,.bool,.imm (.int .u32),iI]),(5,sB)]),(.exit 0,[(4,sX 0 [.bool,.bool,.nm 1 (.int .u32),iI,.bool,.bool,.nm 2 (.int .u32),iI]),(6,sX 3 [.bool,.bool,.imm (.int .u32),iI,.bool,.bool,.imm (.int .u32),iI])])],λn=>uq (g106L0 m n)⟩
def g106L0ok {E} (hE:EO E 62 g106H) (n):LO E g106B0 ((g106L0X m).at n):=lk hE (g106K m) (g106L0X m) n
def g106ok:FO (g106T m):=f1' g106H (g106T m) func106 (g106K m) λ_ h=>g106L0ok m h m
def g188H:Hints:=⟨[J [0],J' [(2,1)] [2]],[],[],[2],[],[[false]]⟩
def g188T:FunT:=⟨188,[sI],sB,[sD],un (g188 m)⟩
def g188ok:FO (g188T m):=fk g188H (g188T m) func188 noF
def g190H:Hints:=⟨[J [2,3,4,6],J' [(0,1)] [3,4,6,7],J' [(9,1)] [3,4,6,7,8,9],J' [(10,1)] [6]],[],[],[6],[],[[false,false,false,false,false]]⟩
def g190T:FunT:=⟨190,[hM3,hM3,sI],hE3,[sD,sD,sD],un (g190 m)⟩
def g190ok:FO (g190T m):=fk g190H (g190T m) func190 (AllF.mem (l:=[g150T m,g187T m,g192T m,g181T m,g91T m]) ⟨g150ok m,g187ok m,g192ok m,g181ok m,g91ok m,trivial⟩)
def g204H:Hints:=⟨[J [1],J [2]],[],[],[2],[],[[false]]⟩
def g204T:FunT:=⟨204,[hE3],sI,[sD],un (g204 m)⟩
def g204ok:FO (g204T m):=fk g204H (g204T m) func204 (AllF.mem (l:=[g150T m]) ⟨g150ok m,trivial⟩)
def g213H:Hints:=⟨[J [2,3,4],J [2,3,4],J [4]],[],[],[4],[],[[false,false]]⟩
def g213T:FunT:=⟨213,[hY3,hY3],hY3,[sD,sD],un (g213 m)⟩
def g213ok:FO (g213T m):=fk g213H (g213T m) func213 (AllF.mem (l:=[g141T m]) ⟨g141ok m,trivial⟩)
def g211H:Hints:=⟨[J [1,2,4],J [1,2,4,7],J' [(1,1)] [1,2,4,14],J [4,5,6],J [1,2,4],J [1,2,4,8],J' [(2,1)] [2,4,5,8],J' [(2,1)] [2,4,5,8,37],J [2,4,5,8],J' [(1,1),(5,1)] [4,5,6]],[],[],[4,5,6],[],[[false,false],[false],[false]]⟩
def g211T:FunT:=⟨211,[hE3,sI],.tup [(.agg [.bool,(.imm (.int .u32))]),(.c (.int .i64)),(.c .bool)],[sD,sD],un (g211 m)⟩
def g211ok:FO (g211T m):=fk g211H (g211T m) func211 (AllF.mem (l:=[g150T m,g151T m,g192T m,g213T m,g109T m,g88T m,g91T m]) ⟨g150ok m,g151ok m,g192ok m,g213ok m,g109ok m,g88ok m,g91ok m,trivial⟩)
def g205H:Hints:=⟨[J [1,2,3,6],J [1,2,3,6,7,8,9],J [1,2,3,6,7,8,9,16],J' [(3,1)] [2,3,6,7,8,9],J' [(1,1),(6,1)] [2,3,6,7,8,9],J [2,3,6,7,8,9,10],J' [(2,1),(5,1),(10,1)] [3,6,7,10],J' [(0,1)] [2,3,6,7,8,10,49],J [2,3,6,7,8,10,51],J [3,6,7,10],J [2,3,6,7,8,10,56],J [3,6,7,10],J' [(0,1)] [3,6,7,8,10,62],J' [(0,1)] [3,6,7,65],J [3,6,7],J [6,7,70],J [6,7],J [6]],[],[(0,[3,6,7,10])],[6],[],[[false,false]]⟩
def g205T:FunT:=⟨205,[hE3,sI,sI],hY3,[sD,sD,sD],un (g205 m)⟩
def g205ok:FO (g205T m):=fk g205H (g205T m) func205 (AllF.mem (l:=[g192T m,g111T m,g211T m,g109T m,g141T m,g91T m,g149T m]) ⟨g192ok m,g111ok m,g211ok m,g109ok m,g141ok m,g91ok m,g149ok m,trivial⟩)
def g189H:Hints:=⟨[J [1,2,3,6],J' [(3,1)] [2,3,6,7],J' [(2,1)] [6]],[],[],[6],[],[[false,false,false,false]]⟩
def g189T:FunT:=⟨189,[hE3,sI,sI],hM3,[sD,sD,sD],un (g189 m)⟩
def g189ok:FO (g189T m):=fk g189H (g189T m) func189 (AllF.mem (l:=[g204T m,g205T m,g112T m]) ⟨g204ok m,g205ok m,g112ok m,trivial⟩)
def g159H:Hints:=⟨[J [2,3,4,5,8],J' [(3,1)] [2,3,4,5,8,9],J' [(0,1),(2,1),(7,1)] [2,3,4,5,8,29],J [8],J [2,3,4,5,8,34],J [8],J' [(5,1)] [8]],[],[],[8],[],[[false,false,false,false]]⟩
def g159T:FunT:=⟨159,[hM3,hM3,sI,sI],hM3,[sD,sD,sD,sD],un (g159 m)⟩
def g159ok:FO (g159T m):=fk g159H (g159T m) func159 (AllF.mem (l:=[g161T m,g145T m,g188T m,g91T m,g190T m,g189T m]) ⟨g161ok m,g145ok m,g188ok m,g91ok m,g190ok m,g189ok m,trivial⟩)
def g107H:Hints:=⟨[J [2,3,4,6],J' [(0,2)] [2,3,4,6,8],J [2,3,4,6,8,9],J [2,4,6,8,9,20,21,22],J [2,4,6,8,9,20,21,22,23],J' [(2,2)] [2,4,6,8,9,11,20,21,22],J [2,4,6,8,9,11,20,21,22,30,31,32],J [2,4,6,8,9,11,20,21,22,30,31,32,33],J [2,4,6,8,9,11,13,20,21,22,30,31,32],J [2,4,6,8,9,11,14,15,20,21,22,30,31,32],J' [(3,1)] [2,4,6,8,9,11,14,15,20,21,22,30,31,32,51],J' [(0,1)] [6,7],J' [(1,1)] [2,4,6,8,9,11,14,15,20,21,22,30,31,32,59],J [2,4,6,8,9,11,15,20,21,22,30,31,32],J' [(0,1),(1,1)] [2,4,6,8,11,15,20,21,22,30,31,32,68],J [2,4,6,8,11,20,21,22,30,31,32],J [2,4,6,8,9,11,20,21,22,30,31,32],J' [(1,1)] [2,4,6,8,9,11,20,21,22,30,31,32],J' [(1,1)] [2,4,6,8,9,20,21,22],J [6,7]],[(0,[2,4,6,8,9,20,21,22]),(2,[2,4,6,8,9,11,20,21,22,30,31,32])],[(0,[6,8]),(1,[2,4,6,8,9,20,21,22]),(2,[2,4,6,8,9,20,21,22]),(3,[2,4,6,8,9,11,20,21,22,30,31,32])],[6,7],[],[[false,false,false,false,false,false,false,false],[false]]⟩
def g107T:FunT:=⟨107,[h41,h41,sI],.tup [(.agg [.bool,.bool,(.imm (.int .u32)),(.int .i64),.bool,.bool,(.imm (.int .u32)),(.int .i64)]),(.c .bool)],[sD,sD,sD],un (g107 m)⟩
noncomputable def g107C:Code:=codeOf f107
noncomputable def g107B0:Code:=qm g107C 0 0
noncomputable def g107B2:Code:=qm g107B0 0 0
def g107K:FL [g159T m,g158T m,g104T m]:=AllF.mem ⟨g159ok m,g158ok m,g104ok m,trivial⟩
def g107L1X:LT:=⟨2,[(2,sI),(4,sX 0 [.bool,.bool,.imm (.int .u32),iI,.bool,.bool,.imm (.int .u32),iI]),(6,sX 1 [.bool,.bool,.nm 2 (.int .u32),iI,.bool,.bool,.nm 3 (.int .u32),iI]),(8,sX 4 [.bool,.bool,.imm (.int .u32),iI,.bool,.bool,.imm (.int .u32),iI]),(9,sB),(11,sX 5 [.bool,.bool,.imm (.int .u32),iI]),(20,.a (.c (.nm 6 (.pr .bool (.pr (.pr .bool (.sl false (.int .u32))) (.int .i64)))))),(21,sI),(22,sI),(30,.a (.c (.nm 7 (.pr .bool (.pr (.pr .bool (.sl false (.int .u32))) (.int .i64)))))),(31,sI),(32,sI)],[(.ret,[(6,sX 0 [.bool,.bool,.imm (.int .u32),iI,.bool,.bool,.imm (.int .u32),iI]),(7,sB)]),(.exit 2,[(2,sI),(4,sX 0 [.bool,.bool,.imm (.int .u32),iI,.bool,.bool,.imm (.int .u32),iI]),(6,sX 1 [.bool,.bool,.nm 2 (.int .u32),iI,.bool,.bool,.nm 3 (.int .u32),iI]),(8,sX 4 [.bool,.bool,.imm (.int .u32),iI,.bool,.bool,.imm (.int .u32),iI]),(9,sB),(20,h62),(21,sI),(22,sI)])],λn=>uq (g107L1 m n)⟩
def g107L1ok {E} (hE:EO E 74 g107H) (n):LO E g107B2 ((g107L1X m).at n):=lk hE (g107K m) (g107L1X m) n
def g107L0X:LT:=⟨0,[(2,sI),(4,sX 0 [.bool,.bool,.imm (.int .u32),iI,.bool,.bool,.imm (.int .u32),iI]),(6,sX 1 [.bool,.bool,.nm 2 (.int .u32),iI,.bool,.bool,.nm 3 (.int .u32),iI]),(8,sX 4 [.bool,.bool,.imm (.int .u32),iI,.bool,.bool,.imm (.int .u32),iI]),(9,sB),(20,h62),(21,sI),(22,sI)],[(.ret,[(6,sX 0 [.bool,.bool,.imm (.int .u32),iI,.bool,.bool,.imm (.int .u32),iI]),(7,sB)]),(.exit 0,[(6,sX 0 [.bool,.bool,.nm 1 (.int .u32),iI,.bool,.bool,.nm 2 (.int .u32),iI]),(8,sX 3 [.bool,.bool,.imm (.int .u32),iI,.bool,.bool,.imm (.int .u32),iI])])],λn=>uq (g107L0 m n)⟩
def g107L0ok {E} (hE:EO E 74 g107H) (n):LO E g107B0 ((g107L0X m).at n):=
 lok hmix htt hE (g107K m) (L:=[(g107L1X m).at m]) (g107L0X m) (l:=[(2,g107B2)]) kR (λ_ _=>⟨qi ⟨yb (g107L1ok m hE m),trivial⟩,trivial⟩) (λn x=>kR) (λ_=>kR) n
def g107ok:FO (g107T m):=f1' g107H (g107T m) func107 (g107K m) λ_ h=>g107L0ok m h m
def g191H:Hints:=⟨[J [1,2],J [2]],[],[],[2],[],[[false,false,false,false,false]]⟩
def g191T:FunT:=⟨191,[hM3],hE3,[sD],un (g191 m)⟩
def g191ok:FO (g191T m):=fk g191H (g191T m) func191 (AllF.mem (l:=[g187T m]) ⟨g187ok m,trivial⟩)
def g160H:Hints:=⟨[J [1,2,3,6],J' [(2,1)] [1,2,3,6,7],J' [(0,1),(2,1)] [1,2,3,6,19],J [6],J [1,2,3,6,24],J [6],J' [(2,1),(3,1)] [6]],[],[],[6],[],[[false,false,false,false]]⟩
def g160T:FunT:=⟨160,[hM3,sI,sI],hM3,[sD,sD,sD],un (g160 m)⟩
def g160ok:FO (g160T m):=fk g160H (g160T m) func160 (AllF.mem (l:=[g97T m,g145T m,g188T m,g91T m,g191T m,g189T m]) ⟨g97ok m,g145ok m,g188ok m,g91ok m,g191ok m,g189ok m,trivial⟩)
end
end Go.Vs.F
