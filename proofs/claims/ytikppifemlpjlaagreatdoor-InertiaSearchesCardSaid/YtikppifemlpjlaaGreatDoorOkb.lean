import Derived.Test.YtikppifemlpjlaaGreatDoorOka
set_option linter.unusedVariables false
set_option maxRecDepth 100000
set_option linter.defProp false
namespace Go.Vs.F
open Go.Proofs
open Tryz
section
variable (m:Nat)
def g209H:Hints:=⟨jG [] [jF [0,1],jA [5],jA [6],jB [7,8] [6],jC [2] [71],jD [0] [] [71],jC [0] [],jA [83],jB [9,10] [8,83],jA [84,85,86],jA [87],jB [11,12] [87],jD [1,4] [13] [9,12],jA [9],jD [5,8] [14] [10,13],jD [1] [] [11],jD [0] [10] [14],jC [1] [],jE [5,7] [0,1,5,7,15],jA [],jD [0] [137] [15],jE [0] [0,4],jF [0,1,5,7,9],jD [0] [140,141,142] [1],jA [143],jB [16,17] [143],jD [5,8] [18] [9,17],jD [1] [] [16],jD [0] [9] [18],jC [1] [],jE [1,4] [0,7],jE [0] [0,4]],[(0,[0,1,5,7,8]),(2,[0,1,5,7,9,10,84,85,86]),(4,[0,5,7,9,140,141,142])],[(0,[0,1,5,7]),(1,[0,1,5,7,8]),(2,[0,1,5,7,9,10]),(3,[0,1,5,7,9,10,84,85,86]),(4,[0,5,7,9]),(5,[0,5,7,9,140,141,142])],[0,4],[0],[[false]]⟩
def g209T:FunT:=⟨209,[hm3,h83],hA4,[hm3,sD],un (g209 m)⟩
noncomputable def g209C:Code:=codeOf f209
noncomputable def g209B0:Code:=qp g209C 0 0
noncomputable def g209B2:Code:=qp g209C 0 1
noncomputable def g209B4:Code:=qp g209C 0 2
def g209L2X:LT:=⟨4,[(0,hm3),(5,sI),(7,sU),(9,sU),(140,h83),(141,sI),(142,sI)],[(.exit 4,[(0,hm3),(5,sI),(7,sU),(9,sU)])],λn=>uq (g209L2 m n)⟩
def g209L2ok {E} (hE:EO E 177 g209H) (n):LO E g209B4 ((g209L2X m).at n):=lk hE noF (g209L2X m) n
def g209L1X:LT:=⟨2,[(0,hm3),(1,h83),(5,sI),(7,sU),(9,sU),(10,sU),(84,h83),(85,sI),(86,sI)],[(.exit 2,[(0,hm3),(1,h83),(5,sI),(7,sU),(9,sU),(10,sU)])],λn=>uq (g209L1 m n)⟩
def g209L1ok {E} (hE:EO E 177 g209H) (n):LO E g209B2 ((g209L1X m).at n):=lk hE noF (g209L1X m) n
def g209L0X:LT:=⟨0,[(0,hm3),(1,h83),(5,sI),(7,sU),(8,sU)],[(.exit 0,[(0,hm3),(1,h83),(5,sI),(7,sU)])],λn=>uq (g209L0 m n)⟩
def g209L0ok {E} (hE:EO E 177 g209H) (n):LO E g209B0 ((g209L0X m).at n):=lk hE noF (g209L0X m) n
def g209ok:FO (g209T m):=
 fok hmix htt (H:=g209H) (g209T m) func209 kR noF (L:=[(g209L0X m).at m,(g209L1X m).at m,(g209L2X m).at m]) (l:=[(0,g209B0),(2,g209B2),(4,g209B4)]) kR (λ_ hE _ _=>⟨qi ⟨yb (g209L0ok m hE m),nb rfl,nb rfl,trivial⟩,qi ⟨nb rfl,yb (g209L1ok m hE m),nb rfl,trivial⟩,qi ⟨nb rfl,nb rfl,yb (g209L2ok m hE m),trivial⟩,trivial⟩) (λx=>kR)
def g201H:Hints:=⟨jG [] [jF [0,1],jA [16],jE [0] [4,5],jF [0,1,21],jE [0,1,5] [6,7],jE [0,1] [4,5],jF [0,1,8],jE [0] [0,8,9],jA [10],jD [1] [] [0],jA [11],jA [4],jA [12],jA [64],jD [0] [] [64],jM [(10,300)] [] [],jE [0,1,4,6] [4,5],jC [0,2] []],[(0,[4,8,9,10,11,12])],[(0,[4,8,10,11]),(1,[4,8,9,10,11,12])],[4,5],[],[[false],[false]]⟩
def g201T:FunT:=⟨201,[h83,h83],.tup [(.c (.imm (.int .u32))),(.c (.imm (.int .u32)))],[sD,sD],un (g201 m)⟩
noncomputable def g201C:Code:=codeOf f201
noncomputable def g201B0:Code:=qp g201C 0 0
def g201K:FL [g139T m,g147T m,g207T m,g140T m,g208T m,g182T m,g209T m,g183T m]:=AllF.mem ⟨g139ok m,g147ok m,g207ok m,g140ok m,g208ok m,g182ok m,g209ok m,g183ok m,trivial⟩
def g201L0X:LT:=⟨0,[(4,ha3),(8,sI),(9,h83),(10,h33),(11,sI),(12,sI)],[(.exit 0,[(4,ha3),(8,sI),(10,h33),(11,sI)])],λn=>uq (g201L0 m n)⟩
def g201L0ok {E} (hE:EO E 91 g201H) (n):LO E g201B0 ((g201L0X m).at n):=lk hE (g201K m) (g201L0X m) n
def g201ok:FO (g201T m):=f1' g201H (g201T m) func201 (g201K m) λ_ h=>g201L0ok m h m
def g181H:Hints:=⟨jG [] [jF [2,3,4,5],jA [7],jA [15],jF [4,5,6],jE [5] [2,3,4,5,7,8,9],jC [2] [32],jD [0,3,4] [] [7,32],jE [5,7] [4,5,6]],[],[],[4,5,6],[],[[false,false],[false,false],[false]]⟩
def g181T:FunT:=⟨181,[hY3,hY3],.tup [(.agg [.bool,(.imm (.int .u32))]),(.agg [.bool,(.imm (.int .u32))]),(.c (.int .i64))],[sD,sD],un (g181 m)⟩
def g181ok:FO (g181T m):=fk g181H (g181T m) func181 (AllF.mem (l:=[g140T m,g201T m,g178T m,g179T m,g146T m]) ⟨g140ok m,g201ok m,g178ok m,g179ok m,g146ok m,trivial⟩)
def g190H:Hints:=⟨jG [] [jF [2,3,4,6],jD [0] [7] [2],jC [9] [8,9],jE [10] [6]],[],[],[6],[],[[false,false,false,false,false]]⟩
def g190T:FunT:=⟨190,[hM3,hM3,sI],hE3,[sD,sD,sD],un (g190 m)⟩
def g190ok:FO (g190T m):=fk g190H (g190T m) func190 (AllF.mem (l:=[g150T m,g187T m,g192T m,g181T m,g91T m]) ⟨g150ok m,g187ok m,g192ok m,g181ok m,g91ok m,trivial⟩)
def g204H:Hints:=⟨jG [] [jF [1],jF [2]],[],[],[2],[],[[false]]⟩
def g204T:FunT:=⟨204,[hE3],sI,[sD],un (g204 m)⟩
def g204ok:FO (g204T m):=fk g204H (g204T m) func204 (AllF.mem (l:=[g150T m]) ⟨g150ok m,trivial⟩)
def g213H:Hints:=⟨jG [] [jF [2,3,4],jA [],jF [4]],[],[],[4],[],[[false,false]]⟩
def g213T:FunT:=⟨213,[hY3,hY3],hY3,[sD,sD],un (g213 m)⟩
def g213ok:FO (g213T m):=fk g213H (g213T m) func213 (AllF.mem (l:=[g141T m]) ⟨g141ok m,trivial⟩)
def g211H:Hints:=⟨jG [] [jF [1,2,4],jA [7],jD [1] [14] [7],jF [4,5,6],jF [1,2,4],jA [8],jD [2] [5] [1],jC [2] [37],jB [] [37],jE [1,5] [4,5,6]],[],[],[4,5,6],[],[[false,false],[false],[false]]⟩
def g211T:FunT:=⟨211,[hE3,sI],.tup [(.agg [.bool,(.imm (.int .u32))]),(.c (.int .i64)),(.c .bool)],[sD,sD],un (g211 m)⟩
def g211ok:FO (g211T m):=fk g211H (g211T m) func211 (AllF.mem (l:=[g150T m,g151T m,g192T m,g213T m,g109T m,g88T m,g91T m]) ⟨g150ok m,g151ok m,g192ok m,g213ok m,g109ok m,g88ok m,g91ok m,trivial⟩)
def g205H:Hints:=⟨jG [] [jF [1,2,3,6],jA [7,8,9],jA [16],jD [3] [] [1,16],jC [1,6] [],jA [10],jE [2,5,10] [3,6,7,10],jC [0] [2,8,49],jB [51] [49],jF [3,6,7,10],jA [2,8,56],jF [3,6,7,10],jC [0] [8,62],jE [0] [3,6,7,65],jF [3,6,7],jF [6,7,70],jF [6,7],jF [6]],[],[(0,[3,6,7,10])],[6],[],[[false,false]]⟩
def g205T:FunT:=⟨205,[hE3,sI,sI],hY3,[sD,sD,sD],un (g205 m)⟩
def g205ok:FO (g205T m):=fk g205H (g205T m) func205 (AllF.mem (l:=[g192T m,g111T m,g211T m,g109T m,g141T m,g91T m,g149T m]) ⟨g192ok m,g111ok m,g211ok m,g109ok m,g141ok m,g91ok m,g149ok m,trivial⟩)
def g189H:Hints:=⟨jG [] [jF [1,2,3,6],jD [3] [7] [1],jE [2] [6]],[],[],[6],[],[[false,false,false,false]]⟩
def g189T:FunT:=⟨189,[hE3,sI,sI],hM3,[sD,sD,sD],un (g189 m)⟩
def g189ok:FO (g189T m):=fk g189H (g189T m) func189 (AllF.mem (l:=[g204T m,g205T m,g112T m]) ⟨g204ok m,g205ok m,g112ok m,trivial⟩)
def g159H:Hints:=⟨jG [] [jF [2,3,4,5,8],jC [3] [9],jD [0,2,7] [29] [9],jF [8],jA [2,3,4,5,34],jF [8],jC [5] []],[],[],[8],[],[[false,false,false,false]]⟩
def g159T:FunT:=⟨159,[hM3,hM3,sI,sI],hM3,[sD,sD,sD,sD],un (g159 m)⟩
def g159ok:FO (g159T m):=fk g159H (g159T m) func159 (AllF.mem (l:=[g161T m,g145T m,g188T m,g91T m,g190T m,g189T m]) ⟨g161ok m,g145ok m,g188ok m,g91ok m,g190ok m,g189ok m,trivial⟩)
def g107H:Hints:=⟨jG [] [jF [2,3,4,6],jM [(0,2)] [8] [],jA [9],jB [20,21,22] [3],jA [23],jM [(2,2)] [11] [23],jA [30,31,32],jA [33],jB [13] [33],jB [14,15] [13],jC [3] [51],jE [0] [6,7],jE [1] [2,4,6,8,9,11,14,15,20,21,22,30,31,32,59],jB [] [14,59],jD [0,1] [68] [9],jB [] [15,68],jA [9],jC [1] [],jD [1] [] [11,30,31,32],jF [6,7]],[(0,[2,4,6,8,9,20,21,22]),(2,[2,4,6,8,9,11,20,21,22,30,31,32])],[(0,[6,8]),(1,[2,4,6,8,9,20,21,22]),(2,[2,4,6,8,9,20,21,22]),(3,[2,4,6,8,9,11,20,21,22,30,31,32])],[6,7],[],[[false,false,false,false,false,false,false,false],[false]]⟩
def g107T:FunT:=⟨107,[h41,h41,sI],.tup [(.agg [.bool,.bool,(.imm (.int .u32)),(.int .i64),.bool,.bool,(.imm (.int .u32)),(.int .i64)]),(.c .bool)],[sD,sD,sD],un (g107 m)⟩
noncomputable def g107C:Code:=codeOf f107
noncomputable def g107B0:Code:=qp g107C 0 0
noncomputable def g107B2:Code:=qp g107B0 0 0
def g107K:FL [g159T m,g158T m,g104T m]:=AllF.mem ⟨g159ok m,g158ok m,g104ok m,trivial⟩
def g107L1X:LT:=⟨2,[(2,sI),(4,sX 0 [.bool,.bool,.imm (.int .u32),iI,.bool,.bool,.imm (.int .u32),iI]),(6,sX 1 [.bool,.bool,.nm 2 (.int .u32),iI,.bool,.bool,.nm 3 (.int .u32),iI]),(8,sX 4 [.bool,.bool,.imm (.int .u32),iI,.bool,.bool,.imm (.int .u32),iI]),(9,sB),(11,sX 5 [.bool,.bool,.imm (.int .u32),iI]),(20,.a (.c (.nm 6 (.pr .bool (.pr (.pr .bool (.sl false (.int .u32))) (.int .i64)))))),(21,sI),(22,sI),(30,.a (.c (.nm 7 (.pr .bool (.pr (.pr .bool (.sl false (.int .u32))) (.int .i64)))))),(31,sI),(32,sI)],[(.ret,[(6,sX 0 [.bool,.bool,.imm (.int .u32),iI,.bool,.bool,.imm (.int .u32),iI]),(7,sB)]),(.exit 2,[(2,sI),(4,sX 0 [.bool,.bool,.imm (.int .u32),iI,.bool,.bool,.imm (.int .u32),iI]),(6,sX 1 [.bool,.bool,.nm 2 (.int .u32),iI,.bool,.bool,.nm 3 (.int .u32),iI]),(8,sX 4 [.bool,.bool,.imm (.int .u32),iI,.bool,.bool,.imm (.int .u32),iI]),(9,sB),(20,h52),(21,sI),(22,sI)])],λn=>uq (g107L1 m n)⟩
def g107L1ok {E} (hE:EO E 74 g107H) (n):LO E g107B2 ((g107L1X m).at n):=lk hE (g107K m) (g107L1X m) n
def g107L0X:LT:=⟨0,[(2,sI),(4,sX 0 [.bool,.bool,.imm (.int .u32),iI,.bool,.bool,.imm (.int .u32),iI]),(6,sX 1 [.bool,.bool,.nm 2 (.int .u32),iI,.bool,.bool,.nm 3 (.int .u32),iI]),(8,sX 4 [.bool,.bool,.imm (.int .u32),iI,.bool,.bool,.imm (.int .u32),iI]),(9,sB),(20,h52),(21,sI),(22,sI)],[(.ret,[(6,sX 0 [.bool,.bool,.imm (.int .u32),iI,.bool,.bool,.imm (.int .u32),iI]),(7,sB)]),(.exit 0,[(6,sX 0 [.bool,.bool,.nm 1 (.int .u32),iI,.bool,.bool,.nm 2 (.int .u32),iI]),(8,sX 3 [.bool,.bool,.imm (.int .u32),iI,.bool,.bool,.imm (.int .u32),iI])])],λn=>uq (g107L0 m n)⟩
def g107L0ok {E} (hE:EO E 74 g107H) (n):LO E g107B0 ((g107L0X m).at n):=
 lok hmix htt hE (g107K m) (L:=[(g107L1X m).at m]) (g107L0X m) (l:=[(2,g107B2)]) kR (λ_ _=>⟨qi ⟨yb (g107L1ok m hE m),trivial⟩,trivial⟩) (λn x=>kR) (λ_=>kR) n
def g107ok:FO (g107T m):=f1' g107H (g107T m) func107 (g107K m) λ_ h=>g107L0ok m h m
def g191H:Hints:=⟨jG [] [jF [1,2],jF [2]],[],[],[2],[],[[false,false,false,false,false]]⟩
def g191T:FunT:=⟨191,[hM3],hE3,[sD],un (g191 m)⟩
def g191ok:FO (g191T m):=fk g191H (g191T m) func191 (AllF.mem (l:=[g187T m]) ⟨g187ok m,trivial⟩)
def g160H:Hints:=⟨jG [] [jF [1,2,3,6],jC [2] [7],jD [0,2] [19] [7],jF [6],jA [1,2,3,24],jF [6],jC [2,3] []],[],[],[6],[],[[false,false,false,false]]⟩
def g160T:FunT:=⟨160,[hM3,sI,sI],hM3,[sD,sD,sD],un (g160 m)⟩
def g160ok:FO (g160T m):=fk g160H (g160T m) func160 (AllF.mem (l:=[g97T m,g145T m,g188T m,g91T m,g191T m,g189T m]) ⟨g97ok m,g145ok m,g188ok m,g91ok m,g191ok m,g189ok m,trivial⟩)
def g108H:Hints:=⟨jG [] [jF [2,3,4,6],jF [6,8],jE [4] [6,7]],[],[],[6,7],[],[[false,false,false,false,false,false,false,false],[false]]⟩
def g108T:FunT:=⟨108,[h41,h41,sI],.tup [(.agg [.bool,.bool,(.imm (.int .u32)),(.int .i64),.bool,.bool,(.imm (.int .u32)),(.int .i64)]),(.c .bool)],[sD,sD,sD],un (g108 m)⟩
def g108ok:FO (g108T m):=fk g108H (g108T m) func108 (AllF.mem (l:=[g66T m,g160T m,g158T m]) ⟨g66ok m,g160ok m,g158ok m,trivial⟩)
def g64H:Hints:=⟨jG [] [jF [0,1],jA [],jA [21,22],jA [23],jB [5] [23],jA [26,27],jA [28],jB [6] [28],jC [8] [47],jD [21] [7,8] [47],jD [0] [73] [8],jF [0,4],jE [16] [0,1,5,6,8,9,21,22,26,27],jD [0] [94] [8],jF [0,4],jE [16] [0,1,5,6,8,10,21,22,26,27],jD [0] [115] [8],jF [0,4],jF [0,1,5,21,22,26,27],jC [1] [],jE [1] [0,1,21,22],jF [0,4]],[(0,[0,1,21,22]),(2,[0,1,5,21,22,26,27])],[(0,[0]),(1,[0,1,21,22]),(2,[0,1,21,22]),(3,[0,1,5,21,22,26,27])],[0,4],[0],[[false]]⟩
def g64T:FunT:=⟨64,[sX 0 [.dp 1 (.pr (.pr .bool (.pr (.pr .bool (.sl false (.int .u32))) (.int .i64))) (.pr .bool (.pr (.pr .bool (.sl false (.int .u32))) (.int .i64)))),.nm 2 .bool,iI],sI],sB,[sX 0 [.dp 1 (.pr (.pr .bool (.pr (.pr .bool (.sl false (.int .u32))) (.int .i64))) (.pr .bool (.pr (.pr .bool (.sl false (.int .u32))) (.int .i64)))),.nm 2 .bool,iI],sD],un (g64 m)⟩
noncomputable def g64C:Code:=codeOf f64
noncomputable def g64B0:Code:=qp g64C 0 0
noncomputable def g64B2:Code:=qp g64B0 0 0
def g64K:FL [g106T m,g107T m,g108T m]:=AllF.mem ⟨g106ok m,g107ok m,g108ok m,trivial⟩
def g64L1X:LT:=⟨2,[(0,sX 0 [.dp 1 (.pr (.pr .bool (.pr (.pr .bool (.sl false (.int .u32))) (.int .i64))) (.pr .bool (.pr (.pr .bool (.sl false (.int .u32))) (.int .i64)))),.nm 2 .bool,iI]),(1,sI),(5,sI),(21,sI),(22,sI),(26,sI),(27,sI)],[(.ret,[(0,sX 0 [.dp 1 (.pr (.pr .bool (.pr (.pr .bool (.sl false (.int .u32))) (.int .i64))) (.pr .bool (.pr (.pr .bool (.sl false (.int .u32))) (.int .i64)))),.nm 2 .bool,iI]),(4,sB)]),(.exit 2,[(0,sX 0 [.dp 1 (.pr (.pr .bool (.pr (.pr .bool (.sl false (.int .u32))) (.int .i64))) (.pr .bool (.pr (.pr .bool (.sl false (.int .u32))) (.int .i64)))),.nm 2 .bool,iI]),(1,sI),(21,sI),(22,sI)])],λn=>uq (g64L1 m n)⟩
def g64L1ok {E} (hE:EO E 138 g64H) (n):LO E g64B2 ((g64L1X m).at n):=lk hE (g64K m) (g64L1X m) n
def g64L0X:LT:=⟨0,[(0,sX 0 [.dp 1 (.pr (.pr .bool (.pr (.pr .bool (.sl false (.int .u32))) (.int .i64))) (.pr .bool (.pr (.pr .bool (.sl false (.int .u32))) (.int .i64)))),.nm 2 .bool,iI]),(1,sI),(21,sI),(22,sI)],[(.ret,[(0,sX 0 [.dp 1 (.pr (.pr .bool (.pr (.pr .bool (.sl false (.int .u32))) (.int .i64))) (.pr .bool (.pr (.pr .bool (.sl false (.int .u32))) (.int .i64)))),.nm 2 .bool,iI]),(4,sB)]),(.exit 0,[(0,sX 0 [.dp 1 (.pr (.pr .bool (.pr (.pr .bool (.sl false (.int .u32))) (.int .i64))) (.pr .bool (.pr (.pr .bool (.sl false (.int .u32))) (.int .i64)))),.nm 2 .bool,iI])])],λn=>uq (g64L0 m n)⟩
def g64L0ok {E} (hE:EO E 138 g64H) (n):LO E g64B0 ((g64L0X m).at n):=
 lok hmix htt hE (g64K m) (L:=[(g64L1X m).at m]) (g64L0X m) (l:=[(2,g64B2)]) kR (λ_ _=>⟨qi ⟨yb (g64L1ok m hE m),trivial⟩,trivial⟩) (λn x=>kR) (λ_=>kR) n
def g64ok:FO (g64T m):=f1' g64H (g64T m) func64 (g64K m) λ_ h=>g64L0ok m h m
def g34H:Hints:=⟨jG [] [jF [0,1,4],jM [(2,4),(6,1)] [6] [1],jA [22,23,24],jA [25],jB [7,8] [25],jA [],jD [0] [35,36,37] [8],jA [38],jB [10] [38],jM [(11,4),(18,4)] [] [10],jC [1] [],jD [1] [] [7,35,36,37],jF [0,4,6,11],jD [0] [62,63] [0],jA [64],jB [12] [64],jA [68],jF [4,5],jF [4,6,11,12,62,63,81],jB [] [81],jA [],jD [1] [93] [12],jF [4,5],jE [1] [4,6,11,62,63],jF [4,5]],[(0,[0,4,6,22,23,24]),(2,[0,4,6,7,22,23,24,35,36,37]),(4,[4,6,11,62,63])],[(0,[0,4,6]),(1,[0,4,6,22,23,24]),(2,[0,4,6,22,23,24]),(3,[0,4,6,7,22,23,24,35,36,37]),(4,[4,11]),(5,[4,6,11,62,63])],[4,5],[],[[false,false,false],[false]]⟩
def g34T:FunT:=⟨34,[h81,sI],.tup [(.agg [(.int .i64),(.int .i64),(.int .i64)]),(.c .bool)],[sD,sD],un (g34 m)⟩
noncomputable def g34C:Code:=codeOf f34
noncomputable def g34B0:Code:=qp g34C 0 0
noncomputable def g34B2:Code:=qp g34B0 0 0
noncomputable def g34B4:Code:=qp g34C 0 1
def g34K:FL [g62T m,g63T m,g64T m]:=AllF.mem ⟨g62ok m,g63ok m,g64ok m,trivial⟩
def g34L2X:LT:=⟨4,[(4,sX 0 [iI,iI,iI]),(6,sX 1 [.dp 2 (.pr (.pr .bool (.pr (.pr .bool (.sl false (.int .u32))) (.int .i64))) (.pr .bool (.pr (.pr .bool (.sl false (.int .u32))) (.int .i64)))),.nm 3 .bool,iI]),(11,sX 4 [iI,iI,iI]),(62,sI),(63,sI)],[(.ret,[(4,sX 0 [iI,iI,iI]),(5,sB)]),(.exit 4,[(4,sX 0 [iI,iI,iI]),(11,sX 1 [iI,iI,iI])])],λn=>uq (g34L2 m n)⟩
def g34L2ok {E} (hE:EO E 97 g34H) (n):LO E g34B4 ((g34L2X m).at n):=lk hE (g34K m) (g34L2X m) n
def g34L1X:LT:=⟨2,[(0,h81),(4,sX 0 [iI,iI,iI]),(6,sX 1 [.dp 2 (.pr (.pr .bool (.pr (.pr .bool (.sl false (.int .u32))) (.int .i64))) (.pr .bool (.pr (.pr .bool (.sl false (.int .u32))) (.int .i64)))),.nm 3 .bool,iI]),(7,sI),(22,h81),(23,sI),(24,sI),(35,h82),(36,sI),(37,sI)],[(.exit 2,[(0,h81),(4,sX 0 [iI,iI,iI]),(6,sX 1 [.dp 2 (.pr (.pr .bool (.pr (.pr .bool (.sl false (.int .u32))) (.int .i64))) (.pr .bool (.pr (.pr .bool (.sl false (.int .u32))) (.int .i64)))),.nm 3 .bool,iI]),(22,h81),(23,sI),(24,sI)])],λn=>uq (g34L1 m n)⟩
def g34L1ok {E} (hE:EO E 97 g34H) (n):LO E g34B2 ((g34L1X m).at n):=lk hE (g34K m) (g34L1X m) n
def g34L0X:LT:=⟨0,[(0,h81),(4,sX 0 [iI,iI,iI]),(6,sX 1 [.dp 2 (.pr (.pr .bool (.pr (.pr .bool (.sl false (.int .u32))) (.int .i64))) (.pr .bool (.pr (.pr .bool (.sl false (.int .u32))) (.int .i64)))),.nm 3 .bool,iI]),(22,h81),(23,sI),(24,sI)],[(.exit 0,[(0,h81),(4,sX 0 [iI,iI,iI]),(6,sX 1 [.dp 2 (.pr (.pr .bool (.pr (.pr .bool (.sl false (.int .u32))) (.int .i64))) (.pr .bool (.pr (.pr .bool (.sl false (.int .u32))) (.int .i64)))),.nm 3 .bool,iI])])],λn=>uq (g34L0 m n)⟩
def g34L0ok {E} (hE:EO E 97 g34H) (n):LO E g34B0 ((g34L0X m).at n):=
 lok hmix htt hE (g34K m) (L:=[(g34L1X m).at m]) (g34L0X m) (l:=[(2,g34B2)]) kR (λ_ _=>⟨qi ⟨yb (g34L1ok m hE m),trivial⟩,trivial⟩) (λn x=>kR) (λ_=>kR) n
def g34ok:FO (g34T m):=
 fok hmix htt (H:=g34H) (g34T m) func34 kR (g34K m) (L:=[(g34L0X m).at m,(g34L2X m).at m]) (l:=[(0,g34B0),(4,g34B4)]) kR (λ_ hE _ _=>⟨qi ⟨yb (g34L0ok m hE m),nb rfl,trivial⟩,qi ⟨nb rfl,yb (g34L2ok m hE m),trivial⟩,trivial⟩) (λx=>kR)
def g12H:Hints:=⟨jG [] [jF [1,2,3,6],jA [9],jA [16],jE [1] [6,7,8],jE [2] [1,2,3,6,24],jF [6,7,8],jE [1,3,5] [6,10,11],jE [1] [6,7,8]],[],[],[6,7,8],[],[[false,false,false],[false],[false]]⟩
def g12T:FunT:=⟨12,[h71,sU,sI],.tup [(.agg [(.int .i64),(.int .i64),(.int .i64)]),(.c .bool),(.c (.int .i64))],[sD,sD,sD],un (g12 m)⟩
def g12ok:FO (g12T m):=fk g12H (g12T m) func12 (AllF.mem (l:=[g33T m,g35T m,g34T m]) ⟨g33ok m,g35ok m,g34ok m,trivial⟩)
def g46H:Hints:=⟨jG [] [jF [0],jF [3,4],jC [2] [10],jF [2],jF [3,4,17],jF [2],jE [0,2,3] [20],jF [2],jA []],[],[(0,[])],[2],[],[[false]]⟩
def g46T:FunT:=⟨46,[sU],sI,[sD],un (g46 m)⟩
def g46ok:FO (g46T m):=fk g46H (g46T m) func46 noF
def g36H:Hints:=⟨jG [] [jF [1,2,3],jA [7],jA [11],jE [0] [6],jF [1,2,3,13],jF [6],jF [1,2,19],jF [6],jE [3,4,6] [23],jF [6],jA []],[],[(0,[])],[6],[],[[false]]⟩
def g36T:FunT:=⟨36,[h71,sU,sB],sI,[sD,sD,sD],un (g36 m)⟩
def g36ok:FO (g36T m):=fk g36H (g36T m) func36 (AllF.mem (l:=[g50T m,g23T m,g46T m]) ⟨g50ok m,g23ok m,g46ok m,trivial⟩)
def g85H:Hints:=⟨jG [] [jF [0],jE [0] [2]],[],[],[2],[],[[false]]⟩
def g85T:FunT:=⟨85,[sU],sB,[sD],un (g85 m)⟩
def g85ok:FO (g85T m):=fk g85H (g85T m) func85 noF
def g49H:Hints:=⟨jG [] [jF [0,2],jA [8],jF [2],jA [0,3,4],jA [5],jA [17],jE [0] [0,2,3,4],jD [0] [5] [3],jE [0,9] [2]],[],[],[2],[],[[false,false,false,false]]⟩
def g49T:FunT:=⟨49,[sU],hM3,[sD],un (g49 m)⟩
def g49ok:FO (g49T m):=fk g49H (g49T m) func49 (AllF.mem (l:=[g23T m,g83T m,g85T m,g84T m]) ⟨g23ok m,g83ok m,g85ok m,g84ok m,trivial⟩)
def g116H:Hints:=⟨jG [] [jF [1,2],jA [],jA [6],jF [2],jA []],[],[],[2],[],[[false,false,false,false]]⟩
def g116T:FunT:=⟨116,[hM3],hM3,[sD],un (g116 m)⟩
def g116ok:FO (g116T m):=fk g116H (g116T m) func116 (AllF.mem (l:=[g68T m,g164T m,g84T m]) ⟨g68ok m,g164ok m,g84ok m,trivial⟩)
def g118H:Hints:=⟨jG [] [jF [2,3,4,5],jA [7,8],jA [13],jF [4,5,6],jF [2,3,4,5,7,8,21],jF [4,5,6],jF [2,3,4,5,7,8,29],jF [4,5,6],jA []],[],[(0,[2,3,4,5,7,8])],[4,5,6],[],[[false,false],[false,false],[false]]⟩
def g118T:FunT:=⟨118,[hM3,hM3],.tup [(.agg [.bool,(.imm (.int .u32))]),(.agg [.bool,(.imm (.int .u32))]),(.c (.int .i64))],[sD,sD],un (g118 m)⟩
def g118ok:FO (g118T m):=fk g118H (g118T m) func118 (AllF.mem (l:=[g69T m,g80T m]) ⟨g69ok m,g80ok m,trivial⟩)
def g115H:Hints:=⟨jG [] [jF [2,3,4],jA [],jC [2] [17],jF [4],jC [3] [5,6,7],jE [3] [4]],[],[],[4],[],[[false,false,false,false]]⟩
def g115T:FunT:=⟨115,[hM3,hM3],hM3,[sD,sD],un (g115 m)⟩
def g115ok:FO (g115T m):=fk g115H (g115T m) func115 (AllF.mem (l:=[g68T m,g83T m,g118T m,g163T m,g84T m]) ⟨g68ok m,g83ok m,g118ok m,g163ok m,g84ok m,trivial⟩)
def g67H:Hints:=⟨jG [] [jF [2,3,4],jF [4]],[],[],[4],[],[[false,false,false,false]]⟩
def g67T:FunT:=⟨67,[hM3,hM3],hM3,[sD,sD],un (g67 m)⟩
def g67ok:FO (g67T m):=fk g67H (g67T m) func67 (AllF.mem (l:=[g116T m,g115T m]) ⟨g116ok m,g115ok m,trivial⟩)
def g37H:Hints:=⟨jG [] [jF [1,2],jM [(0,6)] [5] [],jA [6],jA [13],jD [0] [] [13],jA [7],jA [8],jA [19],jD [0] [] [19],jA [9],jA [33],jB [] [33],jD [0] [] [9],jM [(0,1),(1,1),(2,6),(3,6)] [] [7,8],jE [0] [4]],[(0,[1,2,5,6]),(2,[1,2,5,6,7,8])],[(0,[5]),(1,[1,2,5,6]),(2,[1,2,5,6,7]),(3,[1,2,5,6,7,8])],[4],[],[[false]]⟩
def g37T:FunT:=⟨37,[h71,sU],h81,[sD,sD],un (g37 m)⟩
noncomputable def g37C:Code:=codeOf f37
noncomputable def g37B0:Code:=qp g37C 0 0
noncomputable def g37B2:Code:=qp g37B0 0 0
def g37K:FL [g19T m,g49T m,g67T m]:=AllF.mem ⟨g19ok m,g49ok m,g67ok m,trivial⟩
def g37L1X:LT:=⟨2,[(1,sU),(2,sX 0 [iI,iI,iL,iL,.imm (.int .u64)]),(5,hU2),(6,sI),(7,h62),(8,sI)],[(.exit 2,[(1,sU),(2,sX 0 [iI,iI,iL,iL,.imm (.int .u64)]),(5,hU2),(6,sI),(7,h62)])],λn=>uq (g37L1 m n)⟩
def g37L1ok {E} (hE:EO E 47 g37H) (n):LO E g37B2 ((g37L1X m).at n):=lk hE (g37K m) (g37L1X m) n
def g37L0X:LT:=⟨0,[(1,sU),(2,sX 0 [iI,iI,iL,iL,.imm (.int .u64)]),(5,hU2),(6,sI)],[(.exit 0,[(5,h91)])],λn=>uq (g37L0 m n)⟩
def g37L0ok {E} (hE:EO E 47 g37H) (n):LO E g37B0 ((g37L0X m).at n):=
 lok hmix htt hE (g37K m) (L:=[(g37L1X m).at m]) (g37L0X m) (l:=[(2,g37B2)]) kR (λ_ _=>⟨qi ⟨yb (g37L1ok m hE m),trivial⟩,trivial⟩) (λn x=>kR) (λ_=>kR) n
def g37ok:FO (g37T m):=f1' g37H (g37T m) func37 (g37K m) λ_ h=>g37L0ok m h m
def g38H:Hints:=⟨jG [] [jF [1],jA [],jA [6],jF [2],jA []],[],[],[2],[],[[false]]⟩
def g38T:FunT:=⟨38,[hM3],sI,[sD],un (g38 m)⟩
def g38ok:FO (g38T m):=fk g38H (g38T m) func38 (AllF.mem (l:=[g68T m,g69T m]) ⟨g68ok m,g69ok m,trivial⟩)
def g70H:Hints:=⟨jG [] [jF [1,2],jA [],jA [6],jF [2],jA []],[],[],[2],[],[[false,false,false,false]]⟩
def g70T:FunT:=⟨70,[hM3],hM3,[sD],un (g70 m)⟩
def g70ok:FO (g70T m):=fk g70H (g70T m) func70 (AllF.mem (l:=[g68T m,g82T m,g84T m]) ⟨g68ok m,g82ok m,g84ok m,trivial⟩)
def g119H:Hints:=⟨jG [] [jF [2,3],jF [4]],[],[],[4],[],[[false]]⟩
def g119T:FunT:=⟨119,[hY3,hY3],sI,[sD,sD],un (g119 m)⟩
def g119ok:FO (g119T m):=fk g119H (g119T m) func119 (AllF.mem (l:=[g126T m,g69T m]) ⟨g126ok m,g69ok m,trivial⟩)
def g71H:Hints:=⟨jG [] [jF [2,3],jA [],jC [2] [18],jF [4,5],jE [3] [6,7],jF [4,5]],[],[],[4,5],[],[[false],[false]]⟩
def g71T:FunT:=⟨71,[hM3,hM3],.tup [(.c (.int .i64)),(.c .bool)],[sD,sD],un (g71 m)⟩
def g71ok:FO (g71T m):=fk g71H (g71T m) func71 (AllF.mem (l:=[g68T m,g118T m,g119T m]) ⟨g68ok m,g118ok m,g119ok m,trivial⟩)
def g40H:Hints:=⟨jG [] [jF [2,3],jE [3] [5],jE [0] [4]],[],[],[4],[],[[false]]⟩
def g40T:FunT:=⟨40,[hM3,hM3],sB,[sD,sD],un (g40 m)⟩
def g40ok:FO (g40T m):=fk g40H (g40T m) func40 (AllF.mem (l:=[g71T m]) ⟨g71ok m,trivial⟩)
def g39H:Hints:=⟨jG [] [jF [1,2],jC [4] [14],jF [2],jA [3,4],jA [24],jF [2],jA []],[],[],[2],[],[[false,false,false,false]]⟩
def g39T:FunT:=⟨39,[h41],hM3,[sD],un (g39 m)⟩
def g39ok:FO (g39T m):=fk g39H (g39T m) func39 (AllF.mem (l:=[g38T m,g70T m,g40T m]) ⟨g38ok m,g70ok m,g40ok m,trivial⟩)
def g165H:Hints:=⟨jG [] [jF [0,1],jA [5],jA [6],jA [18],jD [0] [] [18],jA [7],jA [8],jA [24],jD [0] [] [24],jC [0] [],jA [],jC [0] [],jD [5] [] [7,8],jE [0] [4]],[(0,[0,1,5,6]),(2,[0,1,5,6,7,8])],[(0,[5]),(1,[0,1,5,6]),(2,[0,1,5,6,7]),(3,[0,1,5,6,7,8])],[4],[],[[true]]⟩
def g165T:FunT:=⟨165,[h83,h83],ha3,[sD,sD],un (g165 m)⟩
noncomputable def g165C:Code:=codeOf f165
noncomputable def g165B0:Code:=qp g165C 0 0
noncomputable def g165B2:Code:=qp g165B0 0 0
def g165L1X:LT:=⟨2,[(0,h83),(1,h83),(5,ha3),(6,sI),(7,sU),(8,sI)],[(.exit 2,[(0,h83),(1,h83),(5,ha3),(6,sI),(7,sU)])],λn=>uq (g165L1 m n)⟩
def g165L1ok {E} (hE:EO E 66 g165H) (n):LO E g165B2 ((g165L1X m).at n):=lk hE noF (g165L1X m) n
def g165L0X:LT:=⟨0,[(0,h83),(1,h83),(5,ha3),(6,sI)],[(.exit 0,[(5,ha3)])],λn=>uq (g165L0 m n)⟩
def g165L0ok {E} (hE:EO E 66 g165H) (n):LO E g165B0 ((g165L0X m).at n):=
 lok hmix htt hE noF (L:=[(g165L1X m).at m]) (g165L0X m) (l:=[(2,g165B2)]) kR (λ_ _=>⟨qi ⟨yb (g165L1ok m hE m),trivial⟩,trivial⟩) (λn x=>kR) (λ_=>kR) n
def g165ok:FO (g165T m):=f1' g165H (g165T m) func165 noF λ_ h=>g165L0ok m h m
def g120H:Hints:=⟨jG [] [jF [2,3,4],jF [4]],[],[],[4],[],[[false,false]]⟩
def g120T:FunT:=⟨120,[hY3,hY3],hY3,[sD,sD],un (g120 m)⟩
def g120ok:FO (g120T m):=fk g120H (g120T m) func120 (AllF.mem (l:=[g166T m,g165T m,g127T m]) ⟨g166ok m,g165ok m,g127ok m,trivial⟩)
def g73H:Hints:=⟨jG [] [jF [2,3,4],jA [],jC [2] [14],jF [4],jA []],[],[],[4],[],[[false,false,false,false]]⟩
def g73T:FunT:=⟨73,[hM3,hM3],hM3,[sD,sD],un (g73 m)⟩
def g73ok:FO (g73T m):=fk g73H (g73T m) func73 (AllF.mem (l:=[g68T m,g83T m,g120T m,g84T m]) ⟨g68ok m,g83ok m,g120ok m,g84ok m,trivial⟩)
def g76H:Hints:=⟨jG [] [jF [1],jF [2]],[],[],[2],[],[[false]]⟩
def g76T:FunT:=⟨76,[hM3],sB,[sD],un (g76 m)⟩
def g76ok:FO (g76T m):=fk g76H (g76T m) func76 (AllF.mem (l:=[g68T m]) ⟨g68ok m,trivial⟩)
def g72H:Hints:=⟨jG [] [jF [0,2],jA [4],jA [5],jA [16],jD [0] [] [16],jA [24],jF [2,3],jF [0,2,4,5,32],jB [] [32],jA [44],jB [] [44],jF [2,3]],[(0,[0,2,4,5])],[(0,[2,4]),(1,[0,2,4,5])],[2,3],[],[[false,false,false,false,false,false,false,false],[false]]⟩
def g72T:FunT:=⟨72,[h82],.tup [(.agg [.bool,.bool,(.imm (.int .u32)),(.int .i64),.bool,.bool,(.imm (.int .u32)),(.int .i64)]),(.c .bool)],[sD],un (g72 m)⟩
noncomputable def g72C:Code:=codeOf f72
noncomputable def g72B0:Code:=qp g72C 0 0
def g72K:FL [g76T m,g40T m]:=AllF.mem ⟨g76ok m,g40ok m,trivial⟩
def g72L0X:LT:=⟨0,[(0,h82),(2,sX 0 [.bool,.bool,.nm 1 (.int .u32),iI,.bool,.bool,.nm 2 (.int .u32),iI]),(4,sX 3 [.bool,.bool,.imm (.int .u32),iI,.bool,.bool,.imm (.int .u32),iI]),(5,sI)],[(.ret,[(2,sX 0 [.bool,.bool,.imm (.int .u32),iI,.bool,.bool,.imm (.int .u32),iI]),(3,sB)]),(.exit 0,[(2,sX 0 [.bool,.bool,.nm 1 (.int .u32),iI,.bool,.bool,.nm 2 (.int .u32),iI]),(4,sX 3 [.bool,.bool,.imm (.int .u32),iI,.bool,.bool,.imm (.int .u32),iI])])],λn=>uq (g72L0 m n)⟩
def g72L0ok {E} (hE:EO E 51 g72H) (n):LO E g72B0 ((g72L0X m).at n):=lk hE (g72K m) (g72L0X m) n
def g72ok:FO (g72T m):=f1' g72H (g72T m) func72 (g72K m) λ_ h=>g72L0ok m h m
def g212H:Hints:=⟨jG [] [jF [0,1,2,3],jA [9],jA [10],jA [11,12],jA [13],jA [23],jD [0] [] [23],jA [28],jD [0] [] [28],jD [7] [14] [11],jC [0] [],jA [],jD [0] [11] [14],jE [0] [0,2,9,10,60],jF [0,8],jF [0,2,9,10,15],jA [63],jD [0] [] [63],jA [],jF [0,8]],[(0,[0,1,2,3,9,10,11,12,13]),(2,[0,2,9,10,15])],[(0,[0,2,9,10,11]),(1,[0,1,2,3,9,10,11,12,13]),(2,[0]),(3,[0,2,9,10,15])],[0,8],[0],[[false]]⟩
def g212T:FunT:=⟨212,[ha3,h83,sI,sU],sB,[ha3,sD,sD,sD],un (g212 m)⟩
noncomputable def g212C:Code:=codeOf f212
noncomputable def g212B0:Code:=qp g212C 0 0
noncomputable def g212B2:Code:=qp g212C 0 1
def g212L1X:LT:=⟨2,[(0,ha3),(2,sI),(9,sI),(10,h33),(15,sI)],[(.exit 2,[(0,ha3)])],λn=>uq (g212L1 m n)⟩
def g212L1ok {E} (hE:EO E 75 g212H) (n):LO E g212B2 ((g212L1X m).at n):=lk hE noF (g212L1X m) n
def g212L0X:LT:=⟨0,[(0,ha3),(1,h83),(2,sI),(3,sU),(9,sI),(10,h33),(11,sU),(12,sU),(13,sI)],[(.exit 0,[(0,ha3),(2,sI),(9,sI),(10,h33),(11,sU)])],λn=>uq (g212L0 m n)⟩
def g212L0ok {E} (hE:EO E 75 g212H) (n):LO E g212B0 ((g212L0X m).at n):=lk hE noF (g212L0X m) n
def g212ok:FO (g212T m):=
 fok hmix htt (H:=g212H) (g212T m) func212 kR noF (L:=[(g212L0X m).at m,(g212L1X m).at m]) (l:=[(0,g212B0),(2,g212B2)]) kR (λ_ hE _ _=>⟨qi ⟨yb (g212L0ok m hE m),nb rfl,trivial⟩,qi ⟨nb rfl,yb (g212L1ok m hE m),trivial⟩,trivial⟩) (λx=>kR)
def g206H:Hints:=⟨jG [] [jF [0,1],jA [19],jE [0] [4,5],jF [0,1,6],jA [7],jD [3] [8,9] [1],jA [41],jD [0] [] [41],jA [10],jD [0] [11] [0],jA [56],jD [0] [] [56],jA [12],jD [0] [13] [12],jM [(4,11)] [90] [],jD [0] [] [90],jD [2] [] [13],jE [0,2,4] [10,14],jE [0,2] [4,5]],[(0,[6,7,8,9,10,11]),(2,[6,7,8,9,10,11,13])],[(0,[7,8,10]),(1,[6,7,8,9,10,11]),(2,[6,7,8,9,10,11,13]),(3,[6,7,8,9,10,11,13])],[4,5],[],[[true],[false]]⟩
def g206T:FunT:=⟨206,[h83,h83],.tup [(.c (.nm 0 (.int .u32))),(.c (.imm (.int .u32)))],[sD,sD],un (g206 m)⟩
noncomputable def g206C:Code:=codeOf f206
noncomputable def g206B0:Code:=qp g206C 0 0
noncomputable def g206B2:Code:=qp g206B0 0 0
def g206K:FL [g194T m,g208T m,g128T m,g212T m,g166T m,g129T m]:=AllF.mem ⟨g194ok m,g208ok m,g128ok m,g212ok m,g166ok m,g129ok m,trivial⟩
def g206L1X:LT:=⟨2,[(6,sI),(7,sI),(8,ha3),(9,h33),(10,h53),(11,sI),(13,sU)],[(.exit 2,[(6,sI),(7,sI),(8,ha3),(9,h33),(10,h53),(11,sI),(13,sU)])],λn=>uq (g206L1 m n)⟩
def g206L1ok {E} (hE:EO E 109 g206H) (n):LO E g206B2 ((g206L1X m).at n):=lk hE (g206K m) (g206L1X m) n
def g206L0X:LT:=⟨0,[(6,sI),(7,sI),(8,ha3),(9,h33),(10,h53),(11,sI)],[(.exit 0,[(7,sI),(8,ha3),(10,h33)])],λn=>uq (g206L0 m n)⟩
def g206L0ok {E} (hE:EO E 109 g206H) (n):LO E g206B0 ((g206L0X m).at n):=
 lok hmix htt hE (g206K m) (L:=[(g206L1X m).at m]) (g206L0X m) (l:=[(2,g206B2)]) kR (λ_ _=>⟨qi ⟨yb (g206L1ok m hE m),trivial⟩,trivial⟩) (λn x=>kR) (λ_=>kR) n
def g206ok:FO (g206T m):=f1' g206H (g206T m) func206 (g206K m) λ_ h=>g206L0ok m h m
def g196H:Hints:=⟨jG [] [jF [2,3,4,5],jA [],jC [5] [6,7],jE [5,9] [3,4,5,8,9],jA [35],jB [] [35],jB [41] [3],jB [] [41],jA [],jF [4,5]],[],[],[4,5],[],[[false,false],[false,false]]⟩
def g196T:FunT:=⟨196,[hY3,hY3],.tup [(.agg [.bool,(.imm (.int .u32))]),(.agg [.bool,(.imm (.int .u32))])],[sD,sD],un (g196 m)⟩
def g196ok:FO (g196T m):=fk g196H (g196T m) func196 (AllF.mem (l:=[g117T m,g206T m,g127T m,g69T m,g82T m,g163T m,g123T m,g126T m]) ⟨g117ok m,g206ok m,g127ok m,g69ok m,g82ok m,g163ok m,g123ok m,g126ok m,trivial⟩)
def g167H:Hints:=⟨jG [] [jF [2,3,4,6],jD [0] [9] [2],jE [5] [6,9,10],jE [1] [6,7,8]],[],[],[6,7,8],[],[[false,false],[false],[false]]⟩
def g167T:FunT:=⟨167,[hY3,hY3,sI],.tup [(.agg [.bool,(.imm (.int .u32))]),(.c (.int .i64)),(.c .bool)],[sD,sD,sD],un (g167 m)⟩
def g167ok:FO (g167T m):=fk g167H (g167T m) func167 (AllF.mem (l:=[g130T m,g80T m,g196T m,g69T m]) ⟨g130ok m,g80ok m,g196ok m,g69ok m,trivial⟩)
def g122H:Hints:=⟨jG [] [jF [0,2,3,4,5,7,12],jD [2] [13] [4],jD [3,4] [14] [3,5,7],jD [0] [] [0],jE [1,2] [12]],[],[],[12],[],[[false,false,false,false]]⟩
def g122T:FunT:=⟨122,[sB,hY3,sI,sB,sI,sI],hM3,[sD,sD,sD,sD,sD,sD],un (g122 m)⟩
def g122ok:FO (g122T m):=fk g122H (g122T m) func122 (AllF.mem (l:=[g130T m,g132T m,g84T m]) ⟨g130ok m,g132ok m,g84ok m,trivial⟩)
def g121H:Hints:=⟨jG [] [jF [2,3,4,5,8],jA [],jC [2,6,10,14] [35],jF [8],jA [2,3,4,5,40],jF [8],jC [8] [2,3,4,5,9,10,11],jE [13,15,16,17] [8]],[],[],[8],[],[[false,false,false,false]]⟩
def g121T:FunT:=⟨121,[hM3,hM3,sI,sI],hM3,[sD,sD,sD,sD],un (g121 m)⟩
def g121ok:FO (g121T m):=fk g121H (g121T m) func121 (AllF.mem (l:=[g68T m,g83T m,g69T m,g82T m,g167T m,g122T m]) ⟨g68ok m,g83ok m,g69ok m,g82ok m,g167ok m,g122ok m,trivial⟩)
def g74H:Hints:=⟨jG [] [jF [2,3,4,5],jF [8]],[],[],[8],[],[[true]]⟩
def g74T:FunT:=⟨74,[h41,h41,sI,sI],.a (.c (.nm 0 (.pr .bool (.pr (.pr .bool (.sl false (.int .u32))) (.int .i64))))),[sD,sD,sD,sD],un (g74 m)⟩
def g74ok:FO (g74T m):=fk g74H (g74T m) func74 (AllF.mem (l:=[g121T m]) ⟨g121ok m,trivial⟩)
def g75H:Hints:=⟨jG [] [jF [1,2,3,6],jA [],jC [2,6] [18],jF [6],jC [8,9] []],[],[],[6],[],[[false,false,false,false]]⟩
def g75T:FunT:=⟨75,[hM3,sI,sI],hM3,[sD,sD,sD],un (g75 m)⟩
def g75ok:FO (g75T m):=fk g75H (g75T m) func75 (AllF.mem (l:=[g68T m,g83T m,g82T m,g122T m]) ⟨g68ok m,g83ok m,g82ok m,g122ok m,trivial⟩)
def g41H:Hints:=⟨jG [] [jF [4,5,6,7,8,10],jD [22] [12,13] [6,7],jD [0] [43] [13],jF [10,11],jE [5] [4,5,8,10,12,13,14],jD [0] [54] [13],jF [10,11],jE [5] [4,5,10,13,14,15],jD [0] [65] [13],jF [10,11],jF [10,16],jE [4] [10,11]],[],[],[10,11],[],[[false,false,false,false,false,false,false,false],[false]]⟩
def g41T:FunT:=⟨41,[h41,h41,h41,h41,sI],.tup [(.agg [.bool,.bool,(.imm (.int .u32)),(.int .i64),.bool,.bool,(.imm (.int .u32)),(.int .i64)]),(.c .bool)],[sD,sD,sD,sD,sD],un (g41 m)⟩
def g41ok:FO (g41T m):=fk g41H (g41T m) func41 (AllF.mem (l:=[g73T m,g72T m,g74T m,g67T m,g75T m,g76T m]) ⟨g73ok m,g72ok m,g74ok m,g67ok m,g75ok m,g76ok m,trivial⟩)
def g13H:Hints:=⟨jG [] [jF [1,2,3,6],jA [9],jA [29],jE [1] [6,7,8],jE [2] [1,2,3,6,37],jF [6,7,8],jE [1] [2,3,6,10],jB [11] [3],jM [(0,6)] [12] [],jA [13],jA [46],jD [0] [] [46],jA [14],jA [15],jA [51],jD [0] [] [51],jC [0] [],jM [(0,1),(1,1),(2,6),(3,6)] [] [14,15],jB [16] [10,13],jA [17],jA [18],jA [80],jD [0] [] [80],jA [19],jA [20],jA [85],jD [0] [] [85],jC [5,17,20] [127],jB [] [127],jB [130] [20],jF [6,7,8],jF [2,6,11,12,16,17,18,19],jA [144],jB [] [144],jA [],jA [21],jA [155],jD [0] [] [155],jA [22],jC [3] [167],jD [0] [] [167],jA [173],jD [30] [23,24] [173],jD [0] [208] [24],jF [6,7,8],jF [2,6,11,12,16,17,18,19,21,22],jF [6,7,8]],[(0,[2,6,10,11,12,13]),(2,[2,6,10,11,12,13,14,15]),(4,[2,6,11,12,16,17,18]),(6,[2,6,11,12,16,17,18,19,20]),(8,[2,6,11,12,16,17,18,19,21]),(10,[2,6,11,12,16,17,18,19,21,22])],[(0,[2,6,11,12]),(1,[2,6,10,11,12,13]),(2,[2,6,10,11,12,13,14]),(3,[2,6,10,11,12,13,14,15]),(4,[6,17]),(5,[2,6,11,12,16,17,18]),(6,[2,6,11,12,16,17,18,19]),(7,[2,6,11,12,16,17,18,19,20]),(8,[2,6,11,12,16,17,18]),(9,[2,6,11,12,16,17,18,19,21]),(10,[2,6,11,12,16,17,18,19,21]),(11,[2,6,11,12,16,17,18,19,21,22])],[6,7,8],[],[[false,false,false],[false],[false]]⟩
def g13T:FunT:=⟨13,[h71,sU,sI],.tup [(.agg [(.int .i64),(.int .i64),(.int .i64)]),(.c .bool),(.c (.int .i64))],[sD,sD,sD],un (g13 m)⟩
noncomputable def g13C:Code:=codeOf f13
noncomputable def g13B0:Code:=qp g13C 0 0
noncomputable def g13B2:Code:=qp g13B0 0 0
noncomputable def g13B4:Code:=qp g13C 0 1
noncomputable def g13B6:Code:=qp g13B4 4 0
noncomputable def g13B8:Code:=qp g13B4 4 1
noncomputable def g13B10:Code:=qp g13B8 8 0
def g13K:FL [g36T m,g37T m,g39T m,g38T m,g40T m,g41T m]:=AllF.mem ⟨g36ok m,g37ok m,g39ok m,g38ok m,g40ok m,g41ok m,trivial⟩
def g13L5X:LT:=⟨10,[(2,sI),(6,sX 0 [iI,iI,iI]),(11,sI),(12,hC1),(16,h93),(17,sX 3 [iI,iI,iI]),(18,sI),(19,sI),(21,sI),(22,sI)],[(.ret,[(6,sX 0 [iI,iI,iI]),(7,sB),(8,sI)]),(.exit 10,[(2,sI),(6,sX 0 [iI,iI,iI]),(11,sI),(12,hC1),(16,h93),(17,sX 3 [iI,iI,iI]),(18,sI),(19,sI),(21,sI)])],λn=>uq (g13L5 m n)⟩
def g13L5ok {E} (hE:EO E 225 g13H) (n):LO E g13B10 ((g13L5X m).at n):=lk hE (g13K m) (g13L5X m) n
def g13L4X:LT:=⟨8,[(2,sI),(6,sX 0 [iI,iI,iI]),(11,sI),(12,hC1),(16,h93),(17,sX 3 [iI,iI,iI]),(18,sI),(19,sI),(21,sI)],[(.ret,[(6,sX 0 [iI,iI,iI]),(7,sB),(8,sI)]),(.exit 8,[(2,sI),(6,sX 0 [iI,iI,iI]),(11,sI),(12,hC1),(16,h93),(17,sX 3 [iI,iI,iI]),(18,sI)])],λn=>uq (g13L4 m n)⟩
def g13L4ok {E} (hE:EO E 225 g13H) (n):LO E g13B8 ((g13L4X m).at n):=
 lok hmix htt hE (g13K m) (L:=[(g13L5X m).at m]) (g13L4X m) (l:=[(10,g13B10)]) kR (λ_ _=>⟨qi ⟨yb (g13L5ok m hE m),trivial⟩,trivial⟩) (λn x=>kR) (λ_=>kR) n
def g13L3X:LT:=⟨6,[(2,sI),(6,sX 0 [iI,iI,iI]),(11,sI),(12,hC1),(16,h93),(17,sX 3 [iI,iI,iI]),(18,sI),(19,sI),(20,sI)],[(.exit 6,[(2,sI),(6,sX 0 [iI,iI,iI]),(11,sI),(12,hC1),(16,h93),(17,sX 3 [iI,iI,iI]),(18,sI),(19,sI)])],λn=>uq (g13L3 m n)⟩
def g13L3ok {E} (hE:EO E 225 g13H) (n):LO E g13B6 ((g13L3X m).at n):=lk hE (g13K m) (g13L3X m) n
def g13L2X:LT:=⟨4,[(2,sI),(6,sX 0 [iI,iI,iI]),(11,sI),(12,hC1),(16,h93),(17,sX 3 [iI,iI,iI]),(18,sI)],[(.ret,[(6,sX 0 [iI,iI,iI]),(7,sB),(8,sI)]),(.exit 4,[(6,sX 0 [iI,iI,iI]),(17,sX 1 [iI,iI,iI])])],λn=>uq (g13L2 m n)⟩
def g13L2ok {E} (hE:EO E 225 g13H) (n):LO E g13B4 ((g13L2X m).at n):=
 lok hmix htt hE (g13K m) (L:=[(g13L3X m).at m,(g13L4X m).at m]) (g13L2X m) (l:=[(6,g13B6),(8,g13B8)]) kR (λ_ _=>⟨qi ⟨yb (g13L3ok m hE m),nb rfl,trivial⟩,qi ⟨nb rfl,yb (g13L4ok m hE m),trivial⟩,trivial⟩) (λn x=>kR) (λ_=>kR) n
def g13L1X:LT:=⟨2,[(2,sI),(6,sX 0 [iI,iI,iI]),(10,h81),(11,sI),(12,hC1),(13,sI),(14,hO1),(15,sI)],[(.exit 2,[(2,sI),(6,sX 0 [iI,iI,iI]),(10,h81),(11,sI),(12,hC1),(13,sI),(14,hO1)])],λn=>uq (g13L1 m n)⟩
def g13L1ok {E} (hE:EO E 225 g13H) (n):LO E g13B2 ((g13L1X m).at n):=lk hE (g13K m) (g13L1X m) n
def g13L0X:LT:=⟨0,[(2,sI),(6,sX 0 [iI,iI,iI]),(10,h81),(11,sI),(12,hC1),(13,sI)],[(.exit 0,[(2,sI),(6,sX 0 [iI,iI,iI]),(11,sI),(12,hC1)])],λn=>uq (g13L0 m n)⟩
def g13L0ok {E} (hE:EO E 225 g13H) (n):LO E g13B0 ((g13L0X m).at n):=
 lok hmix htt hE (g13K m) (L:=[(g13L1X m).at m]) (g13L0X m) (l:=[(2,g13B2)]) kR (λ_ _=>⟨qi ⟨yb (g13L1ok m hE m),trivial⟩,trivial⟩) (λn x=>kR) (λ_=>kR) n
def g13ok:FO (g13T m):=
 fok hmix htt (H:=g13H) (g13T m) func13 kR (g13K m) (L:=[(g13L0X m).at m,(g13L2X m).at m]) (l:=[(0,g13B0),(4,g13B4)]) kR (λ_ hE _ _=>⟨qi ⟨yb (g13L0ok m hE m),nb rfl,trivial⟩,qi ⟨nb rfl,yb (g13L2ok m hE m),trivial⟩,trivial⟩) (λx=>kR)
def g56H:Hints:=⟨jG [] [jF [1,2],jC [2] [],jF [2]],[],[],[2],[],[[false,false,false,false]]⟩
def g56T:FunT:=⟨56,[hM3],hM3,[sD],un (g56 m)⟩
def g56ok:FO (g56T m):=fk g56H (g56T m) func56 (AllF.mem (l:=[g97T m]) ⟨g97ok m,trivial⟩)
def g94H:Hints:=⟨jG [] [jF [1,2,4],jC [2] [5],jD [0] [12] [5],jF [4],jC [4] []],[],[],[4],[],[[false,false,false,false]]⟩
def g94T:FunT:=⟨94,[hM3,sI],hM3,[sD,sD],un (g94 m)⟩
def g94ok:FO (g94T m):=fk g94H (g94T m) func94 (AllF.mem (l:=[g97T m,g145T m,g112T m]) ⟨g97ok m,g145ok m,g112ok m,trivial⟩)
def g93H:Hints:=⟨jG [] [jF [1,2],jC [2] [4],jE [0] [1,2,13],jF [2,3],jE [5] [2,5],jF [2,3]],[],[],[2,3],[],[[false,false],[false]]⟩
def g93T:FunT:=⟨93,[hM3],.tup [(.agg [.bool,(.imm (.int .u32))]),(.c .bool)],[sD],un (g93 m)⟩
def g93ok:FO (g93T m):=fk g93H (g93T m) func93 (AllF.mem (l:=[g97T m,g144T m]) ⟨g97ok m,g144ok m,trivial⟩)
def g52H:Hints:=⟨jG [] [jF [0],jA [3],jA [15,16,17],jA [18],jB [5] [18],jD [0] [21,22,23] [5],jA [24],jB [7] [24],jA [],jA [31],jD [0] [] [7,31],jC [1] [],jD [1] [] [21,22,23],jM [(2,4)] [8] [15,16,17],jE [0] [3,8,41,42,43],jA [44],jB [9,10] [44],jD [0] [48,49,50] [10],jA [51],jB [12] [51],jD [5] [13] [12],jM [(5,4),(11,4)] [] [13],jC [1] [],jE [1] [3,8,41,42,43],jE [0] [2]],[(0,[0,3,15,16,17]),(2,[0,3,15,16,17,21,22,23]),(4,[3,8,41,42,43]),(6,[3,8,9,41,42,43,48,49,50])],[(0,[0,3]),(1,[0,3,15,16,17]),(2,[0,3,15,16,17]),(3,[0,3,15,16,17,21,22,23]),(4,[8]),(5,[3,8,41,42,43]),(6,[3,8,41,42,43]),(7,[3,8,9,41,42,43,48,49,50])],[2],[],[[false]]⟩
def g52T:FunT:=⟨52,[h81],h92,[sD],un (g52 m)⟩
noncomputable def g52C:Code:=codeOf f52
noncomputable def g52B0:Code:=qp g52C 0 0
noncomputable def g52B2:Code:=qp g52B0 0 0
noncomputable def g52B4:Code:=qp g52C 0 1
noncomputable def g52B6:Code:=qp g52B4 4 0
def g52K:FL [g56T m,g92T m,g94T m,g93T m,g95T m]:=AllF.mem ⟨g56ok m,g92ok m,g94ok m,g93ok m,g95ok m,trivial⟩
def g52L3X:LT:=⟨6,[(3,sI),(8,hQ3),(9,sI),(41,h81),(42,sI),(43,sI),(48,h82),(49,sI),(50,sI)],[(.exit 6,[(3,sI),(8,hQ3),(41,h81),(42,sI),(43,sI)])],λn=>uq (g52L3 m n)⟩
def g52L3ok {E} (hE:EO E 76 g52H) (n):LO E g52B6 ((g52L3X m).at n):=lk hE (g52K m) (g52L3X m) n
def g52L2X:LT:=⟨4,[(3,sI),(8,hQ3),(41,h81),(42,sI),(43,sI)],[(.exit 4,[(8,hQ3)])],λn=>uq (g52L2 m n)⟩
def g52L2ok {E} (hE:EO E 76 g52H) (n):LO E g52B4 ((g52L2X m).at n):=
 lok hmix htt hE (g52K m) (L:=[(g52L3X m).at m]) (g52L2X m) (l:=[(6,g52B6)]) kR (λ_ _=>⟨qi ⟨yb (g52L3ok m hE m),trivial⟩,trivial⟩) (λn x=>kR) (λ_=>kR) n
def g52L1X:LT:=⟨2,[(0,h81),(3,sI),(15,h81),(16,sI),(17,sI),(21,h82),(22,sI),(23,sI)],[(.exit 2,[(0,h81),(3,sI),(15,h81),(16,sI),(17,sI)])],λn=>uq (g52L1 m n)⟩
def g52L1ok {E} (hE:EO E 76 g52H) (n):LO E g52B2 ((g52L1X m).at n):=lk hE (g52K m) (g52L1X m) n
def g52L0X:LT:=⟨0,[(0,h81),(3,sI),(15,h81),(16,sI),(17,sI)],[(.exit 0,[(0,h81),(3,sI)])],λn=>uq (g52L0 m n)⟩
def g52L0ok {E} (hE:EO E 76 g52H) (n):LO E g52B0 ((g52L0X m).at n):=
 lok hmix htt hE (g52K m) (L:=[(g52L1X m).at m]) (g52L0X m) (l:=[(2,g52B2)]) kR (λ_ _=>⟨qi ⟨yb (g52L1ok m hE m),trivial⟩,trivial⟩) (λn x=>kR) (λ_=>kR) n
def g52ok:FO (g52T m):=
 fok hmix htt (H:=g52H) (g52T m) func52 kR (g52K m) (L:=[(g52L0X m).at m,(g52L2X m).at m]) (l:=[(0,g52B0),(4,g52B4)]) kR (λ_ hE _ _=>⟨qi ⟨yb (g52L0ok m hE m),nb rfl,trivial⟩,qi ⟨nb rfl,yb (g52L2ok m hE m),trivial⟩,trivial⟩) (λx=>kR)
def g138H:Hints:=⟨jG [] [jF [0],jA [5],jF [2],jC [0] []],[],[],[2],[],[[false]]⟩
def g138T:FunT:=⟨138,[h92],sI,[sD],un (g138 m)⟩
def g138ok:FO (g138T m):=fk g138H (g138T m) func138 noF
def g175H:Hints:=⟨jG [] [jF [0,1],jE [0] [3]],[],[],[3],[],[[false]]⟩
def g175T:FunT:=⟨175,[hV3,.a (.c (.iptr none (.int .i64) 0))],sB,[sD,sD],un (g175 m)⟩
def g175ok:FO (g175T m):=fk g175H (g175T m) func175 noF
def g197H:Hints:=⟨jG [] [jF [0,1],jA [7,8],jA [9],jB [5] [9],jA [16],jE [0] [4],jE [1] [0,1,7,8],jF [4]],[(0,[0,1,7,8])],[(0,[]),(1,[0,1,7,8])],[4],[],[[false]]⟩
def g197T:FunT:=⟨197,[h92,hX3],sI,[sD,sD],un (g197 m)⟩
noncomputable def g197C:Code:=codeOf f197
noncomputable def g197B0:Code:=qp g197C 0 0
def g197K:FL [g175T m]:=AllF.mem ⟨g175ok m,trivial⟩
def g197L0X:LT:=⟨0,[(0,h92),(1,hX3),(7,sI),(8,sI)],[(.ret,[(4,sI)]),(.exit 0,[])],λn=>uq (g197L0 m n)⟩
def g197L0ok {E} (hE:EO E 19 g197H) (n):LO E g197B0 ((g197L0X m).at n):=lk hE (g197K m) (g197L0X m) n
def g197ok:FO (g197T m):=f1' g197H (g197T m) func197 (g197K m) λ_ h=>g197L0ok m h m
def g174H:Hints:=⟨jG [] [jF [0,1],jE [0,1] [4]],[],[],[4],[],[[false]]⟩
def g174T:FunT:=⟨174,[h92,hX3],sB,[sD,sD],un (g174 m)⟩
def g174ok:FO (g174T m):=fk g174H (g174T m) func174 (AllF.mem (l:=[g197T m]) ⟨g197ok m,trivial⟩)
def g137H:Hints:=⟨jG [] [jF [0],jA [3],jA [6],jF [2],jE [0,3] [10],jF [2],jA []],[],[(0,[])],[2],[],[[false]]⟩
def g137T:FunT:=⟨137,[h92],sI,[sD],un (g137 m)⟩
def g137ok:FO (g137T m):=fk g137H (g137T m) func137 (AllF.mem (l:=[g138T m,g174T m]) ⟨g138ok m,g174ok m,trivial⟩)
def g87H:Hints:=⟨jG [] [jF [0],jA [3],jE [2] [3,14],jF [2],jC [0] []],[],[],[2],[],[[false]]⟩
def g87T:FunT:=⟨87,[h92],sI,[sD],un (g87 m)⟩
def g87ok:FO (g87T m):=fk g87H (g87T m) func87 (AllF.mem (l:=[g137T m,g138T m]) ⟨g137ok m,g138ok m,trivial⟩)
def g90H:Hints:=⟨jG [] [jF [0,1],jM [(0,6)] [5] [],jE [0] [1,5,11,12,13],jA [14],jB [6,7] [14],jA [8],jD [0] [18,19,20] [7],jA [21],jB [10] [21],jD [0] [] [10],jC [1] [],jB [33] [18,19,20],jD [0,2] [] [6,33],jM [(0,1),(1,1),(2,6),(3,6)] [] [8],jC [1] [],jE [0] [4]],[(0,[1,5,11,12,13]),(2,[1,5,6,8,11,12,13,18,19,20])],[(0,[5]),(1,[1,5,11,12,13]),(2,[1,5,6,8,11,12,13]),(3,[1,5,6,8,11,12,13,18,19,20])],[4],[],[[false]]⟩
def g90T:FunT:=⟨90,[h92,hV3],h92,[sD,sD],un (g90 m)⟩
noncomputable def g90C:Code:=codeOf f90
noncomputable def g90B0:Code:=qp g90C 0 0
noncomputable def g90B2:Code:=qp g90B0 0 0
def g90K:FL [g95T m]:=AllF.mem ⟨g95ok m,trivial⟩
def g90L1X:LT:=⟨2,[(1,hV3),(5,hQ3),(6,sI),(8,hR3),(11,h92),(12,sI),(13,sI),(18,hV3),(19,sI),(20,sI)],[(.exit 2,[(1,hV3),(5,hQ3),(6,sI),(8,hR3),(11,h92),(12,sI),(13,sI)])],λn=>uq (g90L1 m n)⟩
def g90L1ok {E} (hE:EO E 48 g90H) (n):LO E g90B2 ((g90L1X m).at n):=lk hE (g90K m) (g90L1X m) n
def g90L0X:LT:=⟨0,[(1,hV3),(5,hQ3),(11,h92),(12,sI),(13,sI)],[(.exit 0,[(5,hQ3)])],λn=>uq (g90L0 m n)⟩
def g90L0ok {E} (hE:EO E 48 g90H) (n):LO E g90B0 ((g90L0X m).at n):=
 lok hmix htt hE (g90K m) (L:=[(g90L1X m).at m]) (g90L0X m) (l:=[(2,g90B2)]) kR (λ_ _=>⟨qi ⟨yb (g90L1ok m hE m),trivial⟩,trivial⟩) (λn x=>kR) (λ_=>kR) n
def g90ok:FO (g90T m):=f1' g90H (g90T m) func90 (g90K m) λ_ h=>g90L0ok m h m
def g142H:Hints:=⟨jG [] [jF [0,1],jM [(0,6)] [5] [],jE [0] [1,5,13,14,15],jA [16],jB [7] [16],jA [8],jA [20,21],jA [22],jB [9] [22],jM [(0,2)] [10] [],jA [24,25,26],jA [27],jB [11,12] [27],jM [(0,2),(3,1)] [] [11,12],jC [1] [],jD [0] [] [9,10,24,25,26],jC [1] [],jM [(0,1),(1,1),(2,6),(3,6)] [] [7,8,20,21],jC [1] [],jE [0] [4]],[(0,[1,5,13,14,15]),(2,[1,5,7,8,13,14,15,20,21]),(4,[1,5,7,8,9,10,13,14,15,20,21,24,25,26])],[(0,[5]),(1,[1,5,13,14,15]),(2,[1,5,8,13,14,15]),(3,[1,5,7,8,13,14,15,20,21]),(4,[1,5,7,8,10,13,14,15,20,21]),(5,[1,5,7,8,9,10,13,14,15,20,21,24,25,26])],[4],[],[[true]]⟩
def g142T:FunT:=⟨142,[h92,h92],hQ3,[sD,sD],un (g142 m)⟩
noncomputable def g142C:Code:=codeOf f142
noncomputable def g142B0:Code:=qp g142C 0 0
noncomputable def g142B2:Code:=qp g142B0 0 0
noncomputable def g142B4:Code:=qp g142B2 2 0
def g142K:FL [g180T m,g141T m]:=AllF.mem ⟨g180ok m,g141ok m,trivial⟩
def g142L2X:LT:=⟨4,[(1,h92),(5,hQ3),(7,hV3),(8,hR3),(9,sI),(10,sX 2 [.bool,.imm (.int .u32)]),(13,h92),(14,sI),(15,sI),(20,sI),(21,sI),(24,hV3),(25,sI),(26,sI)],[(.exit 4,[(1,h92),(5,hQ3),(7,hV3),(8,hR3),(10,sX 2 [.bool,.imm (.int .u32)]),(13,h92),(14,sI),(15,sI),(20,sI),(21,sI)])],λn=>uq (g142L2 m n)⟩
def g142L2ok {E} (hE:EO E 54 g142H) (n):LO E g142B4 ((g142L2X m).at n):=lk hE (g142K m) (g142L2X m) n
def g142L1X:LT:=⟨2,[(1,h92),(5,hQ3),(7,hV3),(8,hR3),(13,h92),(14,sI),(15,sI),(20,sI),(21,sI)],[(.exit 2,[(1,h92),(5,hQ3),(8,hR3),(13,h92),(14,sI),(15,sI)])],λn=>uq (g142L1 m n)⟩
def g142L1ok {E} (hE:EO E 54 g142H) (n):LO E g142B2 ((g142L1X m).at n):=
 lok hmix htt hE (g142K m) (L:=[(g142L2X m).at m]) (g142L1X m) (l:=[(4,g142B4)]) kR (λ_ _=>⟨qi ⟨yb (g142L2ok m hE m),trivial⟩,trivial⟩) (λn x=>kR) (λ_=>kR) n
def g142L0X:LT:=⟨0,[(1,h92),(5,hQ3),(13,h92),(14,sI),(15,sI)],[(.exit 0,[(5,hQ3)])],λn=>uq (g142L0 m n)⟩
def g142L0ok {E} (hE:EO E 54 g142H) (n):LO E g142B0 ((g142L0X m).at n):=
 lok hmix htt hE (g142K m) (L:=[(g142L1X m).at m]) (g142L0X m) (l:=[(2,g142B2)]) kR (λ_ _=>⟨qi ⟨yb (g142L1ok m hE m),trivial⟩,trivial⟩) (λn x=>kR) (λ_=>kR) n
def g142ok:FO (g142T m):=f1' g142H (g142T m) func142 (g142K m) λ_ h=>g142L0ok m h m
def g143H:Hints:=⟨jG [] [jF [2,3,4],jE [3] [4,6,7,8],jD [2] [23] [7],jF [4,5],jC [1] []],[],[],[4,5],[],[[false,false],[false]]⟩
def g143T:FunT:=⟨143,[hY3,hY3],.tup [(.agg [.bool,(.imm (.int .u32))]),(.c (.int .i64))],[sD,sD],un (g143 m)⟩
def g143ok:FO (g143T m):=fk g143H (g143T m) func143 (AllF.mem (l:=[g181T m]) ⟨g181ok m,trivial⟩)
def g89H:Hints:=⟨jG [] [jF [0],jA [3],jA [4],jA [],jM [(1,4)] [5] [],jA [26,27],jA [28],jB [6] [28],jM [(1,1),(5,4)] [] [6],jC [1] [],jF [0,3,4,5,7],jA [38],jD [0] [] [38],jA [42,43],jA [44],jB [8] [44],jB [] [8],jC [1] [],jE [1] [0,3,4,7,9],jM [(0,2)] [10] [],jA [72,73],jA [74],jB [11] [74],jM [(0,2)] [] [11],jC [1] [],jE [4] [0,3,4,7,9,12],jD [6] [5] [9,12],jE [0] [2]],[(0,[0,3,4,5,26,27]),(2,[0,3,4,5,7]),(4,[0,3,4,5,7,42,43]),(6,[0,3,4,7,9,10,72,73])],[(0,[0,3,4,5]),(1,[0,3,4,5,26,27]),(2,[4]),(3,[0,3,4,5,7]),(4,[0,3,4,5,7]),(5,[0,3,4,5,7,42,43]),(6,[0,3,4,7,9,10]),(7,[0,3,4,7,9,10,72,73])],[2],[],[[true]]⟩
def g89T:FunT:=⟨89,[h92],hT3,[sD],un (g89 m)⟩
noncomputable def g89C:Code:=codeOf f89
noncomputable def g89B0:Code:=qp g89C 0 0
noncomputable def g89B2:Code:=qp g89C 0 1
noncomputable def g89B4:Code:=qp g89B2 2 0
noncomputable def g89B6:Code:=qp g89B2 2 1
def g89K:FL [g109T m,g141T m,g142T m,g143T m,g111T m]:=AllF.mem ⟨g109ok m,g141ok m,g142ok m,g143ok m,g111ok m,trivial⟩
def g89L3X:LT:=⟨6,[(0,h92),(3,sI),(4,hT3),(7,sI),(9,hU3),(10,sX 2 [.bool,.imm (.int .u32)]),(72,sI),(73,sI)],[(.exit 6,[(0,h92),(3,sI),(4,hT3),(7,sI),(9,hU3),(10,sX 2 [.bool,.imm (.int .u32)])])],λn=>uq (g89L3 m n)⟩
def g89L3ok {E} (hE:EO E 102 g89H) (n):LO E g89B6 ((g89L3X m).at n):=lk hE (g89K m) (g89L3X m) n
def g89L2X:LT:=⟨4,[(0,h92),(3,sI),(4,hT3),(5,hU3),(7,sI),(42,sI),(43,sI)],[(.exit 4,[(0,h92),(3,sI),(4,hT3),(5,hU3),(7,sI)])],λn=>uq (g89L2 m n)⟩
def g89L2ok {E} (hE:EO E 102 g89H) (n):LO E g89B4 ((g89L2X m).at n):=lk hE (g89K m) (g89L2X m) n
def g89L1X:LT:=⟨2,[(0,h92),(3,sI),(4,hT3),(5,hU3),(7,sI)],[(.exit 2,[(4,hT3)])],λn=>uq (g89L1 m n)⟩
def g89L1ok {E} (hE:EO E 102 g89H) (n):LO E g89B2 ((g89L1X m).at n):=
 lok hmix htt hE (g89K m) (L:=[(g89L2X m).at m,(g89L3X m).at m]) (g89L1X m) (l:=[(4,g89B4),(6,g89B6)]) kR (λ_ _=>⟨qi ⟨yb (g89L2ok m hE m),nb rfl,trivial⟩,qi ⟨nb rfl,yb (g89L3ok m hE m),trivial⟩,trivial⟩) (λn x=>kR) (λ_=>kR) n
def g89L0X:LT:=⟨0,[(0,h92),(3,sI),(4,hT3),(5,hU3),(26,sI),(27,sI)],[(.exit 0,[(0,h92),(3,sI),(4,hT3),(5,hU3)])],λn=>uq (g89L0 m n)⟩
def g89L0ok {E} (hE:EO E 102 g89H) (n):LO E g89B0 ((g89L0X m).at n):=lk hE (g89K m) (g89L0X m) n
def g89ok:FO (g89T m):=
 fok hmix htt (H:=g89H) (g89T m) func89 kR (g89K m) (L:=[(g89L0X m).at m,(g89L1X m).at m]) (l:=[(0,g89B0),(2,g89B2)]) kR (λ_ hE _ _=>⟨qi ⟨yb (g89L0ok m hE m),nb rfl,trivial⟩,qi ⟨nb rfl,yb (g89L1ok m hE m),trivial⟩,trivial⟩) (λx=>kR)
end
end Go.Vs.F
