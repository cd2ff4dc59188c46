import Derived.Test.YtikppifemlpjlaaGreatDoorOkb
set_option linter.unusedVariables false
set_option maxRecDepth 100000
set_option linter.defProp false
namespace Go.Vs.F
open Go.Proofs
open Tryz
section
variable (m:Nat)
def g108H:Hints:=⟨[J [2,3,4,6],J [6,8],J' [(4,1)] [6,7]],[],[],[6,7],[],[[false,false,false,false,false,false,false,false],[false]]⟩
def g108T:FunT:=⟨108,[h41,h41,sI],.tup [(.agg [.bool,.bool,(.imm (.int .u32)),(.int .i64),.bool,.bool,(.imm (.int .u32)),(.int .i64)]),(.c .bool)],[sD,sD,sD],un (g108 m)⟩
def g108ok:FO (g108T m):=fk g108H (g108T m) func108 (AllF.mem (l:=[g66T m,g160T m,g158T m]) ⟨g66ok m,g160ok m,g158ok m,trivial⟩)
def g64H:Hints:=⟨[J [0,1],J [0,1],J [0,1,21,22],J [0,1,21,22,23],J [0,1,5,21,22],J [0,1,5,21,22,26,27],J [0,1,5,21,22,26,27,28],J [0,1,5,6,21,22,26,27],J' [(8,1)] [0,1,5,6,21,22,26,27,47],J' [(21,1)] [0,1,5,6,7,8,21,22,26,27],J' [(0,1)] [0,1,5,6,7,21,22,26,27,73],J [0,4],J' [(16,1)] [0,1,5,6,8,9,21,22,26,27],J' [(0,1)] [0,1,5,6,9,21,22,26,27,94],J [0,4],J' [(16,1)] [0,1,5,6,8,10,21,22,26,27],J' [(0,1)] [0,1,5,6,10,21,22,26,27,115],J [0,4],J [0,1,5,21,22,26,27],J' [(1,1)] [0,1,5,21,22,26,27],J' [(1,1)] [0,1,21,22],J [0,4]],[(0,[0,1,21,22]),(2,[0,1,5,21,22,26,27])],[(0,[0]),(1,[0,1,21,22]),(2,[0,1,21,22]),(3,[0,1,5,21,22,26,27])],[0,4],[0],[[false]]⟩
def g64T:FunT:=⟨64,[sX 0 [.dp 1 (.pr (.pr .bool (.pr (.pr .bool (.sl false (.int .u32))) (.int .i64))) (.pr .bool (.pr (.pr .bool (.sl false (.int .u32))) (.int .i64)))),.nm 2 .bool,iI],sI],sB,[sX 0 [.dp 1 (.pr (.pr .bool (.pr (.pr .bool (.sl false (.int .u32))) (.int .i64))) (.pr .bool (.pr (.pr .bool (.sl false (.int .u32))) (.int .i64)))),.nm 2 .bool,iI],sD],un (g64 m)⟩
noncomputable def g64C:Code:=codeOf f64
noncomputable def g64B0:Code:=qm g64C 0 0
noncomputable def g64B2:Code:=qm g64B0 0 0
def g64K:FL [g106T m,g107T m,g108T m]:=AllF.mem ⟨g106ok m,g107ok m,g108ok m,trivial⟩
def g64L1X:LT:=⟨2,[(0,sX 0 [.dp 1 (.pr (.pr .bool (.pr (.pr .bool (.sl false (.int .u32))) (.int .i64))) (.pr .bool (.pr (.pr .bool (.sl false (.int .u32))) (.int .i64)))),.nm 2 .bool,iI]),(1,sI),(5,sI),(21,sI),(22,sI),(26,sI),(27,sI)],[(.ret,[(0,sX 0 [.dp 1 (.pr (.pr .bool (.pr (.pr .bool (.sl false (.int .u32))) (.int .i64))) (.pr .bool (.pr (.pr .bool (.sl false (.int .u32))) (.int .i64)))),.nm 2 .bool,iI]),(4,sB)]),(.exit 2,[(0,sX 0 [.dp 1 (.pr (.pr .bool (.pr (.pr .bool (.sl false (.int .u32))) (.int .i64))) (.pr .bool (.pr (.pr .bool (.sl false (.int .u32))) (.int .i64)))),.nm 2 .bool,iI]),(1,sI),(21,sI),(22,sI)])],λn=>uq (g64L1 m n)⟩
def g64L1ok {E} (hE:EO E 138 g64H) (n):LO E g64B2 ((g64L1X m).at n):=lk hE (g64K m) (g64L1X m) n
def g64L0X:LT:=⟨0,[(0,sX 0 [.dp 1 (.pr (.pr .bool (.pr (.pr .bool (.sl false (.int .u32))) (.int .i64))) (.pr .bool (.pr (.pr .bool (.sl false (.int .u32))) (.int .i64)))),.nm 2 .bool,iI]),(1,sI),(21,sI),(22,sI)],[(.ret,[(0,sX 0 [.dp 1 (.pr (.pr .bool (.pr (.pr .bool (.sl false (.int .u32))) (.int .i64))) (.pr .bool (.pr (.pr .bool (.sl false (.int .u32))) (.int .i64)))),.nm 2 .bool,iI]),(4,sB)]),(.exit 0,[(0,sX 0 [.dp 1 (.pr (.pr .bool (.pr (.pr .bool (.sl false (.int .u32))) (.int .i64))) (.pr .bool (.pr (.pr .bool (.sl false (.int .u32))) (.int .i64)))),.nm 2 .bool,iI])])],λn=>uq (g64L0 m n)⟩
def g64L0ok {E} (hE:EO E 138 g64H) (n):LO E g64B0 ((g64L0X m).at n):=
 lok hmix htt hE (g64K m) (L:=[(g64L1X m).at m]) (g64L0X m) (l:=[(2,g64B2)]) kR (λ_ _=>⟨qi ⟨yb (g64L1ok m hE m),trivial⟩,trivial⟩) (λn x=>kR) (λ_=>kR) n
def g64ok:FO (g64T m):=f1' g64H (g64T m) func64 (g64K m) λ_ h=>g64L0ok m h m
def g34H:Hints:=⟨[J [0,1,4],J' [(2,4),(6,1)] [0,4,6],J [0,4,6,22,23,24],J [0,4,6,22,23,24,25],J [0,4,6,7,8,22,23,24],J [0,4,6,7,8,22,23,24],J' [(0,1)] [0,4,6,7,22,23,24,35,36,37],J [0,4,6,7,22,23,24,35,36,37,38],J [0,4,6,7,10,22,23,24,35,36,37],J' [(11,4),(18,4)] [0,4,6,7,22,23,24,35,36,37],J' [(1,1)] [0,4,6,7,22,23,24,35,36,37],J' [(1,1)] [0,4,6,22,23,24],J [0,4,6,11],J' [(0,1)] [4,6,11,62,63],J [4,6,11,62,63,64],J [4,6,11,12,62,63],J [4,6,11,12,62,63,68],J [4,5],J [4,6,11,12,62,63,81],J [4,6,11,12,62,63],J [4,6,11,12,62,63],J' [(1,1)] [4,6,11,62,63,93],J [4,5],J' [(1,1)] [4,6,11,62,63],J [4,5]],[(0,[0,4,6,22,23,24]),(2,[0,4,6,7,22,23,24,35,36,37]),(4,[4,6,11,62,63])],[(0,[0,4,6]),(1,[0,4,6,22,23,24]),(2,[0,4,6,22,23,24]),(3,[0,4,6,7,22,23,24,35,36,37]),(4,[4,11]),(5,[4,6,11,62,63])],[4,5],[],[[false,false,false],[false]]⟩
def g34T:FunT:=⟨34,[h81,sI],.tup [(.agg [(.int .i64),(.int .i64),(.int .i64)]),(.c .bool)],[sD,sD],un (g34 m)⟩
noncomputable def g34C:Code:=codeOf f34
noncomputable def g34B0:Code:=qm g34C 0 0
noncomputable def g34B2:Code:=qm g34B0 0 0
noncomputable def g34B4:Code:=qm g34C 0 1
def g34K:FL [g62T m,g63T m,g64T m]:=AllF.mem ⟨g62ok m,g63ok m,g64ok m,trivial⟩
def g34L2X:LT:=⟨4,[(4,sX 0 [iI,iI,iI]),(6,sX 1 [.dp 2 (.pr (.pr .bool (.pr (.pr .bool (.sl false (.int .u32))) (.int .i64))) (.pr .bool (.pr (.pr .bool (.sl false (.int .u32))) (.int .i64)))),.nm 3 .bool,iI]),(11,sX 4 [iI,iI,iI]),(62,sI),(63,sI)],[(.ret,[(4,sX 0 [iI,iI,iI]),(5,sB)]),(.exit 4,[(4,sX 0 [iI,iI,iI]),(11,sX 1 [iI,iI,iI])])],λn=>uq (g34L2 m n)⟩
def g34L2ok {E} (hE:EO E 97 g34H) (n):LO E g34B4 ((g34L2X m).at n):=lk hE (g34K m) (g34L2X m) n
def g34L1X:LT:=⟨2,[(0,h81),(4,sX 0 [iI,iI,iI]),(6,sX 1 [.dp 2 (.pr (.pr .bool (.pr (.pr .bool (.sl false (.int .u32))) (.int .i64))) (.pr .bool (.pr (.pr .bool (.sl false (.int .u32))) (.int .i64)))),.nm 3 .bool,iI]),(7,sI),(22,h81),(23,sI),(24,sI),(35,h82),(36,sI),(37,sI)],[(.exit 2,[(0,h81),(4,sX 0 [iI,iI,iI]),(6,sX 1 [.dp 2 (.pr (.pr .bool (.pr (.pr .bool (.sl false (.int .u32))) (.int .i64))) (.pr .bool (.pr (.pr .bool (.sl false (.int .u32))) (.int .i64)))),.nm 3 .bool,iI]),(22,h81),(23,sI),(24,sI)])],λn=>uq (g34L1 m n)⟩
def g34L1ok {E} (hE:EO E 97 g34H) (n):LO E g34B2 ((g34L1X m).at n):=lk hE (g34K m) (g34L1X m) n
def g34L0X:LT:=⟨0,[(0,h81),(4,sX 0 [iI,iI,iI]),(6,sX 1 [.dp 2 (.pr (.pr .bool (.pr (.pr .bool (.sl false (.int .u32))) (.int .i64))) (.pr .bool (.pr (.pr .bool (.sl false (.int .u32))) (.int .i64)))),.nm 3 .bool,iI]),(22,h81),(23,sI),(24,sI)],[(.exit 0,[(0,h81),(4,sX 0 [iI,iI,iI]),(6,sX 1 [.dp 2 (.pr (.pr .bool (.pr (.pr .bool (.sl false (.int .u32))) (.int .i64))) (.pr .bool (.pr (.pr .bool (.sl false (.int .u32))) (.int .i64)))),.nm 3 .bool,iI])])],λn=>uq (g34L0 m n)⟩
def g34L0ok {E} (hE:EO E 97 g34H) (n):LO E g34B0 ((g34L0X m).at n):=
 lok hmix htt hE (g34K m) (L:=[(g34L1X m).at m]) (g34L0X m) (l:=[(2,g34B2)]) kR (λ_ _=>⟨qi ⟨yb (g34L1ok m hE m),trivial⟩,trivial⟩) (λn x=>kR) (λ_=>kR) n
def g34ok:FO (g34T m):=
 fok hmix htt (H:=g34H) (g34T m) func34 kR (g34K m) (L:=[(g34L0X m).at m,(g34L2X m).at m]) (l:=[(0,g34B0),(4,g34B4)]) kR (λ_ hE _ _=>⟨qi ⟨yb (g34L0ok m hE m),nb rfl,trivial⟩,qi ⟨nb rfl,yb (g34L2ok m hE m),trivial⟩,trivial⟩) (λx=>kR)
def g12H:Hints:=⟨[J [1,2,3,6],J [1,2,3,6,9],J [1,2,3,6,9,16],J' [(1,1)] [6,7,8],J' [(2,1)] [1,2,3,6,24],J [6,7,8],J' [(1,1),(3,1),(5,1)] [6,10,11],J' [(1,1)] [6,7,8]],[],[],[6,7,8],[],[[false,false,false],[false],[false]]⟩
def g12T:FunT:=⟨12,[h71,sU,sI],.tup [(.agg [(.int .i64),(.int .i64),(.int .i64)]),(.c .bool),(.c (.int .i64))],[sD,sD,sD],un (g12 m)⟩
def g12ok:FO (g12T m):=fk g12H (g12T m) func12 (AllF.mem (l:=[g33T m,g35T m,g34T m]) ⟨g33ok m,g35ok m,g34ok m,trivial⟩)
def g70H:Hints:=⟨[J [1,2],J [1,2],J [1,2,6],J [2],J [2]],[],[],[2],[],[[false,false,false,false]]⟩
def g70T:FunT:=⟨70,[hM3],hM3,[sD],un (g70 m)⟩
def g70ok:FO (g70T m):=fk g70H (g70T m) func70 (AllF.mem (l:=[g68T m,g82T m,g84T m]) ⟨g68ok m,g82ok m,g84ok m,trivial⟩)
def g119H:Hints:=⟨[J [2,3],J [4]],[],[],[4],[],[[false]]⟩
def g119T:FunT:=⟨119,[hY3,hY3],sI,[sD,sD],un (g119 m)⟩
def g119ok:FO (g119T m):=fk g119H (g119T m) func119 (AllF.mem (l:=[g126T m,g69T m]) ⟨g126ok m,g69ok m,trivial⟩)
def g71H:Hints:=⟨[J [2,3],J [2,3],J' [(2,1)] [2,3,18],J [4,5],J' [(3,1)] [6,7],J [4,5]],[],[],[4,5],[],[[false],[false]]⟩
def g71T:FunT:=⟨71,[hM3,hM3],.tup [(.c (.int .i64)),(.c .bool)],[sD,sD],un (g71 m)⟩
def g71ok:FO (g71T m):=fk g71H (g71T m) func71 (AllF.mem (l:=[g68T m,g118T m,g119T m]) ⟨g68ok m,g118ok m,g119ok m,trivial⟩)
def g40H:Hints:=⟨[J [2,3],J' [(3,1)] [5],J' [(0,1)] [4]],[],[],[4],[],[[false]]⟩
def g40T:FunT:=⟨40,[hM3,hM3],sB,[sD,sD],un (g40 m)⟩
def g40ok:FO (g40T m):=fk g40H (g40T m) func40 (AllF.mem (l:=[g71T m]) ⟨g71ok m,trivial⟩)
def g39H:Hints:=⟨[J [1,2],J' [(4,1)] [1,2,14],J [2],J [2,3,4],J [2,3,4,24],J [2],J [2]],[],[],[2],[],[[false,false,false,false]]⟩
def g39T:FunT:=⟨39,[h41],hM3,[sD],un (g39 m)⟩
def g39ok:FO (g39T m):=fk g39H (g39T m) func39 (AllF.mem (l:=[g38T m,g70T m,g40T m]) ⟨g38ok m,g70ok m,g40ok m,trivial⟩)
def g73H:Hints:=⟨[J [2,3,4],J [2,3,4],J' [(2,1)] [2,3,4,14],J [4],J [4]],[],[],[4],[],[[false,false,false,false]]⟩
def g73T:FunT:=⟨73,[hM3,hM3],hM3,[sD,sD],un (g73 m)⟩
def g73ok:FO (g73T m):=fk g73H (g73T m) func73 (AllF.mem (l:=[g68T m,g83T m,g120T m,g84T m]) ⟨g68ok m,g83ok m,g120ok m,g84ok m,trivial⟩)
def g76H:Hints:=⟨[J [1],J [2]],[],[],[2],[],[[false]]⟩
def g76T:FunT:=⟨76,[hM3],sB,[sD],un (g76 m)⟩
def g76ok:FO (g76T m):=fk g76H (g76T m) func76 (AllF.mem (l:=[g68T m]) ⟨g68ok m,trivial⟩)
def g72H:Hints:=⟨[J [0,2],J [0,2,4],J [0,2,4,5],J [0,2,4,5,16],J' [(0,1)] [0,2,4,5],J [0,2,4,5,24],J [2,3],J [0,2,4,5,32],J [0,2,4,5],J [0,2,4,5,44],J [0,2,4,5],J [2,3]],[(0,[0,2,4,5])],[(0,[2,4]),(1,[0,2,4,5])],[2,3],[],[[false,false,false,false,false,false,false,false],[false]]⟩
def g72T:FunT:=⟨72,[h82],.tup [(.agg [.bool,.bool,(.imm (.int .u32)),(.int .i64),.bool,.bool,(.imm (.int .u32)),(.int .i64)]),(.c .bool)],[sD],un (g72 m)⟩
noncomputable def g72C:Code:=codeOf f72
noncomputable def g72B0:Code:=qm g72C 0 0
def g72K:FL [g76T m,g40T m]:=AllF.mem ⟨g76ok m,g40ok m,trivial⟩
def g72L0X:LT:=⟨0,[(0,h82),(2,sX 0 [.bool,.bool,.nm 1 (.int .u32),iI,.bool,.bool,.nm 2 (.int .u32),iI]),(4,sX 3 [.bool,.bool,.imm (.int .u32),iI,.bool,.bool,.imm (.int .u32),iI]),(5,sI)],[(.ret,[(2,sX 0 [.bool,.bool,.imm (.int .u32),iI,.bool,.bool,.imm (.int .u32),iI]),(3,sB)]),(.exit 0,[(2,sX 0 [.bool,.bool,.nm 1 (.int .u32),iI,.bool,.bool,.nm 2 (.int .u32),iI]),(4,sX 3 [.bool,.bool,.imm (.int .u32),iI,.bool,.bool,.imm (.int .u32),iI])])],λn=>uq (g72L0 m n)⟩
def g72L0ok {E} (hE:EO E 51 g72H) (n):LO E g72B0 ((g72L0X m).at n):=lk hE (g72K m) (g72L0X m) n
def g72ok:FO (g72T m):=f1' g72H (g72T m) func72 (g72K m) λ_ h=>g72L0ok m h m
def g167H:Hints:=⟨[J [2,3,4,6],J' [(0,1)] [3,4,6,9],J' [(5,1)] [6,9,10],J' [(1,1)] [6,7,8]],[],[],[6,7,8],[],[[false,false],[false],[false]]⟩
def g167T:FunT:=⟨167,[hY3,hY3,sI],.tup [(.agg [.bool,(.imm (.int .u32))]),(.c (.int .i64)),(.c .bool)],[sD,sD,sD],un (g167 m)⟩
def g167ok:FO (g167T m):=fk g167H (g167T m) func167 (AllF.mem (l:=[g130T m,g80T m,g196T m,g69T m]) ⟨g130ok m,g80ok m,g196ok m,g69ok m,trivial⟩)
def g122H:Hints:=⟨[J [0,2,3,4,5,7,12],J' [(2,1)] [0,2,3,5,7,12,13],J' [(3,1),(4,1)] [0,2,12,13,14],J' [(0,1)] [2,12,13,14],J' [(1,1),(2,1)] [12]],[],[],[12],[],[[false,false,false,false]]⟩
def g122T:FunT:=⟨122,[sB,hY3,sI,sB,sI,sI],hM3,[sD,sD,sD,sD,sD,sD],un (g122 m)⟩
def g122ok:FO (g122T m):=fk g122H (g122T m) func122 (AllF.mem (l:=[g130T m,g132T m,g84T m]) ⟨g130ok m,g132ok m,g84ok m,trivial⟩)
def g121H:Hints:=⟨[J [2,3,4,5,8],J [2,3,4,5,8],J' [(2,1),(6,1),(10,1),(14,1)] [2,3,4,5,8,35],J [8],J [2,3,4,5,8,40],J [8],J' [(8,1)] [2,3,4,5,8,9,10,11],J' [(13,1),(15,1),(16,1),(17,1)] [8]],[],[],[8],[],[[false,false,false,false]]⟩
def g121T:FunT:=⟨121,[hM3,hM3,sI,sI],hM3,[sD,sD,sD,sD],un (g121 m)⟩
def g121ok:FO (g121T m):=fk g121H (g121T m) func121 (AllF.mem (l:=[g68T m,g83T m,g69T m,g82T m,g167T m,g122T m]) ⟨g68ok m,g83ok m,g69ok m,g82ok m,g167ok m,g122ok m,trivial⟩)
def g74H:Hints:=⟨[J [2,3,4,5],J [8]],[],[],[8],[],[[true]]⟩
def g74T:FunT:=⟨74,[h41,h41,sI,sI],.a (.c (.nm 0 (.pr .bool (.pr (.pr .bool (.sl false (.int .u32))) (.int .i64))))),[sD,sD,sD,sD],un (g74 m)⟩
def g74ok:FO (g74T m):=fk g74H (g74T m) func74 (AllF.mem (l:=[g121T m]) ⟨g121ok m,trivial⟩)
def g75H:Hints:=⟨[J [1,2,3,6],J [1,2,3,6],J' [(2,1),(6,1)] [1,2,3,6,18],J [6],J' [(8,1),(9,1)] [6]],[],[],[6],[],[[false,false,false,false]]⟩
def g75T:FunT:=⟨75,[hM3,sI,sI],hM3,[sD,sD,sD],un (g75 m)⟩
def g75ok:FO (g75T m):=fk g75H (g75T m) func75 (AllF.mem (l:=[g68T m,g83T m,g82T m,g122T m]) ⟨g68ok m,g83ok m,g82ok m,g122ok m,trivial⟩)
def g41H:Hints:=⟨[J [4,5,6,7,8,10],J' [(22,1)] [4,5,8,10,12,13],J' [(0,1)] [4,5,8,10,12,43],J [10,11],J' [(5,1)] [4,5,8,10,12,13,14],J' [(0,1)] [4,5,8,10,12,14,54],J [10,11],J' [(5,1)] [4,5,10,13,14,15],J' [(0,1)] [4,5,10,14,15,65],J [10,11],J [10,16],J' [(4,1)] [10,11]],[],[],[10,11],[],[[false,false,false,false,false,false,false,false],[false]]⟩
def g41T:FunT:=⟨41,[h41,h41,h41,h41,sI],.tup [(.agg [.bool,.bool,(.imm (.int .u32)),(.int .i64),.bool,.bool,(.imm (.int .u32)),(.int .i64)]),(.c .bool)],[sD,sD,sD,sD,sD],un (g41 m)⟩
def g41ok:FO (g41T m):=fk g41H (g41T m) func41 (AllF.mem (l:=[g73T m,g72T m,g74T m,g67T m,g75T m,g76T m]) ⟨g73ok m,g72ok m,g74ok m,g67ok m,g75ok m,g76ok m,trivial⟩)
def g13H:Hints:=⟨[J [1,2,3,6],J [1,2,3,6,9],J [1,2,3,6,9,29],J' [(1,1)] [6,7,8],J' [(2,1)] [1,2,3,6,37],J [6,7,8],J' [(1,1)] [2,3,6,10],J [2,6,10,11],J' [(0,6)] [2,6,10,11,12],J [2,6,10,11,12,13],J [2,6,10,11,12,13,46],J' [(0,1)] [2,6,10,11,12,13],J [2,6,10,11,12,13,14],J [2,6,10,11,12,13,14,15],J [2,6,10,11,12,13,14,15,51],J' [(0,1)] [2,6,10,11,12,13,14,15],J' [(0,1)] [2,6,10,11,12,13,14,15],J' [(0,1),(1,1),(2,6),(3,6)] [2,6,10,11,12,13],J [2,6,11,12,16],J [2,6,11,12,16,17],J [2,6,11,12,16,17,18],J [2,6,11,12,16,17,18,80],J' [(0,1)] [2,6,11,12,16,17,18],J [2,6,11,12,16,17,18,19],J [2,6,11,12,16,17,18,19,20],J [2,6,11,12,16,17,18,19,20,85],J' [(0,1)] [2,6,11,12,16,17,18,19,20],J' [(5,1),(17,1),(20,1)] [2,6,11,12,16,17,18,19,20,127],J [2,6,11,12,16,17,18,19,20],J [2,6,11,12,16,17,18,19,130],J [6,7,8],J [2,6,11,12,16,17,18,19],J [2,6,11,12,16,17,18,19,144],J [2,6,11,12,16,17,18,19],J [2,6,11,12,16,17,18,19],J [2,6,11,12,16,17,18,19,21],J [2,6,11,12,16,17,18,19,21,155],J' [(0,1)] [2,6,11,12,16,17,18,19,21],J [2,6,11,12,16,17,18,19,21,22],J' [(3,1)] [2,6,11,12,16,17,18,19,21,22,167],J' [(0,1)] [2,6,11,12,16,17,18,19,21,22],J [2,6,11,12,16,17,18,19,21,22,173],J' [(30,1)] [2,6,11,12,16,17,18,19,21,22,23,24],J' [(0,1)] [2,6,11,12,16,17,18,19,21,22,23,208],J [6,7,8],J [2,6,11,12,16,17,18,19,21,22],J [6,7,8]],[(0,[2,6,10,11,12,13]),(2,[2,6,10,11,12,13,14,15]),(4,[2,6,11,12,16,17,18]),(6,[2,6,11,12,16,17,18,19,20]),(8,[2,6,11,12,16,17,18,19,21]),(10,[2,6,11,12,16,17,18,19,21,22])],[(0,[2,6,11,12]),(1,[2,6,10,11,12,13]),(2,[2,6,10,11,12,13,14]),(3,[2,6,10,11,12,13,14,15]),(4,[6,17]),(5,[2,6,11,12,16,17,18]),(6,[2,6,11,12,16,17,18,19]),(7,[2,6,11,12,16,17,18,19,20]),(8,[2,6,11,12,16,17,18]),(9,[2,6,11,12,16,17,18,19,21]),(10,[2,6,11,12,16,17,18,19,21]),(11,[2,6,11,12,16,17,18,19,21,22])],[6,7,8],[],[[false,false,false],[false],[false]]⟩
def g13T:FunT:=⟨13,[h71,sU,sI],.tup [(.agg [(.int .i64),(.int .i64),(.int .i64)]),(.c .bool),(.c (.int .i64))],[sD,sD,sD],un (g13 m)⟩
noncomputable def g13C:Code:=codeOf f13
noncomputable def g13B0:Code:=qm g13C 0 0
noncomputable def g13B2:Code:=qm g13B0 0 0
noncomputable def g13B4:Code:=qm g13C 0 1
noncomputable def g13B6:Code:=qm g13B4 4 0
noncomputable def g13B8:Code:=qm g13B4 4 1
noncomputable def g13B10:Code:=qm g13B8 8 0
def g13K:FL [g36T m,g37T m,g39T m,g38T m,g40T m,g41T m]:=AllF.mem ⟨g36ok m,g37ok m,g39ok m,g38ok m,g40ok m,g41ok m,trivial⟩
def g13L5X:LT:=⟨10,[(2,sI),(6,sX 0 [iI,iI,iI]),(11,sI),(12,hC1),(16,h93),(17,sX 3 [iI,iI,iI]),(18,sI),(19,sI),(21,sI),(22,sI)],[(.ret,[(6,sX 0 [iI,iI,iI]),(7,sB),(8,sI)]),(.exit 10,[(2,sI),(6,sX 0 [iI,iI,iI]),(11,sI),(12,hC1),(16,h93),(17,sX 3 [iI,iI,iI]),(18,sI),(19,sI),(21,sI)])],λn=>uq (g13L5 m n)⟩
def g13L5ok {E} (hE:EO E 225 g13H) (n):LO E g13B10 ((g13L5X m).at n):=lk hE (g13K m) (g13L5X m) n
def g13L4X:LT:=⟨8,[(2,sI),(6,sX 0 [iI,iI,iI]),(11,sI),(12,hC1),(16,h93),(17,sX 3 [iI,iI,iI]),(18,sI),(19,sI),(21,sI)],[(.ret,[(6,sX 0 [iI,iI,iI]),(7,sB),(8,sI)]),(.exit 8,[(2,sI),(6,sX 0 [iI,iI,iI]),(11,sI),(12,hC1),(16,h93),(17,sX 3 [iI,iI,iI]),(18,sI)])],λn=>uq (g13L4 m n)⟩
def g13L4ok {E} (hE:EO E 225 g13H) (n):LO E g13B8 ((g13L4X m).at n):=
 lok hmix htt hE (g13K m) (L:=[(g13L5X m).at m]) (g13L4X m) (l:=[(10,g13B10)]) kR (λ_ _=>⟨qi ⟨yb (g13L5ok m hE m),trivial⟩,trivial⟩) (λn x=>kR) (λ_=>kR) n
def g13L3X:LT:=⟨6,[(2,sI),(6,sX 0 [iI,iI,iI]),(11,sI),(12,hC1),(16,h93),(17,sX 3 [iI,iI,iI]),(18,sI),(19,sI),(20,sI)],[(.exit 6,[(2,sI),(6,sX 0 [iI,iI,iI]),(11,sI),(12,hC1),(16,h93),(17,sX 3 [iI,iI,iI]),(18,sI),(19,sI)])],λn=>uq (g13L3 m n)⟩
def g13L3ok {E} (hE:EO E 225 g13H) (n):LO E g13B6 ((g13L3X m).at n):=lk hE (g13K m) (g13L3X m) n
def g13L2X:LT:=⟨4,[(2,sI),(6,sX 0 [iI,iI,iI]),(11,sI),(12,hC1),(16,h93),(17,sX 3 [iI,iI,iI]),(18,sI)],[(.ret,[(6,sX 0 [iI,iI,iI]),(7,sB),(8,sI)]),(.exit 4,[(6,sX 0 [iI,iI,iI]),(17,sX 1 [iI,iI,iI])])],λn=>uq (g13L2 m n)⟩
def g13L2ok {E} (hE:EO E 225 g13H) (n):LO E g13B4 ((g13L2X m).at n):=
 lok hmix htt hE (g13K m) (L:=[(g13L3X m).at m,(g13L4X m).at m]) (g13L2X m) (l:=[(6,g13B6),(8,g13B8)]) kR (λ_ _=>⟨qi ⟨yb (g13L3ok m hE m),nb rfl,trivial⟩,qi ⟨nb rfl,yb (g13L4ok m hE m),trivial⟩,trivial⟩) (λn x=>kR) (λ_=>kR) n
def g13L1X:LT:=⟨2,[(2,sI),(6,sX 0 [iI,iI,iI]),(10,h81),(11,sI),(12,hC1),(13,sI),(14,hO1),(15,sI)],[(.exit 2,[(2,sI),(6,sX 0 [iI,iI,iI]),(10,h81),(11,sI),(12,hC1),(13,sI),(14,hO1)])],λn=>uq (g13L1 m n)⟩
def g13L1ok {E} (hE:EO E 225 g13H) (n):LO E g13B2 ((g13L1X m).at n):=lk hE (g13K m) (g13L1X m) n
def g13L0X:LT:=⟨0,[(2,sI),(6,sX 0 [iI,iI,iI]),(10,h81),(11,sI),(12,hC1),(13,sI)],[(.exit 0,[(2,sI),(6,sX 0 [iI,iI,iI]),(11,sI),(12,hC1)])],λn=>uq (g13L0 m n)⟩
def g13L0ok {E} (hE:EO E 225 g13H) (n):LO E g13B0 ((g13L0X m).at n):=
 lok hmix htt hE (g13K m) (L:=[(g13L1X m).at m]) (g13L0X m) (l:=[(2,g13B2)]) kR (λ_ _=>⟨qi ⟨yb (g13L1ok m hE m),trivial⟩,trivial⟩) (λn x=>kR) (λ_=>kR) n
def g13ok:FO (g13T m):=
 fok hmix htt (H:=g13H) (g13T m) func13 kR (g13K m) (L:=[(g13L0X m).at m,(g13L2X m).at m]) (l:=[(0,g13B0),(4,g13B4)]) kR (λ_ hE _ _=>⟨qi ⟨yb (g13L0ok m hE m),nb rfl,trivial⟩,qi ⟨nb rfl,yb (g13L2ok m hE m),trivial⟩,trivial⟩) (λx=>kR)
def g26H:Hints:=⟨[J [1,2,4],J [1,2,4,7],J [1,2,4,7,19],J' [(1,1)] [4,5,6],J [1,2,4,22,23,24],J [1,2,4,22,23,24,25],J [1,2,4,9,22,23,24],J' [(4,1)] [1,2,4,9,10,11,22,23,24],J' [(0,1)] [1,2,4,9,10,22,23,24,36],J' [(1,1)] [4,5,6],J' [(1,1)] [1,2,4,22,23,24],J' [(1,1),(3,1)] [4,13,14],J' [(1,1)] [4,5,6]],[(0,[1,2,4,22,23,24])],[(0,[1,2,4]),(1,[1,2,4,22,23,24])],[4,5,6],[],[[false,false,false],[false],[false]]⟩
def g26T:FunT:=⟨26,[h71,sU],.tup [(.agg [(.int .i64),(.int .i64),(.int .i64)]),(.c (.int .i64)),(.c (.int .i64))],[sD,sD],un (g26 m)⟩
noncomputable def g26C:Code:=codeOf f26
noncomputable def g26B0:Code:=qm g26C 0 0
def g26K:FL [g33T m,g12T m,g20T m]:=AllF.mem ⟨g33ok m,g12ok m,g20ok m,trivial⟩
def g26L0X:LT:=⟨0,[(1,sU),(2,sX 0 [iI,iI,iL,iL,.imm (.int .u64)]),(4,sX 1 [iI,iI,iI]),(22,sN 2),(23,sI),(24,sI)],[(.ret,[(4,sX 0 [iI,iI,iI]),(5,sI),(6,sI)]),(.exit 0,[(1,sU),(2,sX 0 [iI,iI,iL,iL,.imm (.int .u64)]),(4,sX 1 [iI,iI,iI])])],λn=>uq (g26L0 m n)⟩
def g26L0ok {E} (hE:EO E 48 g26H) (n):LO E g26B0 ((g26L0X m).at n):=lk hE (g26K m) (g26L0X m) n
def g26ok:FO (g26T m):=f1' g26H (g26T m) func26 (g26K m) λ_ h=>g26L0ok m h m
def g45H:Hints:=⟨[J [0],J' [(0,1)] [2]],[],[],[2],[],[[false]]⟩
def g45T:FunT:=⟨45,[sU],sB,[sD],un (g45 m)⟩
def g45ok:FO (g45T m):=fk g45H (g45T m) func45 (AllF.mem (l:=[g46T m]) ⟨g46ok m,trivial⟩)
def g42H:Hints:=⟨[J [0],J [0,4],J [2],J' [(0,1)] [2]],[],[],[2],[],[[false]]⟩
def g42T:FunT:=⟨42,[sU],sU,[sD],un (g42 m)⟩
def g42ok:FO (g42T m):=fk g42H (g42T m) func42 (AllF.mem (l:=[g45T m]) ⟨g45ok m,trivial⟩)
def sparselaw39_awake_H:Hints:=⟨[J [],J [1],J' [(2,1)] [1,2,3],J' [(2,1)] [1,2,3,5,6],J' [(3,1)] [2,3,5,6,7,8],J' [(0,1),(2,1),(3,1),(6,1),(7,1),(10,1),(15,1),(16,1),(19,1),(20,1)] [0]],[],[],[0],[],[[false]]⟩
abbrev sparselaw39_awake_A:List Sh:=[]
abbrev sparselaw39_awake_S:Sh:= sB
abbrev sparselaw39_awake_U:List Sh:=[]
def sparselaw39_awake_R:Xc sparselaw39_awake_A->Option (sparselaw39_awake_S.Val×Xc sparselaw39_awake_U):=λ(x:Unit)=>sparselaw39_awake m
def sparselaw39_awake_T:FunT:=⟨15,sparselaw39_awake_A,sparselaw39_awake_S,sparselaw39_awake_U,sparselaw39_awake_R m⟩
def sparselaw39_awake_ok:FO (sparselaw39_awake_T m):=fk sparselaw39_awake_H (sparselaw39_awake_T m) func15 (AllF.mem (l:=[g20T m,g12T m,g42T m,g24T m]) ⟨g20ok m,g12ok m,g42ok m,g24ok m,trivial⟩)
def sparselaw39_InertiaRefuses_H:Hints:=⟨[J [0,1,2,3,4,5],J' [(3,1)] [0,1,3,4,5,13],J [0,1,3,4,5,13,44],J [0,1,3,4,5,13],J' [(0,1)] [0,3,4,5,13,53],J [0,3,4,5,13],J' [(4,1)] [0,3,4,5,13,64],J' [(7,1)] [3,4,5,13],J [3,4,5,13,14],J [3,4,5,13,14,78],J' [(1,1)] [3,4,13,14],J [3,4,13,14,86],J' [(0,1)] [4,13,14],J' [(0,7),(3,1)] [4,13,14,16],J' [(3,1)] [4,13,14,16,18],J' [(3,1)] [4,13,14,16,18,19,20],J' [(3,1)] [4,13,14,16,18,19,20,21,22],J' [(3,1)] [4,13,14,16,18,19,20,21,22,24],J' [(3,1)] [4,13,14,16,18,19,20,21,22,24,26],J' [(2,1)] [4,13,14,16,18,19,20,21,22,24,26,130],J [4,13,14,16,18,19,20,21,22,24,26],J' [(4,1)] [4,13,14,16,18,19,20,21,22,24,26,28,29],J' [(2,1),(4,1)] [13,14,16,18,19,20,21,22,24,26,28,29,31,32],J' [(1,1),(3,1)] [16,18,19,20,21,22,24,26,28,29,31,32,34,35],J' [(0,1),(3,1),(4,1),(5,1),(8,1),(9,1),(10,1),(13,1),(14,1),(15,1),(18,1),(19,1),(20,1),(23,1),(24,1),(25,1),(28,1),(33,1),(36,1),(37,1),(41,1)] [12]],[(1004,[0,1,3,4,5,13]),(1006,[0,3,4,5,13]),(1008,[3,4,5,13]),(1011,[3,4,13,14]),(1013,[4,13,14])],[],[12],[],[[false]]⟩
abbrev sparselaw39_InertiaRefuses_A:List Sh:=[h73,sI,sI,sU,sI,sI]
abbrev sparselaw39_InertiaRefuses_S:Sh:= sB
abbrev sparselaw39_InertiaRefuses_U:List Sh:=[sD,sD,sD,sD,sD,sD]
def sparselaw39_InertiaRefuses_R:Xc sparselaw39_InertiaRefuses_A->Option (sparselaw39_InertiaRefuses_S.Val×Xc sparselaw39_InertiaRefuses_U):=λ(x:LI×Int×Int×Int×Int×Int×Unit)=>sparselaw39_InertiaRefuses m x.1 x.2.1 x.2.2.1 x.2.2.2.1 x.2.2.2.2.1 x.2.2.2.2.2.1
def sparselaw39_InertiaRefuses_T:FunT:=⟨10,sparselaw39_InertiaRefuses_A,sparselaw39_InertiaRefuses_S,sparselaw39_InertiaRefuses_U,sparselaw39_InertiaRefuses_R m⟩
noncomputable def sparselaw39_InertiaRefuses_C:Code:=codeOf f10
noncomputable def sparselaw39_InertiaRefuses_D4:Code:=qcq [1004] sparselaw39_InertiaRefuses_C 0
noncomputable def sparselaw39_InertiaRefuses_D6:Code:=qcq [1006] sparselaw39_InertiaRefuses_C 0
noncomputable def sparselaw39_InertiaRefuses_D8:Code:=qcq [1008] sparselaw39_InertiaRefuses_C 0
noncomputable def sparselaw39_InertiaRefuses_D11:Code:=qcq [1011] sparselaw39_InertiaRefuses_C 0
noncomputable def sparselaw39_InertiaRefuses_D13:Code:=qcq [1013] sparselaw39_InertiaRefuses_C 0
def sparselaw39_InertiaRefuses_K:FL [g14T m,g25T m,g32T m,g23T m,g21T m,g20T m,g16T m,g24T m,g28T m,g29T m,g30T m,g12T m,g13T m,g26T m,sparselaw39_awake_T m]:=AllF.mem ⟨g14ok m,g25ok m,g32ok m,g23ok m,g21ok m,g20ok m,g16ok m,g24ok m,g28ok m,g29ok m,g30ok m,g12ok m,g13ok m,g26ok m,sparselaw39_awake_ok m,trivial⟩
def sparselaw39_InertiaRefuses_J4_X:LoopT:=⟨1013,[(4,sI),(13,sX 0 [iI,iI,iM 1,iM 2,.nm 3 (.int .u64)]),(14,sU)],[(.ret,[(12,sB)])],λ(x:Int×(Int×Int×LI×LI×LI×Unit)×Int×Unit)=>sparselaw39_InertiaRefuses_J4 m x.1 x.2.1.1 x.2.1.2.1 x.2.1.2.2.1 x.2.1.2.2.2.1 x.2.1.2.2.2.2.1 x.2.2.1⟩
def sparselaw39_InertiaRefuses_J4_ok {E:Entry} (hE:EOf prog E 198 sparselaw39_InertiaRefuses_H.pins) (m:Nat):q02 prog E sparselaw39_InertiaRefuses_D13 (sparselaw39_InertiaRefuses_J4_X m):=
 jok hmix htt hE (sparselaw39_InertiaRefuses_K m) (L:=[]) (sparselaw39_InertiaRefuses_J4_X m) 0 (l:=[]) [] (jl:=[]) kR kR (λ_ _=>trivial) kR (λ_ _=>trivial) (λx=>kR)
def sparselaw39_InertiaRefuses_J3_X:LoopT:=⟨1011,[(3,sU),(4,sI),(13,sX 0 [iI,iI,iM 1,iM 2,.nm 3 (.int .u64)]),(14,sU)],[(.ret,[(12,sB)])],λ(x:Int×Int×(Int×Int×LI×LI×LI×Unit)×Int×Unit)=>sparselaw39_InertiaRefuses_J3 m x.1 x.2.1 x.2.2.1.1 x.2.2.1.2.1 x.2.2.1.2.2.1 x.2.2.1.2.2.2.1 x.2.2.1.2.2.2.2.1 x.2.2.2.1⟩
def sparselaw39_InertiaRefuses_J3_ok {E:Entry} (hE:EOf prog E 198 sparselaw39_InertiaRefuses_H.pins) (m:Nat):q02 prog E sparselaw39_InertiaRefuses_D11 (sparselaw39_InertiaRefuses_J3_X m):=
 jok hmix htt hE (sparselaw39_InertiaRefuses_K m) (L:=[sparselaw39_InertiaRefuses_J4_X m]) (sparselaw39_InertiaRefuses_J3_X m) 0 (l:=[]) [1013] (jl:=[(1013,sparselaw39_InertiaRefuses_D13)]) kR kR (λ_ _=>⟨qi ⟨yb (sparselaw39_InertiaRefuses_J4_ok hE m),trivial⟩,trivial⟩) kR (λ_ _=>trivial) (λx=>kR)
def sparselaw39_InertiaRefuses_J2_X:LoopT:=⟨1008,[(3,sU),(4,sI),(5,sI),(13,sX 0 [iI,iI,iM 1,iM 2,.nm 3 (.int .u64)])],[(.ret,[(12,sB)])],λ(x:Int×Int×Int×(Int×Int×LI×LI×LI×Unit)×Unit)=>sparselaw39_InertiaRefuses_J2 m x.1 x.2.1 x.2.2.1 x.2.2.2.1.1 x.2.2.2.1.2.1 x.2.2.2.1.2.2.1 x.2.2.2.1.2.2.2.1 x.2.2.2.1.2.2.2.2.1⟩
def sparselaw39_InertiaRefuses_J2_ok {E:Entry} (hE:EOf prog E 198 sparselaw39_InertiaRefuses_H.pins) (m:Nat):q02 prog E sparselaw39_InertiaRefuses_D8 (sparselaw39_InertiaRefuses_J2_X m):=
 jok hmix htt hE (sparselaw39_InertiaRefuses_K m) (L:=[sparselaw39_InertiaRefuses_J3_X m]) (sparselaw39_InertiaRefuses_J2_X m) 0 (l:=[]) [1011] (jl:=[(1011,sparselaw39_InertiaRefuses_D11)]) kR kR (λ_ _=>⟨qi ⟨yb (sparselaw39_InertiaRefuses_J3_ok hE m),trivial⟩,trivial⟩) kR (λ_ _=>trivial) (λx=>kR)
def sparselaw39_InertiaRefuses_J1_X:LoopT:=⟨1006,[(0,h73),(3,sU),(4,sI),(5,sI),(13,sX 0 [iI,iI,iM 1,iM 2,.nm 3 (.int .u64)])],[(.ret,[(12,sB)])],λ(x:LI×Int×Int×Int×(Int×Int×LI×LI×LI×Unit)×Unit)=>sparselaw39_InertiaRefuses_J1 m x.1 x.2.1 x.2.2.1 x.2.2.2.1 x.2.2.2.2.1.1 x.2.2.2.2.1.2.1 x.2.2.2.2.1.2.2.1 x.2.2.2.2.1.2.2.2.1 x.2.2.2.2.1.2.2.2.2.1⟩
def sparselaw39_InertiaRefuses_J1_ok {E:Entry} (hE:EOf prog E 198 sparselaw39_InertiaRefuses_H.pins) (m:Nat):q02 prog E sparselaw39_InertiaRefuses_D6 (sparselaw39_InertiaRefuses_J1_X m):=
 jok hmix htt hE (sparselaw39_InertiaRefuses_K m) (L:=[sparselaw39_InertiaRefuses_J2_X m]) (sparselaw39_InertiaRefuses_J1_X m) 0 (l:=[]) [1008] (jl:=[(1008,sparselaw39_InertiaRefuses_D8)]) kR kR (λ_ _=>⟨qi ⟨yb (sparselaw39_InertiaRefuses_J2_ok hE m),trivial⟩,trivial⟩) kR (λ_ _=>trivial) (λx=>kR)
def sparselaw39_InertiaRefuses_J0_X:LoopT:=⟨1004,[(0,h73),(1,sI),(3,sU),(4,sI),(5,sI),(13,sX 0 [iI,iI,iM 1,iM 2,.nm 3 (.int .u64)])],[(.ret,[(12,sB)])],λ(x:LI×Int×Int×Int×Int×(Int×Int×LI×LI×LI×Unit)×Unit)=>sparselaw39_InertiaRefuses_J0 m x.1 x.2.1 x.2.2.1 x.2.2.2.1 x.2.2.2.2.1 x.2.2.2.2.2.1.1 x.2.2.2.2.2.1.2.1 x.2.2.2.2.2.1.2.2.1 x.2.2.2.2.2.1.2.2.2.1 x.2.2.2.2.2.1.2.2.2.2.1⟩
def sparselaw39_InertiaRefuses_J0_ok {E:Entry} (hE:EOf prog E 198 sparselaw39_InertiaRefuses_H.pins) (m:Nat):q02 prog E sparselaw39_InertiaRefuses_D4 (sparselaw39_InertiaRefuses_J0_X m):=
 jok hmix htt hE (sparselaw39_InertiaRefuses_K m) (L:=[sparselaw39_InertiaRefuses_J1_X m]) (sparselaw39_InertiaRefuses_J0_X m) 0 (l:=[]) [1006] (jl:=[(1006,sparselaw39_InertiaRefuses_D6)]) kR kR (λ_ _=>⟨qi ⟨yb (sparselaw39_InertiaRefuses_J1_ok hE m),trivial⟩,trivial⟩) kR (λ_ _=>trivial) (λx=>kR)
def sparselaw39_InertiaRefuses_ok:FO (sparselaw39_InertiaRefuses_T m):=
 fokJ hmix htt (H:=sparselaw39_InertiaRefuses_H) (sparselaw39_InertiaRefuses_T m) func10 kR (sparselaw39_InertiaRefuses_K m) (L:=[sparselaw39_InertiaRefuses_J0_X m]) (l:=[]) [1004] (jl:=[(1004,sparselaw39_InertiaRefuses_D4)]) kR kR (λ_ hE _ _=>⟨qi ⟨yb (sparselaw39_InertiaRefuses_J0_ok hE m),trivial⟩,trivial⟩) kR (λ_ hE _ _=>trivial) (λx=>kR)
end
end Go.Vs.F
