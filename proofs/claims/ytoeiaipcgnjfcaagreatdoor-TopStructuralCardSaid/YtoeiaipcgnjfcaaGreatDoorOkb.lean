import Derived.Test.YtoeiaipcgnjfcaaGreatDoorOka
set_option linter.unusedSimpArgs false
set_option linter.unusedSectionVars false
set_option linter.unusedVariables false
set_option maxRecDepth 100000
set_option linter.defProp false
namespace Go.Vs.F
open Go.Proofs
open Tryz
section
variable (m:Nat)
def g276H:Hints:=⟨[J [0,2],J [0,2,4],J' [(0,1)] [0],J [0,2],J [0,2,8],J' [(0,1)] [0,2],J' [(0,1)] [0,2],J' [(0,1),(1,1)] [2]],[],[],[2],[],[[false]]⟩
def g276T:FunT:=⟨276,[hF4],sI,[sD],λx=>g276 m x.1⟩
def g276ok:FO (g276T m):=fk g276H (g276T m) func276 noF
def g209H:Hints:=⟨[J [1],J [3],J [3,9],J [2],J [2]],[],[],[2],[],[[false]]⟩
def g209T:FunT:=⟨209,[hV3],sI,[sD],λx=>g209 m x.1.1 x.1.2.1⟩
def g209ok:FO (g209T m):=fk g209H (g209T m) func209 (AllF.mem (l:=[g215T m,g276T m]) ⟨g215ok m,g276ok m,trivial⟩)
def g133H:Hints:=⟨[J [1,2,4],J [1,2,4,5],J [1,2,4,5,13],J [4],J [1,2,4,5,16],J [4],J [1,2,4,5,6],J' [(0,1)] [2,4,5,6,7],J [2,4,5,6,7],J' [(1,1)] [2,4,5,7],J' [(2,1)] [2,4,5,7,36],J [4],J [4,5,7],J' [(1,1)] [4]],[],[],[4],[],[[false,false,false,false]]⟩
def g133T:FunT:=⟨133,[hV3,sI],h62,[sD,sD],λx=>g133 m x.1.1 x.1.2.1 x.2.1⟩
def g133ok:FO (g133T m):=fk g133H (g133T m) func133 (AllF.mem (l:=[g206T m,g138T m,g207T m,g136T m,g208T m,g209T m]) ⟨g206ok m,g138ok m,g207ok m,g136ok m,g208ok m,g209ok m,trivial⟩)
def g60H:Hints:=⟨[J [0,2],J' [(0,1)] [2]],[],[],[2],[],[[false,false,false,false]]⟩
def g60T:FunT:=⟨60,[sI],h62,[sD],λx=>g60 m x.1⟩
def g60ok:FO (g60T m):=fk g60H (g60T m) func60 (AllF.mem (l:=[g134T m,g133T m]) ⟨g134ok m,g133ok m,trivial⟩)
def g135H:Hints:=⟨[J [1,2],J [1,2,4],J [2],J [2]],[],[],[2],[],[[false,false,false,false]]⟩
def g135T:FunT:=⟨135,[h62],h62,[sD],λx=>g135 m x.1.1 x.1.2.1 x.1.2.2.1 x.1.2.2.2.1⟩
def g135ok:FO (g135T m):=fk g135H (g135T m) func135 (AllF.mem (l:=[g138T m,g133T m]) ⟨g138ok m,g133ok m,trivial⟩)
def g140H:Hints:=⟨[J [1],J [1],J [1,5],J [2],J [10],J [2],J [2]],[],[(0,[])],[2],[],[[false]]⟩
def g140T:FunT:=⟨140,[hV3],sI,[sD],λx=>g140 m x.1.1 x.1.2.1⟩
def g140ok:FO (g140T m):=fk g140H (g140T m) func140 (AllF.mem (l:=[g206T m]) ⟨g206ok m,trivial⟩)
def g106H:Hints:=⟨[J [1,2,4],J [1,2,4],J' [(2,1)] [1,2,4,14],J [4],J' [(2,1)] [1,2,4,21],J [4],J' [(4,1)] [4]],[],[],[4],[],[[false,false,false,false]]⟩
def g106T:FunT:=⟨106,[h62,sI],h62,[sD,sD],λx=>g106 m x.1.1 x.1.2.1 x.1.2.2.1 x.1.2.2.2.1 x.2.1⟩
def g106ok:FO (g106T m):=fk g106H (g106T m) func106 (AllF.mem (l:=[g135T m,g140T m,g138T m,g133T m]) ⟨g135ok m,g140ok m,g138ok m,g133ok m,trivial⟩)
def g214H:Hints:=⟨[J [0,1],J' [(0,1)] [1,5],J' [(0,1)] [4],J' [(0,1)] [4]],[],[],[4],[],[[false]]⟩
def g214T:FunT:=⟨214,[sB,sU],sU,[sD,sD],λx=>g214 m x.1 x.2.1⟩
def g214ok:FO (g214T m):=fk g214H (g214T m) func214 noF
def g211H:Hints:=⟨[J [0,1],J' [(2,1),(5,1),(10,1),(13,1)] [0,21],J' [(0,1)] [4],J' [(0,1)] [4]],[],[],[4],[],[[false]]⟩
def g211T:FunT:=⟨211,[sB,sI],sU,[sD,sD],λx=>g211 m x.1 x.2.1⟩
def g211ok:FO (g211T m):=fk g211H (g211T m) func211 (AllF.mem (l:=[g214T m]) ⟨g214ok m,trivial⟩)
def g289H:Hints:=⟨[J [1,2],J' [(3,1),(5,1)] [6],J' [(0,1)] [4]],[],[],[4],[],[[false]]⟩
def g289T:FunT:=⟨289,[hV3,sI],sB,[sD,sD],λx=>g289 m x.1.1 x.1.2.1 x.2.1⟩
def g289ok:FO (g289T m):=fk g289H (g289T m) func289 (AllF.mem (l:=[g215T m,g220T m]) ⟨g215ok m,g220ok m,trivial⟩)
def g290H:Hints:=⟨[J [0,1,2,3],J' [(0,1)] [0,1,2,9],J [0,1,2,9,10],J' [(0,1)] [8],J [0,1,2,9,13],J' [(0,1)] [8],J [1,2,17],J [8],J' [(2,1),(5,1),(6,1)] [8]],[],[(0,[1,2])],[8],[],[[false]]⟩
def g290T:FunT:=⟨290,[sB,sI,sB,sI],sB,[sD,sD,sD,sD],λx=>g290 m x.1 x.2.1 x.2.2.1 x.2.2.2.1⟩
def g290ok:FO (g290T m):=fk g290H (g290T m) func290 noF
def g212H:Hints:=⟨[J [0,2,3,4,6,10],J [0,2,3,4,6,10,11],J [0,2,3,4,6,10,11,12],J' [(0,1),(2,1)] [0,2,3,4,6,10,11,27],J [10],J [0,2,3,4,6,10,11,13],J [0,2,3,4,6,10,11,13,30],J [0,2,3,4,6,10,11,13,14],J' [(3,1)] [0,2,3,4,6,10,11,13,42],J [0,2,3,4,6,10,11,13],J' [(0,1),(1,1),(3,1)] [0,4,10,11,13,49],J [0,4,10,11,13],J' [(3,1)] [0,4,10,11,13,15],J' [(0,1),(1,1),(2,1),(3,1)] [10,11,62],J [10,11],J [10]],[],[],[10],[],[[false,false]]⟩
def g212T:FunT:=⟨212,[sB,hV3,sI,sB,sI],hV3,[sD,sD,sD,sD,sD],λx=>g212 m x.1 x.2.1.1 x.2.1.2.1 x.2.2.1 x.2.2.2.1 x.2.2.2.2.1⟩
def g212ok:FO (g212T m):=fk g212H (g212T m) func212 (AllF.mem (l:=[g208T m,g289T m,g207T m,g140T m,g290T m,g134T m,g142T m]) ⟨g208ok m,g289ok m,g207ok m,g140ok m,g290ok m,g134ok m,g142ok m,trivial⟩)
def g213H:Hints:=⟨[J [1],J [1],J [1,11],J [2,3],J [1,4],J [1,4,5],J [1,4,5,16],J' [(0,1)] [1,4,5],J' [(0,1)] [1,4,5],J [4,31],J [4,33],J [2,3],J' [(0,1)] [2,3],J [4,40],J [2,3],J' [(0,1)] [2,3]],[(0,[1,4,5])],[(0,[1,4]),(1,[1,4,5])],[2,3],[],[[false],[false]]⟩
def g213T:FunT:=⟨213,[hV3],.tup [(.c (.int .i64)),(.c .bool)],[sD],λx=>g213 m x.1.1 x.1.2.1⟩
noncomputable def g213C:Code:=codeOf f213
noncomputable def g213B0:Code:=ql g213C 0 0
def g213K:FL [g206T m]:=AllF.mem ⟨g206ok m,trivial⟩
def g213L0X:LT:=⟨0,[(1,sX 0 [.bool,.imm (.int .u32)]),(4,sU),(5,sI)],[(.exit 0,[(1,sX 0 [.bool,.imm (.int .u32)]),(4,sU)])],λn x=>g213L0 m n x.1.1 x.1.2.1 x.2.1 x.2.2.1⟩
def g213L0ok {E} (hE:EO E 43 g213H) (n):LO E g213B0 ((g213L0X m).at n):=lk hE (g213K m) (g213L0X m) n
def g213ok:FO (g213T m):=f1' g213H (g213T m) func213 (g213K m) λ_ h=>g213L0ok m h m
def g141H:Hints:=⟨[J [0,2,3,4,6],J [0,2,3,4,6,11],J [0,2,3,4,6,11,22],J' [(0,1),(1,1)] [10],J' [(0,1)] [0,2,3,4,6,12],J [0,2,3,4,6,12,13],J [0,2,3,4,6,12,13,31],J' [(3,1),(5,1)] [0,4,12,13],J' [(1,1)] [0,4,12,13],J' [(2,1)] [0,4,12,14],J [0,4,12,14,51],J [0,4,12,14],J' [(0,1)] [0,4,12,14],J' [(2,1)] [0,4,12,14,54],J' [(0,1),(1,1)] [10],J [0,12,14,65],J' [(0,1),(1,1),(5,1)] [10],J' [(0,1),(1,1)] [10]],[],[(0,[0,14])],[10],[],[[false]]⟩
def g141T:FunT:=⟨141,[sB,hV3,sI,sB,sI],sU,[sD,sD,sD,sD,sD],λx=>g141 m x.1 x.2.1.1 x.2.1.2.1 x.2.2.1 x.2.2.2.1 x.2.2.2.2.1⟩
def g141ok:FO (g141T m):=fk g141H (g141T m) func141 (AllF.mem (l:=[g209T m,g211T m,g212T m,g213T m,g214T m,g143T m]) ⟨g209ok m,g211ok m,g212ok m,g213ok m,g214ok m,g143ok m,trivial⟩)
def g64H:Hints:=⟨[J [1,2],J [1,2],J [1,2,8],J [4],J [1,2,12],J [4],J' [(8,1)] [4]],[],[],[4],[],[[false]]⟩
def g64T:FunT:=⟨64,[h62,sI],sU,[sD,sD],λx=>g64 m x.1.1 x.1.2.1 x.1.2.2.1 x.1.2.2.2.1 x.2.1⟩
def g64ok:FO (g64T m):=fk g64H (g64T m) func64 (AllF.mem (l:=[g135T m,g140T m,g136T m,g141T m]) ⟨g135ok m,g140ok m,g136ok m,g141ok m,trivial⟩)
def g38H:Hints:=⟨[J [0],J [0,3],J [0,3,4],J' [(0,1)] [3,4,5],J [3,4,5,15],J' [(0,1)] [3,4],J' [(0,1),(2,1)] [2]],[],[],[2],[],[[false]]⟩
def g38T:FunT:=⟨38,[sI],sU,[sD],λx=>g38 m x.1⟩
def g38ok:FO (g38T m):=fk g38H (g38T m) func38 (AllF.mem (l:=[g8T m,g60T m,g106T m,g64T m]) ⟨g8ok m,g60ok m,g106ok m,g64ok m,trivial⟩)
def g39H:Hints:=⟨[J [0,1,2,6],J [0,1,2,6,7],J [0,1,2,6,7,8],J [0,1,2,6,7,8,9],J [0,1,2,6,7,8,9,24],J' [(0,1)] [0,1,2,6,7,8,9],J [0,1,2,6,7,8,9],J [0,1,2,6,7,8,10],J [0,1,2,6,7,8,10,46],J' [(0,1)] [0,1,2,6,7,8,10],J [0,1,2,6,7,8,10,11],J [0,1,2,6,7,8,10,11,51],J' [(0,1)] [0,1,2,6,7,8,10,11],J [0,1,2,6,7,8,10,11,12],J [0,1,2,6,7,8,10,11,12,63],J' [(1,1)] [0,1,2,6,7,8,10,11,12],J' [(3,1),(9,3)] [0,1,2,6,7,8,10,11],J' [(1,1)] [0,1,2,6,7,8,10],J' [(0,1)] [6]],[(0,[0,1,2,6,7,8,9]),(2,[0,1,2,6,7,8,10]),(4,[0,1,2,6,7,8,10,11])],[(0,[0,1,2,6,7,8]),(1,[0,1,2,6,7,8,9]),(2,[6,7]),(3,[0,1,2,6,7,8,10]),(4,[0,1,2,6,7,8,10]),(5,[0,1,2,6,7,8,10,11])],[6],[],[[false,false,true,true,true]]⟩
def g39T:FunT:=⟨39,[sI,sI,h91],hY1,[sD,sD,sD],λx=>g39 m x.1 x.2.1 x.2.2.1⟩
noncomputable def g39C:Code:=codeOf f39
noncomputable def g39B0:Code:=ql g39C 0 0
noncomputable def g39B2:Code:=ql g39C 0 1
noncomputable def g39B4:Code:=ql g39B2 2 0
def g39L2X:LT:=⟨4,[(0,sI),(1,sI),(2,h91),(6,sX 0 [iI,iI,iM 1,iM 2,.nm 3 (.int .u64)]),(7,sX 4 [iI,iI,iM 5,iM 6,.nm 7 (.int .u64)]),(8,sN 8),(10,sI),(11,sI)],[(.exit 4,[(0,sI),(1,sI),(2,h91),(6,sX 0 [iI,iI,iM 1,iM 2,.nm 3 (.int .u64)]),(7,sX 4 [iI,iI,iM 5,iM 6,.nm 7 (.int .u64)]),(8,sN 8),(10,sI)])],λn x=>g39L2 m n x.1 x.2.1 x.2.2.1 x.2.2.2.1.1 x.2.2.2.1.2.1 x.2.2.2.1.2.2.1 x.2.2.2.1.2.2.2.1 x.2.2.2.1.2.2.2.2.1 x.2.2.2.2.1.1 x.2.2.2.2.1.2.1 x.2.2.2.2.1.2.2.1 x.2.2.2.2.1.2.2.2.1 x.2.2.2.2.1.2.2.2.2.1 x.2.2.2.2.2.1 x.2.2.2.2.2.2.1 x.2.2.2.2.2.2.2.1⟩
def g39L2ok {E} (hE:EO E 90 g39H) (n):LO E g39B4 ((g39L2X m).at n):=lk hE noF (g39L2X m) n
def g39L1X:LT:=⟨2,[(0,sI),(1,sI),(2,h91),(6,sX 0 [iI,iI,iM 1,iM 2,.nm 3 (.int .u64)]),(7,sX 4 [iI,iI,iM 5,iM 6,.nm 7 (.int .u64)]),(8,sN 8),(10,sI)],[(.exit 2,[(6,sX 0 [iI,iI,iM 1,iM 2,.nm 3 (.int .u64)]),(7,sX 4 [iI,iI,iM 5,iM 6,.nm 7 (.int .u64)])])],λn x=>g39L1 m n x.1 x.2.1 x.2.2.1 x.2.2.2.1.1 x.2.2.2.1.2.1 x.2.2.2.1.2.2.1 x.2.2.2.1.2.2.2.1 x.2.2.2.1.2.2.2.2.1 x.2.2.2.2.1.1 x.2.2.2.2.1.2.1 x.2.2.2.2.1.2.2.1 x.2.2.2.2.1.2.2.2.1 x.2.2.2.2.1.2.2.2.2.1 x.2.2.2.2.2.1 x.2.2.2.2.2.2.1⟩
def g39L1ok {E} (hE:EO E 90 g39H) (n):LO E g39B2 ((g39L1X m).at n):=
 lok hmix htt hE noF (L:=[(g39L2X m).at m]) (g39L1X m) (l:=[(4,g39B4)]) kR (λ_ _=>⟨qj ⟨yb (g39L2ok m hE m),trivial⟩,trivial⟩) (λn x=>kR) (λ_=>kR) n
def g39L0X:LT:=⟨0,[(0,sI),(1,sI),(2,h91),(6,sX 0 [iI,iI,iM 1,iM 2,.nm 3 (.int .u64)]),(7,sX 4 [iI,iI,iM 5,iM 6,.nm 7 (.int .u64)]),(8,sN 8),(9,sI)],[(.exit 0,[(0,sI),(1,sI),(2,h91),(6,sX 0 [iI,iI,iM 1,iM 2,.nm 3 (.int .u64)]),(7,sX 4 [iI,iI,iM 5,iM 6,.nm 7 (.int .u64)]),(8,sN 8)])],λn x=>g39L0 m n x.1 x.2.1 x.2.2.1 x.2.2.2.1.1 x.2.2.2.1.2.1 x.2.2.2.1.2.2.1 x.2.2.2.1.2.2.2.1 x.2.2.2.1.2.2.2.2.1 x.2.2.2.2.1.1 x.2.2.2.2.1.2.1 x.2.2.2.2.1.2.2.1 x.2.2.2.2.1.2.2.2.1 x.2.2.2.2.1.2.2.2.2.1 x.2.2.2.2.2.1 x.2.2.2.2.2.2.1⟩
def g39L0ok {E} (hE:EO E 90 g39H) (n):LO E g39B0 ((g39L0X m).at n):=lk hE noF (g39L0X m) n
def g39ok:FO (g39T m):=
 fok hmix htt (H:=g39H) (g39T m) func39 kR noF (L:=[(g39L0X m).at m,(g39L1X m).at m]) (l:=[(0,g39B0),(2,g39B2)]) kR (λ_ hE _ _=>⟨qj ⟨yb (g39L0ok m hE m),nb rfl,trivial⟩,qj ⟨nb rfl,yb (g39L1ok m hE m),trivial⟩,trivial⟩) (λx=>kR)
def g7H:Hints:=⟨[J [0,1,2,6],J [0,1,2,6,7],J [0,1,2,6,7,8],J' [(5,1),(9,1)] [0,1,2,6,7,8,21],J' [(0,1)] [0,1,2,6,7,8],J' [(0,1)] [0,1,2,6,7,8],J' [(0,1),(1,1),(2,1)] [6]],[(0,[0,1,2,6,7,8])],[(0,[0,1,6,7]),(1,[0,1,2,6,7,8])],[6],[],[[false,false,true,true,true]]⟩
def g7T:FunT:=⟨7,[sI,sI,sL],hY1,[sD,sD,sD],λx=>g7 m x.1 x.2.1 x.2.2.1⟩
noncomputable def g7C:Code:=codeOf f7
noncomputable def g7B0:Code:=ql g7C 0 0
def g7K:FL [g8T m,g38T m,g39T m]:=AllF.mem ⟨g8ok m,g38ok m,g39ok m,trivial⟩
def g7L0X:LT:=⟨0,[(0,sI),(1,sI),(2,sL),(6,sX 0 [iI,iI,iM 1,iM 2,.nm 3 (.int .u64)]),(7,h71),(8,sI)],[(.exit 0,[(0,sI),(1,sI),(6,sX 0 [iI,iI,iM 1,iM 2,.nm 3 (.int .u64)]),(7,h71)])],λn x=>g7L0 m n x.1 x.2.1 x.2.2.1 x.2.2.2.1.1 x.2.2.2.1.2.1 x.2.2.2.1.2.2.1 x.2.2.2.1.2.2.2.1 x.2.2.2.1.2.2.2.2.1 x.2.2.2.2.1 x.2.2.2.2.2.1⟩
def g7L0ok {E} (hE:EO E 51 g7H) (n):LO E g7B0 ((g7L0X m).at n):=lk hE (g7K m) (g7L0X m) n
def g7ok:FO (g7T m):=f1' g7H (g7T m) func7 (g7K m) λ_ h=>g7L0ok m h m
def g116H:Hints:=⟨[J [0],J [0,3],J' [(2,1)] [0,3,15],J' [(0,1)] [0,3],J' [(0,1),(1,1)] [2]],[(0,[0,3])],[(0,[0,3]),(1,[0,3])],[2],[],[[false]]⟩
def g116T:FunT:=⟨116,[h53],h53,[sD],λx=>g116 m x.1⟩
noncomputable def g116C:Code:=codeOf f116
noncomputable def g116B0:Code:=ql g116C 0 0
def g116L0X:LT:=⟨0,[(0,h53),(3,sI)],[(.exit 0,[(0,h53),(3,sI)])],λn x=>g116L0 m n x.1 x.2.1⟩
def g116L0ok {E} (hE:EO E 21 g116H) (n):LO E g116B0 ((g116L0X m).at n):=lk hE noF (g116L0X m) n
def g116ok:FO (g116T m):=f1' g116H (g116T m) func116 noF λ_ h=>g116L0ok m h m
def g117H:Hints:=⟨[J [0,1,4],J' [(0,1)] [0,1,4],J [0,1,4,9],J [4],J' [(0,1),(1,1)] [4]],[],[],[4],[],[[false,false]]⟩
def g117T:FunT:=⟨117,[sB,h53],hV3,[sD,sD],λx=>g117 m x.1 x.2.1⟩
def g117ok:FO (g117T m):=fk g117H (g117T m) func117 (AllF.mem (l:=[g116T m]) ⟨g116ok m,trivial⟩)
def g111H:Hints:=⟨[J [0,2],J [0,2,3],J [0,2,3,7],J' [(0,1)] [0,2,3],J' [(0,1)] [2]],[],[],[2],[],[[false,false]]⟩
def g111T:FunT:=⟨111,[sI],hV3,[sD],λx=>g111 m x.1⟩
def g111ok:FO (g111T m):=fk g111H (g111T m) func111 (AllF.mem (l:=[g117T m]) ⟨g117ok m,trivial⟩)
def g112H:Hints:=⟨[J [0],J' [(0,1)] [2]],[],[],[2],[],[[false]]⟩
def g112T:FunT:=⟨112,[sU],sB,[sD],λx=>g112 m x.1⟩
def g112ok:FO (g112T m):=fk g112H (g112T m) func112 noF
def g125H:Hints:={regs:=[J [0],J [0],J [2],J [2]],heads:=[],exits:=[],rets:=[2],pins:=[],spec:=[[true]]}
abbrev g125A:List Sh:=[h53]
abbrev g125S:Sh:= hY3
abbrev g125U:List Sh:=[sD]
def g125R:X5 g125A->Option (g125S.Val×X5 g125U):=λx=>g125 m x.1
def g125T:FunT:=⟨125,g125A,g125S,g125U,g125R m⟩
noncomputable def g125C:Code:=codeOf f125
def g125ok:FO (g125T m):=
 qdr hmix htt (H:=g125H) (fn:=f125) (f:=125) (t:=(.int .u32)) (ty:=85) (e:=186) (ty2:=85) (k:=1) (cells:=[.nil (.int .u32)]) (A:=pA g125C) (X:=pX (pB (pA (pB g125C)))) (Y:=pB (pB g125C)) (o0:=pO 0 (pA (pA (pB g125C)))) (o1:=pO 1 (pA (pA (pB g125C)))) func125 kR kR kR kR kR kR kR kR kR (of_decide_eq_true kR) rfl kR kR kR (λxs=>[(0,.sl .imm (.int .u32) xs)]) (λxs=>[(2,.sl (.nm 0) (.int .u32) xs)]) (λxs=>kR) (λ_=>rfl) (λ_=>rfl) (λ_=>rfl) kR (λxs=>kR) (λxs=>kR)
def g50H:Hints:=⟨[J [1,2],J [2]],[],[],[2],[],[[false,false]]⟩
def g50T:FunT:=⟨50,[hV3],hV3,[sD],λx=>g50 m x.1.1 x.1.2.1⟩
def g50ok:FO (g50T m):=fk g50H (g50T m) func50 (AllF.mem (l:=[g125T m,g117T m]) ⟨g125ok m,g117ok m,trivial⟩)
def g191H:Hints:=⟨[J [0],J [0]],[],[],[0],[],[[false,false,true,false]]⟩
def g191T:FunT:=⟨191,[],h52,[],λx=>g191 m⟩
def g191ok:FO (g191T m):=fk g191H (g191T m) func191 noF
def g124H:Hints:=⟨[J [1,2],J [2]],[],[],[2],[],[[false,false]]⟩
def g124T:FunT:=⟨124,[hV3],hV3,[sD],λx=>g124 m x.1.1 x.1.2.1⟩
def g124ok:FO (g124T m):=fk g124H (g124T m) func124 (AllF.mem (l:=[g125T m,g117T m]) ⟨g125ok m,g117ok m,trivial⟩)
def g115H:Hints:=⟨[J [1],J [1,3],J [2],J [9],J [2],J [2]],[],[(0,[])],[2],[],[[false]]⟩
def g115T:FunT:=⟨115,[hV3],sI,[sD],λx=>g115 m x.1.1 x.1.2.1⟩
def g115ok:FO (g115T m):=fk g115H (g115T m) func115 (AllF.mem (l:=[g116T m]) ⟨g116ok m,trivial⟩)
def g192H:Hints:=⟨[J [1],J [6,7,8],J [6,7,8,9],J [3,4,6,7,8],J [3,4,6,7,8,14],J' [(0,1),(2,1)] [2],J' [(1,1)] [6,7,8],J [2]],[(0,[6,7,8])],[(0,[]),(1,[6,7,8])],[2],[],[[false]]⟩
def g192T:FunT:=⟨192,[hV3],sI,[sD],λx=>g192 m x.1.1 x.1.2.1⟩
noncomputable def g192C:Code:=codeOf f192
noncomputable def g192B0:Code:=ql g192C 0 0
def g192K:FL [g278T m]:=AllF.mem ⟨g278ok m,trivial⟩
def g192L0X:LT:=⟨0,[(6,h53),(7,sI),(8,sI)],[(.ret,[(2,sI)]),(.exit 0,[])],λn x=>g192L0 m n x.1 x.2.1 x.2.2.1⟩
def g192L0ok {E} (hE:EO E 21 g192H) (n):LO E g192B0 ((g192L0X m).at n):=lk hE (g192K m) (g192L0X m) n
def g192ok:FO (g192T m):=f1' g192H (g192T m) func192 (g192K m) λ_ h=>g192L0ok m h m
def g279H:Hints:=⟨[J [0],J [0,5],J [2],J [2]],[],[],[2],[],[[false]]⟩
def g279T:FunT:=⟨279,[h53],sI,[sD],λx=>g279 m x.1⟩
def g279ok:FO (g279T m):=fk g279H (g279T m) func279 (AllF.mem (l:=[g276T m]) ⟨g276ok m,trivial⟩)
def g193H:Hints:=⟨[J [1],J [2]],[],[],[2],[],[[false]]⟩
def g193T:FunT:=⟨193,[hV3],sI,[sD],λx=>g193 m x.1.1 x.1.2.1⟩
def g193ok:FO (g193T m):=fk g193H (g193T m) func193 (AllF.mem (l:=[g116T m,g279T m]) ⟨g116ok m,g279ok m,trivial⟩)
def g118H:Hints:=⟨[J [0,1],J [0,1,13],J [4],J [0,5,6],J [0,5,6,7],J' [(0,1)] [5,6,7,25,26,27],J [5,6,7,25,26,27,28],J [5,6,7,8,9,25,26,27],J' [(0,1)] [5,6,7,8,10,25,26,27],J [5,6,7,8,10,25,26,27],J' [(2,1),(5,1)] [5,6,7,25,26,27],J' [(1,1)] [5,6,7,25,26,27],J' [(0,1)] [4]],[(0,[5,6,7,25,26,27])],[(0,[7]),(1,[5,6,7,25,26,27])],[4],[],[[false]]⟩
def g118T:FunT:=⟨118,[h53,sI],h53,[sD,sD],λx=>g118 m x.1 x.2.1⟩
noncomputable def g118C:Code:=codeOf f118
noncomputable def g118B0:Code:=ql g118C 0 0
def g118K:FL [g116T m]:=AllF.mem ⟨g116ok m,trivial⟩
def g118L0X:LT:=⟨0,[(5,sI),(6,sU),(7,hY3),(25,h53),(26,sI),(27,sI)],[(.exit 0,[(7,hY3)])],λn x=>g118L0 m n x.1 x.2.1 x.2.2.1 x.2.2.2.1 x.2.2.2.2.1 x.2.2.2.2.2.1⟩
def g118L0ok {E} (hE:EO E 59 g118H) (n):LO E g118B0 ((g118L0X m).at n):=lk hE (g118K m) (g118L0X m) n
def g118ok:FO (g118T m):=f1' g118H (g118T m) func118 (g118K m) λ_ h=>g118L0ok m h m
def g196H:Hints:=⟨[J [0],J' [(0,1)] [2]],[],[],[2],[],[[false]]⟩
def g196T:FunT:=⟨196,[hF4],sB,[sD],λx=>g196 m x.1⟩
def g196ok:FO (g196T m):=fk g196H (g196T m) func196 noF
def g280H:Hints:=⟨[J [0,1],J [0,1,7,8],J [0,1,7,8,9],J [0,1,5,7,8],J [0,1,5,7,8,16],J' [(0,1)] [4],J' [(1,1)] [0,1,7,8],J [4]],[(0,[0,1,7,8])],[(0,[]),(1,[0,1,7,8])],[4],[],[[false]]⟩
def g280T:FunT:=⟨280,[h53,hJ4],sI,[sD,sD],λx=>g280 m x.1⟩
noncomputable def g280C:Code:=codeOf f280
noncomputable def g280B0:Code:=ql g280C 0 0
def g280K:FL [g196T m]:=AllF.mem ⟨g196ok m,trivial⟩
def g280L0X:LT:=⟨0,[(0,h53),(1,hJ4),(7,sI),(8,sI)],[(.ret,[(4,sI)]),(.exit 0,[])],λn x=>g280L0 m n x.1 x.2.2.1 x.2.2.2.1⟩
def g280L0ok {E} (hE:EO E 19 g280H) (n):LO E g280B0 ((g280L0X m).at n):=lk hE (g280K m) (g280L0X m) n
def g280ok:FO (g280T m):=f1' g280H (g280T m) func280 (g280K m) λ_ h=>g280L0ok m h m
def g195H:Hints:=⟨[J [0,1],J' [(0,1),(1,1)] [4]],[],[],[4],[],[[false]]⟩
def g195T:FunT:=⟨195,[h53,hJ4],sB,[sD,sD],λx=>g195 m x.1⟩
def g195ok:FO (g195T m):=fk g195H (g195T m) func195 (AllF.mem (l:=[g280T m]) ⟨g280ok m,trivial⟩)
def g119H:Hints:=⟨[J [0,1],J [0,6,7],J [0,6,7,20],J' [(0,1)] [4,5],J' [(4,1)] [0,6,7,8],J [0,6,7,8,9],J [0,6,7,8,9,45,46],J [0,6,7,8,9,45,46,47],J [0,6,7,8,9,10,45,46],J [0,6,7,8,9,10,11,45,46],J [0,6,7,8,9,10,11,45,46,62],J' [(0,1)] [0,6,7,8,9,10,11,45,46],J' [(1,1),(2,1)] [0,6,7,8,9,45,46],J' [(1,1)] [0,6,7,8,9,45,46],J' [(0,1),(2,1)] [4,5]],[(0,[0,6,7,8,9,45,46])],[(0,[8,9]),(1,[0,6,7,8,9,45,46])],[4,5],[],[[false],[false]]⟩
def g119T:FunT:=⟨119,[h53,sI],.tup [(.c (.imm (.int .u32))),(.c .bool)],[sD,sD],λx=>g119 m x.1 x.2.1⟩
noncomputable def g119C:Code:=codeOf f119
noncomputable def g119B0:Code:=ql g119C 0 0
def g119K:FL [g195T m,g116T m]:=AllF.mem ⟨g195ok m,g116ok m,trivial⟩
def g119L0X:LT:=⟨0,[(0,h53),(6,sI),(7,sU),(8,sB),(9,hY3),(45,sI),(46,sI)],[(.exit 0,[(8,sB),(9,hY3)])],λn x=>g119L0 m n x.1 x.2.1 x.2.2.1 x.2.2.2.1 x.2.2.2.2.1 x.2.2.2.2.2.1 x.2.2.2.2.2.2.1⟩
def g119L0ok {E} (hE:EO E 86 g119H) (n):LO E g119B0 ((g119L0X m).at n):=lk hE (g119K m) (g119L0X m) n
def g119ok:FO (g119T m):=f1' g119H (g119T m) func119 (g119K m) λ_ h=>g119L0ok m h m
def g120H:Hints:=⟨[J [0,1],J [0,1,14],J' [(0,1),(1,1)] [0,1],J [0,1,5],J [0,1,5,6],J' [(0,1)] [1,5,6,21,22,23],J [1,5,6,21,22,23,24],J [1,5,6,7,8,21,22,23],J' [(0,1),(2,1)] [1,5,7,9,21,22,23],J [1,5,7,9,21,22,23,35],J' [(0,1),(2,1)] [1,5,9,21,22,23],J' [(0,1)] [1,5,9,21,22,23],J' [(0,1)] [1,5,6,21,22,23],J' [(1,1)] [1,5,6,21,22,23],J' [(0,1),(1,1)] [4]],[(0,[1,5,6,21,22,23])],[(0,[5,6]),(1,[1,5,6,21,22,23])],[4],[],[[false]]⟩
def g120T:FunT:=⟨120,[h53,h53],h53,[sD,sD],λx=>g120 m x.1 x.2.1⟩
noncomputable def g120C:Code:=codeOf f120
noncomputable def g120B0:Code:=ql g120C 0 0
def g120K:FL [g116T m]:=AllF.mem ⟨g116ok m,trivial⟩
def g120L0X:LT:=⟨0,[(1,h53),(5,hY3),(6,sU),(21,h53),(22,sI),(23,sI)],[(.exit 0,[(5,hY3),(6,sU)])],λn x=>g120L0 m n x.1 x.2.1 x.2.2.1 x.2.2.2.1 x.2.2.2.2.1 x.2.2.2.2.2.1⟩
def g120L0ok {E} (hE:EO E 58 g120H) (n):LO E g120B0 ((g120L0X m).at n):=lk hE (g120K m) (g120L0X m) n
def g120ok:FO (g120T m):=f1' g120H (g120T m) func120 (g120K m) λ_ h=>g120L0ok m h m
def g44H:Hints:=⟨[J [1,2,4],J' [(2,1)] [1,2,4,14],J [4,5],J [1,2,4,6],J [1,2,4,6,20],J' [(2,1),(3,1)] [4,5],J' [(0,1),(1,1),(4,1)] [2,4,7,8],J' [(2,1),(3,1)] [2,4,7,38],J' [(0,1)] [2,4,7],J' [(2,1)] [4,5]],[],[],[4,5],[],[[false,false],[false]]⟩
def g44T:FunT:=⟨44,[hV3,sI],.tup [(.agg [.bool,(.imm (.int .u32))]),(.c (.int .i64))],[sD,sD],λx=>g44 m x.1.1 x.1.2.1 x.2.1⟩
def g44ok:FO (g44T m):=fk g44H (g44T m) func44 (AllF.mem (l:=[g116T m,g118T m,g117T m,g119T m,g120T m]) ⟨g116ok m,g118ok m,g117ok m,g119ok m,g120ok m,trivial⟩)
def g194H:Hints:=⟨[J [1,2,4],J [1,2,4,6],J' [(2,1)] [1,2,4],J' [(0,1)] [1,2,4],J' [(1,1),(4,1)] [2,4],J [4]],[(0,[1,2,4])],[(0,[1,2,4]),(1,[1,2,4])],[4],[],[[false,false]]⟩
def g194T:FunT:=⟨194,[hV3,sI],hV3,[sD,sD],λx=>g194 m x.1.1 x.1.2.1 x.2.1⟩
noncomputable def g194C:Code:=codeOf f194
noncomputable def g194B0:Code:=ql g194C 0 0
def g194K:FL [g44T m]:=AllF.mem ⟨g44ok m,trivial⟩
def g194L0X:LT:=⟨0,[(1,sI),(2,sX 0 [.bool,.imm (.int .u32)]),(4,sX 1 [.bool,.nm 2 (.int .u32)])],[(.exit 0,[(1,sI),(2,sX 0 [.bool,.imm (.int .u32)]),(4,sX 1 [.bool,.nm 2 (.int .u32)])])],λn x=>g194L0 m n x.1 x.2.1.1 x.2.1.2.1 x.2.2.1.1 x.2.2.1.2.1⟩
def g194L0ok {E} (hE:EO E 22 g194H) (n):LO E g194B0 ((g194L0X m).at n):=lk hE (g194K m) (g194L0X m) n
def g194ok:FO (g194T m):=f1' g194H (g194T m) func194 (g194K m) λ_ h=>g194L0ok m h m
def g114H:Hints:=⟨[J [1,2],J [1,2,7],J [2,3],J [1,2,4],J [1,2,4,14],J [2,3],J [1,2,4,5],J' [(6,1)] [1,2,4,5,30],J [2,3],J [2,3]],[],[],[2,3],[],[[false,false,false,false],[false]]⟩
def g114T:FunT:=⟨114,[h62],.tup [(.agg [.bool,.bool,(.imm (.int .u32)),(.int .i64)]),(.c .bool)],[sD],λx=>g114 m x.1.1 x.1.2.1 x.1.2.2.1 x.1.2.2.2.1⟩
def g114ok:FO (g114T m):=fk g114H (g114T m) func114 (AllF.mem (l:=[g191T m,g124T m,g115T m,g192T m,g193T m,g194T m]) ⟨g191ok m,g124ok m,g115ok m,g192ok m,g193ok m,g194ok m,trivial⟩)
def g113H:Hints:=⟨[J [1,2,4],J' [(1,1),(4,1)] [4,5],J [4]],[],[],[4],[],[[false,false,false,false]]⟩
def g113T:FunT:=⟨113,[hV3,sI],h62,[sD,sD],λx=>g113 m x.1.1 x.1.2.1 x.2.1⟩
def g113ok:FO (g113T m):=fk g113H (g113T m) func113 (AllF.mem (l:=[g114T m]) ⟨g114ok m,trivial⟩)
def g41H:Hints:=⟨[J [0,2],J' [(2,1)] [0,2,3,4],J [0,2,3,4,11],J' [(0,1)] [0,2,3,4],J' [(0,1)] [0,2,3,4],J [0,2,3,4,11,16],J [2],J [0,2,3,4,19],J [0,2,3,4],J' [(0,1)] [0,2,3,5],J' [(0,1)] [2,3,5,25],J [2,3,5],J' [(1,1)] [2]],[],[(0,[0,2,3,4])],[2],[],[[false,false,false,false]]⟩
def g41T:FunT:=⟨41,[sU],h62,[sD],λx=>g41 m x.1⟩
def g41ok:FO (g41T m):=fk g41H (g41T m) func41 (AllF.mem (l:=[g110T m,g111T m,g112T m,g50T m,g113T m]) ⟨g110ok m,g111ok m,g112ok m,g50ok m,g113ok m,trivial⟩)
def g42H:Hints:=⟨[J [1],J' [(2,1)] [1],J [2]],[],[],[2],[],[[false]]⟩
def g42T:FunT:=⟨42,[h62],sI,[sD],λx=>g42 m x.1.1 x.1.2.1 x.1.2.2.1 x.1.2.2.2.1⟩
def g42ok:FO (g42T m):=fk g42H (g42T m) func42 (AllF.mem (l:=[g114T m,g115T m]) ⟨g114ok m,g115ok m,trivial⟩)
def g9H:Hints:=⟨[J [1,3],J [1,3,4],J [1,3,4,15],J' [(0,1)] [2,3,4],J' [(3,1)] [1,3,19],J [2,3,4],J [1,3,5],J [1,3,5,29,30,31],J [1,3,5,29,30,31,32],J [1,3,5,7,29,30,31],J' [(0,1)] [1,3,5,8,29,30,31],J' [(3,1),(5,1)] [1,3,5,8,29,30,31,48],J [1,3,5,29,30,31],J' [(1,1)] [1,3,5,29,30,31],J' [(2,4)] [1,2,3],J [1,2,3,56,57],J [1,2,3,56,57,58],J [1,2,3,9,56,57],J' [(1,1),(6,4)] [1,2,3,56,57],J' [(1,1)] [1,2,3,56,57],J [2,3,68,69,70],J [2,3,68,69,70,71],J [2,3,11,68,69,70],J [2,3,11,12,68,69,70],J [2,3,11,12,68,69,70,79],J' [(14,1)] [2,3,68,69,70],J' [(1,1)] [2,3,68,69,70],J' [(0,1),(1,1)] [2,3,4]],[(1,[1,3,5,29,30,31]),(3,[1,2,3,56,57]),(5,[2,3,68,69,70])],[(0,[1,3]),(1,[1,3]),(2,[1,3,5,29,30,31]),(3,[1,2,3]),(4,[1,2,3,56,57]),(5,[2,3]),(6,[2,3,68,69,70])],[2,3,4],[],[[false],[false],[false]]⟩
def g9T:FunT:=⟨9,[h41],.tup [(.c (.imm (.sl false (.pr .bool (.sl false (.int .u32)))))),(.c (.int .i64)),(.c (.int .i64))],[sD],λx=>g9 m x.1.1 x.1.2.1 x.1.2.2.1 x.1.2.2.2.1 x.1.2.2.2.2.1⟩
noncomputable def g9C:Code:=codeOf f9
noncomputable def g9B1:Code:=ql g9C 0 0
noncomputable def g9B3:Code:=ql g9C 0 1
noncomputable def g9B5:Code:=ql g9C 0 2
def g9K:FL [g40T m,g41T m,g42T m,g43T m,g44T m]:=AllF.mem ⟨g40ok m,g41ok m,g42ok m,g43ok m,g44ok m,trivial⟩
def g9L2X:LT:=⟨5,[(2,h82),(3,sI),(68,h61),(69,sI),(70,sI)],[(.exit 5,[(2,h82),(3,sI)])],λn x=>g9L2 m n x.1 x.2.1 x.2.2.1 x.2.2.2.1 x.2.2.2.2.1⟩
def g9L2ok {E} (hE:EO E 101 g9H) (n):LO E g9B5 ((g9L2X m).at n):=lk hE (g9K m) (g9L2X m) n
def g9L1X:LT:=⟨3,[(1,sX 0 [iI,iI,iL,iL,.imm (.int .u64)]),(2,h92),(3,sI),(56,sI),(57,sI)],[(.exit 3,[(1,sX 0 [iI,iI,iL,iL,.imm (.int .u64)]),(2,h92),(3,sI)])],λn x=>g9L1 m n x.1.1 x.1.2.1 x.1.2.2.1 x.1.2.2.2.1 x.1.2.2.2.2.1 x.2.1 x.2.2.1 x.2.2.2.1 x.2.2.2.2.1⟩
def g9L1ok {E} (hE:EO E 101 g9H) (n):LO E g9B3 ((g9L1X m).at n):=lk hE (g9K m) (g9L1X m) n
def g9L0X:LT:=⟨1,[(1,sX 0 [iI,iI,iL,iL,.imm (.int .u64)]),(3,sI),(5,sB),(29,h33),(30,sI),(31,sI)],[(.exit 1,[(1,sX 0 [iI,iI,iL,iL,.imm (.int .u64)]),(3,sI)])],λn x=>g9L0 m n x.1.1 x.1.2.1 x.1.2.2.1 x.1.2.2.2.1 x.1.2.2.2.2.1 x.2.1 x.2.2.1 x.2.2.2.1 x.2.2.2.2.1 x.2.2.2.2.2.1⟩
def g9L0ok {E} (hE:EO E 101 g9H) (n):LO E g9B1 ((g9L0X m).at n):=lk hE (g9K m) (g9L0X m) n
def g9ok:FO (g9T m):=
 fok hmix htt (H:=g9H) (g9T m) func9 kR (g9K m) (L:=[(g9L0X m).at m,(g9L1X m).at m,(g9L2X m).at m]) (l:=[(1,g9B1),(3,g9B3),(5,g9B5)]) kR (λ_ hE _ _=>⟨qj ⟨yb (g9L0ok m hE m),nb rfl,nb rfl,trivial⟩,qj ⟨nb rfl,yb (g9L1ok m hE m),nb rfl,trivial⟩,qj ⟨nb rfl,nb rfl,yb (g9L2ok m hE m),trivial⟩,trivial⟩) (λx=>kR)
def g48H:Hints:=⟨[J [0],J [0,5],J [2],J' [(0,1)] [2]],[],[],[2],[],[[false]]⟩
def g48T:FunT:=⟨48,[hU2],sI,[sD],λx=>g48 m x.1⟩
def g48ok:FO (g48T m):=fk g48H (g48T m) func48 noF
def g122H:Hints:=⟨[J [0,1],J' [(0,1)] [3]],[],[],[3],[],[[false]]⟩
def g122T:FunT:=⟨122,[hM3,.a (.c (.iptr none (.int .i64) 0))],sB,[sD,sD],λx=>g122 m x.1 x.2.1⟩
def g122ok:FO (g122T m):=fk g122H (g122T m) func122 noF
def g197H:Hints:=⟨[J [0,1],J [0,1,7,8],J [0,1,7,8,9],J [0,1,5,7,8],J [0,1,5,7,8,16],J' [(0,1)] [4],J' [(1,1)] [0,1,7,8],J [4]],[(0,[0,1,7,8])],[(0,[]),(1,[0,1,7,8])],[4],[],[[false]]⟩
def g197T:FunT:=⟨197,[hU2,hR3],sI,[sD,sD],λx=>g197 m x.1 x.2.1⟩
noncomputable def g197C:Code:=codeOf f197
noncomputable def g197B0:Code:=ql g197C 0 0
def g197K:FL [g122T m]:=AllF.mem ⟨g122ok m,trivial⟩
def g197L0X:LT:=⟨0,[(0,hU2),(1,hR3),(7,sI),(8,sI)],[(.ret,[(4,sI)]),(.exit 0,[])],λn x=>g197L0 m n x.1 x.2.1 x.2.2.1 x.2.2.2.1⟩
def g197L0ok {E} (hE:EO E 19 g197H) (n):LO E g197B0 ((g197L0X m).at n):=lk hE (g197K m) (g197L0X m) n
def g197ok:FO (g197T m):=f1' g197H (g197T m) func197 (g197K m) λ_ h=>g197L0ok m h m
def g121H:Hints:=⟨[J [0,1],J' [(0,1),(1,1)] [4]],[],[],[4],[],[[false]]⟩
def g121T:FunT:=⟨121,[hU2,hR3],sB,[sD,sD],λx=>g121 m x.1 x.2.1⟩
def g121ok:FO (g121T m):=fk g121H (g121T m) func121 (AllF.mem (l:=[g197T m]) ⟨g197ok m,trivial⟩)
def g45H:Hints:=⟨[J [0],J [0,3],J [0,3,6],J [2],J' [(0,1),(3,1)] [10],J [2],J [2]],[],[(0,[])],[2],[],[[false]]⟩
def g45T:FunT:=⟨45,[hU2],sI,[sD],λx=>g45 m x.1⟩
def g45ok:FO (g45T m):=fk g45H (g45T m) func45 (AllF.mem (l:=[g48T m,g121T m]) ⟨g48ok m,g121ok m,trivial⟩)
def g47H:Hints:=⟨[J [0,1],J' [(0,6)] [0,1,5],J' [(0,1)] [1,5,11,12,13],J [1,5,11,12,13,14],J [1,5,6,7,11,12,13],J [1,5,6,7,8,11,12,13],J' [(0,1)] [1,5,6,8,11,12,13,18,19,20],J [1,5,6,8,11,12,13,18,19,20,21],J [1,5,6,8,10,11,12,13,18,19,20],J' [(0,1)] [1,5,6,8,11,12,13,18,19,20],J' [(1,1)] [1,5,6,8,11,12,13,18,19,20],J [1,5,6,8,11,12,13,33],J' [(0,1),(2,1)] [1,5,8,11,12,13],J' [(0,1),(1,1),(2,6),(3,6)] [1,5,11,12,13],J' [(1,1)] [1,5,11,12,13],J' [(0,1)] [4]],[(0,[1,5,11,12,13]),(2,[1,5,6,8,11,12,13,18,19,20])],[(0,[5]),(1,[1,5,11,12,13]),(2,[1,5,6,8,11,12,13]),(3,[1,5,6,8,11,12,13,18,19,20])],[4],[],[[true]]⟩
def g47T:FunT:=⟨47,[hU2,hM3],h82,[sD,sD],λx=>g47 m x.1 x.2.1⟩
noncomputable def g47C:Code:=codeOf f47
noncomputable def g47B0:Code:=ql g47C 0 0
noncomputable def g47B2:Code:=ql g47B0 0 0
def g47K:FL [g124T m]:=AllF.mem ⟨g124ok m,trivial⟩
def g47L1X:LT:=⟨2,[(1,hM3),(5,h82),(6,sI),(8,hC3),(11,hU2),(12,sI),(13,sI),(18,hM3),(19,sI),(20,sI)],[(.exit 2,[(1,hM3),(5,h82),(6,sI),(8,hC3),(11,hU2),(12,sI),(13,sI)])],λn x=>g47L1 m n x.1 x.2.1 x.2.2.1 x.2.2.2.1 x.2.2.2.2.1 x.2.2.2.2.2.1 x.2.2.2.2.2.2.1 x.2.2.2.2.2.2.2.1 x.2.2.2.2.2.2.2.2.1 x.2.2.2.2.2.2.2.2.2.1⟩
def g47L1ok {E} (hE:EO E 48 g47H) (n):LO E g47B2 ((g47L1X m).at n):=lk hE (g47K m) (g47L1X m) n
def g47L0X:LT:=⟨0,[(1,hM3),(5,h82),(11,hU2),(12,sI),(13,sI)],[(.exit 0,[(5,h82)])],λn x=>g47L0 m n x.1 x.2.1 x.2.2.1 x.2.2.2.1 x.2.2.2.2.1⟩
def g47L0ok {E} (hE:EO E 48 g47H) (n):LO E g47B0 ((g47L0X m).at n):=
 lok hmix htt hE (g47K m) (L:=[(g47L1X m).at m]) (g47L0X m) (l:=[(2,g47B2)]) kR (λ_ _=>⟨qj ⟨yb (g47L1ok m hE m),trivial⟩,trivial⟩) (λn x=>kR) (λ_=>kR) n
def g47ok:FO (g47T m):=f1' g47H (g47T m) func47 (g47K m) λ_ h=>g47L0ok m h m
def g330H:Hints:=⟨[J [0,1],J' [(3,1)] [0,1,19],J [4],J [0,1,5],J' [(0,1)] [1,5,26,27,28],J [1,5,26,27,28,29],J [1,5,6,7,26,27,28],J [1,5,6,7,8,26,27,28],J [1,5,6,7,8,26,27,28,33,34,35],J [1,5,6,7,8,26,27,28,33,34,35,36],J [1,5,6,7,8,9,10,26,27,28,33,34,35],J' [(2,1),(13,1)] [1,5,6,7,9,11,26,27,28,33,34,35],J' [(2,1)] [1,5,6,7,11,26,27,28,33,34,35],J' [(0,1)] [1,5,6,7,8,26,27,28,33,34,35],J' [(1,1)] [1,5,6,7,8,26,27,28,33,34,35],J' [(1,1),(5,1)] [1,5,26,27,28],J' [(1,1)] [1,5,26,27,28],J' [(0,1)] [4]],[(0,[1,5,26,27,28]),(2,[1,5,6,7,8,26,27,28,33,34,35])],[(0,[5]),(1,[1,5,26,27,28]),(2,[1,5,6,8,26,27,28]),(3,[1,5,6,7,8,26,27,28,33,34,35])],[4],[],[[false]]⟩
def g330T:FunT:=⟨330,[h53,h53],h53,[sD,sD],λx=>g330 m x.1 x.2.1⟩
noncomputable def g330C:Code:=codeOf f330
noncomputable def g330B0:Code:=ql g330C 0 0
noncomputable def g330B2:Code:=ql g330B0 0 0
def g330K:FL [g116T m]:=AllF.mem ⟨g116ok m,trivial⟩
def g330L1X:LT:=⟨2,[(1,h53),(5,hY3),(6,sI),(7,hF4),(8,sU),(26,h53),(27,sI),(28,sI),(33,h53),(34,sI),(35,sI)],[(.exit 2,[(1,h53),(5,hY3),(6,sI),(8,sU),(26,h53),(27,sI),(28,sI)])],λn x=>g330L1 m n x.1 x.2.1 x.2.2.1 x.2.2.2.1 x.2.2.2.2.1 x.2.2.2.2.2.1 x.2.2.2.2.2.2.1 x.2.2.2.2.2.2.2.1 x.2.2.2.2.2.2.2.2.1 x.2.2.2.2.2.2.2.2.2.1 x.2.2.2.2.2.2.2.2.2.2.1⟩
def g330L1ok {E} (hE:EO E 77 g330H) (n):LO E g330B2 ((g330L1X m).at n):=lk hE (g330K m) (g330L1X m) n
def g330L0X:LT:=⟨0,[(1,h53),(5,hY3),(26,h53),(27,sI),(28,sI)],[(.exit 0,[(5,hY3)])],λn x=>g330L0 m n x.1 x.2.1 x.2.2.1 x.2.2.2.1 x.2.2.2.2.1⟩
def g330L0ok {E} (hE:EO E 77 g330H) (n):LO E g330B0 ((g330L0X m).at n):=
 lok hmix htt hE (g330K m) (L:=[(g330L1X m).at m]) (g330L0X m) (l:=[(2,g330B2)]) kR (λ_ _=>⟨qj ⟨yb (g330L1ok m hE m),trivial⟩,trivial⟩) (λn x=>kR) (λ_=>kR) n
def g330ok:FO (g330T m):=f1' g330H (g330T m) func330 (g330K m) λ_ h=>g330L0ok m h m
def g282H:Hints:=⟨[J [2,3,4],J [4]],[],[],[4],[],[[false,false]]⟩
def g282T:FunT:=⟨282,[hV3,hV3],hV3,[sD,sD],λx=>g282 m x.1.1 x.1.2.1 x.2.1.1 x.2.1.2.1⟩
def g282ok:FO (g282T m):=fk g282H (g282T m) func282 (AllF.mem (l:=[g116T m,g330T m,g117T m]) ⟨g116ok m,g330ok m,g117ok m,trivial⟩)
def g283H:Hints:=⟨[J [0,1],J [0,1,5],J [0,1,5,6],J' [(0,1)] [0,1,6,11],J' [(0,1)] [12],J [4],J [4],J' [(0,1)] [0,1,13],J [4],J [0,1,16],J [4],J' [(0,1),(1,1)] [19],J [4],J [4]],[],[],[4],[],[[false]]⟩
def g283T:FunT:=⟨283,[sI,sI],sI,[sD,sD],λx=>g283 m x.1 x.2.1⟩
def g283ok:FO (g283T m):=fk g283H (g283T m) func283 (AllF.mem (l:=[g308T m]) ⟨g308ok m,trivial⟩)
def g331H:Hints:=⟨[J [0],J [2]],[],[],[2],[],[[false]]⟩
def g331T:FunT:=⟨331,[hF4],sB,[sD],λx=>g331 m x.1⟩
def g331ok:FO (g331T m):=fk g331H (g331T m) func331 noF
def g284H:Hints:=⟨[J [0,1],J [0,1,5],J [0,1,5,6],J' [(0,1)] [0,1,6,11],J' [(0,1)] [12],J [4],J [4],J' [(0,1)] [0,1,13],J [4],J [0,1,16],J [4],J' [(0,1),(1,1)] [19],J [4],J [4]],[],[],[4],[],[[false]]⟩
def g284T:FunT:=⟨284,[hF4,hF4],sI,[sD,sD],λx=>g284 m x.1 x.2.1⟩
def g284ok:FO (g284T m):=fk g284H (g284T m) func284 (AllF.mem (l:=[g331T m]) ⟨g331ok m,trivial⟩)
def g199H:Hints:=⟨[J [0,1],J [0,1,10],J' [(0,1),(2,1)] [4],J [0,1,5],J [0,1,5,20],J' [(0,1)] [0,1,5],J [0,1,5,31],J' [(0,1),(4,1)] [4],J [4]],[(0,[0,1,5])],[(0,[]),(1,[0,1,5])],[4],[],[[false]]⟩
def g199T:FunT:=⟨199,[h53,h53],sI,[sD,sD],λx=>g199 m x.1 x.2.1⟩
noncomputable def g199C:Code:=codeOf f199
noncomputable def g199B0:Code:=ql g199C 0 0
def g199K:FL [g283T m,g284T m]:=AllF.mem ⟨g283ok m,g284ok m,trivial⟩
def g199L0X:LT:=⟨0,[(0,h53),(1,h53),(5,sI)],[(.ret,[(4,sI)]),(.exit 0,[])],λn x=>g199L0 m n x.1 x.2.1 x.2.2.1⟩
def g199L0ok {E} (hE:EO E 41 g199H) (n):LO E g199B0 ((g199L0X m).at n):=lk hE (g199K m) (g199L0X m) n
def g199ok:FO (g199T m):=f1' g199H (g199T m) func199 (g199K m) λ_ h=>g199L0ok m h m
def g203H:Hints:=⟨[J [0,1],J [0,1,5],J [0,1,5,6],J' [(0,1)] [1,5,6,13,14,15],J [1,5,6,13,14,15,16],J [1,5,6,7,8,13,14,15],J' [(0,1),(2,1)] [1,5,7,9,13,14,15],J [1,5,7,9,13,14,15,27],J' [(0,1)] [1,5,7,9,13,14,15],J' [(1,1)] [1,5,9,13,14,15],J' [(0,1)] [1,5,6,13,14,15],J' [(1,1)] [1,5,6,13,14,15],J' [(0,1)] [4]],[(0,[1,5,6,13,14,15])],[(0,[5]),(1,[1,5,6,13,14,15])],[4],[],[[false]]⟩
def g203T:FunT:=⟨203,[h53,h53],h53,[sD,sD],λx=>g203 m x.1 x.2.1⟩
noncomputable def g203C:Code:=codeOf f203
noncomputable def g203B0:Code:=ql g203C 0 0
def g203K:FL [g116T m]:=AllF.mem ⟨g116ok m,trivial⟩
def g203L0X:LT:=⟨0,[(1,h53),(5,hY3),(6,sU),(13,h53),(14,sI),(15,sI)],[(.exit 0,[(5,hY3)])],λn x=>g203L0 m n x.1 x.2.1 x.2.2.1 x.2.2.2.1 x.2.2.2.2.1 x.2.2.2.2.2.1⟩
def g203L0ok {E} (hE:EO E 47 g203H) (n):LO E g203B0 ((g203L0X m).at n):=lk hE (g203K m) (g203L0X m) n
def g203ok:FO (g203T m):=f1' g203H (g203T m) func203 (g203K m) λ_ h=>g203L0ok m h m
def g244H:Hints:=⟨[J [2,3,4],J [2,3,4,5,6],J [2,3,4,5,6,13],J' [(2,1),(3,1)] [4],J [2,3,4,5,6,25],J' [(2,1),(3,1)] [4],J' [(2,1),(3,1)] [4]],[],[(0,[3,4,5,6])],[4],[],[[false,false]]⟩
def g244T:FunT:=⟨244,[hV3,hV3],hV3,[sD,sD],λx=>g244 m x.1.1 x.1.2.1 x.2.1.1 x.2.1.2.1⟩
def g244ok:FO (g244T m):=fk g244H (g244T m) func244 (AllF.mem (l:=[g116T m,g120T m,g117T m,g199T m,g203T m]) ⟨g116ok m,g120ok m,g117ok m,g199ok m,g203ok m,trivial⟩)
def g281H:Hints:=⟨[J [2,3,4],J [2,3,4],J [4]],[],[],[4],[],[[false,false]]⟩
def g281T:FunT:=⟨281,[hV3,hV3],hV3,[sD,sD],λx=>g281 m x.1.1 x.1.2.1 x.2.1.1 x.2.1.2.1⟩
def g281ok:FO (g281T m):=fk g281H (g281T m) func281 (AllF.mem (l:=[g244T m]) ⟨g244ok m,trivial⟩)
def g200H:Hints:=⟨[J [0,1],J [0,1,6],J [0,1,6,7],J [0,1,6,7,8],J [0,1,6,7,8,17],J' [(0,1)] [0,1,6,7,8],J' [(0,1)] [0,1,6,8,9],J [0,1,6,8,9],J' [(0,1)] [0,1,6,7,8],J' [(0,1),(2,1)] [4,5]],[(0,[0,1,6,7,8])],[(0,[6,7]),(1,[0,1,6,7,8])],[4,5],[],[[false],[false]]⟩
def g200T:FunT:=⟨200,[h53,hF4],.tup [(.c (.imm (.int .u32))),(.c (.int .u32))],[sD,sD],λx=>g200 m x.1 x.2.1⟩
noncomputable def g200C:Code:=codeOf f200
noncomputable def g200B0:Code:=ql g200C 0 0
def g200K:FL [g116T m]:=AllF.mem ⟨g116ok m,trivial⟩
def g200L0X:LT:=⟨0,[(0,h53),(1,hF4),(6,hY3),(7,sU),(8,sI)],[(.exit 0,[(6,hY3),(7,sU)])],λn x=>g200L0 m n x.1 x.2.1 x.2.2.1 x.2.2.2.1 x.2.2.2.2.1⟩
def g200L0ok {E} (hE:EO E 44 g200H) (n):LO E g200B0 ((g200L0X m).at n):=lk hE (g200K m) (g200L0X m) n
def g200ok:FO (g200T m):=f1' g200H (g200T m) func200 (g200K m) λ_ h=>g200L0ok m h m
def g201H:Hints:=⟨[J [0],J' [(0,1)] [2]],[],[],[2],[],[[false]]⟩
def g201T:FunT:=⟨201,[hF4],sI,[sD],λx=>g201 m x.1⟩
def g201ok:FO (g201T m):=fk g201H (g201T m) func201 (AllF.mem (l:=[g276T m]) ⟨g276ok m,trivial⟩)
def g202H:Hints:=⟨[J [0,1],J [0,1,5],J [0,1,5,6],J [0,1,5,7,8],J' [(2,1)] [0,1,5,7,8,71],J' [(0,1)] [0,1,5,7,8],J' [(0,1)] [0,1,5,7,8],J [0,1,5,7,8,83],J [0,1,5,7,9,10],J [0,1,5,7,9,10,84,85,86],J [0,1,5,7,9,10,84,85,86,87],J [0,1,5,7,9,10,11,12,84,85,86],J' [(1,1),(4,1)] [0,1,5,7,10,11,13,84,85,86],J [0,1,5,7,9,10,11,13,84,85,86],J' [(5,1),(8,1)] [0,1,5,7,9,11,14,84,85,86],J' [(1,1)] [0,1,5,7,9,14,84,85,86],J' [(0,1)] [0,1,5,7,9,10,84,85,86],J' [(1,1)] [0,1,5,7,9,10,84,85,86],J' [(5,1),(7,1)] [0,1,5,7,15],J [0,1,5,7,15],J' [(0,1)] [0,1,5,7,137],J' [(0,1)] [0,4],J [0,1,5,7,9],J' [(0,1)] [0,5,7,9,140,141,142],J [0,5,7,9,140,141,142,143],J [0,5,7,9,16,17,140,141,142],J' [(5,1),(8,1)] [0,5,7,16,18,140,141,142],J' [(1,1)] [0,5,7,18,140,141,142],J' [(0,1)] [0,5,7,9,140,141,142],J' [(1,1)] [0,5,7,9,140,141,142],J' [(1,1),(4,1)] [0,7],J' [(0,1)] [0,4]],[(0,[0,1,5,7,8]),(2,[0,1,5,7,9,10,84,85,86]),(4,[0,5,7,9,140,141,142])],[(0,[0,1,5,7]),(1,[0,1,5,7,8]),(2,[0,1,5,7,9,10]),(3,[0,1,5,7,9,10,84,85,86]),(4,[0,5,7,9]),(5,[0,5,7,9,140,141,142])],[0,4],[0],[[false]]⟩
def g202T:FunT:=⟨202,[ha3,h53],hF4,[ha3,sD],λx=>g202 m x.1 x.2.1⟩
noncomputable def g202C:Code:=codeOf f202
noncomputable def g202B0:Code:=ql g202C 0 0
noncomputable def g202B2:Code:=ql g202C 0 1
noncomputable def g202B4:Code:=ql g202C 0 2
def g202L2X:LT:=⟨4,[(0,ha3),(5,sI),(7,sU),(9,sU),(140,h53),(141,sI),(142,sI)],[(.exit 4,[(0,ha3),(5,sI),(7,sU),(9,sU)])],λn x=>g202L2 m n x.1 x.2.1 x.2.2.1 x.2.2.2.1 x.2.2.2.2.1 x.2.2.2.2.2.1 x.2.2.2.2.2.2.1⟩
def g202L2ok {E} (hE:EO E 177 g202H) (n):LO E g202B4 ((g202L2X m).at n):=lk hE noF (g202L2X m) n
def g202L1X:LT:=⟨2,[(0,ha3),(1,h53),(5,sI),(7,sU),(9,sU),(10,sU),(84,h53),(85,sI),(86,sI)],[(.exit 2,[(0,ha3),(1,h53),(5,sI),(7,sU),(9,sU),(10,sU)])],λn x=>g202L1 m n x.1 x.2.1 x.2.2.1 x.2.2.2.1 x.2.2.2.2.1 x.2.2.2.2.2.1 x.2.2.2.2.2.2.1 x.2.2.2.2.2.2.2.1 x.2.2.2.2.2.2.2.2.1⟩
def g202L1ok {E} (hE:EO E 177 g202H) (n):LO E g202B2 ((g202L1X m).at n):=lk hE noF (g202L1X m) n
def g202L0X:LT:=⟨0,[(0,ha3),(1,h53),(5,sI),(7,sU),(8,sU)],[(.exit 0,[(0,ha3),(1,h53),(5,sI),(7,sU)])],λn x=>g202L0 m n x.1 x.2.1 x.2.2.1 x.2.2.2.1 x.2.2.2.2.1⟩
def g202L0ok {E} (hE:EO E 177 g202H) (n):LO E g202B0 ((g202L0X m).at n):=lk hE noF (g202L0X m) n
def g202ok:FO (g202T m):=
 fok hmix htt (H:=g202H) (g202T m) func202 kR noF (L:=[(g202L0X m).at m,(g202L1X m).at m,(g202L2X m).at m]) (l:=[(0,g202B0),(2,g202B2),(4,g202B4)]) kR (λ_ hE _ _=>⟨qj ⟨yb (g202L0ok m hE m),nb rfl,nb rfl,trivial⟩,qj ⟨nb rfl,yb (g202L1ok m hE m),nb rfl,trivial⟩,qj ⟨nb rfl,nb rfl,yb (g202L2ok m hE m),trivial⟩,trivial⟩) (λx=>kR)
def g126H:Hints:=⟨[J [0,1],J [0,1,16],J' [(0,1)] [4,5],J [0,1,21],J' [(0,1),(1,1),(5,1)] [6,7],J' [(0,1),(1,1)] [4,5],J [0,1,8],J' [(0,1)] [0,8,9],J [0,8,9,10],J' [(1,1)] [8,9,10],J [8,9,10,11],J [4,8,9,10,11],J [4,8,9,10,11,12],J [4,8,9,10,11,12,64],J' [(0,1)] [4,8,9,10,11,12],J' [(10,300)] [4,8,9,10,11,12],J' [(0,1),(1,1),(4,1),(6,1)] [4,5],J' [(0,1),(2,1)] [4,5]],[(0,[4,8,9,10,11,12])],[(0,[4,8,10,11]),(1,[4,8,9,10,11,12])],[4,5],[],[[false],[false]]⟩
def g126T:FunT:=⟨126,[h53,h53],.tup [(.c (.imm (.int .u32))),(.c (.imm (.int .u32)))],[sD,sD],λx=>g126 m x.1 x.2.1⟩
noncomputable def g126C:Code:=codeOf f126
noncomputable def g126B0:Code:=ql g126C 0 0
def g126K:FL [g199T m,g125T m,g200T m,g116T m,g201T m,g118T m,g202T m,g119T m]:=AllF.mem ⟨g199ok m,g125ok m,g200ok m,g116ok m,g201ok m,g118ok m,g202ok m,g119ok m,trivial⟩
def g126L0X:LT:=⟨0,[(4,hY3),(8,sI),(9,h53),(10,.a (.c (.nm 1 (.int .u32)))),(11,sI),(12,sI)],[(.exit 0,[(4,hY3),(8,sI),(10,.a (.c (.nm 1 (.int .u32)))),(11,sI)])],λn x=>g126L0 m n x.1 x.2.1 x.2.2.1 x.2.2.2.1 x.2.2.2.2.1 x.2.2.2.2.2.1⟩
def g126L0ok {E} (hE:EO E 91 g126H) (n):LO E g126B0 ((g126L0X m).at n):=lk hE (g126K m) (g126L0X m) n
def g126ok:FO (g126T m):=f1' g126H (g126T m) func126 (g126K m) λ_ h=>g126L0ok m h m
def g127H:Hints:=⟨[J [2,3,4,5],J [2,3,4,5,7],J [2,3,4,5,7,15],J [4,5,6],J' [(5,1)] [2,3,4,5,7,8,9],J' [(2,1)] [2,3,4,5,7,8,9,32],J' [(0,1),(3,1),(4,1)] [2,3,4,5,8,9],J' [(5,1),(7,1)] [4,5,6]],[],[],[4,5,6],[],[[false,false],[false,false],[false]]⟩
def g127T:FunT:=⟨127,[hV3,hV3],.tup [(.agg [.bool,(.imm (.int .u32))]),(.agg [.bool,(.imm (.int .u32))]),(.c (.int .i64))],[sD,sD],λx=>g127 m x.1.1 x.1.2.1 x.2.1.1 x.2.1.2.1⟩
def g127ok:FO (g127T m):=fk g127H (g127T m) func127 (AllF.mem (l:=[g116T m,g126T m,g120T m,g203T m,g117T m]) ⟨g116ok m,g126ok m,g120ok m,g203ok m,g117ok m,trivial⟩)
def g53H:Hints:=⟨[J [2,3,4],J' [(3,1)] [4,6,7,8],J' [(2,1)] [4,6,8,23],J [4,5],J' [(1,1)] [4,5]],[],[],[4,5],[],[[false,false],[false]]⟩
def g53T:FunT:=⟨53,[hV3,hV3],.tup [(.agg [.bool,(.imm (.int .u32))]),(.c (.int .i64))],[sD,sD],λx=>g53 m x.1.1 x.1.2.1 x.2.1.1 x.2.1.2.1⟩
def g53ok:FO (g53T m):=fk g53H (g53T m) func53 (AllF.mem (l:=[g127T m]) ⟨g127ok m,trivial⟩)
def g198H:Hints:=⟨[J [0,1,7,8,9],J [0,1,7,8,9,12,13,14],J [0,1,7,8,9,12,13,14,15],J [0,1,7,8,9,10,11,12,13,14],J' [(14,1)] [0,1,7,8,9,12,13,14],J' [(1,1)] [0,1,7,8,9,12,13,14]],[(0,[0,1,7,8,9,12,13,14])],[(0,[0,1]),(1,[0,1,7,8,9,12,13,14])],[0,1],[0,1],[]⟩
def g198T:FunT:=⟨198,[hI3,hC3,hV3,hV3,hV3],.tup [],[hI3,hC3,sD,sD,sD],λx=>g198 m x.1 x.2.1 x.2.2.1.1 x.2.2.1.2.1 x.2.2.2.1.1 x.2.2.2.1.2.1 x.2.2.2.2.1.1 x.2.2.2.2.1.2.1⟩
noncomputable def g198C:Code:=codeOf f198
noncomputable def g198B0:Code:=ql g198C 0 0
def g198K:FL [g282T m,g281T m,g53T m]:=AllF.mem ⟨g282ok m,g281ok m,g53ok m,trivial⟩
def g198L0X:LT:=⟨0,[(0,hI3),(1,hC3),(7,sX 2 [.bool,.imm (.int .u32)]),(8,sX 3 [.bool,.imm (.int .u32)]),(9,sX 4 [.bool,.imm (.int .u32)]),(12,.a (.c (.ref 1 1 2))),(13,sI),(14,sI)],[(.exit 0,[(0,hI3),(1,hC3)])],λn x=>g198L0 m n x.1 x.2.1 x.2.2.1.1 x.2.2.1.2.1 x.2.2.2.1.1 x.2.2.2.1.2.1 x.2.2.2.2.1.1 x.2.2.2.2.1.2.1 x.2.2.2.2.2.2.1 x.2.2.2.2.2.2.2.1⟩
def g198L0ok {E} (hE:EO E 38 g198H) (n):LO E g198B0 ((g198L0X m).at n):=lk hE (g198K m) (g198L0X m) n
def g198ok:FO (g198T m):=f1' g198H (g198T m) func198 (g198K m) λ_ h=>g198L0ok m h m
def g123H:Hints:=⟨[J [0,1,2,3,13],J' [(25,19734),(27,4)] [0,1,2],J [0,1,2],J [0,1,2,8],J [0,1,2,8,61,62,63],J [0,1,2,8,61,62,63,64],J [0,1,2,8,9,10,61,62,63],J' [(0,1)] [0,1,2,8,10,61,62,63,70],J' [(17,10000)] [0,1,2,8,61,62,63],J' [(1,1)] [0,1,2,8,61,62,63],J' [(6,1),(8,3)] [0]],[(0,[0,1,2,8,61,62,63])],[(0,[0,1,8]),(1,[0,1,2,8,61,62,63])],[0],[0],[]⟩
def g123T:FunT:=⟨123,[sX 0 [.fd 1 (.pr .bool (.sl false (.int .u32))),iM 2,.bool,.imm (.int .u32),iI],sI,sI,sI],.tup [],[sX 0 [.fd 1 (.pr .bool (.sl false (.int .u32))),iM 2,.bool,.imm (.int .u32),iI],sD,sD,sD],λx=>g123 m x.1.1 x.1.2.1 x.1.2.2.1 x.1.2.2.2.1 x.1.2.2.2.2.1 x.2.1 x.2.2.1 x.2.2.2.1⟩
noncomputable def g123C:Code:=codeOf f123
noncomputable def g123B0:Code:=ql g123C 0 0
def g123K:FL [g198T m]:=AllF.mem ⟨g198ok m,trivial⟩
def g123L0X:LT:=⟨0,[(0,sX 0 [.fd 1 (.pr .bool (.sl false (.int .u32))),iM 2,.bool,.imm (.int .u32),iI]),(1,sI),(2,sI),(8,sX 3 [.bool,.imm (.int .u32)]),(61,.a (.c (.drw 0 1))),(62,sI),(63,sI)],[(.exit 0,[(0,sX 0 [.fd 1 (.pr .bool (.sl false (.int .u32))),iM 2,.bool,.imm (.int .u32),iI]),(1,sI),(8,sX 3 [.bool,.imm (.int .u32)])])],λn x=>g123L0 m n x.1.1 x.1.2.1 x.1.2.2.1 x.1.2.2.2.1 x.1.2.2.2.2.1 x.2.1 x.2.2.1 x.2.2.2.1.1 x.2.2.2.1.2.1 x.2.2.2.2.2.1 x.2.2.2.2.2.2.1⟩
def g123L0ok {E} (hE:EO E 104 g123H) (n):LO E g123B0 ((g123L0X m).at n):=lk hE (g123K m) (g123L0X m) n
def g123ok:FO (g123T m):=f1' g123H (g123T m) func123 (g123K m) λ_ h=>g123L0ok m h m
def g46H:Hints:=⟨[J [0,1,4],J' [(0,400005)] [0,1,4,5],J' [(0,1)] [0,4,5,12,13],J [0,4,5,12,13,14],J [0,4,5,6,12,13],J [0,4,5,6,7,12,13],J [0,4,5,6,7,8,12,13],J [0,4,5,6,7,8,12,13,23],J' [(0,1)] [0,4,5,6,7,8,12,13],J [0,4,5,6,7,8,12,13,34],J' [(0,1),(1,1),(2,1),(3,200000)] [0,4,5,12,13],J' [(1,1)] [0,4,5,12,13],J' [(0,7)] [0,4,5]],[(0,[0,4,5,12,13]),(2,[0,4,5,6,7,8,12,13])],[(0,[0,4,5]),(1,[0,4,5,12,13]),(2,[0,4,5,12,13]),(3,[0,4,5,6,7,8,12,13])],[0,4],[0],[[false,false,false,false,false]]⟩
def g46T:FunT:=⟨46,[h82,sI],hO1,[sD,sD],λx=>g46 m x.1 x.2.1⟩
noncomputable def g46C:Code:=codeOf f46
noncomputable def g46B0:Code:=ql g46C 0 0
noncomputable def g46B2:Code:=ql g46B0 0 0
def g46K:FL [g111T m,g115T m,g123T m]:=AllF.mem ⟨g111ok m,g115ok m,g123ok m,trivial⟩
def g46L1X:LT:=⟨2,[(0,hH4),(4,sX 0 [.nm 1 (.sl false (.pr .bool (.sl false (.int .u32)))),iM 2,.bool,.nm 3 (.int .u32),iI]),(5,sX 4 [.dp 5 (.pr .bool (.sl false (.int .u32))),iM 6,.bool,.imm (.int .u32),iI]),(6,sI),(7,sI),(8,sI),(12,sI),(13,sI)],[(.exit 1,[(0,hH4),(4,sX 0 [.nm 1 (.sl false (.pr .bool (.sl false (.int .u32)))),iM 2,.bool,.nm 3 (.int .u32),iI]),(5,sX 4 [.dp 5 (.pr .bool (.sl false (.int .u32))),iM 6,.bool,.imm (.int .u32),iI]),(12,sI),(13,sI)]),(.exit 2,[(0,hH4),(4,sX 0 [.nm 1 (.sl false (.pr .bool (.sl false (.int .u32)))),iM 2,.bool,.nm 3 (.int .u32),iI]),(5,sX 4 [.dp 5 (.pr .bool (.sl false (.int .u32))),iM 6,.bool,.imm (.int .u32),iI]),(12,sI),(13,sI)])],λn x=>g46L1 m n x.2.1.1 x.2.1.2.1 x.2.1.2.2.1 x.2.1.2.2.2.1 x.2.1.2.2.2.2.1 x.2.2.1.1 x.2.2.1.2.1 x.2.2.1.2.2.1 x.2.2.1.2.2.2.1 x.2.2.1.2.2.2.2.1 x.2.2.2.1 x.2.2.2.2.1 x.2.2.2.2.2.1 x.2.2.2.2.2.2.1 x.2.2.2.2.2.2.2.1⟩
def g46L1ok {E} (hE:EO E 41 g46H) (n):LO E g46B2 ((g46L1X m).at n):=lk hE (g46K m) (g46L1X m) n
def g46L0X:LT:=⟨0,[(0,hH4),(4,sX 0 [.nm 1 (.sl false (.pr .bool (.sl false (.int .u32)))),iM 2,.bool,.nm 3 (.int .u32),iI]),(5,sX 4 [.dp 5 (.pr .bool (.sl false (.int .u32))),iM 6,.bool,.imm (.int .u32),iI]),(12,sI),(13,sI)],[(.exit 0,[(0,hH4),(4,sX 0 [.nm 1 (.sl false (.pr .bool (.sl false (.int .u32)))),iM 2,.bool,.nm 3 (.int .u32),iI]),(5,sX 4 [.dp 5 (.pr .bool (.sl false (.int .u32))),iM 6,.bool,.imm (.int .u32),iI])])],λn x=>g46L0 m n x.2.1.1 x.2.1.2.1 x.2.1.2.2.1 x.2.1.2.2.2.1 x.2.1.2.2.2.2.1 x.2.2.1.1 x.2.2.1.2.1 x.2.2.1.2.2.1 x.2.2.1.2.2.2.1 x.2.2.1.2.2.2.2.1 x.2.2.2.1 x.2.2.2.2.1⟩
def g46L0ok {E} (hE:EO E 41 g46H) (n):LO E g46B0 ((g46L0X m).at n):=
 lok hmix htt hE (g46K m) (L:=[(g46L1X m).at m]) (g46L0X m) (l:=[(2,g46B2)]) kR (λ_ _=>⟨qj ⟨yb (g46L1ok m hE m),trivial⟩,trivial⟩) (λn x=>kR) (λ_=>kR) n
def g46ok:FO (g46T m):=f1' g46H (g46T m) func46 (g46K m) λ_ h=>g46L0ok m h m
def g10H:Hints:=⟨[J [0],J [0,4],J [0,4,8],J' [(0,1)] [2,3],J' [(4,11)] [2,3]],[],[],[2,3],[],[[false],[false]]⟩
def g10T:FunT:=⟨10,[hU2],.tup [(.c (.int .i64)),(.c (.int .i64))],[sD],λx=>g10 m x.1⟩
def g10ok:FO (g10T m):=fk g10H (g10T m) func10 (AllF.mem (l:=[g45T m,g47T m,g48T m,g46T m]) ⟨g45ok m,g47ok m,g48ok m,g46ok m,trivial⟩)
def g49H:Hints:=⟨[J [1,2],J [2]],[],[],[2],[],[[false,false]]⟩
def g49T:FunT:=⟨49,[hV3],hV3,[sD],λx=>g49 m x.1.1 x.1.2.1⟩
def g49ok:FO (g49T m):=fk g49H (g49T m) func49 (AllF.mem (l:=[g125T m,g117T m]) ⟨g125ok m,g117ok m,trivial⟩)
def g51H:Hints:=⟨[J [2,3,4],J [3,4,8],J [4],J [4]],[],[],[4],[],[[false,false]]⟩
def g51T:FunT:=⟨51,[hO1,hV3],hV3,[sD,sD],λx=>g51 m x.1.1 x.1.2.1 x.1.2.2.1 x.1.2.2.2.1 x.1.2.2.2.2.1 x.2.1.1 x.2.1.2.1⟩
def g51ok:FO (g51T m):=fk g51H (g51T m) func51 (AllF.mem (l:=[g115T m,g50T m,g124T m]) ⟨g115ok m,g50ok m,g124ok m,trivial⟩)
def g52H:Hints:=⟨[J [2,3,4],J' [(8,2),(9,2)] [4,5,6],J [4,5,6,19],J' [(0,1),(1,2),(3,1)] [4,6,8],J' [(0,1),(1,1)] [4,5,6],J' [(0,1)] [4]],[(0,[4,5,6])],[(0,[4,5]),(1,[4,5,6])],[4],[],[[false,false]]⟩
def g52T:FunT:=⟨52,[hV3,hV3],hV3,[sD,sD],λx=>g52 m x.1.1 x.1.2.1 x.2.1.1 x.2.1.2.1⟩
noncomputable def g52C:Code:=codeOf f52
noncomputable def g52B0:Code:=ql g52C 0 0
def g52K:FL [g116T m,g125T m,g126T m,g117T m]:=AllF.mem ⟨g116ok m,g125ok m,g126ok m,g117ok m,trivial⟩
def g52L0X:LT:=⟨0,[(4,sX 0 [.bool,.nm 1 (.int .u32)]),(5,h53),(6,h53)],[(.exit 0,[(4,sX 0 [.bool,.nm 1 (.int .u32)]),(5,h53)])],λn x=>g52L0 m n x.1.1 x.1.2.1 x.2.1 x.2.2.1⟩
def g52L0ok {E} (hE:EO E 30 g52H) (n):LO E g52B0 ((g52L0X m).at n):=lk hE (g52K m) (g52L0X m) n
def g52ok:FO (g52T m):=f1' g52H (g52T m) func52 (g52K m) λ_ h=>g52L0ok m h m
def g11H:Hints:=⟨[J [0],J [0,4],J [0,4,16],J' [(0,1)] [2,3],J [0,5],J' [(0,1),(3,11)] [5,6],J [5,6,7],J' [(5,1)] [5,6,7,37],J' [(0,1)] [5,6,7],J [5,6,7,42],J [2,3],J' [(0,1)] [6,7,8],J [6,7,8],J [6,7,8,9],J [6,7,8,9,56,57,58],J [6,7,8,9,56,57,58,59],J [6,7,8,9,10,11,56,57,58],J' [(5,1)] [6,7,8,9,11,56,57,58],J' [(2,1)] [6,7,8,9,56,57,58],J' [(1,1)] [6,7,8,9,56,57,58],J [8,9,85,86],J [8,9,85,86,87],J [8,9,12,85,86],J' [(8,1)] [8,9,85,86],J' [(1,1)] [8,9,85,86],J' [(0,1)] [2,3]],[(0,[5,6,7]),(2,[6,7,8,9,56,57,58]),(4,[8,9,85,86])],[(0,[5,6,7]),(1,[5,6,7]),(2,[8,9]),(3,[6,7,8,9,56,57,58]),(4,[8]),(5,[8,9,85,86])],[2,3],[],[[true],[false]]⟩
def g11T:FunT:=⟨11,[hU2],.tup [(.c (.nm 0 (.pr .bool (.sl false (.int .u32))))),(.c (.int .i64))],[sD],λx=>g11 m x.1⟩
noncomputable def g11C:Code:=codeOf f11
noncomputable def g11B0:Code:=ql g11C 0 0
noncomputable def g11B2:Code:=ql g11C 0 1
noncomputable def g11B4:Code:=ql g11C 0 2
def g11K:FL [g45T m,g48T m,g47T m,g46T m,g49T m,g51T m,g50T m,g52T m,g53T m]:=AllF.mem ⟨g45ok m,g48ok m,g47ok m,g46ok m,g49ok m,g51ok m,g50ok m,g52ok m,g53ok m,trivial⟩
def g11L2X:LT:=⟨4,[(8,hI3),(9,sX 1 [.bool,.imm (.int .u32)]),(85,sI),(86,sI)],[(.exit 4,[(8,hI3)])],λn x=>g11L2 m n x.1 x.2.1.1 x.2.1.2.1 x.2.2.1 x.2.2.2.1⟩
def g11L2ok {E} (hE:EO E 103 g11H) (n):LO E g11B4 ((g11L2X m).at n):=lk hE (g11K m) (g11L2X m) n
def g11L1X:LT:=⟨2,[(6,sX 0 [.imm (.sl false (.pr .bool (.sl false (.int .u32)))),iL,.bool,.imm (.int .u32),iI]),(7,sI),(8,hC3),(9,sX 2 [.bool,.imm (.int .u32)]),(56,sL),(57,sI),(58,sI)],[(.exit 2,[(8,hI3),(9,sX 1 [.bool,.imm (.int .u32)])])],λn x=>g11L1 m n x.1.1 x.1.2.1 x.1.2.2.1 x.1.2.2.2.1 x.1.2.2.2.2.1 x.2.1 x.2.2.1 x.2.2.2.1.1 x.2.2.2.1.2.1 x.2.2.2.2.1 x.2.2.2.2.2.1 x.2.2.2.2.2.2.1⟩
def g11L1ok {E} (hE:EO E 103 g11H) (n):LO E g11B2 ((g11L1X m).at n):=lk hE (g11K m) (g11L1X m) n
def g11L0X:LT:=⟨0,[(5,sI),(6,sX 0 [.imm (.sl false (.pr .bool (.sl false (.int .u32)))),iL,.bool,.imm (.int .u32),iI]),(7,sI)],[(.exit 0,[(5,sI),(6,sX 0 [.imm (.sl false (.pr .bool (.sl false (.int .u32)))),iL,.bool,.imm (.int .u32),iI]),(7,sI)])],λn x=>g11L0 m n x.1 x.2.1.1 x.2.1.2.1 x.2.1.2.2.1 x.2.1.2.2.2.1 x.2.1.2.2.2.2.1 x.2.2.1⟩
def g11L0ok {E} (hE:EO E 103 g11H) (n):LO E g11B0 ((g11L0X m).at n):=lk hE (g11K m) (g11L0X m) n
def g11ok:FO (g11T m):=
 fok hmix htt (H:=g11H) (g11T m) func11 kR (g11K m) (L:=[(g11L0X m).at m,(g11L1X m).at m,(g11L2X m).at m]) (l:=[(0,g11B0),(2,g11B2),(4,g11B4)]) kR (λ_ hE _ _=>⟨qj ⟨yb (g11L0ok m hE m),nb rfl,nb rfl,trivial⟩,qj ⟨nb rfl,yb (g11L1ok m hE m),nb rfl,trivial⟩,qj ⟨nb rfl,nb rfl,yb (g11L2ok m hE m),trivial⟩,trivial⟩) (λx=>kR)
def g285H:Hints:={regs:=[J [0],J [0],J [2],J [2]],heads:=[],exits:=[],rets:=[2],pins:=[],spec:=[[true]]}
abbrev g285A:List Sh:=[h91]
abbrev g285S:Sh:= h51
abbrev g285U:List Sh:=[sD]
def g285R:X5 g285A->Option (g285S.Val×X5 g285U):=λx=>g285 m x.1
def g285T:FunT:=⟨285,g285A,g285S,g285U,g285R m⟩
noncomputable def g285C:Code:=codeOf f285
def g285ok:FO (g285T m):=
 qdr hmix htt (H:=g285H) (fn:=f285) (f:=285) (t:=(.pr (.int .i64) (.pr (.int .i64) (.int .u64)))) (ty:=78) (e:=81) (ty2:=78) (k:=1) (cells:=[.nil (.pr (.int .i64) (.pr (.int .i64) (.int .u64)))]) (A:=pA g285C) (X:=pX (pB (pA (pB g285C)))) (Y:=pB (pB g285C)) (o0:=pO 0 (pA (pA (pB g285C)))) (o1:=pO 1 (pA (pA (pB g285C)))) func285 kR kR kR kR kR kR kR kR kR (of_decide_eq_true kR) rfl kR kR kR (λxs=>[(0,.sl .imm (.pr (.int .i64) (.pr (.int .i64) (.int .u64))) xs)]) (λxs=>[(2,.sl (.nm 0) (.pr (.int .i64) (.pr (.int .i64) (.int .u64))) xs)]) (λxs=>kR) (λ_=>rfl) (λ_=>rfl) (λ_=>rfl) kR (λxs=>kR) (λxs=>kR)
def g288H:Hints:=⟨[J [0],J [0,3],J' [(0,1)] [3,6,7,8],J [3,6,7,8,9],J [3,5,6,7,8],J [3,5,6,7,8,14],J' [(0,1)] [2],J' [(1,1)] [3,6,7,8],J' [(0,1)] [2]],[(0,[3,6,7,8])],[(0,[3]),(1,[3,6,7,8])],[2],[],[[false]]⟩
def g288T:FunT:=⟨288,[sL],sI,[sD],λx=>g288 m x.1⟩
noncomputable def g288C:Code:=codeOf f288
noncomputable def g288B0:Code:=ql g288C 0 0
def g288L0X:LT:=⟨0,[(3,sI),(6,sL),(7,sI),(8,sI)],[(.ret,[(2,sI)]),(.exit 0,[(3,sI)])],λn x=>g288L0 m n x.1 x.2.1 x.2.2.1 x.2.2.2.1⟩
def g288L0ok {E} (hE:EO E 18 g288H) (n):LO E g288B0 ((g288L0X m).at n):=lk hE noF (g288L0X m) n
def g288ok:FO (g288T m):=f1' g288H (g288T m) func288 noF λ_ h=>g288L0ok m h m
def g287H:Hints:=⟨[J [2,3],J [4]],[],[],[4],[],[[false]]⟩
def g287T:FunT:=⟨287,[hQ3,hQ3],sI,[sD,sD],λx=>g287 m x.1.1 x.1.2.1 x.1.2.2.1 x.2.1.1 x.2.1.2.1 x.2.1.2.2.1⟩
def g287ok:FO (g287T m):=fk g287H (g287T m) func287 (AllF.mem (l:=[g283T m,g288T m]) ⟨g283ok m,g288ok m,trivial⟩)
def g348H:Hints:=⟨[J [0,1,2,3,8],J [0,1,2,3,8,14],J' [(0,1)] [0,1,2,3,8],J [0,1,2,3,8,9],J' [(3,1)] [0,1,2,3,8,9,34],J' [(0,1)] [0,1,2,3,8,9],J [0,1,2,3,8,9]],[(0,[0,1,2,3,8]),(2,[0,1,2,3,8,9])],[(0,[0]),(1,[0,1,2,3,8]),(2,[0,1,2,3,8]),(3,[0,1,2,3,8,9])],[0],[0],[]⟩
def g348T:FunT:=⟨348,[h51,sI,sI,hM4],.tup [],[h51,sD,sD,sD],λx=>g348 m x.1 x.2.1 x.2.2.1⟩
noncomputable def g348C:Code:=codeOf f348
noncomputable def g348B0:Code:=ql g348C 0 0
noncomputable def g348B2:Code:=ql g348B0 0 0
def g348K:FL [g287T m]:=AllF.mem ⟨g287ok m,trivial⟩
def g348L1X:LT:=⟨2,[(0,h51),(1,sI),(2,sI),(3,hM4),(8,sI),(9,sI)],[(.exit 2,[(0,h51),(1,sI),(2,sI),(3,hM4),(8,sI)])],λn x=>g348L1 m n x.1 x.2.1 x.2.2.1 x.2.2.2.2.1 x.2.2.2.2.2.1⟩
def g348L1ok {E} (hE:EO E 53 g348H) (n):LO E g348B2 ((g348L1X m).at n):=lk hE (g348K m) (g348L1X m) n
def g348L0X:LT:=⟨0,[(0,h51),(1,sI),(2,sI),(3,hM4),(8,sI)],[(.exit 0,[(0,h51)])],λn x=>g348L0 m n x.1 x.2.1 x.2.2.1 x.2.2.2.2.1⟩
def g348L0ok {E} (hE:EO E 53 g348H) (n):LO E g348B0 ((g348L0X m).at n):=
 lok hmix htt hE (g348K m) (L:=[(g348L1X m).at m]) (g348L0X m) (l:=[(2,g348B2)]) kR (λ_ _=>⟨qj ⟨yb (g348L1ok m hE m),trivial⟩,trivial⟩) (λn x=>kR) (λ_=>kR) n
def g348ok:FO (g348T m):=f1' g348H (g348T m) func348 (g348K m) λ_ h=>g348L0ok m h m
end
end Go.Vs.F
