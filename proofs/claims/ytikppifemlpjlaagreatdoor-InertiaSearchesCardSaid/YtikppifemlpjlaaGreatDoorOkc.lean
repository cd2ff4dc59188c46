import Derived.Test.YtikppifemlpjlaaGreatDoorOkb
set_option linter.unusedVariables false
set_option maxRecDepth 100000
set_option linter.defProp false
namespace Go.Vs.F
open Go.Proofs
open Tryz
section
variable (m:Nat)
def g51H:Hints:=⟨jG [] [jF [0,3,4],jA [5],jA [18],jE [0] [2,3,4,5],jF [0,3,4,20,21,22],jA [23],jB [6,7] [23],jD [0] [27,28,29] [7],jA [30],jB [8,9] [30],jD [2] [43] [8,9],jF [2,3,4,5],jE [1] [0,3,4,6,20,21,22,27,28,29],jD [1] [] [6,27,28,29],jF [0,3,4,10],jC [4] [60],jD [0] [] [60],jA [11],jD [0] [63,64,65] [10],jA [66],jB [13] [66],jB [14] [13],jA [74],jD [0] [] [74],jA [78],jD [0] [] [14,78],jC [1] [],jE [0] [2,3,4,5]],[(0,[0,3,4,20,21,22]),(2,[0,3,4,6,20,21,22,27,28,29]),(4,[0,3,4,10]),(6,[0,3,4,11,63,64,65])],[(0,[0,3,4]),(1,[0,3,4,20,21,22]),(2,[0,3,4,20,21,22]),(3,[0,3,4,6,20,21,22,27,28,29]),(4,[0,3,4,10]),(5,[0,3,4,10]),(6,[0,3,4]),(7,[0,3,4,11,63,64,65])],[2,3,4,5],[],[[false],[false],[false],[false]]⟩
def g51T:FunT:=⟨51,[h92],.tup [(.c (.int .i64)),(.c (.int .i64)),(.c (.int .i64)),(.c (.int .i64))],[sD],un (g51 m)⟩
noncomputable def g51C:Code:=codeOf f51
noncomputable def g51B0:Code:=qp g51C 0 0
noncomputable def g51B2:Code:=qp g51B0 0 0
noncomputable def g51B4:Code:=qp g51C 0 1
noncomputable def g51B6:Code:=qp g51C 0 2
def g51K:FL [g87T m,g88T m,g90T m,g89T m,g91T m]:=AllF.mem ⟨g87ok m,g88ok m,g90ok m,g89ok m,g91ok m,trivial⟩
def g51L3X:LT:=⟨6,[(0,h92),(3,sI),(4,sI),(11,sI),(63,hT3),(64,sI),(65,sI)],[(.exit 6,[(0,h92),(3,sI),(4,sI)])],λn=>uq (g51L3 m n)⟩
def g51L3ok {E} (hE:EO E 89 g51H) (n):LO E g51B6 ((g51L3X m).at n):=lk hE (g51K m) (g51L3X m) n
def g51L2X:LT:=⟨4,[(0,h92),(3,sI),(4,sI),(10,hT3)],[(.exit 4,[(0,h92),(3,sI),(4,sI),(10,hT3)])],λn=>uq (g51L2 m n)⟩
def g51L2ok {E} (hE:EO E 89 g51H) (n):LO E g51B4 ((g51L2X m).at n):=lk hE (g51K m) (g51L2X m) n
def g51L1X:LT:=⟨2,[(0,h92),(3,sI),(4,sI),(6,sI),(20,h92),(21,sI),(22,sI),(27,hV3),(28,sI),(29,sI)],[(.ret,[(2,sI),(3,sI),(4,sI),(5,sI)]),(.exit 2,[(0,h92),(3,sI),(4,sI),(20,h92),(21,sI),(22,sI)])],λn=>uq (g51L1 m n)⟩
def g51L1ok {E} (hE:EO E 89 g51H) (n):LO E g51B2 ((g51L1X m).at n):=lk hE (g51K m) (g51L1X m) n
def g51L0X:LT:=⟨0,[(0,h92),(3,sI),(4,sI),(20,h92),(21,sI),(22,sI)],[(.ret,[(2,sI),(3,sI),(4,sI),(5,sI)]),(.exit 0,[(0,h92),(3,sI),(4,sI)])],λn=>uq (g51L0 m n)⟩
def g51L0ok {E} (hE:EO E 89 g51H) (n):LO E g51B0 ((g51L0X m).at n):=
 lok hmix htt hE (g51K m) (L:=[(g51L1X m).at m]) (g51L0X m) (l:=[(2,g51B2)]) kR (λ_ _=>⟨qi ⟨yb (g51L1ok m hE m),trivial⟩,trivial⟩) (λn x=>kR) (λ_=>kR) n
def g51ok:FO (g51T m):=
 fok hmix htt (H:=g51H) (g51T m) func51 kR (g51K m) (L:=[(g51L0X m).at m,(g51L2X m).at m,(g51L3X m).at m]) (l:=[(0,g51B0),(4,g51B4),(6,g51B6)]) kR (λ_ hE _ _=>⟨qi ⟨yb (g51L0ok m hE m),nb rfl,nb rfl,trivial⟩,qi ⟨nb rfl,yb (g51L2ok m hE m),nb rfl,trivial⟩,qi ⟨nb rfl,nb rfl,yb (g51L3ok m hE m),trivial⟩,trivial⟩) (λx=>kR)
def g20H:Hints:=⟨jG [] [jF [1,2,4],jA [6],jA [15],jE [1] [4,5],jE [1,5] [4,7,8,9,10],jE [0,1,2,4] [4,5]],[],[],[4,5],[],[[false,false,false],[false]]⟩
def g20T:FunT:=⟨20,[h71,sU],.tup [(.agg [(.int .i64),(.int .i64),(.int .i64)]),(.c (.int .i64))],[sD,sD],un (g20 m)⟩
def g20ok:FO (g20T m):=fk g20H (g20T m) func20 (AllF.mem (l:=[g33T m,g35T m,g52T m,g51T m]) ⟨g33ok m,g35ok m,g52ok m,g51ok m,trivial⟩)
def g45H:Hints:=⟨jG [] [jF [0],jE [0] [2]],[],[],[2],[],[[false]]⟩
def g45T:FunT:=⟨45,[sU],sB,[sD],un (g45 m)⟩
def g45ok:FO (g45T m):=fk g45H (g45T m) func45 (AllF.mem (l:=[g46T m]) ⟨g46ok m,trivial⟩)
def g42H:Hints:=⟨jG [] [jF [0],jA [4],jF [2],jC [0] []],[],[],[2],[],[[false]]⟩
def g42T:FunT:=⟨42,[sU],sU,[sD],un (g42 m)⟩
def g42ok:FO (g42T m):=fk g42H (g42T m) func42 (AllF.mem (l:=[g45T m]) ⟨g45ok m,trivial⟩)
def g24H:Hints:=⟨jG [] [jF [1,2],jA [6],jA [13],jE [0] [4,5],jF [1,2,15],jA [16],jF [4,5],jF [1,2,20],jF [4,5],jE [1,3] [7,8],jE [5] [4,5]],[],[(0,[1,2])],[4,5],[],[[false],[false]]⟩
def g24T:FunT:=⟨24,[h71,sU],.tup [(.c (.int .i64)),(.c (.int .i64))],[sD,sD],un (g24 m)⟩
def g24ok:FO (g24T m):=fk g24H (g24T m) func24 (AllF.mem (l:=[g33T m,g20T m]) ⟨g33ok m,g20ok m,trivial⟩)
def sparselaw39_awake_H:Hints:=⟨jG [] [jF [],jF [1],jC [2] [2,3],jC [2] [5,6],jD [3] [7,8] [1],jE [0,2,3,6,7,10,15,16,19,20] [0]],[],[],[0],[],[[false]]⟩
abbrev sparselaw39_awake_A:List Sh:=[]
abbrev sparselaw39_awake_S:Sh:= sB
abbrev sparselaw39_awake_U:List Sh:=[]
def sparselaw39_awake_R:X4 sparselaw39_awake_A->Option (sparselaw39_awake_S.Val×X4 sparselaw39_awake_U):=λ(x:Unit)=>sparselaw39_awake m
def sparselaw39_awake_T:FunT:=⟨15,sparselaw39_awake_A,sparselaw39_awake_S,sparselaw39_awake_U,sparselaw39_awake_R m⟩
def sparselaw39_awake_ok:FO (sparselaw39_awake_T m):=fk sparselaw39_awake_H (sparselaw39_awake_T m) func15 (AllF.mem (l:=[g20T m,g12T m,g42T m,g24T m]) ⟨g20ok m,g12ok m,g42ok m,g24ok m,trivial⟩)
def g44H:Hints:=⟨jG [] [jF [0],jA [3],jA [4],jA [15],jE [0] [0,3,4],jA [5],jA [24],jD [0] [] [24],jA [35],jD [0] [] [35],jM [(0,6)] [6] [4,5],jA [7],jA [50],jD [0] [] [50],jA [8],jA [9],jA [59],jD [0] [] [59],jA [10],jM [(1,2),(2,2)] [11] [],jA [73],jB [] [10,73],jD [0] [] [11],jM [(0,1),(1,1),(2,6),(3,6)] [] [8,9],jE [0] [2]],[(0,[0,3,4]),(2,[0,3,4,5]),(4,[0,3,6,7]),(6,[0,3,6,7,8,9])],[(0,[0,3]),(1,[0,3,4]),(2,[0,3,4]),(3,[0,3,4,5]),(4,[6]),(5,[0,3,6,7]),(6,[0,3,6,7,8]),(7,[0,3,6,7,8,9])],[2],[],[[false]]⟩
def g44T:FunT:=⟨44,[h81],h92,[sD],un (g44 m)⟩
noncomputable def g44C:Code:=codeOf f44
noncomputable def g44B0:Code:=qp g44C 0 0
noncomputable def g44B2:Code:=qp g44B0 0 0
noncomputable def g44B4:Code:=qp g44C 0 1
noncomputable def g44B6:Code:=qp g44B4 4 0
def g44K:FL [g38T m,g68T m,g80T m]:=AllF.mem ⟨g38ok m,g68ok m,g80ok m,trivial⟩
def g44L3X:LT:=⟨6,[(0,h81),(3,sI),(6,hQ3),(7,sI),(8,hR3),(9,sI)],[(.exit 6,[(0,h81),(3,sI),(6,hQ3),(7,sI),(8,hR3)])],λn=>uq (g44L3 m n)⟩
def g44L3ok {E} (hE:EO E 90 g44H) (n):LO E g44B6 ((g44L3X m).at n):=lk hE (g44K m) (g44L3X m) n
def g44L2X:LT:=⟨4,[(0,h81),(3,sI),(6,hQ3),(7,sI)],[(.exit 4,[(6,hQ3)])],λn=>uq (g44L2 m n)⟩
def g44L2ok {E} (hE:EO E 90 g44H) (n):LO E g44B4 ((g44L2X m).at n):=
 lok hmix htt hE (g44K m) (L:=[(g44L3X m).at m]) (g44L2X m) (l:=[(6,g44B6)]) kR (λ_ _=>⟨qi ⟨yb (g44L3ok m hE m),trivial⟩,trivial⟩) (λn x=>kR) (λ_=>kR) n
def g44L1X:LT:=⟨2,[(0,h81),(3,sI),(4,sI),(5,sI)],[(.exit 2,[(0,h81),(3,sI),(4,sI)])],λn=>uq (g44L1 m n)⟩
def g44L1ok {E} (hE:EO E 90 g44H) (n):LO E g44B2 ((g44L1X m).at n):=lk hE (g44K m) (g44L1X m) n
def g44L0X:LT:=⟨0,[(0,h81),(3,sI),(4,sI)],[(.exit 0,[(0,h81),(3,sI)])],λn=>uq (g44L0 m n)⟩
def g44L0ok {E} (hE:EO E 90 g44H) (n):LO E g44B0 ((g44L0X m).at n):=
 lok hmix htt hE (g44K m) (L:=[(g44L1X m).at m]) (g44L0X m) (l:=[(2,g44B2)]) kR (λ_ _=>⟨qi ⟨yb (g44L1ok m hE m),trivial⟩,trivial⟩) (λn x=>kR) (λ_=>kR) n
def g44ok:FO (g44T m):=
 fok hmix htt (H:=g44H) (g44T m) func44 kR (g44K m) (L:=[(g44L0X m).at m,(g44L2X m).at m]) (l:=[(0,g44B0),(4,g44B4)]) kR (λ_ hE _ _=>⟨qi ⟨yb (g44L0ok m hE m),nb rfl,trivial⟩,qi ⟨nb rfl,yb (g44L2ok m hE m),trivial⟩,trivial⟩) (λx=>kR)
def g77H:Hints:=⟨jG [] [jF [0],jM [(0,6)] [3] [],jA [4],jA [10],jE [0] [0,3,4],jA [5],jA [6],jA [19],jD [0] [] [19],jC [0] [],jM [(0,1),(1,1),(2,6),(3,6)] [] [5,6],jE [0] [2]],[(0,[0,3,4]),(2,[0,3,4,5,6])],[(0,[3]),(1,[0,3,4]),(2,[0,3,4,5]),(3,[0,3,4,5,6])],[2],[],[[true]]⟩
def g77T:FunT:=⟨77,[h92],h51,[sD],un (g77 m)⟩
noncomputable def g77C:Code:=codeOf f77
noncomputable def g77B0:Code:=qp g77C 0 0
noncomputable def g77B2:Code:=qp g77B0 0 0
def g77K:FL [g117T m,g123T m]:=AllF.mem ⟨g117ok m,g123ok m,trivial⟩
def g77L1X:LT:=⟨2,[(0,h92),(3,h51),(4,sI),(5,h61),(6,sI)],[(.exit 2,[(0,h92),(3,h51),(4,sI),(5,h61)])],λn=>uq (g77L1 m n)⟩
def g77L1ok {E} (hE:EO E 40 g77H) (n):LO E g77B2 ((g77L1X m).at n):=lk hE (g77K m) (g77L1X m) n
def g77L0X:LT:=⟨0,[(0,h92),(3,h51),(4,sI)],[(.exit 0,[(3,h51)])],λn=>uq (g77L0 m n)⟩
def g77L0ok {E} (hE:EO E 40 g77H) (n):LO E g77B0 ((g77L0X m).at n):=
 lok hmix htt hE (g77K m) (L:=[(g77L1X m).at m]) (g77L0X m) (l:=[(2,g77B2)]) kR (λ_ _=>⟨qi ⟨yb (g77L1ok m hE m),trivial⟩,trivial⟩) (λn x=>kR) (λ_=>kR) n
def g77ok:FO (g77T m):=f1' g77H (g77T m) func77 (g77K m) λ_ h=>g77L0ok m h m
def g124H:Hints:=⟨jG [] [jF [1],jF [2]],[],[],[2],[],[[false]]⟩
def g124T:FunT:=⟨124,[hC3],sB,[sD],un (g124 m)⟩
def g124ok:FO (g124T m):=fk g124H (g124T m) func124 (AllF.mem (l:=[g69T m]) ⟨g69ok m,trivial⟩)
def g78H:Hints:=⟨jG [] [jF [0,1],jA [6],jA [12],jE [0] [0,1,6],jA [29],jF [4,5],jF [0,1,7],jA [41],jE [0] [0,1,7],jA [8],jA [46],jD [0] [] [46],jA [63],jE [1,5] [4,5],jA []],[(0,[0,1,6]),(2,[0,1,7]),(4,[0,1,7,8])],[(0,[0,1]),(1,[0,1,6]),(2,[]),(3,[0,1,7]),(4,[0,1,7]),(5,[0,1,7,8])],[4,5],[],[[false],[false]]⟩
def g78T:FunT:=⟨78,[hY1,sL],.tup [(.c (.int .i64)),(.c (.int .i64))],[sD,sD],un (g78 m)⟩
noncomputable def g78C:Code:=codeOf f78
noncomputable def g78B0:Code:=qp g78C 0 0
noncomputable def g78B2:Code:=qp g78C 0 1
noncomputable def g78B4:Code:=qp g78B2 2 0
def g78K:FL [g124T m]:=AllF.mem ⟨g124ok m,trivial⟩
def g78L2X:LT:=⟨4,[(0,hY1),(1,sL),(7,sI),(8,sI)],[(.ret,[(4,sI),(5,sI)]),(.exit 4,[(0,hY1),(1,sL),(7,sI)])],λn=>uq (g78L2 m n)⟩
def g78L2ok {E} (hE:EO E 72 g78H) (n):LO E g78B4 ((g78L2X m).at n):=lk hE (g78K m) (g78L2X m) n
def g78L1X:LT:=⟨2,[(0,hY1),(1,sL),(7,sI)],[(.ret,[(4,sI),(5,sI)]),(.exit 2,[])],λn=>uq (g78L1 m n)⟩
def g78L1ok {E} (hE:EO E 72 g78H) (n):LO E g78B2 ((g78L1X m).at n):=
 lok hmix htt hE (g78K m) (L:=[(g78L2X m).at m]) (g78L1X m) (l:=[(4,g78B4)]) kR (λ_ _=>⟨qi ⟨yb (g78L2ok m hE m),trivial⟩,trivial⟩) (λn x=>kR) (λ_=>kR) n
def g78L0X:LT:=⟨0,[(0,hY1),(1,sL),(6,sI)],[(.ret,[(4,sI),(5,sI)]),(.exit 0,[(0,hY1),(1,sL)])],λn=>uq (g78L0 m n)⟩
def g78L0ok {E} (hE:EO E 72 g78H) (n):LO E g78B0 ((g78L0X m).at n):=lk hE (g78K m) (g78L0X m) n
def g78ok:FO (g78T m):=
 fok hmix htt (H:=g78H) (g78T m) func78 kR (g78K m) (L:=[(g78L0X m).at m,(g78L1X m).at m]) (l:=[(0,g78B0),(2,g78B2)]) kR (λ_ hE _ _=>⟨qi ⟨yb (g78L0ok m hE m),nb rfl,trivial⟩,qi ⟨nb rfl,yb (g78L1ok m hE m),trivial⟩,trivial⟩) (λx=>kR)
def g168H:Hints:=⟨jG [] [jF [2,3,4],jF [4,5,6],jA [15],jD [3] [8] [15],jB [] [8],jF [4]],[(0,[4,5,6])],[(0,[4,5]),(1,[4,5,6])],[4],[],[[false,false]]⟩
def g168T:FunT:=⟨168,[hY3,hY3],hY3,[sD,sD],un (g168 m)⟩
noncomputable def g168C:Code:=codeOf f168
noncomputable def g168B0:Code:=qp g168C 0 0
def g168K:FL [g82T m,g69T m,g196T m]:=AllF.mem ⟨g82ok m,g69ok m,g196ok m,trivial⟩
def g168L0X:LT:=⟨0,[(4,sX 0 [.bool,.nm 1 (.int .u32)]),(5,sX 2 [.bool,.imm (.int .u32)]),(6,sX 3 [.bool,.imm (.int .u32)])],[(.exit 0,[(4,sX 0 [.bool,.nm 1 (.int .u32)]),(5,sX 2 [.bool,.imm (.int .u32)])])],λn=>uq (g168L0 m n)⟩
def g168L0ok {E} (hE:EO E 25 g168H) (n):LO E g168B0 ((g168L0X m).at n):=lk hE (g168K m) (g168L0X m) n
def g168ok:FO (g168T m):=f1' g168H (g168T m) func168 (g168K m) λ_ h=>g168L0ok m h m
def g169H:Hints:=⟨jG [] [jF [2,3,4],jE [3] [4,6,7],jF [4,6,16],jF [4,5],jA []],[],[],[4,5],[],[[false,false],[false]]⟩
def g169T:FunT:=⟨169,[hY3,hY3],.tup [(.agg [.bool,(.imm (.int .u32))]),(.c .bool)],[sD,sD],un (g169 m)⟩
def g169ok:FO (g169T m):=fk g169H (g169T m) func169 (AllF.mem (l:=[g196T m,g69T m]) ⟨g196ok m,g69ok m,trivial⟩)
def g125H:Hints:=⟨jG [] [jF [2,3,4],jA [5],jA [15],jB [] [15],jD [3] [6] [2],jE [3] [4,6,8],jF [4]],[],[],[4],[],[[false,false,false,false]]⟩
def g125T:FunT:=⟨125,[hY3,hY3],hC3,[sD,sD],un (g125 m)⟩
def g125ok:FO (g125T m):=fk g125H (g125T m) func125 (AllF.mem (l:=[g168T m,g69T m,g164T m,g169T m]) ⟨g168ok m,g69ok m,g164ok m,g169ok m,trivial⟩)
def g79H:Hints:=⟨jG [] [jF [4,5,6,7,8],jF [4,8,9],jF [8]],[],[],[8],[],[[false,false,false,false]]⟩
def g79T:FunT:=⟨79,[hC3,hC3,hC3,hC3],hC3,[sD,sD,sD,sD],un (g79 m)⟩
def g79ok:FO (g79T m):=fk g79H (g79T m) func79 (AllF.mem (l:=[g120T m,g125T m,g126T m]) ⟨g120ok m,g125ok m,g126ok m,trivial⟩)
def g43H:Hints:=⟨jG [] [jF [0],jA [5],jA [6,7],jA [8],jA [9],jA [25],jD [0] [] [25],jC [0] [],jB [34] [0,9],jD [3] [10,11] [34],jA [42],jB [12] [42],jA [13],jA [46],jD [0] [] [46],jC [6] [62],jD [0] [] [62],jB [72] [8,13],jB [82] [72],jD [0] [] [82],jC [0] [],jC [0,2] [],jA [14],jA [15],jA [101],jD [0] [] [101],jA [16],jA [106],jD [0] [] [106],jA [17,18],jA [19],jA [142],jB [] [142],jA [],jD [1,4] [] [17,18,19],jE [0] [5,6,7,8],jE [0,1,3] [2,3,4]],[(0,[0,5,6,7,8,9]),(2,[5,6,7,8]),(4,[5,6,7,8,10,11,12,13]),(6,[5,6,7,10,11,12,14,15]),(8,[5,6,7,10,11,12,14,15,16])],[(0,[5,6,7,8]),(1,[0,5,6,7,8,9]),(2,[6,7,8]),(3,[5,6,7,8]),(4,[5,6,7,10,11,12]),(5,[5,6,7,8,10,11,12,13]),(6,[5,6,7,12]),(7,[5,6,7,10,11,12,14,15]),(8,[5,6,7,10,11,12,14,15]),(9,[5,6,7,10,11,12,14,15,16])],[2,3,4],[],[[false],[false],[false]]⟩
def g43T:FunT:=⟨43,[h92],.tup [(.c (.int .i64)),(.c (.int .i64)),(.c (.int .i64))],[sD],un (g43 m)⟩
noncomputable def g43C:Code:=codeOf f43
noncomputable def g43B0:Code:=qp g43C 0 0
noncomputable def g43B2:Code:=qp g43C 0 1
noncomputable def g43B4:Code:=qp g43B2 2 0
noncomputable def g43B6:Code:=qp g43B2 2 1
noncomputable def g43B8:Code:=qp g43B6 6 0
def g43K:FL [g77T m,g78T m,g69T m,g79T m]:=AllF.mem ⟨g77ok m,g78ok m,g69ok m,g79ok m,trivial⟩
def g43L4X:LT:=⟨8,[(5,h51),(6,sI),(7,sI),(10,sI),(11,sI),(12,sN 1),(14,sX 2 [.bool,.imm (.int .u32),.bool,.imm (.int .u32)]),(15,sI),(16,sI)],[(.exit 8,[(5,h51),(6,sI),(7,sI),(10,sI),(11,sI),(12,sN 1),(14,sX 2 [.bool,.imm (.int .u32),.bool,.imm (.int .u32)]),(15,sI)])],λn=>uq (g43L4 m n)⟩
def g43L4ok {E} (hE:EO E 179 g43H) (n):LO E g43B8 ((g43L4X m).at n):=lk hE (g43K m) (g43L4X m) n
def g43L3X:LT:=⟨6,[(5,h51),(6,sI),(7,sI),(10,sI),(11,sI),(12,sN 1),(14,sX 2 [.bool,.imm (.int .u32),.bool,.imm (.int .u32)]),(15,sI)],[(.exit 6,[(5,h51),(6,sI),(7,sI),(12,sN 1)])],λn=>uq (g43L3 m n)⟩
def g43L3ok {E} (hE:EO E 179 g43H) (n):LO E g43B6 ((g43L3X m).at n):=
 lok hmix htt hE (g43K m) (L:=[(g43L4X m).at m]) (g43L3X m) (l:=[(8,g43B8)]) kR (λ_ _=>⟨qi ⟨yb (g43L4ok m hE m),trivial⟩,trivial⟩) (λn x=>kR) (λ_=>kR) n
def g43L2X:LT:=⟨4,[(5,h51),(6,sI),(7,sI),(8,sN 1),(10,sI),(11,sI),(12,sN 2),(13,sI)],[(.exit 4,[(5,h51),(6,sI),(7,sI),(10,sI),(11,sI),(12,sN 1)])],λn=>uq (g43L2 m n)⟩
def g43L2ok {E} (hE:EO E 179 g43H) (n):LO E g43B4 ((g43L2X m).at n):=lk hE (g43K m) (g43L2X m) n
def g43L1X:LT:=⟨2,[(5,h51),(6,sI),(7,sI),(8,sN 1)],[(.exit 2,[(6,sI),(7,sI),(8,sN 0)])],λn=>uq (g43L1 m n)⟩
def g43L1ok {E} (hE:EO E 179 g43H) (n):LO E g43B2 ((g43L1X m).at n):=
 lok hmix htt hE (g43K m) (L:=[(g43L2X m).at m,(g43L3X m).at m]) (g43L1X m) (l:=[(4,g43B4),(6,g43B6)]) kR (λ_ _=>⟨qi ⟨yb (g43L2ok m hE m),nb rfl,trivial⟩,qi ⟨nb rfl,yb (g43L3ok m hE m),trivial⟩,trivial⟩) (λn x=>kR) (λ_=>kR) n
def g43L0X:LT:=⟨0,[(0,h92),(5,h51),(6,sI),(7,sI),(8,sN 1),(9,sI)],[(.exit 0,[(5,h51),(6,sI),(7,sI),(8,sN 1)])],λn=>uq (g43L0 m n)⟩
def g43L0ok {E} (hE:EO E 179 g43H) (n):LO E g43B0 ((g43L0X m).at n):=lk hE (g43K m) (g43L0X m) n
def g43ok:FO (g43T m):=
 fok hmix htt (H:=g43H) (g43T m) func43 kR (g43K m) (L:=[(g43L0X m).at m,(g43L1X m).at m]) (l:=[(0,g43B0),(2,g43B2)]) kR (λ_ hE _ _=>⟨qi ⟨yb (g43L0ok m hE m),nb rfl,trivial⟩,qi ⟨nb rfl,yb (g43L1ok m hE m),trivial⟩,trivial⟩) (λx=>kR)
def g16H:Hints:=⟨jG [] [jF [1,2,4],jA [6],jA [14],jE [1] [4,5],jE [1,5] [4,7,8,9],jE [0,1,2] [4,5]],[],[],[4,5],[],[[false,false,false],[false]]⟩
def g16T:FunT:=⟨16,[h71,sU],.tup [(.agg [(.int .i64),(.int .i64),(.int .i64)]),(.c (.int .i64))],[sD,sD],un (g16 m)⟩
def g16ok:FO (g16T m):=fk g16H (g16T m) func16 (AllF.mem (l:=[g36T m,g37T m,g44T m,g43T m]) ⟨g36ok m,g37ok m,g44ok m,g43ok m,trivial⟩)
def g26H:Hints:=⟨jG [] [jF [1,2,4],jA [7],jA [19],jE [1] [4,5,6],jF [1,2,4,22,23,24],jA [25],jB [9] [25],jC [4] [10,11],jD [0] [36] [11],jE [1] [4,5,6],jE [1] [1,2,4,22,23,24],jE [1,3] [4,13,14],jE [1] [4,5,6]],[(0,[1,2,4,22,23,24])],[(0,[1,2,4]),(1,[1,2,4,22,23,24])],[4,5,6],[],[[false,false,false],[false],[false]]⟩
def g26T:FunT:=⟨26,[h71,sU],.tup [(.agg [(.int .i64),(.int .i64),(.int .i64)]),(.c (.int .i64)),(.c (.int .i64))],[sD,sD],un (g26 m)⟩
noncomputable def g26C:Code:=codeOf f26
noncomputable def g26B0:Code:=qp g26C 0 0
def g26K:FL [g33T m,g12T m,g20T m]:=AllF.mem ⟨g33ok m,g12ok m,g20ok m,trivial⟩
def g26L0X:LT:=⟨0,[(1,sU),(2,sX 0 [iI,iI,iL,iL,.imm (.int .u64)]),(4,sX 1 [iI,iI,iI]),(22,sN 2),(23,sI),(24,sI)],[(.ret,[(4,sX 0 [iI,iI,iI]),(5,sI),(6,sI)]),(.exit 0,[(1,sU),(2,sX 0 [iI,iI,iL,iL,.imm (.int .u64)]),(4,sX 1 [iI,iI,iI])])],λn=>uq (g26L0 m n)⟩
def g26L0ok {E} (hE:EO E 48 g26H) (n):LO E g26B0 ((g26L0X m).at n):=lk hE (g26K m) (g26L0X m) n
def g26ok:FO (g26T m):=f1' g26H (g26T m) func26 (g26K m) λ_ h=>g26L0ok m h m
def g27H:Hints:=⟨jG [] [jF [1,2,4],jC [3] [7,8],jA [20],jE [1] [4,5,6],jF [1,2,4,7,9],jA [24],jD [0] [] [24],jC [4] [11],jD [0] [35] [11],jE [1] [4,5,6],jA []],[(0,[1,2,4,7,9])],[(0,[4,7]),(1,[1,2,4,7,9])],[4,5,6],[],[[false,false,false],[false],[false]]⟩
def g27T:FunT:=⟨27,[h71,sU],.tup [(.agg [(.int .i64),(.int .i64),(.int .i64)]),(.c (.int .i64)),(.c (.int .i64))],[sD,sD],un (g27 m)⟩
noncomputable def g27C:Code:=codeOf f27
noncomputable def g27B0:Code:=qp g27C 0 0
def g27K:FL [g16T m,g13T m]:=AllF.mem ⟨g16ok m,g13ok m,trivial⟩
def g27L0X:LT:=⟨0,[(1,sU),(2,sX 0 [iI,iI,iL,iL,.imm (.int .u64)]),(4,sX 1 [iI,iI,iI]),(7,sX 2 [iI,iI,iI]),(9,sI)],[(.ret,[(4,sX 0 [iI,iI,iI]),(5,sI),(6,sI)]),(.exit 0,[(4,sX 0 [iI,iI,iI]),(7,sX 1 [iI,iI,iI])])],λn=>uq (g27L0 m n)⟩
def g27L0ok {E} (hE:EO E 39 g27H) (n):LO E g27B0 ((g27L0X m).at n):=lk hE (g27K m) (g27L0X m) n
def g27ok:FO (g27T m):=f1' g27H (g27T m) func27 (g27K m) λ_ h=>g27L0ok m h m
def sparselaw39_InertiaSearches_H:Hints:=⟨jG [] [jF [0,1,2,3,4],jE [0,1,2,4,5,7] [11,12],jC [3] [13,14,15],jD [1,3] [16,17,18] [11,12],jE [3,4,5,8,9,10,13] [10]],[],[],[10],[],[[false]]⟩
abbrev sparselaw39_InertiaSearches_A:List Sh:=[h73,sI,sI,sU,sB]
abbrev sparselaw39_InertiaSearches_S:Sh:= sB
abbrev sparselaw39_InertiaSearches_U:List Sh:=[sD,sD,sD,sD,sD]
def sparselaw39_InertiaSearches_R:X4 sparselaw39_InertiaSearches_A->Option (sparselaw39_InertiaSearches_S.Val×X4 sparselaw39_InertiaSearches_U):=λ(x:LI×Int×Int×Int×Bool×Unit)=>sparselaw39_InertiaSearches m x.1 x.2.1 x.2.2.1 x.2.2.2.1 x.2.2.2.2.1
def sparselaw39_InertiaSearches_T:FunT:=⟨8,sparselaw39_InertiaSearches_A,sparselaw39_InertiaSearches_S,sparselaw39_InertiaSearches_U,sparselaw39_InertiaSearches_R m⟩
def sparselaw39_InertiaSearches_ok:FO (sparselaw39_InertiaSearches_T m):=fk sparselaw39_InertiaSearches_H (sparselaw39_InertiaSearches_T m) func8 (AllF.mem (l:=[g14T m,sparselaw39_pick_T m,g26T m,g27T m,sparselaw39_awake_T m]) ⟨g14ok m,sparselaw39_pick_ok m,g26ok m,g27ok m,sparselaw39_awake_ok m,trivial⟩)
end
end Go.Vs.F
