/-The plain functions are what the code does (by program:gen.py). -/
import Derived.Test.YtkbgfnhdfmmfcaaGreatDoorOka
set_option linter.unusedVariables false
set_option maxRecDepth 100000
namespace Go.Vs.F
open Go.Proofs
open Tryz
section
variable (m:Nat)
def g288H:Hints:=⟨[J [0,1],J' [(0,6)] [0,1,5],J' [(0,1)] [1,5,13,14,15],J [1,5,13,14,15,16],J [1,5,7,13,14,15],J [1,5,7,8,13,14,15],J [1,5,7,8,13,14,15,20,21],J [1,5,7,8,13,14,15,20,21,22],J [1,5,7,8,9,13,14,15,20,21],J' [(0,2)] [1,5,7,8,9,10,13,14,15,20,21],J [1,5,7,8,9,10,13,14,15,20,21,24,25,26],J [1,5,7,8,9,10,13,14,15,20,21,24,25,26,27],J [1,5,7,8,9,10,11,12,13,14,15,20,21,24,25,26],J' [(0,2),(3,1)] [1,5,7,8,9,10,13,14,15,20,21,24,25,26],J' [(1,1)] [1,5,7,8,9,10,13,14,15,20,21,24,25,26],J' [(0,1)] [1,5,7,8,13,14,15,20,21],J' [(1,1)] [1,5,7,8,13,14,15,20,21],J' [(0,1),(1,1),(2,6),(3,6)] [1,5,13,14,15],J' [(1,1)] [1,5,13,14,15],J' [(0,1)] [4]],[(0,[1,5,13,14,15]),(2,[1,5,7,8,13,14,15,20,21]),(4,[1,5,7,8,9,10,13,14,15,20,21,24,25,26])],[(0,[5]),(1,[1,5,13,14,15]),(2,[1,5,8,13,14,15]),(3,[1,5,7,8,13,14,15,20,21]),(4,[1,5,7,8,10,13,14,15,20,21]),(5,[1,5,7,8,9,10,13,14,15,20,21,24,25,26])],[4],[],[[true]]⟩
def g288T:FunT:=⟨288,[h62,h62],hM3,[sD,sD],fun x=>g288 m x.1 x.2.1⟩
noncomputable def g288C:Code:=codeOf f288
noncomputable def g288B0:Code:=qo g288C 0 0
noncomputable def g288B2:Code:=qo g288B0 0 0
noncomputable def g288B4:Code:=qo g288B2 2 0
theorem g288K:FL [g223T m,g224T m]:=AllF.mem ⟨g223ok m,g224ok m,trivial⟩
def g288L2X:LT:=⟨4,[(1,h62),(5,hM3),(7,hU3),(8,hQ3),(9,sI),(10,sX 2 [.bool,.imm (.int .u32)]),(13,h62),(14,sI),(15,sI),(20,sI),(21,sI),(24,hU3),(25,sI),(26,sI)],[(.exit 4,[(1,h62),(5,hM3),(7,hU3),(8,hQ3),(10,sX 2 [.bool,.imm (.int .u32)]),(13,h62),(14,sI),(15,sI),(20,sI),(21,sI)])],fun n x=>g288L2 m n x.1 x.2.1 x.2.2.1 x.2.2.2.1 x.2.2.2.2.1 x.2.2.2.2.2.1.1 x.2.2.2.2.2.1.2.1 x.2.2.2.2.2.2.1 x.2.2.2.2.2.2.2.1 x.2.2.2.2.2.2.2.2.1 x.2.2.2.2.2.2.2.2.2.1 x.2.2.2.2.2.2.2.2.2.2.1 x.2.2.2.2.2.2.2.2.2.2.2.1 x.2.2.2.2.2.2.2.2.2.2.2.2.1 x.2.2.2.2.2.2.2.2.2.2.2.2.2.1⟩
theorem g288L2ok {E} (hE:EO E 54 g288H) (n):LO E g288B4 ((g288L2X m).at n):=lk hE (g288K m) (g288L2X m) n
def g288L1X:LT:=⟨2,[(1,h62),(5,hM3),(7,hU3),(8,hQ3),(13,h62),(14,sI),(15,sI),(20,sI),(21,sI)],[(.exit 2,[(1,h62),(5,hM3),(8,hQ3),(13,h62),(14,sI),(15,sI)])],fun n x=>g288L1 m n x.1 x.2.1 x.2.2.1 x.2.2.2.1 x.2.2.2.2.1 x.2.2.2.2.2.1 x.2.2.2.2.2.2.1 x.2.2.2.2.2.2.2.1 x.2.2.2.2.2.2.2.2.1⟩
theorem g288L1ok {E} (hE:EO E 54 g288H) (n):LO E g288B2 ((g288L1X m).at n):=
 lok hmix htt hE (g288K m) (L:=[(g288L2X m).at m]) (g288L1X m) (l:=[(4,g288B4)]) kR (fun _ _=>⟨qi ⟨yb (g288L2ok m hE m),trivial⟩,trivial⟩) (fun n x=>kR) (fun _=>kR) n
def g288L0X:LT:=⟨0,[(1,h62),(5,hM3),(13,h62),(14,sI),(15,sI)],[(.exit 0,[(5,hM3)])],fun n x=>g288L0 m n x.1 x.2.1 x.2.2.1 x.2.2.2.1 x.2.2.2.2.1⟩
theorem g288L0ok {E} (hE:EO E 54 g288H) (n):LO E g288B0 ((g288L0X m).at n):=
 lok hmix htt hE (g288K m) (L:=[(g288L1X m).at m]) (g288L0X m) (l:=[(2,g288B2)]) kR (fun _ _=>⟨qi ⟨yb (g288L1ok m hE m),trivial⟩,trivial⟩) (fun n x=>kR) (fun _=>kR) n
theorem g288ok:FO (g288T m):=f1' g288H (g288T m) func288 (g288K m) fun _ h=>g288L0ok m h m
def g294H:Hints:=⟨[J [0,1],J [0,1,6],J [0,1,6,7],J [0,1,6,7,8],J [0,1,6,7,8,17],J' [(0,1)] [0,1,6,7,8],J' [(0,1)] [0,1,6,8,9],J [0,1,6,8,9],J' [(0,1)] [0,1,6,7,8],J' [(0,1),(2,1)] [4,5]],[(0,[0,1,6,7,8])],[(0,[6,7]),(1,[0,1,6,7,8])],[4,5],[],[[false],[false]]⟩
def g294T:FunT:=⟨294,[hE4,hF4],.tup [(.c (.imm (.int .u32))),(.c (.int .u32))],[sD,sD],fun x=>g294 m x.1 x.2.1⟩
noncomputable def g294C:Code:=codeOf f294
noncomputable def g294B0:Code:=qo g294C 0 0
theorem g294K:FL [g228T m]:=AllF.mem ⟨g228ok m,trivial⟩
def g294L0X:LT:=⟨0,[(0,hE4),(1,hF4),(6,hm3),(7,sU),(8,sI)],[(.exit 0,[(6,hm3),(7,sU)])],fun n x=>g294L0 m n x.1 x.2.1 x.2.2.1 x.2.2.2.1 x.2.2.2.2.1⟩
theorem g294L0ok {E} (hE:EO E 44 g294H) (n):LO E g294B0 ((g294L0X m).at n):=lk hE (g294K m) (g294L0X m) n
theorem g294ok:FO (g294T m):=f1' g294H (g294T m) func294 (g294K m) fun _ h=>g294L0ok m h m
def g280H:Hints:=⟨[J [0],J' [(0,1)] [2]],[],[],[2],[],[[false]]⟩
def g280T:FunT:=⟨280,[hF4],sI,[sD],fun x=>g280 m x.1⟩
theorem g280ok:FO (g280T m):=fk g280H (g280T m) func280 (AllF.mem (l:=[g216T m]) ⟨g216ok m,trivial⟩)
def g295H:Hints:=⟨[J [0,1],J [0,1,5],J [0,1,5,6],J [0,1,5,7,8],J' [(2,1)] [0,1,5,7,8,71],J' [(0,1)] [0,1,5,7,8],J' [(0,1)] [0,1,5,7,8],J [0,1,5,7,8,83],J [0,1,5,7,9,10],J [0,1,5,7,9,10,84,85,86],J [0,1,5,7,9,10,84,85,86,87],J [0,1,5,7,9,10,11,12,84,85,86],J' [(1,1),(4,1)] [0,1,5,7,10,11,13,84,85,86],J [0,1,5,7,9,10,11,13,84,85,86],J' [(5,1),(8,1)] [0,1,5,7,9,11,14,84,85,86],J' [(1,1)] [0,1,5,7,9,14,84,85,86],J' [(0,1)] [0,1,5,7,9,10,84,85,86],J' [(1,1)] [0,1,5,7,9,10,84,85,86],J' [(5,1),(7,1)] [0,1,5,7,15],J [0,1,5,7,15],J' [(0,1)] [0,1,5,7,137],J' [(0,1)] [0,4],J [0,1,5,7,9],J' [(0,1)] [0,5,7,9,140,141,142],J [0,5,7,9,140,141,142,143],J [0,5,7,9,16,17,140,141,142],J' [(5,1),(8,1)] [0,5,7,16,18,140,141,142],J' [(1,1)] [0,5,7,18,140,141,142],J' [(0,1)] [0,5,7,9,140,141,142],J' [(1,1)] [0,5,7,9,140,141,142],J' [(1,1),(4,1)] [0,7],J' [(0,1)] [0,4]],[(0,[0,1,5,7,8]),(2,[0,1,5,7,9,10,84,85,86]),(4,[0,5,7,9,140,141,142])],[(0,[0,1,5,7]),(1,[0,1,5,7,8]),(2,[0,1,5,7,9,10]),(3,[0,1,5,7,9,10,84,85,86]),(4,[0,5,7,9]),(5,[0,5,7,9,140,141,142])],[0,4],[0],[[false]]⟩
def g295T:FunT:=⟨295,[h53,hE4],hF4,[h53,sD],fun x=>g295 m x.1 x.2.1⟩
noncomputable def g295C:Code:=codeOf f295
noncomputable def g295B0:Code:=qo g295C 0 0
noncomputable def g295B2:Code:=qo g295C 0 1
noncomputable def g295B4:Code:=qo g295C 0 2
def g295L2X:LT:=⟨4,[(0,h53),(5,sI),(7,sU),(9,sU),(140,hE4),(141,sI),(142,sI)],[(.exit 4,[(0,h53),(5,sI),(7,sU),(9,sU)])],fun n x=>g295L2 m n x.1 x.2.1 x.2.2.1 x.2.2.2.1 x.2.2.2.2.1 x.2.2.2.2.2.1 x.2.2.2.2.2.2.1⟩
theorem g295L2ok {E} (hE:EO E 177 g295H) (n):LO E g295B4 ((g295L2X m).at n):=lk hE noF (g295L2X m) n
def g295L1X:LT:=⟨2,[(0,h53),(1,hE4),(5,sI),(7,sU),(9,sU),(10,sU),(84,hE4),(85,sI),(86,sI)],[(.exit 2,[(0,h53),(1,hE4),(5,sI),(7,sU),(9,sU),(10,sU)])],fun n x=>g295L1 m n x.1 x.2.1 x.2.2.1 x.2.2.2.1 x.2.2.2.2.1 x.2.2.2.2.2.1 x.2.2.2.2.2.2.1 x.2.2.2.2.2.2.2.1 x.2.2.2.2.2.2.2.2.1⟩
theorem g295L1ok {E} (hE:EO E 177 g295H) (n):LO E g295B2 ((g295L1X m).at n):=lk hE noF (g295L1X m) n
def g295L0X:LT:=⟨0,[(0,h53),(1,hE4),(5,sI),(7,sU),(8,sU)],[(.exit 0,[(0,h53),(1,hE4),(5,sI),(7,sU)])],fun n x=>g295L0 m n x.1 x.2.1 x.2.2.1 x.2.2.2.1 x.2.2.2.2.1⟩
theorem g295L0ok {E} (hE:EO E 177 g295H) (n):LO E g295B0 ((g295L0X m).at n):=lk hE noF (g295L0X m) n
theorem g295ok:FO (g295T m):=
 fok hmix htt (H:=g295H) (g295T m) func295 kR noF (L:=[(g295L0X m).at m,(g295L1X m).at m,(g295L2X m).at m]) (l:=[(0,g295B0),(2,g295B2),(4,g295B4)]) kR (fun _ hE _ _=>⟨qi ⟨yb (g295L0ok m hE m),nb rfl,nb rfl,trivial⟩,qi ⟨nb rfl,yb (g295L1ok m hE m),nb rfl,trivial⟩,qi ⟨nb rfl,nb rfl,yb (g295L2ok m hE m),trivial⟩,trivial⟩) (fun x=>kR)
def g279H:Hints:=⟨[J [0,1],J [0,1,16],J' [(0,1)] [4,5],J [0,1,21],J' [(0,1),(1,1),(5,1)] [6,7],J' [(0,1),(1,1)] [4,5],J [0,1,8],J' [(0,1)] [0,8,9],J [0,8,9,10],J' [(1,1)] [8,9,10],J [8,9,10,11],J [4,8,9,10,11],J [4,8,9,10,11,12],J [4,8,9,10,11,12,64],J' [(0,1)] [4,8,9,10,11,12],J' [(10,300)] [4,8,9,10,11,12],J' [(0,1),(1,1),(4,1),(6,1)] [4,5],J' [(0,1),(2,1)] [4,5]],[(0,[4,8,9,10,11,12])],[(0,[4,8,10,11]),(1,[4,8,9,10,11,12])],[4,5],[],[[false],[false]]⟩
def g279T:FunT:=⟨279,[hE4,hE4],.tup [(.c (.imm (.int .u32))),(.c (.imm (.int .u32)))],[sD,sD],fun x=>g279 m x.1 x.2.1⟩
noncomputable def g279C:Code:=codeOf f279
noncomputable def g279B0:Code:=qo g279C 0 0
theorem g279K:FL [g227T m,g233T m,g294T m,g228T m,g280T m,g282T m,g295T m,g283T m]:=AllF.mem ⟨g227ok m,g233ok m,g294ok m,g228ok m,g280ok m,g282ok m,g295ok m,g283ok m,trivial⟩
def g279L0X:LT:=⟨0,[(4,hm3),(8,sI),(9,hE4),(10,h73),(11,sI),(12,sI)],[(.exit 0,[(4,hm3),(8,sI),(10,h73),(11,sI)])],fun n x=>g279L0 m n x.1 x.2.1 x.2.2.1 x.2.2.2.1 x.2.2.2.2.1 x.2.2.2.2.2.1⟩
theorem g279L0ok {E} (hE:EO E 91 g279H) (n):LO E g279B0 ((g279L0X m).at n):=lk hE (g279K m) (g279L0X m) n
theorem g279ok:FO (g279T m):=f1' g279H (g279T m) func279 (g279K m) fun _ h=>g279L0ok m h m
def g258H:Hints:=⟨[J [2,3,4,5],J [2,3,4,5,7],J [2,3,4,5,7,15],J [4,5,6],J' [(5,1)] [2,3,4,5,7,8,9],J' [(2,1)] [2,3,4,5,7,8,9,32],J' [(0,1),(3,1),(4,1)] [2,3,4,5,8,9],J' [(5,1),(7,1)] [4,5,6]],[],[],[4,5,6],[],[[false,false],[false,false],[false]]⟩
def g258T:FunT:=⟨258,[ha3,ha3],.tup [(.agg [.bool,(.imm (.int .u32))]),(.agg [.bool,(.imm (.int .u32))]),(.c (.int .i64))],[sD,sD],fun x=>g258 m x.1.1 x.1.2.1 x.2.1.1 x.2.1.2.1⟩
theorem g258ok:FO (g258T m):=fk g258H (g258T m) func258 (AllF.mem (l:=[g228T m,g279T m,g264T m,g265T m,g221T m]) ⟨g228ok m,g279ok m,g264ok m,g265ok m,g221ok m,trivial⟩)
def g289H:Hints:=⟨[J [2,3,4],J' [(3,1)] [4,6,7,8],J' [(2,1)] [4,6,8,23],J [4,5],J' [(1,1)] [4,5]],[],[],[4,5],[],[[false,false],[false]]⟩
def g289T:FunT:=⟨289,[ha3,ha3],.tup [(.agg [.bool,(.imm (.int .u32))]),(.c (.int .i64))],[sD,sD],fun x=>g289 m x.1.1 x.1.2.1 x.2.1.1 x.2.1.2.1⟩
theorem g289ok:FO (g289T m):=fk g289H (g289T m) func289 (AllF.mem (l:=[g258T m]) ⟨g258ok m,trivial⟩)
def g271H:Hints:=⟨[J [0],J [0,3],J [0,3,4],J [0,3,4],J' [(1,4)] [0,3,4,5],J [0,3,4,5,26,27],J [0,3,4,5,26,27,28],J [0,3,4,5,6,26,27],J' [(1,1),(5,4)] [0,3,4,5,26,27],J' [(1,1)] [0,3,4,5,26,27],J [0,3,4,5,7],J [0,3,4,5,7,38],J' [(0,1)] [0,3,4,5,7],J [0,3,4,5,7,42,43],J [0,3,4,5,7,42,43,44],J [0,3,4,5,7,8,42,43],J [0,3,4,5,7,42,43],J' [(1,1)] [0,3,4,5,7,42,43],J' [(1,1)] [0,3,4,7,9],J' [(0,2)] [0,3,4,7,9,10],J [0,3,4,7,9,10,72,73],J [0,3,4,7,9,10,72,73,74],J [0,3,4,7,9,10,11,72,73],J' [(0,2)] [0,3,4,7,9,10,72,73],J' [(1,1)] [0,3,4,7,9,10,72,73],J' [(4,1)] [0,3,4,7,9,12],J' [(6,1)] [0,3,4,5,7],J' [(0,1)] [2]],[(0,[0,3,4,5,26,27]),(2,[0,3,4,5,7]),(4,[0,3,4,5,7,42,43]),(6,[0,3,4,7,9,10,72,73])],[(0,[0,3,4,5]),(1,[0,3,4,5,26,27]),(2,[4]),(3,[0,3,4,5,7]),(4,[0,3,4,5,7]),(5,[0,3,4,5,7,42,43]),(6,[0,3,4,7,9,10]),(7,[0,3,4,7,9,10,72,73])],[2],[],[[true]]⟩
def g271T:FunT:=⟨271,[h62],hR3,[sD],fun x=>g271 m x.1⟩
noncomputable def g271C:Code:=codeOf f271
noncomputable def g271B0:Code:=qo g271C 0 0
noncomputable def g271B2:Code:=qo g271C 0 1
noncomputable def g271B4:Code:=qo g271B2 2 0
noncomputable def g271B6:Code:=qo g271B2 2 1
theorem g271K:FL [g146T m,g224T m,g288T m,g289T m,g212T m]:=AllF.mem ⟨g146ok m,g224ok m,g288ok m,g289ok m,g212ok m,trivial⟩
def g271L3X:LT:=⟨6,[(0,h62),(3,sI),(4,hR3),(7,sI),(9,hT3),(10,sX 2 [.bool,.imm (.int .u32)]),(72,sI),(73,sI)],[(.exit 6,[(0,h62),(3,sI),(4,hR3),(7,sI),(9,hT3),(10,sX 2 [.bool,.imm (.int .u32)])])],fun n x=>g271L3 m n x.1 x.2.1 x.2.2.1 x.2.2.2.1 x.2.2.2.2.1 x.2.2.2.2.2.1.1 x.2.2.2.2.2.1.2.1 x.2.2.2.2.2.2.1 x.2.2.2.2.2.2.2.1⟩
theorem g271L3ok {E} (hE:EO E 102 g271H) (n):LO E g271B6 ((g271L3X m).at n):=lk hE (g271K m) (g271L3X m) n
def g271L2X:LT:=⟨4,[(0,h62),(3,sI),(4,hR3),(5,hT3),(7,sI),(42,sI),(43,sI)],[(.exit 4,[(0,h62),(3,sI),(4,hR3),(5,hT3),(7,sI)])],fun n x=>g271L2 m n x.1 x.2.1 x.2.2.1 x.2.2.2.1 x.2.2.2.2.1 x.2.2.2.2.2.1 x.2.2.2.2.2.2.1⟩
theorem g271L2ok {E} (hE:EO E 102 g271H) (n):LO E g271B4 ((g271L2X m).at n):=lk hE (g271K m) (g271L2X m) n
def g271L1X:LT:=⟨2,[(0,h62),(3,sI),(4,hR3),(5,hT3),(7,sI)],[(.exit 2,[(4,hR3)])],fun n x=>g271L1 m n x.1 x.2.1 x.2.2.1 x.2.2.2.1 x.2.2.2.2.1⟩
theorem g271L1ok {E} (hE:EO E 102 g271H) (n):LO E g271B2 ((g271L1X m).at n):=
 lok hmix htt hE (g271K m) (L:=[(g271L2X m).at m,(g271L3X m).at m]) (g271L1X m) (l:=[(4,g271B4),(6,g271B6)]) kR (fun _ _=>⟨qi ⟨yb (g271L2ok m hE m),nb rfl,trivial⟩,qi ⟨nb rfl,yb (g271L3ok m hE m),trivial⟩,trivial⟩) (fun n x=>kR) (fun _=>kR) n
def g271L0X:LT:=⟨0,[(0,h62),(3,sI),(4,hR3),(5,hT3),(26,sI),(27,sI)],[(.exit 0,[(0,h62),(3,sI),(4,hR3),(5,hT3)])],fun n x=>g271L0 m n x.1 x.2.1 x.2.2.1 x.2.2.2.1 x.2.2.2.2.1 x.2.2.2.2.2.1⟩
theorem g271L0ok {E} (hE:EO E 102 g271H) (n):LO E g271B0 ((g271L0X m).at n):=lk hE (g271K m) (g271L0X m) n
theorem g271ok:FO (g271T m):=
 fok hmix htt (H:=g271H) (g271T m) func271 kR (g271K m) (L:=[(g271L0X m).at m,(g271L1X m).at m]) (l:=[(0,g271B0),(2,g271B2)]) kR (fun _ hE _ _=>⟨qi ⟨yb (g271L0ok m hE m),nb rfl,trivial⟩,qi ⟨nb rfl,yb (g271L1ok m hE m),trivial⟩,trivial⟩) (fun x=>kR)
def g239H:Hints:=⟨[J [0,3,4],J [0,3,4,5],J [0,3,4,5,18],J' [(0,1)] [2,3,4,5],J [0,3,4,20,21,22],J [0,3,4,20,21,22,23],J [0,3,4,6,7,20,21,22],J' [(0,1)] [0,3,4,6,20,21,22,27,28,29],J [0,3,4,6,20,21,22,27,28,29,30],J [0,3,4,6,8,9,20,21,22,27,28,29],J' [(2,1)] [0,3,4,6,20,21,22,27,28,29,43],J [2,3,4,5],J' [(1,1)] [0,3,4,6,20,21,22,27,28,29],J' [(1,1)] [0,3,4,20,21,22],J [0,3,4,10],J' [(4,1)] [0,3,4,10,60],J' [(0,1)] [0,3,4,10],J [0,3,4,10,11],J' [(0,1)] [0,3,4,11,63,64,65],J [0,3,4,11,63,64,65,66],J [0,3,4,11,13,63,64,65],J [0,3,4,11,14,63,64,65],J [0,3,4,11,14,63,64,65,74],J' [(0,1)] [0,3,4,11,14,63,64,65],J [0,3,4,11,14,63,64,65,78],J' [(0,1)] [0,3,4,11,63,64,65],J' [(1,1)] [0,3,4,11,63,64,65],J' [(0,1)] [2,3,4,5]],[(0,[0,3,4,20,21,22]),(2,[0,3,4,6,20,21,22,27,28,29]),(4,[0,3,4,10]),(6,[0,3,4,11,63,64,65])],[(0,[0,3,4]),(1,[0,3,4,20,21,22]),(2,[0,3,4,20,21,22]),(3,[0,3,4,6,20,21,22,27,28,29]),(4,[0,3,4,10]),(5,[0,3,4,10]),(6,[0,3,4]),(7,[0,3,4,11,63,64,65])],[2,3,4,5],[],[[false],[false],[false],[false]]⟩
def g239T:FunT:=⟨239,[h62],.tup [(.c (.int .i64)),(.c (.int .i64)),(.c (.int .i64)),(.c (.int .i64))],[sD],fun x=>g239 m x.1⟩
noncomputable def g239C:Code:=codeOf f239
noncomputable def g239B0:Code:=qo g239C 0 0
noncomputable def g239B2:Code:=qo g239B0 0 0
noncomputable def g239B4:Code:=qo g239C 0 1
noncomputable def g239B6:Code:=qo g239C 0 2
theorem g239K:FL [g270T m,g153T m,g272T m,g271T m,g226T m]:=AllF.mem ⟨g270ok m,g153ok m,g272ok m,g271ok m,g226ok m,trivial⟩
def g239L3X:LT:=⟨6,[(0,h62),(3,sI),(4,sI),(11,sI),(63,hR3),(64,sI),(65,sI)],[(.exit 6,[(0,h62),(3,sI),(4,sI)])],fun n x=>g239L3 m n x.1 x.2.1 x.2.2.1 x.2.2.2.1 x.2.2.2.2.1 x.2.2.2.2.2.1 x.2.2.2.2.2.2.1⟩
theorem g239L3ok {E} (hE:EO E 89 g239H) (n):LO E g239B6 ((g239L3X m).at n):=lk hE (g239K m) (g239L3X m) n
def g239L2X:LT:=⟨4,[(0,h62),(3,sI),(4,sI),(10,hR3)],[(.exit 4,[(0,h62),(3,sI),(4,sI),(10,hR3)])],fun n x=>g239L2 m n x.1 x.2.1 x.2.2.1 x.2.2.2.1⟩
theorem g239L2ok {E} (hE:EO E 89 g239H) (n):LO E g239B4 ((g239L2X m).at n):=lk hE (g239K m) (g239L2X m) n
def g239L1X:LT:=⟨2,[(0,h62),(3,sI),(4,sI),(6,sI),(20,h62),(21,sI),(22,sI),(27,hU3),(28,sI),(29,sI)],[(.ret,[(2,sI),(3,sI),(4,sI),(5,sI)]),(.exit 2,[(0,h62),(3,sI),(4,sI),(20,h62),(21,sI),(22,sI)])],fun n x=>g239L1 m n x.1 x.2.1 x.2.2.1 x.2.2.2.1 x.2.2.2.2.1 x.2.2.2.2.2.1 x.2.2.2.2.2.2.1 x.2.2.2.2.2.2.2.1 x.2.2.2.2.2.2.2.2.1 x.2.2.2.2.2.2.2.2.2.1⟩
theorem g239L1ok {E} (hE:EO E 89 g239H) (n):LO E g239B2 ((g239L1X m).at n):=lk hE (g239K m) (g239L1X m) n
def g239L0X:LT:=⟨0,[(0,h62),(3,sI),(4,sI),(20,h62),(21,sI),(22,sI)],[(.ret,[(2,sI),(3,sI),(4,sI),(5,sI)]),(.exit 0,[(0,h62),(3,sI),(4,sI)])],fun n x=>g239L0 m n x.1 x.2.1 x.2.2.1 x.2.2.2.1 x.2.2.2.2.1 x.2.2.2.2.2.1⟩
theorem g239L0ok {E} (hE:EO E 89 g239H) (n):LO E g239B0 ((g239L0X m).at n):=
 lok hmix htt hE (g239K m) (L:=[(g239L1X m).at m]) (g239L0X m) (l:=[(2,g239B2)]) kR (fun _ _=>⟨qi ⟨yb (g239L1ok m hE m),trivial⟩,trivial⟩) (fun n x=>kR) (fun _=>kR) n
theorem g239ok:FO (g239T m):=
 fok hmix htt (H:=g239H) (g239T m) func239 kR (g239K m) (L:=[(g239L0X m).at m,(g239L2X m).at m,(g239L3X m).at m]) (l:=[(0,g239B0),(4,g239B4),(6,g239B6)]) kR (fun _ hE _ _=>⟨qi ⟨yb (g239L0ok m hE m),nb rfl,nb rfl,trivial⟩,qi ⟨nb rfl,yb (g239L2ok m hE m),nb rfl,trivial⟩,qi ⟨nb rfl,nb rfl,yb (g239L3ok m hE m),trivial⟩,trivial⟩) (fun x=>kR)
def g162H:Hints:=⟨[J [0,1,2],J [0,1,2,11],J' [(0,1)] [6],J [0,1,2,16],J [6],J' [(0,1),(1,1),(2,1),(6,1)] [7,8],J' [(0,1),(1,1)] [6]],[],[(0,[0,1,2])],[6],[],[[false]]⟩
def g162T:FunT:=⟨162,[hC4,hC4,sU],sI,[sD,sD,sD],fun x=>g162 m x.1 x.2.1 x.2.2.1⟩
theorem g162ok:FO (g162T m):=fk g162H (g162T m) func162 (AllF.mem (l:=[g47T m,g241T m,g240T m,g239T m]) ⟨g47ok m,g241ok m,g240ok m,g239ok m,trivial⟩)
def g89H:Hints:=⟨[J [0,1,2,6],J [0,1,2,6,8],J [0,1,2,6,8,19],J' [(1,1)] [6,7],J' [(2,1)] [0,1,2,6,29],J [6,7],J [0,1,2,6,9,10],J [0,1,2,6,9,10,34],J [0,1,2,6,9,10,11],J' [(2,1)] [0,1,2,6,9,10,11,12],J' [(2,1)] [0,1,2,6,9,10,11,48],J' [(0,1)] [0,1,2,6,9,10],J' [(0,1)] [0,1,2,6,9,10],J [0,1,6,9,10,14],J' [(0,1),(2,1)] [0,1,6,10,14],J' [(0,1),(2,1)] [0,1,6,14],J [6,14],J [6,7]],[(0,[0,1,2,6,9,10])],[(0,[0,1,6,9,10]),(1,[0,1,2,6,9,10])],[6,7],[],[[false,false,false],[false]]⟩
def g89T:FunT:=⟨89,[hC4,hC4,sI],.tup [(.agg [(.int .u64),(.int .u64),(.int .i64)]),(.c (.int .i64))],[sD,sD,sD],fun x=>g89 m x.1 x.2.1 x.2.2.1⟩
noncomputable def g89C:Code:=codeOf f89
noncomputable def g89B0:Code:=qo g89C 0 0
theorem g89K:FL [g157T m,g160T m,g161T m,g162T m]:=AllF.mem ⟨g157ok m,g160ok m,g161ok m,g162ok m,trivial⟩
def g89L0X:LT:=⟨0,[(0,hC4),(1,hC4),(2,sI),(6,sX 0 [iU,iU,iI]),(9,sI),(10,sI)],[(.exit 0,[(0,hC4),(1,hC4),(6,sX 0 [iU,iU,iI]),(9,sI),(10,sI)])],fun n x=>g89L0 m n x.1 x.2.1 x.2.2.1 x.2.2.2.1.1 x.2.2.2.1.2.1 x.2.2.2.1.2.2.1 x.2.2.2.2.1 x.2.2.2.2.2.1⟩
theorem g89L0ok {E} (hE:EO E 76 g89H) (n):LO E g89B0 ((g89L0X m).at n):=lk hE (g89K m) (g89L0X m) n
theorem g89ok:FO (g89T m):=f1' g89H (g89T m) func89 (g89K m) fun _ h=>g89L0ok m h m
def g33H:Hints:=⟨[J [1],J' [(5,1)] [1,5],J [1,5,19],J' [(0,1)] [2,3],J [1,6],J [1,6,23,24],J [1,6,23,24,25],J [1,6,7,23,24],J' [(4,1),(6,1)] [1,6,8,9,23,24],J [1,6,8,9,23,24,37],J' [(0,1)] [2,3],J' [(0,1)] [1,6,23,24],J' [(1,1)] [1,6,23,24],J' [(0,1)] [2,3]],[(0,[1,6,23,24])],[(0,[6]),(1,[1,6,23,24])],[2,3],[],[[true],[false]]⟩
def g33T:FunT:=⟨33,[h91],.tup [(.c (.nm 0 (.pr (.int .u64) (.pr (.int .u64) (.int .i64))))),(.c (.int .i64))],[sD],fun x=>g33 m x.1.1 x.1.2.1 x.1.2.2.1⟩
noncomputable def g33C:Code:=codeOf f33
noncomputable def g33B0:Code:=qo g33C 0 0
theorem g33K:FL [g88T m,g89T m]:=AllF.mem ⟨g88ok m,g89ok m,trivial⟩
def g33L0X:LT:=⟨0,[(1,sX 0 [.imm (.int .u64),.imm (.int .u64),.imm (.sl false (.int .u64))]),(6,hU2),(23,sI),(24,sI)],[(.ret,[(2,h52),(3,sI)]),(.exit 0,[(6,h52)])],fun n x=>g33L0 m n x.1.1 x.1.2.1 x.1.2.2.1 x.2.1 x.2.2.1 x.2.2.2.1⟩
theorem g33L0ok {E} (hE:EO E 45 g33H) (n):LO E g33B0 ((g33L0X m).at n):=lk hE (g33K m) (g33L0X m) n
theorem g33ok:FO (g33T m):=f1' g33H (g33T m) func33 (g33K m) fun _ h=>g33L0ok m h m
def g49H:Hints:=⟨[J [0],J [0,3],J [0,3,7],J' [(0,1)] [0,3],J [0,3,15],J [2],J [2]],[(0,[0,3])],[(0,[]),(1,[0,3])],[2],[],[[false]]⟩
def g49T:FunT:=⟨49,[hC4],sB,[sD],fun x=>g49 m x.1⟩
noncomputable def g49C:Code:=codeOf f49
noncomputable def g49B0:Code:=qo g49C 0 0
theorem g49K:FL [g53T m]:=AllF.mem ⟨g53ok m,trivial⟩
def g49L0X:LT:=⟨0,[(0,hC4),(3,sI)],[(.ret,[(2,sB)]),(.exit 0,[])],fun n x=>g49L0 m n x.1 x.2.1⟩
theorem g49L0ok {E} (hE:EO E 16 g49H) (n):LO E g49B0 ((g49L0X m).at n):=lk hE (g49K m) (g49L0X m) n
theorem g49ok:FO (g49T m):=f1' g49H (g49T m) func49 (g49K m) fun _ h=>g49L0ok m h m
def g91H:Hints:=⟨[J [0,1],J [0,1,5],J [4],J [0,1,9],J [4],J' [(0,1),(3,1),(4,1)] [17],J [4],J [4]],[],[(0,[])],[4],[],[[false]]⟩
def g91T:FunT:=⟨91,[hC4,hC4],sI,[sD,sD],fun x=>g91 m x.1 x.2.1⟩
theorem g91ok:FO (g91T m):=fk g91H (g91T m) func91 (AllF.mem (l:=[g49T m]) ⟨g49ok m,trivial⟩)
def g65H:Hints:=⟨[J [0],J' [(0,1)] [2]],[],[],[2],[],[[false]]⟩
def g65T:FunT:=⟨65,[sU],sB,[sD],fun x=>g65 m x.1⟩
theorem g65ok:FO (g65T m):=fk g65H (g65T m) func65 noF
def g18H:Hints:=⟨[J [0,2],J [0,2,8],J [2],J [0,2,3,4],J [0,2,3,4,5],J [0,2,3,4,5,17],J' [(0,1)] [0,2,3,4],J' [(0,1)] [0,2,4,5],J' [(0,1),(9,1)] [2]],[],[],[2],[],[[false,false,false,false]]⟩
def g18T:FunT:=⟨18,[sU],hI3,[sD],fun x=>g18 m x.1⟩
theorem g18ok:FO (g18T m):=fk g18H (g18T m) func18 (AllF.mem (l:=[g53T m,g62T m,g65T m,g63T m]) ⟨g53ok m,g62ok m,g65ok m,g63ok m,trivial⟩)
def g19H:Hints:=⟨[J [1,2],J [1,2],J [1,2,6],J [2],J [2]],[],[],[2],[],[[false,false,false,false]]⟩
def g19T:FunT:=⟨19,[hI3],hI3,[sD],fun x=>g19 m x.1.1 x.1.2.1 x.1.2.2.1 x.1.2.2.2.1⟩
theorem g19ok:FO (g19T m):=fk g19H (g19T m) func19 (AllF.mem (l:=[g61T m,g66T m,g63T m]) ⟨g61ok m,g66ok m,g63ok m,trivial⟩)
def g133H:Hints:=⟨[J [2,3,4,5],J [2,3,4,5,7,8],J [2,3,4,5,7,8,13],J [4,5,6],J [2,3,4,5,7,8,21],J [4,5,6],J [2,3,4,5,7,8,29],J [4,5,6],J [4,5,6]],[],[(0,[2,3,4,5,7,8])],[4,5,6],[],[[false,false],[false,false],[false]]⟩
def g133T:FunT:=⟨133,[hI3,hI3],.tup [(.agg [.bool,(.imm (.int .u32))]),(.agg [.bool,(.imm (.int .u32))]),(.c (.int .i64))],[sD,sD],fun x=>g133 m x.1.1 x.1.2.1 x.1.2.2.1 x.1.2.2.2.1 x.2.1.1 x.2.1.2.1 x.2.1.2.2.1 x.2.1.2.2.2.1⟩
theorem g133ok:FO (g133T m):=fk g133H (g133T m) func133 (AllF.mem (l:=[g69T m,g71T m]) ⟨g69ok m,g71ok m,trivial⟩)
def g67H:Hints:=⟨[J [2,3,4],J [2,3,4],J' [(2,1)] [2,3,4,17],J [4],J' [(3,1)] [4,5,6,7],J' [(3,1)] [4]],[],[],[4],[],[[false,false,false,false]]⟩
def g67T:FunT:=⟨67,[hI3,hI3],hI3,[sD,sD],fun x=>g67 m x.1.1 x.1.2.1 x.1.2.2.1 x.1.2.2.2.1 x.2.1.1 x.2.1.2.1 x.2.1.2.2.1 x.2.1.2.2.2.1⟩
theorem g67ok:FO (g67T m):=fk g67H (g67T m) func67 (AllF.mem (l:=[g61T m,g62T m,g133T m,g70T m,g63T m]) ⟨g61ok m,g62ok m,g133ok m,g70ok m,g63ok m,trivial⟩)
def g68H:Hints:=⟨[J [1,2],J [1,2],J [1,2,6],J [2],J [2]],[],[],[2],[],[[false,false,false,false]]⟩
def g68T:FunT:=⟨68,[hI3],hI3,[sD],fun x=>g68 m x.1.1 x.1.2.1 x.1.2.2.1 x.1.2.2.2.1⟩
theorem g68ok:FO (g68T m):=fk g68H (g68T m) func68 (AllF.mem (l:=[g61T m,g134T m,g63T m]) ⟨g61ok m,g134ok m,g63ok m,trivial⟩)
def g20H:Hints:=⟨[J [2,3,4],J [4]],[],[],[4],[],[[false,false,false,false]]⟩
def g20T:FunT:=⟨20,[hI3,hI3],hI3,[sD,sD],fun x=>g20 m x.1.1 x.1.2.1 x.1.2.2.1 x.1.2.2.2.1 x.2.1.1 x.2.1.2.1 x.2.1.2.2.1 x.2.1.2.2.2.1⟩
theorem g20ok:FO (g20T m):=fk g20H (g20T m) func20 (AllF.mem (l:=[g68T m,g67T m]) ⟨g68ok m,g67ok m,trivial⟩)
def g141H:Hints:=⟨[J [2,3],J [4]],[],[],[4],[],[[false]]⟩
def g141T:FunT:=⟨141,[ha3,ha3],sI,[sD,sD],fun x=>g141 m x.1.1 x.1.2.1 x.2.1.1 x.2.1.2.1⟩
theorem g141ok:FO (g141T m):=fk g141H (g141T m) func141 (AllF.mem (l:=[g140T m,g69T m]) ⟨g140ok m,g69ok m,trivial⟩)
def g73H:Hints:=⟨[J [2,3],J [2,3],J' [(2,1)] [2,3,18],J [4,5],J' [(3,1)] [6,7],J [4,5]],[],[],[4,5],[],[[false],[false]]⟩
def g73T:FunT:=⟨73,[hI3,hI3],.tup [(.c (.int .i64)),(.c .bool)],[sD,sD],fun x=>g73 m x.1.1 x.1.2.1 x.1.2.2.1 x.1.2.2.2.1 x.2.1.1 x.2.1.2.1 x.2.1.2.2.1 x.2.1.2.2.2.1⟩
theorem g73ok:FO (g73T m):=fk g73H (g73T m) func73 (AllF.mem (l:=[g61T m,g133T m,g141T m]) ⟨g61ok m,g133ok m,g141ok m,trivial⟩)
def g86H:Hints:=⟨[J [2,3],J' [(3,1)] [5],J' [(0,1)] [4]],[],[],[4],[],[[false]]⟩
def g86T:FunT:=⟨86,[hI3,hI3],sB,[sD,sD],fun x=>g86 m x.1.1 x.1.2.1 x.1.2.2.1 x.1.2.2.2.1 x.2.1.1 x.2.1.2.1 x.2.1.2.2.1 x.2.1.2.2.2.1⟩
theorem g86ok:FO (g86T m):=fk g86H (g86T m) func86 (AllF.mem (l:=[g73T m]) ⟨g73ok m,trivial⟩)
def g36H:Hints:=⟨[J [0,1,4],J [0,1,4,6],J [0,1,4,6,17],J' [(1,1)] [4,5],J' [(0,2),(1,2)] [0,1,4,7,8],J [0,1,4,7,8,9],J [0,1,4,7,8,9,23],J' [(0,1)] [0,1,4,7,8,9],J' [(1,2),(2,2)] [0,1,4,7,8,9,10],J [0,1,4,7,8,9,10,28],J' [(0,2)] [0,1,4,7,8,9,10],J [0,1,4,7,8,9,10,41],J [0,1,4,7,8,9,10],J [0,1,4,7,8,9,11,12],J' [(2,1)] [0,1,4,7,8,9,11,12,70],J [0,1,4,7,8,9,12],J' [(2,1)] [0,1,4,7,8,9,12,78],J [0,1,4,7,8,9],J [4,5]],[(0,[0,1,4,7,8,9])],[(0,[4,7,8]),(1,[0,1,4,7,8,9])],[4,5],[],[[false,false],[false]]⟩
def g36T:FunT:=⟨36,[hC4,hC4],.tup [(.agg [(.int .u64),(.int .u64)]),(.c (.int .i64))],[sD,sD],fun x=>g36 m x.1 x.2.1⟩
noncomputable def g36C:Code:=codeOf f36
noncomputable def g36B0:Code:=qo g36C 0 0
theorem g36K:FL [g91T m,g18T m,g19T m,g67T m,g20T m,g86T m,g74T m]:=AllF.mem ⟨g91ok m,g18ok m,g19ok m,g67ok m,g20ok m,g86ok m,g74ok m,trivial⟩
def g36L0X:LT:=⟨0,[(0,hC4),(1,hC4),(4,sX 0 [iU,iU]),(7,sX 1 [.bool,.bool,.imm (.int .u32),iI]),(8,sX 2 [.bool,.bool,.imm (.int .u32),iI]),(9,sI)],[(.exit 0,[(4,sX 0 [iU,iU]),(7,sX 1 [.bool,.bool,.imm (.int .u32),iI]),(8,sX 2 [.bool,.bool,.imm (.int .u32),iI])])],fun n x=>g36L0 m n x.1 x.2.1 x.2.2.1.1 x.2.2.1.2.1 x.2.2.2.1.1 x.2.2.2.1.2.1 x.2.2.2.1.2.2.1 x.2.2.2.1.2.2.2.1 x.2.2.2.2.1.1 x.2.2.2.2.1.2.1 x.2.2.2.2.1.2.2.1 x.2.2.2.2.1.2.2.2.1 x.2.2.2.2.2.1⟩
theorem g36L0ok {E} (hE:EO E 85 g36H) (n):LO E g36B0 ((g36L0X m).at n):=lk hE (g36K m) (g36L0X m) n
theorem g36ok:FO (g36T m):=f1' g36H (g36T m) func36 (g36K m) fun _ h=>g36L0ok m h m
def g143H:Hints:=⟨[J [0],J [3,4],J' [(2,1)] [3,4,10],J [2],J [3,4,17],J [2],J' [(0,1),(2,1),(3,1)] [20],J [2],J [2]],[],[(0,[])],[2],[],[[false]]⟩
def g143T:FunT:=⟨143,[sU],sI,[sD],fun x=>g143 m x.1⟩
theorem g143ok:FO (g143T m):=fk g143H (g143T m) func143 noF
def g163H:Hints:=⟨[J [0],J [0,7],J [2,3],J [0,4],J' [(0,1)] [4,13],J' [(0,1)] [2,3],J' [(0,1)] [2,3]],[],[],[2,3],[],[[false],[false]]⟩
def g163T:FunT:=⟨163,[sU],.tup [(.c (.int .i64)),(.c .bool)],[sD],fun x=>g163 m x.1⟩
theorem g163ok:FO (g163T m):=fk g163H (g163T m) func163 (AllF.mem (l:=[g143T m]) ⟨g143ok m,trivial⟩)
def g164H:Hints:=⟨[J [0,1],J [4]],[],[],[4],[],[[false]]⟩
def g164T:FunT:=⟨164,[sI,sI],sI,[sD,sD],fun x=>g164 m x.1 x.2.1⟩
theorem g164ok:FO (g164T m):=fk g164H (g164T m) func164 noF
def g165H:Hints:=⟨[J [0],J' [(1,1)] [0,4],J' [(3,1)] [0,10],J [2,3],J [0,20],J' [(0,1)] [2,3],J' [(0,1)] [2,3]],[],[(0,[0])],[2,3],[],[[false],[false]]⟩
def g165T:FunT:=⟨165,[sI],.tup [(.c (.int .u64)),(.c .bool)],[sD],fun x=>g165 m x.1⟩
theorem g165ok:FO (g165T m):=fk g165H (g165T m) func165 (AllF.mem (l:=[g163T m]) ⟨g163ok m,trivial⟩)
def g115H:Hints:=⟨[J [1],J [1],J [1,6],J [2],J [2]],[],[],[2],[],[[false]]⟩
def g115T:FunT:=⟨115,[hI3],sI,[sD],fun x=>g115 m x.1.1 x.1.2.1 x.1.2.2.1 x.1.2.2.2.1⟩
theorem g115ok:FO (g115T m):=fk g115H (g115T m) func115 (AllF.mem (l:=[g61T m,g69T m]) ⟨g61ok m,g69ok m,trivial⟩)
def g276H:Hints:=⟨[J [0],J [0,3],J [0,3,4],J [0,3,4,15],J' [(0,1)] [0,3,4],J [0,3,4,5],J [0,3,4,5,24],J' [(0,1)] [0,3,4,5],J [0,3,4,5,35],J' [(0,1)] [0,3,4,5],J' [(0,6)] [0,3,6],J [0,3,6,7],J [0,3,6,7,50],J' [(0,1)] [0,3,6,7],J [0,3,6,7,8],J [0,3,6,7,8,9],J [0,3,6,7,8,9,59],J' [(0,1)] [0,3,6,7,8,9],J [0,3,6,7,8,9,10],J' [(1,2),(2,2)] [0,3,6,7,8,9,10,11],J [0,3,6,7,8,9,10,11,73],J [0,3,6,7,8,9,11],J' [(0,1)] [0,3,6,7,8,9],J' [(0,1),(1,1),(2,6),(3,6)] [0,3,6,7],J' [(0,1)] [2]],[(0,[0,3,4]),(2,[0,3,4,5]),(4,[0,3,6,7]),(6,[0,3,6,7,8,9])],[(0,[0,3]),(1,[0,3,4]),(2,[0,3,4]),(3,[0,3,4,5]),(4,[6]),(5,[0,3,6,7]),(6,[0,3,6,7,8]),(7,[0,3,6,7,8,9])],[2],[],[[false]]⟩
def g276T:FunT:=⟨276,[hY1],h62,[sD],fun x=>g276 m x.1⟩
noncomputable def g276C:Code:=codeOf f276
noncomputable def g276B0:Code:=qo g276C 0 0
noncomputable def g276B2:Code:=qo g276B0 0 0
noncomputable def g276B4:Code:=qo g276C 0 1
noncomputable def g276B6:Code:=qo g276B4 4 0
theorem g276K:FL [g115T m,g61T m,g71T m]:=AllF.mem ⟨g115ok m,g61ok m,g71ok m,trivial⟩
def g276L3X:LT:=⟨6,[(0,hY1),(3,sI),(6,hM3),(7,sI),(8,hQ3),(9,sI)],[(.exit 6,[(0,hY1),(3,sI),(6,hM3),(7,sI),(8,hQ3)])],fun n x=>g276L3 m n x.1 x.2.1 x.2.2.1 x.2.2.2.1 x.2.2.2.2.1 x.2.2.2.2.2.1⟩
theorem g276L3ok {E} (hE:EO E 90 g276H) (n):LO E g276B6 ((g276L3X m).at n):=lk hE (g276K m) (g276L3X m) n
def g276L2X:LT:=⟨4,[(0,hY1),(3,sI),(6,hM3),(7,sI)],[(.exit 4,[(6,hM3)])],fun n x=>g276L2 m n x.1 x.2.1 x.2.2.1 x.2.2.2.1⟩
theorem g276L2ok {E} (hE:EO E 90 g276H) (n):LO E g276B4 ((g276L2X m).at n):=
 lok hmix htt hE (g276K m) (L:=[(g276L3X m).at m]) (g276L2X m) (l:=[(6,g276B6)]) kR (fun _ _=>⟨qi ⟨yb (g276L3ok m hE m),trivial⟩,trivial⟩) (fun n x=>kR) (fun _=>kR) n
def g276L1X:LT:=⟨2,[(0,hY1),(3,sI),(4,sI),(5,sI)],[(.exit 2,[(0,hY1),(3,sI),(4,sI)])],fun n x=>g276L1 m n x.1 x.2.1 x.2.2.1 x.2.2.2.1⟩
theorem g276L1ok {E} (hE:EO E 90 g276H) (n):LO E g276B2 ((g276L1X m).at n):=lk hE (g276K m) (g276L1X m) n
def g276L0X:LT:=⟨0,[(0,hY1),(3,sI),(4,sI)],[(.exit 0,[(0,hY1),(3,sI)])],fun n x=>g276L0 m n x.1 x.2.1 x.2.2.1⟩
theorem g276L0ok {E} (hE:EO E 90 g276H) (n):LO E g276B0 ((g276L0X m).at n):=
 lok hmix htt hE (g276K m) (L:=[(g276L1X m).at m]) (g276L0X m) (l:=[(2,g276B2)]) kR (fun _ _=>⟨qi ⟨yb (g276L1ok m hE m),trivial⟩,trivial⟩) (fun n x=>kR) (fun _=>kR) n
theorem g276ok:FO (g276T m):=
 fok hmix htt (H:=g276H) (g276T m) func276 kR (g276K m) (L:=[(g276L0X m).at m,(g276L2X m).at m]) (l:=[(0,g276B0),(4,g276B4)]) kR (fun _ hE _ _=>⟨qi ⟨yb (g276L0ok m hE m),nb rfl,trivial⟩,qi ⟨nb rfl,yb (g276L2ok m hE m),trivial⟩,trivial⟩) (fun x=>kR)
def g290H:Hints:=⟨[J [0],J' [(0,6)] [0,3],J [0,3,4],J [0,3,4,10],J' [(0,1)] [0,3,4],J [0,3,4,5],J [0,3,4,5,6],J [0,3,4,5,6,19],J' [(0,1)] [0,3,4,5,6],J' [(0,1)] [0,3,4,5,6],J' [(0,1),(1,1),(2,6),(3,6)] [0,3,4],J' [(0,1)] [2]],[(0,[0,3,4]),(2,[0,3,4,5,6])],[(0,[3]),(1,[0,3,4]),(2,[0,3,4,5]),(3,[0,3,4,5,6])],[2],[],[[true]]⟩
def g290T:FunT:=⟨290,[h62],hQ1,[sD],fun x=>g290 m x.1⟩
noncomputable def g290C:Code:=codeOf f290
noncomputable def g290B0:Code:=qo g290C 0 0
noncomputable def g290B2:Code:=qo g290B0 0 0
theorem g290K:FL [g126T m,g72T m]:=AllF.mem ⟨g126ok m,g72ok m,trivial⟩
def g290L1X:LT:=⟨2,[(0,h62),(3,hQ1),(4,sI),(5,hU1),(6,sI)],[(.exit 2,[(0,h62),(3,hQ1),(4,sI),(5,hU1)])],fun n x=>g290L1 m n x.1 x.2.1 x.2.2.1 x.2.2.2.1 x.2.2.2.2.1⟩
theorem g290L1ok {E} (hE:EO E 40 g290H) (n):LO E g290B2 ((g290L1X m).at n):=lk hE (g290K m) (g290L1X m) n
def g290L0X:LT:=⟨0,[(0,h62),(3,hQ1),(4,sI)],[(.exit 0,[(3,hQ1)])],fun n x=>g290L0 m n x.1 x.2.1 x.2.2.1⟩
theorem g290L0ok {E} (hE:EO E 40 g290H) (n):LO E g290B0 ((g290L0X m).at n):=
 lok hmix htt hE (g290K m) (L:=[(g290L1X m).at m]) (g290L0X m) (l:=[(2,g290B2)]) kR (fun _ _=>⟨qi ⟨yb (g290L1ok m hE m),trivial⟩,trivial⟩) (fun n x=>kR) (fun _=>kR) n
theorem g290ok:FO (g290T m):=f1' g290H (g290T m) func290 (g290K m) fun _ h=>g290L0ok m h m
def g300H:Hints:=⟨[J [1],J [2]],[],[],[2],[],[[false]]⟩
def g300T:FunT:=⟨300,[h92],sB,[sD],fun x=>g300 m x.1.1 x.1.2.1 x.1.2.2.1 x.1.2.2.2.1⟩
theorem g300ok:FO (g300T m):=fk g300H (g300T m) func300 (AllF.mem (l:=[g69T m]) ⟨g69ok m,trivial⟩)
def g291H:Hints:=⟨[J [0,1],J [0,1,6],J [0,1,6,12],J' [(0,1)] [0,1,6],J [0,1,6,29],J [4,5],J [0,1,7],J [0,1,7,41],J' [(0,1)] [0,1,7],J [0,1,7,8],J [0,1,7,8,46],J' [(0,1)] [0,1,7,8],J [0,1,7,8,63],J' [(1,1),(5,1)] [4,5],J [4,5]],[(0,[0,1,6]),(2,[0,1,7]),(4,[0,1,7,8])],[(0,[0,1]),(1,[0,1,6]),(2,[]),(3,[0,1,7]),(4,[0,1,7]),(5,[0,1,7,8])],[4,5],[],[[false],[false]]⟩
def g291T:FunT:=⟨291,[hO1,sL],.tup [(.c (.int .i64)),(.c (.int .i64))],[sD,sD],fun x=>g291 m x.1 x.2.1⟩
noncomputable def g291C:Code:=codeOf f291
noncomputable def g291B0:Code:=qo g291C 0 0
noncomputable def g291B2:Code:=qo g291C 0 1
noncomputable def g291B4:Code:=qo g291B2 2 0
theorem g291K:FL [g300T m]:=AllF.mem ⟨g300ok m,trivial⟩
def g291L2X:LT:=⟨4,[(0,hO1),(1,sL),(7,sI),(8,sI)],[(.ret,[(4,sI),(5,sI)]),(.exit 4,[(0,hO1),(1,sL),(7,sI)])],fun n x=>g291L2 m n x.1 x.2.1 x.2.2.1 x.2.2.2.1⟩
theorem g291L2ok {E} (hE:EO E 72 g291H) (n):LO E g291B4 ((g291L2X m).at n):=lk hE (g291K m) (g291L2X m) n
def g291L1X:LT:=⟨2,[(0,hO1),(1,sL),(7,sI)],[(.ret,[(4,sI),(5,sI)]),(.exit 2,[])],fun n x=>g291L1 m n x.1 x.2.1 x.2.2.1⟩
theorem g291L1ok {E} (hE:EO E 72 g291H) (n):LO E g291B2 ((g291L1X m).at n):=
 lok hmix htt hE (g291K m) (L:=[(g291L2X m).at m]) (g291L1X m) (l:=[(4,g291B4)]) kR (fun _ _=>⟨qi ⟨yb (g291L2ok m hE m),trivial⟩,trivial⟩) (fun n x=>kR) (fun _=>kR) n
def g291L0X:LT:=⟨0,[(0,hO1),(1,sL),(6,sI)],[(.ret,[(4,sI),(5,sI)]),(.exit 0,[(0,hO1),(1,sL)])],fun n x=>g291L0 m n x.1 x.2.1 x.2.2.1⟩
theorem g291L0ok {E} (hE:EO E 72 g291H) (n):LO E g291B0 ((g291L0X m).at n):=lk hE (g291K m) (g291L0X m) n
theorem g291ok:FO (g291T m):=
 fok hmix htt (H:=g291H) (g291T m) func291 kR (g291K m) (L:=[(g291L0X m).at m,(g291L1X m).at m]) (l:=[(0,g291B0),(2,g291B2)]) kR (fun _ hE _ _=>⟨qi ⟨yb (g291L0ok m hE m),nb rfl,trivial⟩,qi ⟨nb rfl,yb (g291L1ok m hE m),trivial⟩,trivial⟩) (fun x=>kR)
def g131H:Hints:=⟨[J [0,1],J [0,1,5],J [0,1,5,6],J [0,1,5,6,18],J' [(0,1)] [0,1,5,6],J [0,1,5,6,7],J [0,1,5,6,7,8],J [0,1,5,6,7,8,24],J' [(0,1)] [0,1,5,6,7,8],J' [(0,1)] [0,1,5,6,7,8],J [0,1,5,6,7,8],J' [(0,1)] [0,1,5,6,7,8],J' [(5,1)] [0,1,5,6],J' [(0,1)] [4]],[(0,[0,1,5,6]),(2,[0,1,5,6,7,8])],[(0,[5]),(1,[0,1,5,6]),(2,[0,1,5,6,7]),(3,[0,1,5,6,7,8])],[4],[],[[true]]⟩
def g131T:FunT:=⟨131,[hE4,hE4],hm3,[sD,sD],fun x=>g131 m x.1 x.2.1⟩
noncomputable def g131C:Code:=codeOf f131
noncomputable def g131B0:Code:=qo g131C 0 0
noncomputable def g131B2:Code:=qo g131B0 0 0
def g131L1X:LT:=⟨2,[(0,hE4),(1,hE4),(5,hm3),(6,sI),(7,sU),(8,sI)],[(.exit 2,[(0,hE4),(1,hE4),(5,hm3),(6,sI),(7,sU)])],fun n x=>g131L1 m n x.1 x.2.1 x.2.2.1 x.2.2.2.1 x.2.2.2.2.1 x.2.2.2.2.2.1⟩
theorem g131L1ok {E} (hE:EO E 66 g131H) (n):LO E g131B2 ((g131L1X m).at n):=lk hE noF (g131L1X m) n
def g131L0X:LT:=⟨0,[(0,hE4),(1,hE4),(5,hm3),(6,sI)],[(.exit 0,[(5,hm3)])],fun n x=>g131L0 m n x.1 x.2.1 x.2.2.1 x.2.2.2.1⟩
theorem g131L0ok {E} (hE:EO E 66 g131H) (n):LO E g131B0 ((g131L0X m).at n):=
 lok hmix htt hE noF (L:=[(g131L1X m).at m]) (g131L0X m) (l:=[(2,g131B2)]) kR (fun _ _=>⟨qi ⟨yb (g131L1ok m hE m),trivial⟩,trivial⟩) (fun n x=>kR) (fun _=>kR) n
theorem g131ok:FO (g131T m):=f1' g131H (g131T m) func131 noF fun _ h=>g131L0ok m h m
def g64H:Hints:=⟨[J [2,3,4],J [4]],[],[],[4],[],[[false,false]]⟩
def g64T:FunT:=⟨64,[ha3,ha3],ha3,[sD,sD],fun x=>g64 m x.1.1 x.1.2.1 x.2.1.1 x.2.1.2.1⟩
theorem g64ok:FO (g64T m):=fk g64H (g64T m) func64 (AllF.mem (l:=[g132T m,g131T m,g130T m]) ⟨g132ok m,g131ok m,g130ok m,trivial⟩)
def g281H:Hints:=⟨[J [0,1,2,3],J [0,1,2,3,9],J [0,1,2,3,9,10],J [0,1,2,3,9,10,11,12],J [0,1,2,3,9,10,11,12,13],J [0,1,2,3,9,10,11,12,13,23],J' [(0,1)] [0,1,2,3,9,10,11,12,13],J [0,1,2,3,9,10,11,12,13,28],J' [(0,1)] [0,1,2,3,9,10,11,12,13],J' [(7,1)] [0,1,2,3,9,10,12,13,14],J' [(0,1)] [0,1,2,3,9,10,12,13,14],J [0,1,2,3,9,10,12,13,14],J' [(0,1)] [0,1,2,3,9,10,11,12,13],J' [(0,1)] [0,2,9,10,60],J [0,8],J [0,2,9,10,15],J [0,2,9,10,15,63],J' [(0,1)] [0,2,9,10,15],J [0,2,9,10,15],J [0,8]],[(0,[0,1,2,3,9,10,11,12,13]),(2,[0,2,9,10,15])],[(0,[0,2,9,10,11]),(1,[0,1,2,3,9,10,11,12,13]),(2,[0]),(3,[0,2,9,10,15])],[0,8],[0],[[false]]⟩
def g281T:FunT:=⟨281,[hm3,hE4,sI,sU],sB,[hm3,sD,sD,sD],fun x=>g281 m x.1 x.2.1 x.2.2.1 x.2.2.2.1⟩
noncomputable def g281C:Code:=codeOf f281
noncomputable def g281B0:Code:=qo g281C 0 0
noncomputable def g281B2:Code:=qo g281C 0 1
def g281L1X:LT:=⟨2,[(0,hm3),(2,sI),(9,sI),(10,h73),(15,sI)],[(.exit 2,[(0,hm3)])],fun n x=>g281L1 m n x.1 x.2.1 x.2.2.1 x.2.2.2.1 x.2.2.2.2.1⟩
theorem g281L1ok {E} (hE:EO E 75 g281H) (n):LO E g281B2 ((g281L1X m).at n):=lk hE noF (g281L1X m) n
def g281L0X:LT:=⟨0,[(0,hm3),(1,hE4),(2,sI),(3,sU),(9,sI),(10,h73),(11,sU),(12,sU),(13,sI)],[(.exit 0,[(0,hm3),(2,sI),(9,sI),(10,h73),(11,sU)])],fun n x=>g281L0 m n x.1 x.2.1 x.2.2.1 x.2.2.2.1 x.2.2.2.2.1 x.2.2.2.2.2.1 x.2.2.2.2.2.2.1 x.2.2.2.2.2.2.2.1 x.2.2.2.2.2.2.2.2.1⟩
theorem g281L0ok {E} (hE:EO E 75 g281H) (n):LO E g281B0 ((g281L0X m).at n):=lk hE noF (g281L0X m) n
theorem g281ok:FO (g281T m):=
 fok hmix htt (H:=g281H) (g281T m) func281 kR noF (L:=[(g281L0X m).at m,(g281L1X m).at m]) (l:=[(0,g281B0),(2,g281B2)]) kR (fun _ hE _ _=>⟨qi ⟨yb (g281L0ok m hE m),nb rfl,trivial⟩,qi ⟨nb rfl,yb (g281L1ok m hE m),trivial⟩,trivial⟩) (fun x=>kR)
def g262H:Hints:=⟨[J [0,1],J [0,1,19],J' [(0,1)] [4,5],J [0,1,6],J [0,1,6,7],J' [(3,1)] [0,6,7,8,9],J [0,6,7,8,9,41],J' [(0,1)] [0,6,7,8,9],J [0,6,7,8,9,10],J' [(0,1)] [6,7,8,9,10,11],J [6,7,8,9,10,11,56],J' [(0,1)] [6,7,8,9,10,11],J [6,7,8,9,10,11,12],J' [(0,1)] [6,7,8,9,10,11,13],J' [(4,11)] [6,7,8,9,10,11,13,90],J' [(0,1)] [6,7,8,9,10,11,13],J' [(2,1)] [6,7,8,9,10,11],J' [(0,1),(2,1),(4,1)] [10,14],J' [(0,1),(2,1)] [4,5]],[(0,[6,7,8,9,10,11]),(2,[6,7,8,9,10,11,13])],[(0,[7,8,10]),(1,[6,7,8,9,10,11]),(2,[6,7,8,9,10,11,13]),(3,[6,7,8,9,10,11,13])],[4,5],[],[[true],[false]]⟩
def g262T:FunT:=⟨262,[hE4,hE4],.tup [(.c (.nm 0 (.int .u32))),(.c (.imm (.int .u32)))],[sD,sD],fun x=>g262 m x.1 x.2.1⟩
noncomputable def g262C:Code:=codeOf f262
noncomputable def g262B0:Code:=qo g262C 0 0
noncomputable def g262B2:Code:=qo g262B0 0 0
theorem g262K:FL [g136T m,g280T m,g138T m,g281T m,g132T m,g139T m]:=AllF.mem ⟨g136ok m,g280ok m,g138ok m,g281ok m,g132ok m,g139ok m,trivial⟩
def g262L1X:LT:=⟨2,[(6,sI),(7,sI),(8,hm3),(9,h73),(10,h83),(11,sI),(13,sU)],[(.exit 2,[(6,sI),(7,sI),(8,hm3),(9,h73),(10,h83),(11,sI),(13,sU)])],fun n x=>g262L1 m n x.1 x.2.1 x.2.2.1 x.2.2.2.1 x.2.2.2.2.1 x.2.2.2.2.2.1 x.2.2.2.2.2.2.1⟩
theorem g262L1ok {E} (hE:EO E 109 g262H) (n):LO E g262B2 ((g262L1X m).at n):=lk hE (g262K m) (g262L1X m) n
def g262L0X:LT:=⟨0,[(6,sI),(7,sI),(8,hm3),(9,h73),(10,h83),(11,sI)],[(.exit 0,[(7,sI),(8,hm3),(10,h73)])],fun n x=>g262L0 m n x.1 x.2.1 x.2.2.1 x.2.2.2.1 x.2.2.2.2.1 x.2.2.2.2.2.1⟩
theorem g262L0ok {E} (hE:EO E 109 g262H) (n):LO E g262B0 ((g262L0X m).at n):=
 lok hmix htt hE (g262K m) (L:=[(g262L1X m).at m]) (g262L0X m) (l:=[(2,g262B2)]) kR (fun _ _=>⟨qi ⟨yb (g262L1ok m hE m),trivial⟩,trivial⟩) (fun n x=>kR) (fun _=>kR) n
theorem g262ok:FO (g262T m):=f1' g262H (g262T m) func262 (g262K m) fun _ h=>g262L0ok m h m
def g220H:Hints:=⟨[J [2,3,4,5],J [2,3,4,5],J' [(5,1)] [2,3,4,5,6,7],J' [(5,1),(9,1)] [3,4,5,8,9],J [3,4,5,8,9,35],J [3,4,5,8,9],J [4,5,8,9,41],J [4,5,8,9],J [4,5,8,9],J [4,5]],[],[],[4,5],[],[[false,false],[false,false]]⟩
def g220T:FunT:=⟨220,[ha3,ha3],.tup [(.agg [.bool,(.imm (.int .u32))]),(.agg [.bool,(.imm (.int .u32))])],[sD,sD],fun x=>g220 m x.1.1 x.1.2.1 x.2.1.1 x.2.1.2.1⟩
theorem g220ok:FO (g220T m):=fk g220H (g220T m) func220 (AllF.mem (l:=[g126T m,g262T m,g130T m,g69T m,g66T m,g70T m,g72T m,g140T m]) ⟨g126ok m,g262ok m,g130ok m,g69ok m,g66ok m,g70ok m,g72ok m,g140ok m,trivial⟩)
def g304H:Hints:=⟨[J [2,3,4],J [4,5,6],J [4,5,6,15],J' [(3,1)] [4,5,6,8],J [4,5,6],J [4]],[(0,[4,5,6])],[(0,[4,5]),(1,[4,5,6])],[4],[],[[false,false]]⟩
def g304T:FunT:=⟨304,[ha3,ha3],ha3,[sD,sD],fun x=>g304 m x.1.1 x.1.2.1 x.2.1.1 x.2.1.2.1⟩
noncomputable def g304C:Code:=codeOf f304
noncomputable def g304B0:Code:=qo g304C 0 0
theorem g304K:FL [g66T m,g69T m,g220T m]:=AllF.mem ⟨g66ok m,g69ok m,g220ok m,trivial⟩
def g304L0X:LT:=⟨0,[(4,sX 0 [.bool,.nm 1 (.int .u32)]),(5,sX 2 [.bool,.imm (.int .u32)]),(6,sX 3 [.bool,.imm (.int .u32)])],[(.exit 0,[(4,sX 0 [.bool,.nm 1 (.int .u32)]),(5,sX 2 [.bool,.imm (.int .u32)])])],fun n x=>g304L0 m n x.1.1 x.1.2.1 x.2.1.1 x.2.1.2.1 x.2.2.1.1 x.2.2.1.2.1⟩
theorem g304L0ok {E} (hE:EO E 25 g304H) (n):LO E g304B0 ((g304L0X m).at n):=lk hE (g304K m) (g304L0X m) n
theorem g304ok:FO (g304T m):=f1' g304H (g304T m) func304 (g304K m) fun _ h=>g304L0ok m h m
def g305H:Hints:=⟨[J [2,3,4],J' [(3,1)] [4,6,7],J [4,6,16],J [4,5],J [4,5]],[],[],[4,5],[],[[false,false],[false]]⟩
def g305T:FunT:=⟨305,[ha3,ha3],.tup [(.agg [.bool,(.imm (.int .u32))]),(.c .bool)],[sD,sD],fun x=>g305 m x.1.1 x.1.2.1 x.2.1.1 x.2.1.2.1⟩
theorem g305ok:FO (g305T m):=fk g305H (g305T m) func305 (AllF.mem (l:=[g220T m,g69T m]) ⟨g220ok m,g69ok m,trivial⟩)
def g301H:Hints:=⟨[J [2,3,4],J [2,3,4,5],J [2,3,4,5,15],J [2,3,4,5],J' [(3,1)] [3,4,5,6],J' [(3,1)] [4,6,8],J [4]],[],[],[4],[],[[false,false,false,false]]⟩
def g301T:FunT:=⟨301,[ha3,ha3],h92,[sD,sD],fun x=>g301 m x.1.1 x.1.2.1 x.2.1.1 x.2.1.2.1⟩
theorem g301ok:FO (g301T m):=fk g301H (g301T m) func301 (AllF.mem (l:=[g304T m,g69T m,g134T m,g305T m]) ⟨g304ok m,g69ok m,g134ok m,g305ok m,trivial⟩)
def g292H:Hints:=⟨[J [4,5,6,7,8],J [4,8,9],J [8]],[],[],[8],[],[[false,false,false,false]]⟩
def g292T:FunT:=⟨292,[h92,h92,h92,h92],h92,[sD,sD,sD,sD],fun x=>g292 m x.1.1 x.1.2.1 x.1.2.2.1 x.1.2.2.2.1 x.2.1.1 x.2.1.2.1 x.2.1.2.2.1 x.2.1.2.2.2.1 x.2.2.1.1 x.2.2.1.2.1 x.2.2.1.2.2.1 x.2.2.1.2.2.2.1 x.2.2.2.1.1 x.2.2.2.1.2.1 x.2.2.2.1.2.2.1 x.2.2.2.1.2.2.2.1⟩
theorem g292ok:FO (g292T m):=fk g292H (g292T m) func292 (AllF.mem (l:=[g64T m,g301T m,g140T m]) ⟨g64ok m,g301ok m,g140ok m,trivial⟩)
def g275H:Hints:=⟨[J [0],J [0,5],J [0,5,6,7],J [0,5,6,7,8],J [0,5,6,7,8,9],J [0,5,6,7,8,9,25],J' [(0,1)] [0,5,6,7,8,9],J' [(0,1)] [0,5,6,7,8,9],J [5,6,7,8,34],J' [(3,1)] [5,6,7,8,10,11],J [5,6,7,8,10,11,42],J [5,6,7,8,10,11,12],J [5,6,7,8,10,11,12,13],J [5,6,7,8,10,11,12,13,46],J' [(0,1)] [5,6,7,8,10,11,12,13],J' [(6,1)] [5,6,7,8,10,11,12,13,62],J' [(0,1)] [5,6,7,8,10,11,12,13],J [5,6,7,10,11,12,72],J [5,6,7,10,11,12,82],J' [(0,1)] [5,6,7,10,11,12],J' [(0,1)] [5,6,7,10,11,12],J' [(0,1),(2,1)] [5,6,7,10,11,12],J [5,6,7,10,11,12,14],J [5,6,7,10,11,12,14,15],J [5,6,7,10,11,12,14,15,101],J' [(0,1)] [5,6,7,10,11,12,14,15],J [5,6,7,10,11,12,14,15,16],J [5,6,7,10,11,12,14,15,16,106],J' [(0,1)] [5,6,7,10,11,12,14,15,16],J [5,6,7,10,11,12,14,15,16,17,18],J [5,6,7,10,11,12,14,15,16,17,18,19],J [5,6,7,10,11,12,14,15,16,17,18,19,142],J [5,6,7,10,11,12,14,15,16,17,18,19],J [5,6,7,10,11,12,14,15,16,17,18,19],J' [(1,1),(4,1)] [5,6,7,10,11,12,14,15,16],J' [(0,1)] [5,6,7,8],J' [(0,1),(1,1),(3,1)] [2,3,4]],[(0,[0,5,6,7,8,9]),(2,[5,6,7,8]),(4,[5,6,7,8,10,11,12,13]),(6,[5,6,7,10,11,12,14,15]),(8,[5,6,7,10,11,12,14,15,16])],[(0,[5,6,7,8]),(1,[0,5,6,7,8,9]),(2,[6,7,8]),(3,[5,6,7,8]),(4,[5,6,7,10,11,12]),(5,[5,6,7,8,10,11,12,13]),(6,[5,6,7,12]),(7,[5,6,7,10,11,12,14,15]),(8,[5,6,7,10,11,12,14,15]),(9,[5,6,7,10,11,12,14,15,16])],[2,3,4],[],[[false],[false],[false]]⟩
def g275T:FunT:=⟨275,[h62],.tup [(.c (.int .i64)),(.c (.int .i64)),(.c (.int .i64))],[sD],fun x=>g275 m x.1⟩
noncomputable def g275C:Code:=codeOf f275
noncomputable def g275B0:Code:=qo g275C 0 0
noncomputable def g275B2:Code:=qo g275C 0 1
noncomputable def g275B4:Code:=qo g275B2 2 0
noncomputable def g275B6:Code:=qo g275B2 2 1
noncomputable def g275B8:Code:=qo g275B6 6 0
theorem g275K:FL [g290T m,g291T m,g69T m,g292T m]:=AllF.mem ⟨g290ok m,g291ok m,g69ok m,g292ok m,trivial⟩
def g275L4X:LT:=⟨8,[(5,hQ1),(6,sI),(7,sI),(10,sI),(11,sI),(12,sN 1),(14,sX 2 [.bool,.imm (.int .u32),.bool,.imm (.int .u32)]),(15,sI),(16,sI)],[(.exit 8,[(5,hQ1),(6,sI),(7,sI),(10,sI),(11,sI),(12,sN 1),(14,sX 2 [.bool,.imm (.int .u32),.bool,.imm (.int .u32)]),(15,sI)])],fun n x=>g275L4 m n x.1 x.2.1 x.2.2.1 x.2.2.2.1 x.2.2.2.2.1 x.2.2.2.2.2.1 x.2.2.2.2.2.2.1.1 x.2.2.2.2.2.2.1.2.1 x.2.2.2.2.2.2.1.2.2.1 x.2.2.2.2.2.2.1.2.2.2.1 x.2.2.2.2.2.2.2.1 x.2.2.2.2.2.2.2.2.1⟩
theorem g275L4ok {E} (hE:EO E 179 g275H) (n):LO E g275B8 ((g275L4X m).at n):=lk hE (g275K m) (g275L4X m) n
def g275L3X:LT:=⟨6,[(5,hQ1),(6,sI),(7,sI),(10,sI),(11,sI),(12,sN 1),(14,sX 2 [.bool,.imm (.int .u32),.bool,.imm (.int .u32)]),(15,sI)],[(.exit 6,[(5,hQ1),(6,sI),(7,sI),(12,sN 1)])],fun n x=>g275L3 m n x.1 x.2.1 x.2.2.1 x.2.2.2.1 x.2.2.2.2.1 x.2.2.2.2.2.1 x.2.2.2.2.2.2.1.1 x.2.2.2.2.2.2.1.2.1 x.2.2.2.2.2.2.1.2.2.1 x.2.2.2.2.2.2.1.2.2.2.1 x.2.2.2.2.2.2.2.1⟩
theorem g275L3ok {E} (hE:EO E 179 g275H) (n):LO E g275B6 ((g275L3X m).at n):=
 lok hmix htt hE (g275K m) (L:=[(g275L4X m).at m]) (g275L3X m) (l:=[(8,g275B8)]) kR (fun _ _=>⟨qi ⟨yb (g275L4ok m hE m),trivial⟩,trivial⟩) (fun n x=>kR) (fun _=>kR) n
def g275L2X:LT:=⟨4,[(5,hQ1),(6,sI),(7,sI),(8,sN 1),(10,sI),(11,sI),(12,sN 2),(13,sI)],[(.exit 4,[(5,hQ1),(6,sI),(7,sI),(10,sI),(11,sI),(12,sN 1)])],fun n x=>g275L2 m n x.1 x.2.1 x.2.2.1 x.2.2.2.1 x.2.2.2.2.1 x.2.2.2.2.2.1 x.2.2.2.2.2.2.1 x.2.2.2.2.2.2.2.1⟩
theorem g275L2ok {E} (hE:EO E 179 g275H) (n):LO E g275B4 ((g275L2X m).at n):=lk hE (g275K m) (g275L2X m) n
def g275L1X:LT:=⟨2,[(5,hQ1),(6,sI),(7,sI),(8,sN 1)],[(.exit 2,[(6,sI),(7,sI),(8,sN 0)])],fun n x=>g275L1 m n x.1 x.2.1 x.2.2.1 x.2.2.2.1⟩
theorem g275L1ok {E} (hE:EO E 179 g275H) (n):LO E g275B2 ((g275L1X m).at n):=
 lok hmix htt hE (g275K m) (L:=[(g275L2X m).at m,(g275L3X m).at m]) (g275L1X m) (l:=[(4,g275B4),(6,g275B6)]) kR (fun _ _=>⟨qi ⟨yb (g275L2ok m hE m),nb rfl,trivial⟩,qi ⟨nb rfl,yb (g275L3ok m hE m),trivial⟩,trivial⟩) (fun n x=>kR) (fun _=>kR) n
def g275L0X:LT:=⟨0,[(0,h62),(5,hQ1),(6,sI),(7,sI),(8,sN 1),(9,sI)],[(.exit 0,[(5,hQ1),(6,sI),(7,sI),(8,sN 1)])],fun n x=>g275L0 m n x.1 x.2.1 x.2.2.1 x.2.2.2.1 x.2.2.2.2.1 x.2.2.2.2.2.1⟩
theorem g275L0ok {E} (hE:EO E 179 g275H) (n):LO E g275B0 ((g275L0X m).at n):=lk hE (g275K m) (g275L0X m) n
theorem g275ok:FO (g275T m):=
 fok hmix htt (H:=g275H) (g275T m) func275 kR (g275K m) (L:=[(g275L0X m).at m,(g275L1X m).at m]) (l:=[(0,g275B0),(2,g275B2)]) kR (fun _ hE _ _=>⟨qi ⟨yb (g275L0ok m hE m),nb rfl,trivial⟩,qi ⟨nb rfl,yb (g275L1ok m hE m),trivial⟩,trivial⟩) (fun x=>kR)
def g242H:Hints:=⟨[J [0],J' [(0,1),(3,1)] [3,4],J' [(0,1),(1,1)] [2]],[],[],[2],[],[[false]]⟩
def g242T:FunT:=⟨242,[hY1],sI,[sD],fun x=>g242 m x.1⟩
theorem g242ok:FO (g242T m):=fk g242H (g242T m) func242 (AllF.mem (l:=[g276T m,g275T m]) ⟨g276ok m,g275ok m,trivial⟩)
def g166H:Hints:=⟨[J [0,1,2],J [0,1,2,8],J [0,1,2,8,16],J' [(0,1)] [6,7],J [0,1,2,18],J [6,7],J [0,1,2,22],J [6,7],J [0,1,2,25],J' [(0,1)] [6,7],J' [(0,6)] [0,1,2,9],J [0,1,2,9,10],J [0,1,2,9,10,33],J' [(0,1)] [0,1,2,9,10],J [0,1,2,9,10,11],J [0,1,2,9,10,11],J [0,1,2,9,10,11,51],J [0,1,2,9,10,11],J [0,1,2,9,10,11,65],J [0,1,2,9,10,11],J' [(0,1),(1,1),(2,6),(3,6)] [0,1,2,9,10],J' [(0,1)] [6,7]],[(1,[0,1,2,9,10])],[(0,[0,1,2]),(1,[9]),(2,[0,1,2,9,10])],[6,7],[],[[false],[false]]⟩
def g166T:FunT:=⟨166,[hC4,hC4,sU],.tup [(.c (.int .i64)),(.c (.int .i64))],[sD,sD,sD],fun x=>g166 m x.1 x.2.1 x.2.2.1⟩
noncomputable def g166C:Code:=codeOf f166
noncomputable def g166B1:Code:=qo g166C 0 0
theorem g166K:FL [g91T m,g143T m,g18T m,g20T m,g242T m]:=AllF.mem ⟨g91ok m,g143ok m,g18ok m,g20ok m,g242ok m,trivial⟩
def g166L0X:LT:=⟨1,[(0,hC4),(1,hC4),(2,sU),(9,h41),(10,sI)],[(.exit 1,[(9,h41)])],fun n x=>g166L0 m n x.1 x.2.1 x.2.2.1 x.2.2.2.1 x.2.2.2.2.1⟩
theorem g166L0ok {E} (hE:EO E 81 g166H) (n):LO E g166B1 ((g166L0X m).at n):=lk hE (g166K m) (g166L0X m) n
theorem g166ok:FO (g166T m):=f1' g166H (g166T m) func166 (g166K m) fun _ h=>g166L0ok m h m
def g90H:Hints:=⟨[J [0,1,2,6],J [0,1,2,6,8],J [0,1,2,6,8,30],J' [(1,1)] [6,7],J' [(2,1)] [0,1,2,6,40],J [6,7],J' [(1,1)] [0,1,2,6,9],J' [(1,1)] [0,1,2,6,9,11],J [0,1,2,6,9,11,53],J [0,1,2,6,9,11,13],J' [(2,1)] [0,1,2,6,9,11,13,14],J' [(2,1),(4,1)] [0,1,2,6,9,11,13,16],J' [(0,1)] [0,1,2,6,9,11,13,71],J' [(0,1)] [0,1,2,6,9,11],J' [(0,1)] [0,1,2,6,9,11],J' [(0,1),(2,1)] [0,1,6,11,18],J' [(0,1),(2,1)] [0,1,6,18,20],J' [(4,1)] [0,1,6,18,20,22],J' [(0,1),(1,1),(4,1)] [6,18,20,22,24],J' [(0,1),(1,1),(2,1),(3,1)] [6,7]],[(0,[0,1,2,6,9,11])],[(0,[0,1,6,9,11]),(1,[0,1,2,6,9,11])],[6,7],[],[[false,false,false],[false]]⟩
def g90T:FunT:=⟨90,[hC4,hC4,sI],.tup [(.agg [(.int .u64),(.int .u64),(.int .i64)]),(.c (.int .i64))],[sD,sD,sD],fun x=>g90 m x.1 x.2.1 x.2.2.1⟩
noncomputable def g90C:Code:=codeOf f90
noncomputable def g90B0:Code:=qo g90C 0 0
theorem g90K:FL [g91T m,g163T m,g164T m,g165T m,g166T m]:=AllF.mem ⟨g91ok m,g163ok m,g164ok m,g165ok m,g166ok m,trivial⟩
def g90L0X:LT:=⟨0,[(0,hC4),(1,hC4),(2,sI),(6,sX 0 [iU,iU,iI]),(9,sI),(11,sI)],[(.exit 0,[(0,hC4),(1,hC4),(6,sX 0 [iU,iU,iI]),(9,sI),(11,sI)])],fun n x=>g90L0 m n x.1 x.2.1 x.2.2.1 x.2.2.2.1.1 x.2.2.2.1.2.1 x.2.2.2.1.2.2.1 x.2.2.2.2.1 x.2.2.2.2.2.1⟩
theorem g90L0ok {E} (hE:EO E 104 g90H) (n):LO E g90B0 ((g90L0X m).at n):=lk hE (g90K m) (g90L0X m) n
theorem g90ok:FO (g90T m):=f1' g90H (g90T m) func90 (g90K m) fun _ h=>g90L0ok m h m
def g34H:Hints:=⟨[J [1],J' [(5,1)] [1,5],J [1,5,19],J' [(0,1)] [2,3],J [1,6],J [1,6,7],J [1,6,7,25],J' [(0,1)] [1,6,7],J' [(6,1)] [1,6,7,8],J' [(0,1)] [1,6,7],J' [(0,1)] [2,3]],[(0,[1,6,7])],[(0,[6]),(1,[1,6,7])],[2,3],[],[[true],[false]]⟩
def g34T:FunT:=⟨34,[h91],.tup [(.c (.nm 0 (.pr (.int .u64) (.pr (.int .u64) (.int .i64))))),(.c (.int .i64))],[sD],fun x=>g34 m x.1.1 x.1.2.1 x.1.2.2.1⟩
noncomputable def g34C:Code:=codeOf f34
noncomputable def g34B0:Code:=qo g34C 0 0
theorem g34K:FL [g36T m,g90T m]:=AllF.mem ⟨g36ok m,g90ok m,trivial⟩
def g34L0X:LT:=⟨0,[(1,sX 0 [.imm (.int .u64),.imm (.int .u64),.imm (.sl false (.int .u64))]),(6,hU2),(7,sI)],[(.exit 0,[(6,h52)])],fun n x=>g34L0 m n x.1.1 x.1.2.1 x.1.2.2.1 x.2.1 x.2.2.1⟩
theorem g34L0ok {E} (hE:EO E 42 g34H) (n):LO E g34B0 ((g34L0X m).at n):=lk hE (g34K m) (g34L0X m) n
theorem g34ok:FO (g34T m):=f1' g34H (g34T m) func34 (g34K m) fun _ h=>g34L0ok m h m
def g35H:Hints:=⟨[J [0,1],J [0,1,10],J [4],J [0,1,5],J [0,1,5,14],J' [(0,1)] [0,1,5],J [0,1,5,25],J [4],J [4]],[(0,[0,1,5])],[(0,[]),(1,[0,1,5])],[4],[],[[false]]⟩
def g35T:FunT:=⟨35,[h82,h82],sB,[sD,sD],fun x=>g35 m x.1 x.2.1⟩
noncomputable def g35C:Code:=codeOf f35
noncomputable def g35B0:Code:=qo g35C 0 0
def g35L0X:LT:=⟨0,[(0,h82),(1,h82),(5,sI)],[(.ret,[(4,sB)]),(.exit 0,[])],fun n x=>g35L0 m n x.1 x.2.1 x.2.2.1⟩
theorem g35L0ok {E} (hE:EO E 26 g35H) (n):LO E g35B0 ((g35L0X m).at n):=lk hE noF (g35L0X m) n
theorem g35ok:FO (g35T m):=f1' g35H (g35T m) func35 noF fun _ h=>g35L0ok m h m
def g189H:Hints:=⟨[J [0],J [0,3],J [0,3,9,10,11],J [0,3,9,10,11,12],J [0,3,5,9,10,11],J' [(2,1),(8,1)] [0,3,5,9,10,11,28],J [2],J' [(1,1)] [0,3,9,10,11],J' [(1,1)] [0,3,9,10,11],J [2]],[(0,[0,3,9,10,11])],[(0,[]),(1,[0,3,9,10,11])],[2],[],[[false]]⟩
def g189T:FunT:=⟨189,[sL],sB,[sD],fun x=>g189 m x.1⟩
noncomputable def g189C:Code:=codeOf f189
noncomputable def g189B0:Code:=qo g189C 0 0
def g189L0X:LT:=⟨0,[(0,sL),(3,.a (.c (.nm 0 .bool))),(9,sL),(10,sI),(11,sI)],[(.ret,[(2,sB)]),(.exit 0,[])],fun n x=>g189L0 m n x.1 x.2.1 x.2.2.1 x.2.2.2.1 x.2.2.2.2.1⟩
theorem g189L0ok {E} (hE:EO E 33 g189H) (n):LO E g189B0 ((g189L0X m).at n):=lk hE noF (g189L0X m) n
theorem g189ok:FO (g189T m):=f1' g189H (g189T m) func189 noF fun _ h=>g189L0ok m h m
def g190H:Hints:=⟨[J [1],J [1,4],J [1,4,5,6],J [1,4,5,6,10,11,12],J [1,4,5,6,10,11,12,13],J [1,4,5,6,8,10,11,12],J' [(2,1),(6,1)] [1,4,5,6,8,10,11,12,28],J [2,3],J' [(0,1)] [1,4,5,6,8,10,11,12],J' [(0,1)] [1,4,5,6,8,10,11,12],J' [(0,1),(1,1)] [1,4,5,6,10,11,12],J' [(1,1)] [1,4,5,6,10,11,12],J' [(0,1),(1,1),(6,1),(7,1)] [2,3]],[(0,[1,4,5,6,10,11,12])],[(0,[1,4,5,6]),(1,[1,4,5,6,10,11,12])],[2,3],[],[[true],[false]]⟩
def g190T:FunT:=⟨190,[hC1],.tup [(.c (.nm 0 (.int .i64))),(.c .bool)],[sD],fun x=>g190 m x.1.1 x.1.2.1 x.1.2.2.1 x.1.2.2.2.1 x.1.2.2.2.2.1 x.1.2.2.2.2.2.1 x.1.2.2.2.2.2.2.1⟩
noncomputable def g190C:Code:=codeOf f190
noncomputable def g190B0:Code:=qo g190C 0 0
def g190L0X:LT:=⟨0,[(1,sX 0 [iL,iL,.imm (.int .u64),iL,iL,.imm (.int .u64),iI]),(4,sN 1),(5,sI),(6,sI),(10,sL),(11,sI),(12,sI)],[(.ret,[(2,sN 0),(3,sB)]),(.exit 0,[(1,sX 0 [iL,iL,.imm (.int .u64),iL,iL,.imm (.int .u64),iI]),(4,sN 1),(5,sI),(6,sI)])],fun n x=>g190L0 m n x.1.1 x.1.2.1 x.1.2.2.1 x.1.2.2.2.1 x.1.2.2.2.2.1 x.1.2.2.2.2.2.1 x.1.2.2.2.2.2.2.1 x.2.1 x.2.2.1 x.2.2.2.1 x.2.2.2.2.1 x.2.2.2.2.2.1 x.2.2.2.2.2.2.1⟩
theorem g190L0ok {E} (hE:EO E 55 g190H) (n):LO E g190B0 ((g190L0X m).at n):=lk hE noF (g190L0X m) n
theorem g190ok:FO (g190T m):=f1' g190H (g190T m) func190 noF fun _ h=>g190L0ok m h m
def g191H:Hints:=⟨[J [1,2],J [1,2,5],J' [(5,1)] [1,2,5,31],J [4],J' [(0,1)] [2,5,32,33,34],J [2,5,32,33,34,35],J [2,5,6,7,32,33,34],J' [(3,1)] [2,5,7,8,32,33,34],J' [(0,1)] [2,5,8,9,32,33,34],J [2,5,8,9,32,33,34,50],J' [(0,1)] [2,5,8,9,32,33,34],J' [(12,1)] [2,5,8,9,32,33,34,76],J [4],J [2,5,8,9,10,32,33,34],J [2,5,8,9,10,32,33,34,91,92,93],J [2,5,8,9,10,32,33,34,91,92,93,94],J [2,5,8,9,10,12,32,33,34,91,92,93],J' [(1,1),(3,1)] [2,5,8,9,12,32,33,34,91,92,93,104],J [4],J' [(0,1)] [2,5,8,9,10,32,33,34,91,92,93],J' [(1,1)] [2,5,8,9,10,32,33,34,91,92,93],J' [(1,1)] [2,5,32,33,34],J [4]],[(0,[2,5,32,33,34]),(2,[2,5,8,9,32,33,34]),(4,[2,5,8,9,10,32,33,34,91,92,93])],[(0,[]),(1,[2,5,32,33,34]),(2,[2,5,32,33,34]),(3,[2,5,8,9,32,33,34]),(4,[2,5,8,9,32,33,34]),(5,[2,5,8,9,10,32,33,34,91,92,93])],[4],[],[[false]]⟩
def g191T:FunT:=⟨191,[hC1,sL],sB,[sD,sD],fun x=>g191 m x.1.1 x.1.2.1 x.1.2.2.1 x.1.2.2.2.1 x.1.2.2.2.2.1 x.1.2.2.2.2.2.1 x.1.2.2.2.2.2.2.1 x.2.1⟩
noncomputable def g191C:Code:=codeOf f191
noncomputable def g191B0:Code:=qo g191C 0 0
noncomputable def g191B2:Code:=qo g191B0 0 0
noncomputable def g191B4:Code:=qo g191B2 2 0
def g191L2X:LT:=⟨4,[(2,sX 0 [iL,iL,.imm (.int .u64),iL,iL,.imm (.int .u64),iI]),(5,sI),(8,sI),(9,sI),(10,sI),(32,sL),(33,sI),(34,sI),(91,sL),(92,sI),(93,sI)],[(.ret,[(4,sB)]),(.exit 4,[(2,sX 0 [iL,iL,.imm (.int .u64),iL,iL,.imm (.int .u64),iI]),(5,sI),(8,sI),(9,sI),(32,sL),(33,sI),(34,sI)])],fun n x=>g191L2 m n x.1.1 x.1.2.1 x.1.2.2.1 x.1.2.2.2.1 x.1.2.2.2.2.1 x.1.2.2.2.2.2.1 x.1.2.2.2.2.2.2.1 x.2.1 x.2.2.1 x.2.2.2.1 x.2.2.2.2.1 x.2.2.2.2.2.1 x.2.2.2.2.2.2.1 x.2.2.2.2.2.2.2.1 x.2.2.2.2.2.2.2.2.1 x.2.2.2.2.2.2.2.2.2.1 x.2.2.2.2.2.2.2.2.2.2.1⟩
theorem g191L2ok {E} (hE:EO E 108 g191H) (n):LO E g191B4 ((g191L2X m).at n):=lk hE noF (g191L2X m) n
def g191L1X:LT:=⟨2,[(2,sX 0 [iL,iL,.imm (.int .u64),iL,iL,.imm (.int .u64),iI]),(5,sI),(8,sI),(9,sI),(32,sL),(33,sI),(34,sI)],[(.ret,[(4,sB)]),(.exit 2,[(2,sX 0 [iL,iL,.imm (.int .u64),iL,iL,.imm (.int .u64),iI]),(5,sI),(32,sL),(33,sI),(34,sI)])],fun n x=>g191L1 m n x.1.1 x.1.2.1 x.1.2.2.1 x.1.2.2.2.1 x.1.2.2.2.2.1 x.1.2.2.2.2.2.1 x.1.2.2.2.2.2.2.1 x.2.1 x.2.2.1 x.2.2.2.1 x.2.2.2.2.1 x.2.2.2.2.2.1 x.2.2.2.2.2.2.1⟩
theorem g191L1ok {E} (hE:EO E 108 g191H) (n):LO E g191B2 ((g191L1X m).at n):=
 lok hmix htt hE noF (L:=[(g191L2X m).at m]) (g191L1X m) (l:=[(4,g191B4)]) kR (fun _ _=>⟨qi ⟨yb (g191L2ok m hE m),trivial⟩,trivial⟩) (fun n x=>kR) (fun _=>kR) n
def g191L0X:LT:=⟨0,[(2,sX 0 [iL,iL,.imm (.int .u64),iL,iL,.imm (.int .u64),iI]),(5,sI),(32,sL),(33,sI),(34,sI)],[(.ret,[(4,sB)]),(.exit 0,[])],fun n x=>g191L0 m n x.1.1 x.1.2.1 x.1.2.2.1 x.1.2.2.2.1 x.1.2.2.2.2.1 x.1.2.2.2.2.2.1 x.1.2.2.2.2.2.2.1 x.2.1 x.2.2.1 x.2.2.2.1 x.2.2.2.2.1⟩
theorem g191L0ok {E} (hE:EO E 108 g191H) (n):LO E g191B0 ((g191L0X m).at n):=
 lok hmix htt hE noF (L:=[(g191L1X m).at m]) (g191L0X m) (l:=[(2,g191B2)]) kR (fun _ _=>⟨qi ⟨yb (g191L1ok m hE m),trivial⟩,trivial⟩) (fun n x=>kR) (fun _=>kR) n
theorem g191ok:FO (g191T m):=f1' g191H (g191T m) func191 noF fun _ h=>g191L0ok m h m
def g192H:Hints:=⟨[J [1],J' [(0,6)] [1,3],J [1,3,4],J [1,3,4,9,10,11],J [1,3,4,9,10,11,12],J [1,3,4,6,9,10,11],J [1,3,4,6,7,9,10,11],J' [(0,1)] [1,3,4,7,9,10,11,17,18],J [1,3,4,7,9,10,11,17,18,19],J' [(0,1)] [1,3,4,7,9,10,11,17,18],J' [(0,1)] [1,3,4,7,9,10,11,17,18],J' [(1,1)] [1,3,4,7,9,10,11,17,18],J' [(0,1),(1,1),(2,6),(3,6)] [1,3,4,9,10,11],J' [(1,1)] [1,3,4,9,10,11],J' [(0,1)] [2]],[(0,[1,3,4,9,10,11]),(2,[1,3,4,7,9,10,11,17,18])],[(0,[3]),(1,[1,3,4,9,10,11]),(2,[1,3,4,7,9,10,11]),(3,[1,3,4,7,9,10,11,17,18])],[2],[],[[false]]⟩
def g192T:FunT:=⟨192,[hC1],hY1,[sD],fun x=>g192 m x.1.1 x.1.2.1 x.1.2.2.1 x.1.2.2.2.1 x.1.2.2.2.2.1 x.1.2.2.2.2.2.1 x.1.2.2.2.2.2.2.1⟩
noncomputable def g192C:Code:=codeOf f192
noncomputable def g192B0:Code:=qo g192C 0 0
noncomputable def g192B2:Code:=qo g192B0 0 0
theorem g192K:FL [g112T m]:=AllF.mem ⟨g112ok m,trivial⟩
def g192L1X:LT:=⟨2,[(1,sX 0 [iL,iL,.imm (.int .u64),iL,iL,.imm (.int .u64),iI]),(3,h51),(4,sI),(7,h61),(9,sL),(10,sI),(11,sI),(17,sI),(18,sI)],[(.exit 2,[(1,sX 0 [iL,iL,.imm (.int .u64),iL,iL,.imm (.int .u64),iI]),(3,h51),(4,sI),(7,h61),(9,sL),(10,sI),(11,sI)])],fun n x=>g192L1 m n x.1.1 x.1.2.1 x.1.2.2.1 x.1.2.2.2.1 x.1.2.2.2.2.1 x.1.2.2.2.2.2.1 x.1.2.2.2.2.2.2.1 x.2.1 x.2.2.1 x.2.2.2.1 x.2.2.2.2.1 x.2.2.2.2.2.1 x.2.2.2.2.2.2.1 x.2.2.2.2.2.2.2.1 x.2.2.2.2.2.2.2.2.1⟩
theorem g192L1ok {E} (hE:EO E 38 g192H) (n):LO E g192B2 ((g192L1X m).at n):=lk hE (g192K m) (g192L1X m) n
def g192L0X:LT:=⟨0,[(1,sX 0 [iL,iL,.imm (.int .u64),iL,iL,.imm (.int .u64),iI]),(3,h51),(4,sI),(9,sL),(10,sI),(11,sI)],[(.exit 0,[(3,h41)])],fun n x=>g192L0 m n x.1.1 x.1.2.1 x.1.2.2.1 x.1.2.2.2.1 x.1.2.2.2.2.1 x.1.2.2.2.2.2.1 x.1.2.2.2.2.2.2.1 x.2.1 x.2.2.1 x.2.2.2.1 x.2.2.2.2.1 x.2.2.2.2.2.1⟩
theorem g192L0ok {E} (hE:EO E 38 g192H) (n):LO E g192B0 ((g192L0X m).at n):=
 lok hmix htt hE (g192K m) (L:=[(g192L1X m).at m]) (g192L0X m) (l:=[(2,g192B2)]) kR (fun _ _=>⟨qi ⟨yb (g192L1ok m hE m),trivial⟩,trivial⟩) (fun n x=>kR) (fun _=>kR) n
theorem g192ok:FO (g192T m):=f1' g192H (g192T m) func192 (g192K m) fun _ h=>g192L0ok m h m
def g147H:Hints:=⟨[J [2,3,4],J' [(3,1)] [2,3,4,5],J' [(0,1)] [2,3,4,14],J [4],J [4]],[],[],[4],[],[[false,false,false,false]]⟩
def g147T:FunT:=⟨147,[hI3,hI3],hI3,[sD,sD],fun x=>g147 m x.1.1 x.1.2.1 x.1.2.2.1 x.1.2.2.2.1 x.2.1.1 x.2.1.2.1 x.2.1.2.2.1 x.2.1.2.2.2.1⟩
theorem g147ok:FO (g147T m):=fk g147H (g147T m) func147 (AllF.mem (l:=[g151T m,g222T m,g223T m,g145T m]) ⟨g151ok m,g222ok m,g223ok m,g145ok m,trivial⟩)
def g194H:Hints:=⟨[J [0,2],J [2]],[],[],[2],[],[[false,false,false,false]]⟩
def g194T:FunT:=⟨194,[h81],hI3,[sD],fun x=>g194 m x.1⟩
theorem g194ok:FO (g194T m):=fk g194H (g194T m) func194 (AllF.mem (l:=[g147T m,g83T m]) ⟨g147ok m,g83ok m,trivial⟩)
def g104H:Hints:=⟨[J [1],J [1,3],J [1,3,15],J [2],J [1,3,18],J [2],J' [(3,1),(6,1)] [1,23],J [2],J' [(2,1)] [1,4,5],J' [(0,1),(2,1),(7,1),(9,1)] [1,56],J [2],J [1,61,62,63],J [1,61,62,63,64],J [1,7,61,62,63],J' [(0,1)] [1,61,62,63,67,68,69],J [1,61,62,63,67,68,69,70],J [1,9,61,62,63,67,68,69],J' [(0,1)] [1,61,62,63,67,68,69,75],J [2],J' [(1,1)] [1,61,62,63,67,68,69],J' [(1,1)] [1,61,62,63],J [79,80,81],J [79,80,81,82],J [11,79,80,81],J' [(3,1)] [79,80,81,93],J [2],J' [(1,1)] [79,80,81],J [2]],[(1,[1,61,62,63]),(3,[1,61,62,63,67,68,69]),(5,[79,80,81])],[(0,[1]),(1,[1]),(2,[1,61,62,63]),(3,[1,61,62,63]),(4,[1,61,62,63,67,68,69]),(5,[]),(6,[79,80,81])],[2],[],[[false]]⟩
def g104T:FunT:=⟨104,[hC1],sI,[sD],fun x=>g104 m x.1.1 x.1.2.1 x.1.2.2.1 x.1.2.2.2.1 x.1.2.2.2.2.1 x.1.2.2.2.2.2.1 x.1.2.2.2.2.2.2.1⟩
noncomputable def g104C:Code:=codeOf f104
noncomputable def g104B1:Code:=qo g104C 0 0
noncomputable def g104B3:Code:=qo g104B1 1 0
noncomputable def g104B5:Code:=qo g104C 0 1
theorem g104K:FL [g189T m,g190T m,g191T m,g47T m,g192T m,g194T m,g193T m]:=AllF.mem ⟨g189ok m,g190ok m,g191ok m,g47ok m,g192ok m,g194ok m,g193ok m,trivial⟩
def g104L2X:LT:=⟨5,[(79,hY1),(80,sI),(81,sI)],[(.ret,[(2,sI)]),(.exit 5,[])],fun n x=>g104L2 m n x.1 x.2.1 x.2.2.1⟩
theorem g104L2ok {E} (hE:EO E 95 g104H) (n):LO E g104B5 ((g104L2X m).at n):=lk hE (g104K m) (g104L2X m) n
def g104L1X:LT:=⟨3,[(1,sX 0 [iL,iL,.imm (.int .u64),iL,iL,.imm (.int .u64),iI]),(61,hX3),(62,sI),(63,sI),(67,hC4),(68,sI),(69,sI)],[(.ret,[(2,sI)]),(.exit 3,[(1,sX 0 [iL,iL,.imm (.int .u64),iL,iL,.imm (.int .u64),iI]),(61,hX3),(62,sI),(63,sI)])],fun n x=>g104L1 m n x.1.1 x.1.2.1 x.1.2.2.1 x.1.2.2.2.1 x.1.2.2.2.2.1 x.1.2.2.2.2.2.1 x.1.2.2.2.2.2.2.1 x.2.1 x.2.2.1 x.2.2.2.1 x.2.2.2.2.1 x.2.2.2.2.2.1 x.2.2.2.2.2.2.1⟩
theorem g104L1ok {E} (hE:EO E 95 g104H) (n):LO E g104B3 ((g104L1X m).at n):=lk hE (g104K m) (g104L1X m) n
def g104L0X:LT:=⟨1,[(1,sX 0 [iL,iL,.imm (.int .u64),iL,iL,.imm (.int .u64),iI]),(61,hX3),(62,sI),(63,sI)],[(.ret,[(2,sI)]),(.exit 1,[(1,sX 0 [iL,iL,.imm (.int .u64),iL,iL,.imm (.int .u64),iI])])],fun n x=>g104L0 m n x.1.1 x.1.2.1 x.1.2.2.1 x.1.2.2.2.1 x.1.2.2.2.2.1 x.1.2.2.2.2.2.1 x.1.2.2.2.2.2.2.1 x.2.1 x.2.2.1 x.2.2.2.1⟩
theorem g104L0ok {E} (hE:EO E 95 g104H) (n):LO E g104B1 ((g104L0X m).at n):=
 lok hmix htt hE (g104K m) (L:=[(g104L1X m).at m]) (g104L0X m) (l:=[(3,g104B3)]) kR (fun _ _=>⟨qi ⟨yb (g104L1ok m hE m),trivial⟩,trivial⟩) (fun n x=>kR) (fun _=>kR) n
theorem g104ok:FO (g104T m):=
 fok hmix htt (H:=g104H) (g104T m) func104 kR (g104K m) (L:=[(g104L0X m).at m,(g104L2X m).at m]) (l:=[(1,g104B1),(5,g104B5)]) kR (fun _ hE _ _=>⟨qi ⟨yb (g104L0ok m hE m),nb rfl,trivial⟩,qi ⟨nb rfl,yb (g104L2ok m hE m),trivial⟩,trivial⟩) (fun x=>kR)
def g148H:Hints:=⟨[J [0,2],J [0,2,3],J [0,2,3,4],J' [(0,1)] [2,3,4,12,13,14],J [2,3,4,12,13,14,15],J [2,3,4,6,12,13,14],J' [(2,1)] [2,3,4,7,8,12,13,14],J' [(0,1)] [2,3,4,7,12,13,14,24],J [2],J' [(0,1)] [2,3,4,7,12,13,14],J' [(0,1)] [2,3,4,12,13,14],J' [(1,1)] [2,3,4,12,13,14],J' [(0,2)] [2,3,4,9],J' [(0,1)] [2,4,9,35,36,37],J [2,4,9,35,36,37,38],J [2,4,9,11,35,36,37],J' [(0,2)] [2,4,9,35,36,37],J' [(1,1)] [2,4,9,35,36,37],J' [(1,1)] [2]],[(0,[2,3,4,12,13,14]),(2,[2,4,9,35,36,37])],[(0,[2,3,4]),(1,[2,3,4,12,13,14]),(2,[2,4,9]),(3,[2,4,9,35,36,37])],[2],[],[[false,false,false,false]]⟩
def g148T:FunT:=⟨148,[h81],hI3,[sD],fun x=>g148 m x.1⟩
noncomputable def g148C:Code:=codeOf f148
noncomputable def g148B0:Code:=qo g148C 0 0
noncomputable def g148B2:Code:=qo g148C 0 1
theorem g148K:FL [g154T m,g222T m,g225T m,g224T m,g145T m]:=AllF.mem ⟨g154ok m,g222ok m,g225ok m,g224ok m,g145ok m,trivial⟩
def g148L1X:LT:=⟨2,[(2,sX 0 [.bool,.bool,.nm 1 (.int .u32),iI]),(4,sI),(9,sX 2 [.bool,.imm (.int .u32)]),(35,h71),(36,sI),(37,sI)],[(.exit 2,[(2,sX 0 [.bool,.bool,.nm 1 (.int .u32),iI]),(4,sI),(9,sX 2 [.bool,.imm (.int .u32)])])],fun n x=>g148L1 m n x.1.1 x.1.2.1 x.1.2.2.1 x.1.2.2.2.1 x.2.1 x.2.2.1.1 x.2.2.1.2.1 x.2.2.2.1 x.2.2.2.2.1 x.2.2.2.2.2.1⟩
theorem g148L1ok {E} (hE:EO E 54 g148H) (n):LO E g148B2 ((g148L1X m).at n):=lk hE (g148K m) (g148L1X m) n
def g148L0X:LT:=⟨0,[(2,sX 0 [.bool,.bool,.nm 1 (.int .u32),iI]),(3,h61),(4,sI),(12,h81),(13,sI),(14,sI)],[(.ret,[(2,sX 0 [.bool,.bool,.nm 1 (.int .u32),iI])]),(.exit 0,[(2,sX 0 [.bool,.bool,.nm 1 (.int .u32),iI]),(3,h61),(4,sI)])],fun n x=>g148L0 m n x.1.1 x.1.2.1 x.1.2.2.1 x.1.2.2.2.1 x.2.1 x.2.2.1 x.2.2.2.1 x.2.2.2.2.1 x.2.2.2.2.2.1⟩
theorem g148L0ok {E} (hE:EO E 54 g148H) (n):LO E g148B0 ((g148L0X m).at n):=lk hE (g148K m) (g148L0X m) n
theorem g148ok:FO (g148T m):=
 fok hmix htt (H:=g148H) (g148T m) func148 kR (g148K m) (L:=[(g148L0X m).at m,(g148L1X m).at m]) (l:=[(0,g148B0),(2,g148B2)]) kR (fun _ hE _ _=>⟨qi ⟨yb (g148L0ok m hE m),nb rfl,trivial⟩,qi ⟨nb rfl,yb (g148L1ok m hE m),trivial⟩,trivial⟩) (fun x=>kR)
end
end Go.Vs.F
