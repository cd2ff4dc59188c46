import Derived.Test.YtoeiaipcgnjfcaaGreatDoorOkb
set_option linter.unusedSimpArgs false
set_option linter.unusedSectionVars false
set_option linter.unusedVariables false
set_option maxRecDepth 100000
set_option linter.defProp false
namespace Go.Vs.F
open Go.Proofs
open Tryz
section
variable (m:Nat)
def g366H:Hints:=⟨[J [0,1,2,3,10],J [0,1,2,3,10,13],J' [(0,1)] [0,1,2,3,10],J [0,1,2,3,10]],[(0,[0,1,2,3,10])],[(0,[0]),(1,[0,1,2,3,10])],[0],[0],[]⟩
def g366T:FunT:=⟨366,[h51,sI,sI,sI,hM4],.tup [],[h51,sD,sD,sD,sD],λx=>g366 m x.1 x.2.1 x.2.2.1 x.2.2.2.1⟩
noncomputable def g366C:Code:=codeOf f366
noncomputable def g366B0:Code:=ql g366C 0 0
def g366L0X:LT:=⟨0,[(0,h51),(1,sI),(2,sI),(3,sI),(10,sI)],[(.exit 0,[(0,h51)])],λn x=>g366L0 m n x.1 x.2.1 x.2.2.1 x.2.2.2.1 x.2.2.2.2.1⟩
def g366L0ok {E} (hE:EO E 38 g366H) (n):LO E g366B0 ((g366L0X m).at n):=lk hE noF (g366L0X m) n
def g366ok:FO (g366T m):=f1' g366H (g366T m) func366 noF λ_ h=>g366L0ok m h m
def g361H:Hints:=⟨[J' [(1,1)] [0,2,3,4,10],J' [(0,1)] [0,2,4,10,11],J [0,2,4,10,11,20],J [0,2,4,10,11,23],J' [(7,11)] [0,2,4,10,11],J' [(0,1)] [0,2,4,10,11],J' [(11,11)] [0,2,4,10,11],J' [(0,1)] [0,2,4,10,11],J' [(6,1),(7,11)] [0]],[(0,[0,2,4,10,11])],[(0,[0,2,4,10]),(1,[0,2,4,10,11])],[0],[0],[]⟩
def g361T:FunT:=⟨361,[h51,sI,sI,sI,hM4],.tup [],[h51,sD,sD,sD,sD],λx=>g361 m x.1 x.2.1 x.2.2.1 x.2.2.2.1⟩
noncomputable def g361C:Code:=codeOf f361
noncomputable def g361B0:Code:=ql g361C 0 0
def g361K:FL [g366T m]:=AllF.mem ⟨g366ok m,trivial⟩
def g361L0X:LT:=⟨0,[(0,h51),(2,sI),(4,hM4),(10,sI),(11,sI)],[(.exit 0,[(0,h51),(2,sI),(4,hM4),(10,sI)])],λn x=>g361L0 m n x.1 x.2.1 x.2.2.2.1 x.2.2.2.2.1⟩
def g361L0ok {E} (hE:EO E 58 g361H) (n):LO E g361B0 ((g361L0X m).at n):=lk hE (g361K m) (g361L0X m) n
def g361ok:FO (g361T m):=f1' g361H (g361T m) func361 (g361K m) λ_ h=>g361L0ok m h m
def g349H:Hints:=⟨[J [0,1,2,3,4,28],J' [(0,1)] [0,1,3,4,10],J' [(0,1)] [0,1,4,10,11],J [0,1,4,10,11,33],J [0,1,4,10,11,12],J [0,1,4,10,11,12,50],J' [(0,1)] [0,1,4,10,11],J' [(0,1)] [0,1,4,10,11],J' [(0,1)] [0,10,13],J [0,10,13,58],J' [(0,1)] [0,10,13],J [0,10,13],J [0,1,2,3,4,80],J' [(0,1)] [0,2,4,14],J [0,2,4,14,15],J [0,2,4,14,15,85],J [0,2,4,14,15,16],J [0,2,4,14,15,16,103],J' [(0,1)] [0,2,4,14,15],J' [(0,1)] [0,2,4,14,15],J' [(0,1)] [0,14,17],J [0,14,17,110],J' [(0,1)] [0,14,17],J [0,14,17],J [0,1,2,3,4,18],J [0,1,2,3,4,18,19],J [0,1,2,3,4,18,19],J [0,1,2,3,4,18,19,140],J [0,1,2,3,4,18,19,20],J [0,1,2,3,4,18,19,20,21],J [0,1,2,3,4,18,19,20],J [0,1,2,3,4,18,19,20,21],J [0,1,2,3,4,18,19,20,21,22],J [0,1,2,3,4,18,19,20,21,22,151],J [0,1,2,3,4,18,19,20,21,22,23],J [0,1,2,3,4,18,19,20,21,22,23,171],J' [(0,1)] [0,1,2,3,4,18,19,20,21,22],J' [(0,1)] [0,1,2,3,4,18,19,20,21,22],J' [(0,1)] [0,1,2,3,4,18,20,24],J' [(3,1)] [0,1,2,3,4,18,20,24,185],J' [(2,1),(5,11)] [0,1,3,4,18,20,24],J' [(3,1)] [0,1,3,4,18,20,24,199],J' [(1,1),(2,1),(5,11)] [0,3,4,18,24],J' [(3,1)] [0,3,4,18,24,213],J' [(1,1),(2,1),(3,1),(4,1),(5,11)] [0]],[(0,[0,1,4,10,11]),(2,[0,10,13]),(4,[0,2,4,14,15]),(6,[0,14,17]),(8,[0,1,2,3,4,18,19,20,21,22])],[(0,[0,1,10]),(1,[0,1,4,10,11]),(2,[0]),(3,[0,10,13]),(4,[0,2,14]),(5,[0,2,4,14,15]),(6,[0]),(7,[0,14,17]),(8,[0,1,2,3,4,18,19,20]),(9,[0,1,2,3,4,18,19,20,21,22])],[0],[0],[]⟩
def g349T:FunT:=⟨349,[h51,sI,sI,sI,hM4],.tup [],[h51,sD,sD,sD,sD],λx=>g349 m x.1 x.2.1 x.2.2.1 x.2.2.2.1⟩
noncomputable def g349C:Code:=codeOf f349
noncomputable def g349B0:Code:=ql g349C 0 0
noncomputable def g349B2:Code:=ql g349C 0 1
noncomputable def g349B4:Code:=ql g349C 0 2
noncomputable def g349B6:Code:=ql g349C 0 3
noncomputable def g349B8:Code:=ql g349C 0 4
def g349K (m:Nat) (hself:FunOK prog (g349T m)): ∀u∈[g287T m,g361T m,g349T m],FunOK prog u:=AllF.mem ⟨g287ok m,g361ok m,hself,trivial⟩
def g349L4X:LT:=⟨8,[(0,h51),(1,sI),(2,sI),(3,sI),(4,hM4),(18,sI),(19,sI),(20,sI),(21,sI),(22,sI)],[(.exit 8,[(0,h51),(1,sI),(2,sI),(3,sI),(4,hM4),(18,sI),(19,sI),(20,sI)])],λn x=>g349L4 (λa0 a1 a2 a3=>g349 m a0 a1 a2 a3) m n x.1 x.2.1 x.2.2.1 x.2.2.2.1 x.2.2.2.2.2.1 x.2.2.2.2.2.2.1 x.2.2.2.2.2.2.2.1 x.2.2.2.2.2.2.2.2.1 x.2.2.2.2.2.2.2.2.2.1⟩
def g349L4ok {E:Entry} (hE:EOf prog E 220 g349H.pins) (m:Nat) (hself:FunOK prog (g349T m)) (n:Nat):LoopOK prog E g349B8 ((g349L4X m).at n):=
 lok hmix htt hE (g349K m hself) (L:=[]) (g349L4X m) (l:=[]) kR (λ_ _=>trivial) (λn x=>kR) (λ_=>kR) n
def g349L3X:LT:=⟨6,[(0,h51),(14,sI),(17,sI)],[(.exit 6,[(0,h51)])],λn x=>g349L3 (λa0 a1 a2 a3=>g349 m a0 a1 a2 a3) m n x.1 x.2.1 x.2.2.1⟩
def g349L3ok {E:Entry} (hE:EOf prog E 220 g349H.pins) (m:Nat) (hself:FunOK prog (g349T m)) (n:Nat):LoopOK prog E g349B6 ((g349L3X m).at n):=
 lok hmix htt hE (g349K m hself) (L:=[]) (g349L3X m) (l:=[]) kR (λ_ _=>trivial) (λn x=>kR) (λ_=>kR) n
def g349L2X:LT:=⟨4,[(0,h51),(2,sI),(4,hM4),(14,sI),(15,sI)],[(.exit 4,[(0,h51),(2,sI),(14,sI)])],λn x=>g349L2 (λa0 a1 a2 a3=>g349 m a0 a1 a2 a3) m n x.1 x.2.1 x.2.2.2.1 x.2.2.2.2.1⟩
def g349L2ok {E:Entry} (hE:EOf prog E 220 g349H.pins) (m:Nat) (hself:FunOK prog (g349T m)) (n:Nat):LoopOK prog E g349B4 ((g349L2X m).at n):=
 lok hmix htt hE (g349K m hself) (L:=[]) (g349L2X m) (l:=[]) kR (λ_ _=>trivial) (λn x=>kR) (λ_=>kR) n
def g349L1X:LT:=⟨2,[(0,h51),(10,sI),(13,sI)],[(.exit 2,[(0,h51)])],λn x=>g349L1 (λa0 a1 a2 a3=>g349 m a0 a1 a2 a3) m n x.1 x.2.1 x.2.2.1⟩
def g349L1ok {E:Entry} (hE:EOf prog E 220 g349H.pins) (m:Nat) (hself:FunOK prog (g349T m)) (n:Nat):LoopOK prog E g349B2 ((g349L1X m).at n):=
 lok hmix htt hE (g349K m hself) (L:=[]) (g349L1X m) (l:=[]) kR (λ_ _=>trivial) (λn x=>kR) (λ_=>kR) n
def g349L0X:LT:=⟨0,[(0,h51),(1,sI),(4,hM4),(10,sI),(11,sI)],[(.exit 0,[(0,h51),(1,sI),(10,sI)])],λn x=>g349L0 (λa0 a1 a2 a3=>g349 m a0 a1 a2 a3) m n x.1 x.2.1 x.2.2.2.1 x.2.2.2.2.1⟩
def g349L0ok {E:Entry} (hE:EOf prog E 220 g349H.pins) (m:Nat) (hself:FunOK prog (g349T m)) (n:Nat):LoopOK prog E g349B0 ((g349L0X m).at n):=
 lok hmix htt hE (g349K m hself) (L:=[]) (g349L0X m) (l:=[]) kR (λ_ _=>trivial) (λn x=>kR) (λ_=>kR) n
def g349ok: ∀m:Nat,FunOK prog (g349T m)
 |0=>λ_ _ h=>by cases h
 |m+1=>by
  have hself:=g349ok m;exact fok hmix htt (H:=g349H) (g349T (m+1)) func349 kR (g349K m hself) (L:=[(g349L0X m).at m,(g349L1X m).at m,(g349L2X m).at m,(g349L3X m).at m,(g349L4X m).at m]) (l:=[(0,g349B0),(2,g349B2),(4,g349B4),(6,g349B6),(8,g349B8)]) kR (λ_ hE _ _=>⟨qj ⟨yb (g349L0ok hE m hself m),nb rfl,nb rfl,nb rfl,nb rfl,trivial⟩,qj ⟨nb rfl,yb (g349L1ok hE m hself m),nb rfl,nb rfl,nb rfl,trivial⟩,qj ⟨nb rfl,nb rfl,yb (g349L2ok hE m hself m),nb rfl,nb rfl,trivial⟩,qj ⟨nb rfl,nb rfl,nb rfl,yb (g349L3ok hE m hself m),nb rfl,trivial⟩,qj ⟨nb rfl,nb rfl,nb rfl,nb rfl,yb (g349L4ok hE m hself m),trivial⟩,trivial⟩) (λx=>kR)
def g332H:Hints:=⟨[J [0,1,2,6],J [0,1,2,6,7,8],J [0,1,2,6,7,8,13],J' [(1,1),(4,11)] [0,1,2,6,8],J [0,1,2,6,7,8],J' [(0,1)] [0,1,2,6,7,8],J' [(1,1),(4,11)] [0,1,2,6],J [0,1,2,6,30],J [0,1,2,6,7,8],J [0,1,2,6,7,8,35],J' [(7,11)] [0,1,2,6,8],J [0,1,2,6,7,8],J' [(0,1)] [0,1,2,6,7,8],J [0,1,2,6,7,9],J [0,1,2,6,7,9,54],J' [(1,1),(2,1),(5,11)] [0,1,2,6],J' [(0,1)] [0,1,2,6]],[(0,[0,1,2,6,7,8]),(2,[0,1,2,6]),(4,[0,1,2,6,7,8])],[(0,[0,1,2,6,7]),(1,[0,1,2,6,7,8]),(2,[0]),(3,[0,1,2,6]),(4,[0,1,2,6,7]),(5,[0,1,2,6,7,8])],[0],[0],[]⟩
def g332T:FunT:=⟨332,[h51,sI,hM4],.tup [],[h51,sD,sD],λx=>g332 m x.1 x.2.1⟩
noncomputable def g332C:Code:=codeOf f332
noncomputable def g332B0:Code:=ql g332C 0 0
noncomputable def g332B2:Code:=ql g332C 0 1
noncomputable def g332B4:Code:=ql g332B2 2 0
def g332K:FL [g348T m,g349T m]:=AllF.mem ⟨g348ok m,g349ok m,trivial⟩
def g332L2X:LT:=⟨4,[(0,h51),(1,sI),(2,hM4),(6,sI),(7,sI),(8,sI)],[(.exit 4,[(0,h51),(1,sI),(2,hM4),(6,sI),(7,sI)])],λn x=>g332L2 m n x.1 x.2.1 x.2.2.2.1 x.2.2.2.2.1 x.2.2.2.2.2.1⟩
def g332L2ok {E} (hE:EO E 63 g332H) (n):LO E g332B4 ((g332L2X m).at n):=lk hE (g332K m) (g332L2X m) n
def g332L1X:LT:=⟨2,[(0,h51),(1,sI),(2,hM4),(6,sI)],[(.exit 2,[(0,h51)])],λn x=>g332L1 m n x.1 x.2.1 x.2.2.2.1⟩
def g332L1ok {E} (hE:EO E 63 g332H) (n):LO E g332B2 ((g332L1X m).at n):=
 lok hmix htt hE (g332K m) (L:=[(g332L2X m).at m]) (g332L1X m) (l:=[(4,g332B4)]) kR (λ_ _=>⟨qj ⟨yb (g332L2ok m hE m),trivial⟩,trivial⟩) (λn x=>kR) (λ_=>kR) n
def g332L0X:LT:=⟨0,[(0,h51),(1,sI),(2,hM4),(6,sI),(7,sI),(8,sI)],[(.exit 0,[(0,h51),(1,sI),(2,hM4),(6,sI),(7,sI)])],λn x=>g332L0 m n x.1 x.2.1 x.2.2.2.1 x.2.2.2.2.1 x.2.2.2.2.2.1⟩
def g332L0ok {E} (hE:EO E 63 g332H) (n):LO E g332B0 ((g332L0X m).at n):=lk hE (g332K m) (g332L0X m) n
def g332ok:FO (g332T m):=
 fok hmix htt (H:=g332H) (g332T m) func332 kR (g332K m) (L:=[(g332L0X m).at m,(g332L1X m).at m]) (l:=[(0,g332B0),(2,g332B2)]) kR (λ_ hE _ _=>⟨qj ⟨yb (g332L0ok m hE m),nb rfl,trivial⟩,qj ⟨nb rfl,yb (g332L1ok m hE m),trivial⟩,trivial⟩) (λx=>kR)
def g286H:Hints:=⟨[J' [(3,1),(4,11)] [0]],[],[],[0],[0],[]⟩
def g286T:FunT:=⟨286,[h51,hM4],.tup [],[h51,sD],λx=>g286 m x.1⟩
def g286ok:FO (g286T m):=fk g286H (g286T m) func286 (AllF.mem (l:=[g332T m]) ⟨g332ok m,trivial⟩)
def g204H:Hints:=⟨[J [0],J' [(0,1)] [0],J' [(1,11)] [0],J' [(0,1)] [2]],[],[],[2],[],[[true]]⟩
def g204T:FunT:=⟨204,[h91],h51,[sD],λx=>g204 m x.1⟩
def g204ok:FO (g204T m):=fk g204H (g204T m) func204 (AllF.mem (l:=[g285T m,g286T m]) ⟨g285ok m,g286ok m,trivial⟩)
def g131H:Hints:=⟨[J [0,1,2,6],J' [(0,1)] [1,2,6,7],J' [(0,1)] [1,6,7,18,19,20],J [1,6,7,18,19,20,21],J [1,6,7,9,18,19,20],J' [(5,3),(11,3)] [1,6,7,9,18,19,20],J [1,6,7,18,19,20],J' [(1,1)] [1,6,7,18,19,20],J' [(0,1)] [6,7,48,49],J [6,7,48,49,50],J [6,7,10,48,49],J [6,7,48,49],J' [(1,1)] [6,7,48,49],J' [(0,1)] [6]],[(0,[1,6,7,18,19,20]),(2,[6,7,48,49])],[(0,[1,6,7]),(1,[1,6,7,18,19,20]),(2,[6,7]),(3,[6,7,48,49])],[6],[],[[false,false,true,true,true]]⟩
def g131T:FunT:=⟨131,[sI,sI,h91],hY1,[sD,sD,sD],λx=>g131 m x.1 x.2.1 x.2.2.1⟩
noncomputable def g131C:Code:=codeOf f131
noncomputable def g131B0:Code:=ql g131C 0 0
noncomputable def g131B2:Code:=ql g131C 0 1
def g131K:FL [g204T m]:=AllF.mem ⟨g204ok m,trivial⟩
def g131L1X:LT:=⟨2,[(6,sX 0 [iI,iI,iM 1,iM 2,.nm 3 (.int .u64)]),(7,sX 4 [iI,iI,iM 5,iM 6,.nm 7 (.int .u64)]),(48,sI),(49,sI)],[(.exit 2,[(6,sX 0 [iI,iI,iM 1,iM 2,.nm 3 (.int .u64)]),(7,sX 4 [iI,iI,iM 5,iM 6,.nm 7 (.int .u64)])])],λn x=>g131L1 m n x.1.1 x.1.2.1 x.1.2.2.1 x.1.2.2.2.1 x.1.2.2.2.2.1 x.2.1.1 x.2.1.2.1 x.2.1.2.2.1 x.2.1.2.2.2.1 x.2.1.2.2.2.2.1 x.2.2.1 x.2.2.2.1⟩
def g131L1ok {E} (hE:EO E 67 g131H) (n):LO E g131B2 ((g131L1X m).at n):=lk hE (g131K m) (g131L1X m) n
def g131L0X:LT:=⟨0,[(1,sI),(6,sX 0 [iI,iI,iM 1,iM 2,.nm 3 (.int .u64)]),(7,sX 4 [iI,iI,iM 5,iM 6,.nm 7 (.int .u64)]),(18,.a (.c (.nm 8 (.pr (.int .i64) (.pr (.int .i64) (.int .u64)))))),(19,sI),(20,sI)],[(.exit 0,[(1,sI),(6,sX 0 [iI,iI,iM 1,iM 2,.nm 3 (.int .u64)]),(7,sX 4 [iI,iI,iM 5,iM 6,.nm 7 (.int .u64)])])],λn x=>g131L0 m n x.1 x.2.1.1 x.2.1.2.1 x.2.1.2.2.1 x.2.1.2.2.2.1 x.2.1.2.2.2.2.1 x.2.2.1.1 x.2.2.1.2.1 x.2.2.1.2.2.1 x.2.2.1.2.2.2.1 x.2.2.1.2.2.2.2.1 x.2.2.2.1 x.2.2.2.2.1 x.2.2.2.2.2.1⟩
def g131L0ok {E} (hE:EO E 67 g131H) (n):LO E g131B0 ((g131L0X m).at n):=lk hE (g131K m) (g131L0X m) n
def g131ok:FO (g131T m):=
 fok hmix htt (H:=g131H) (g131T m) func131 kR (g131K m) (L:=[(g131L0X m).at m,(g131L1X m).at m]) (l:=[(0,g131B0),(2,g131B2)]) kR (λ_ hE _ _=>⟨qj ⟨yb (g131L0ok m hE m),nb rfl,trivial⟩,qj ⟨nb rfl,yb (g131L1ok m hE m),trivial⟩,trivial⟩) (λx=>kR)
def g55H:Hints:=⟨[J [1,2],J [1,2,4],J [1,2,4,11],J' [(1,1)] [2,3],J [1,2,5],J [1,2,5,16,17,18],J [1,2,5,16,17,18,19],J [1,2,5,6,7,16,17,18],J [1,2,5,16,17,18],J' [(1,1)] [1,2,5,16,17,18],J' [(4,1)] [2,3]],[(0,[1,2,5,16,17,18])],[(0,[1,2,5]),(1,[1,2,5,16,17,18])],[2,3],[],[[false,false,true,true,true],[false]]⟩
def g55T:FunT:=⟨55,[h41],.tup [(.agg [(.int .i64),(.int .i64),(.nm 0 (.int .i64)),(.nm 1 (.int .i64)),(.nm 2 (.int .u64))]),(.c (.int .i64))],[sD],λx=>g55 m x.1.1 x.1.2.1 x.1.2.2.1 x.1.2.2.2.1 x.1.2.2.2.2.1⟩
noncomputable def g55C:Code:=codeOf f55
noncomputable def g55B0:Code:=ql g55C 0 0
def g55K:FL [g40T m,g43T m,g131T m]:=AllF.mem ⟨g40ok m,g43ok m,g131ok m,trivial⟩
def g55L0X:LT:=⟨0,[(1,sX 0 [iI,iI,iL,iL,.imm (.int .u64)]),(2,sX 1 [iI,iI,iM 2,iM 3,.nm 4 (.int .u64)]),(5,h81),(16,.a (.c (.ref 5 5 3))),(17,sI),(18,sI)],[(.exit 0,[(1,sX 0 [iI,iI,iL,iL,.imm (.int .u64)]),(2,sX 1 [iI,iI,iM 2,iM 3,.nm 4 (.int .u64)]),(5,h81)])],λn x=>g55L0 m n x.1.1 x.1.2.1 x.1.2.2.1 x.1.2.2.2.1 x.1.2.2.2.2.1 x.2.1.1 x.2.1.2.1 x.2.1.2.2.1 x.2.1.2.2.2.1 x.2.1.2.2.2.2.1 x.2.2.1 x.2.2.2.2.1 x.2.2.2.2.2.1⟩
def g55L0ok {E} (hE:EO E 42 g55H) (n):LO E g55B0 ((g55L0X m).at n):=lk hE (g55K m) (g55L0X m) n
def g55ok:FO (g55T m):=f1' g55H (g55T m) func55 (g55K m) λ_ h=>g55L0ok m h m
def g56H:Hints:=⟨[J [1],J [1,4],J [2,3,4],J [2,3,4,5],J [2,3,4,5,23,24,25],J [2,3,4,5,23,24,25,26],J [2,3,4,5,6,7,23,24,25],J' [(0,1)] [2,3,4,5,6,23,24,25,31],J [2,3,4,5,6,23,24,25],J' [(0,1),(1,1)] [2,3,4,5,23,24,25],J' [(1,1)] [2,3,4,5,23,24,25],J [2,3,4,5,42],J [2,3,4,5,8],J' [(0,1)] [2,3,4,5,8],J' [(4,1)] [2,3,4,5,54,55,56],J [2,3,4,5,54,55,56,57],J [2,3,4,5,10,54,55,56],J [2,3,4,5,10,54,55,56],J' [(4,1)] [2,3,4,5,11,54,55,56],J' [(2,1)] [2,3,4,5,11,54,55,56,78],J [2,3,4,5,11,54,55,56],J' [(0,1),(1,1)] [2,3,4,5,54,55,56],J' [(1,1)] [2,3,4,5,54,55,56],J' [(0,1),(1,1)] [2,3]],[(0,[2,3,4,5,23,24,25]),(2,[2,3,4,5]),(4,[2,3,4,5,54,55,56])],[(0,[2,3,4,5]),(1,[2,3,4,5,23,24,25]),(2,[2,3]),(3,[2,3,4,5]),(4,[2,3,4,5]),(5,[2,3,4,5,54,55,56])],[2,3],[],[[true],[true]]⟩
def g56T:FunT:=⟨56,[h41],.tup [(.c (.nm 0 .bool)),(.c (.nm 1 .bool))],[sD],λx=>g56 m x.1.1 x.1.2.1 x.1.2.2.1 x.1.2.2.2.1 x.1.2.2.2.2.1⟩
noncomputable def g56C:Code:=codeOf f56
noncomputable def g56B0:Code:=ql g56C 0 0
noncomputable def g56B2:Code:=ql g56C 0 1
noncomputable def g56B4:Code:=ql g56B2 2 0
def g56K:FL [g54T m]:=AllF.mem ⟨g54ok m,trivial⟩
def g56L2X:LT:=⟨4,[(2,h73),(3,hA4),(4,sX 2 [.nm 3 (.sl false (.int .i64)),iM 4,iM 5,.nm 6 .bool]),(5,sN 7),(54,sL),(55,sI),(56,sI)],[(.exit 4,[(2,h73),(3,hA4),(4,sX 2 [.nm 3 (.sl false (.int .i64)),iM 4,iM 5,.nm 6 .bool]),(5,sN 7)])],λn x=>g56L2 m n x.1 x.2.1 x.2.2.1.1 x.2.2.1.2.1 x.2.2.1.2.2.1 x.2.2.1.2.2.2.1 x.2.2.2.1 x.2.2.2.2.1 x.2.2.2.2.2.1 x.2.2.2.2.2.2.1⟩
def g56L2ok {E} (hE:EO E 89 g56H) (n):LO E g56B4 ((g56L2X m).at n):=lk hE (g56K m) (g56L2X m) n
def g56L1X:LT:=⟨2,[(2,h73),(3,hA4),(4,sX 2 [.nm 3 (.sl false (.int .i64)),iM 4,iM 5,.nm 6 .bool]),(5,sN 7)],[(.exit 2,[(2,h73),(3,hA4)])],λn x=>g56L1 m n x.1 x.2.1 x.2.2.1.1 x.2.2.1.2.1 x.2.2.1.2.2.1 x.2.2.1.2.2.2.1 x.2.2.2.1⟩
def g56L1ok {E} (hE:EO E 89 g56H) (n):LO E g56B2 ((g56L1X m).at n):=
 lok hmix htt hE (g56K m) (L:=[(g56L2X m).at m]) (g56L1X m) (l:=[(4,g56B4)]) kR (λ_ _=>⟨qj ⟨yb (g56L2ok m hE m),trivial⟩,trivial⟩) (λn x=>kR) (λ_=>kR) n
def g56L0X:LT:=⟨0,[(2,h73),(3,hA4),(4,sX 2 [.nm 3 (.sl false (.int .i64)),iM 4,iM 5,.nm 6 .bool]),(5,sN 7),(23,.a (.c (.ref 4 4 1))),(24,sI),(25,sI)],[(.exit 0,[(2,h73),(3,hA4),(4,sX 2 [.nm 3 (.sl false (.int .i64)),iM 4,iM 5,.nm 6 .bool]),(5,sN 7)])],λn x=>g56L0 m n x.1 x.2.1 x.2.2.1.1 x.2.2.1.2.1 x.2.2.1.2.2.1 x.2.2.1.2.2.2.1 x.2.2.2.1 x.2.2.2.2.2.1 x.2.2.2.2.2.2.1⟩
def g56L0ok {E} (hE:EO E 89 g56H) (n):LO E g56B0 ((g56L0X m).at n):=lk hE (g56K m) (g56L0X m) n
def g56ok:FO (g56T m):=
 fok hmix htt (H:=g56H) (g56T m) func56 kR (g56K m) (L:=[(g56L0X m).at m,(g56L1X m).at m]) (l:=[(0,g56B0),(2,g56B2)]) kR (λ_ hE _ _=>⟨qj ⟨yb (g56L0ok m hE m),nb rfl,trivial⟩,qj ⟨nb rfl,yb (g56L1ok m hE m),trivial⟩,trivial⟩) (λx=>kR)
def g57H:Hints:=⟨[J [0,1],J [0,1,5],J' [(0,1)] [1,5,8,9,10],J [1,5,8,9,10,11],J [1,5,6,7,8,9,10],J' [(0,1)] [1,5,6,8,9,10,17],J' [(0,1),(1,1)] [1,5,8,9,10],J' [(1,1)] [1,5,8,9,10],J' [(0,1)] [4]],[(0,[1,5,8,9,10])],[(0,[5]),(1,[1,5,8,9,10])],[4],[],[[true]]⟩
def g57T:FunT:=⟨57,[hC4,sB],sN 0,[sD,sD],λx=>g57 m x.1 x.2.1⟩
noncomputable def g57C:Code:=codeOf f57
noncomputable def g57B0:Code:=ql g57C 0 0
def g57L0X:LT:=⟨0,[(1,sB),(5,sN 0),(8,hC4),(9,sI),(10,sI)],[(.exit 0,[(5,sN 0)])],λn x=>g57L0 m n x.1 x.2.1 x.2.2.1 x.2.2.2.1 x.2.2.2.2.1⟩
def g57L0ok {E} (hE:EO E 24 g57H) (n):LO E g57B0 ((g57L0X m).at n):=lk hE noF (g57L0X m) n
def g57ok:FO (g57T m):=f1' g57H (g57T m) func57 noF λ_ h=>g57L0ok m h m
def g58H:Hints:=⟨[J [0,1],J [0,1,5],J [0,1,5,8,9],J [0,1,5,8,9,10],J [0,1,5,6,8,9],J' [(5,1)] [0,1,5,6,8,9,23],J' [(0,1),(1,1)] [0,1,5,8,9],J' [(1,1)] [0,1,5,8,9],J' [(0,1)] [4]],[(0,[0,1,5,8,9])],[(0,[5]),(1,[0,1,5,8,9])],[4],[],[[true]]⟩
def g58T:FunT:=⟨58,[hC4,hC4],sN 0,[sD,sD],λx=>g58 m x.1 x.2.1⟩
noncomputable def g58C:Code:=codeOf f58
noncomputable def g58B0:Code:=ql g58C 0 0
def g58L0X:LT:=⟨0,[(0,hC4),(1,hC4),(5,sN 0),(8,sI),(9,sI)],[(.exit 0,[(5,sN 0)])],λn x=>g58L0 m n x.1 x.2.1 x.2.2.1 x.2.2.2.1 x.2.2.2.2.1⟩
def g58L0ok {E} (hE:EO E 30 g58H) (n):LO E g58B0 ((g58L0X m).at n):=lk hE noF (g58L0X m) n
def g58ok:FO (g58T m):=f1' g58H (g58T m) func58 noF λ_ h=>g58L0ok m h m
def g13H:Hints:=⟨[J [1,2],J' [(2,1)] [1,2,4,5],J [1,2,4,5,16],J' [(1,1)] [2,3],J' [(2,1)] [2,4,6,7],J' [(2,1)] [2,6,7,8,9],J [2,3]],[],[],[2,3],[],[[true,true,true,true,true,true],[false]]⟩
def g13T:FunT:=⟨13,[h41],.tup [(.agg [(.nm 0 (.int .i64)),(.nm 1 (.int .i64)),(.nm 2 (.int .i64)),(.nm 3 (.int .i64)),(.nm 4 (.int .i64)),(.nm 5 (.int .i64))]),(.c (.int .i64))],[sD],λx=>g13 m x.1.1 x.1.2.1 x.1.2.2.1 x.1.2.2.2.1 x.1.2.2.2.2.1⟩
def g13ok:FO (g13T m):=fk g13H (g13T m) func13 (AllF.mem (l:=[g55T m,g56T m,g57T m,g58T m]) ⟨g55ok m,g56ok m,g57ok m,g58ok m,trivial⟩)
def g3H:Hints:=⟨[J [0,1,2],J [0,1,2,23],J [6],J' [(0,1),(2,1),(4,1),(6,2),(7,2)] [7],J' [(0,2),(2,1)] [7,8,10],J' [(3,1)] [7,8,10,44],J' [(0,1),(2,1)] [6],J' [(2,1)] [7,8,10,11,12],J' [(0,1),(2,1)] [7,10,11,12,13,14],J' [(2,1)] [7,10,11,12,13,14,15,16],J' [(2,1)] [7,10,11,12,13,14,15,16,17,18],J' [(0,1),(2,1),(3,1),(6,1),(7,1),(10,1),(11,1),(14,1),(15,1),(18,1)] [7,11,13,15,17,94],J [6],J [7,11,13,15,17,19],J [7,11,13,15,17,19,20],J [7,11,13,15,17,19,20,98],J' [(0,1)] [7,11,13,15,17,19,20],J [7,11,13,15,17,19,20,105],J' [(0,1)] [7,11,13,15,17,19,20],J' [(0,1),(1,1),(3,1),(8,1),(9,1),(16,1)] [6]],[(0,[7,11,13,15,17,19,20])],[(0,[7,11,13,17,19]),(1,[7,11,13,15,17,19,20])],[6],[],[[false]]⟩
abbrev g3A:List Sh:=[sI,sI,sL]
abbrev g3S:Sh:= sB
abbrev g3U:List Sh:=[sD,sD,sD]
def g3R:X5 g3A->Option (g3S.Val×X5 g3U):=λx=>g3 m x.1 x.2.1 x.2.2.1
def g3T:FunT:=⟨3,g3A,g3S,g3U,g3R m⟩
noncomputable def g3C:Code:=codeOf f3
noncomputable def g3B0:Code:=ql g3C 0 0
def g3K:FL [g6T m,g8T m,g7T m,g9T m,g10T m,g11T m,g12T m,g13T m]:=AllF.mem ⟨g6ok m,g8ok m,g7ok m,g9ok m,g10ok m,g11ok m,g12ok m,g13ok m,trivial⟩
def g3L0X:LT:=⟨0,[(7,sX 0 [iI,iI,iL,iL,.imm (.int .u64)]),(11,sI),(13,hC3),(15,sN 2),(17,sX 3 [iM 4,iM 5,iM 6,iM 7,iM 8,iM 9]),(19,sI),(20,sI)],[(.exit 0,[(7,sX 0 [iI,iI,iL,iL,.imm (.int .u64)]),(11,sI),(13,hC3),(17,sX 2 [iM 3,iM 4,iM 5,iM 6,iM 7,iM 8]),(19,sI)])],λn x=>g3L0 m n x.1.1 x.1.2.1 x.1.2.2.1 x.1.2.2.2.1 x.1.2.2.2.2.1 x.2.1 x.2.2.1 x.2.2.2.1 x.2.2.2.2.1.1 x.2.2.2.2.1.2.1 x.2.2.2.2.1.2.2.1 x.2.2.2.2.1.2.2.2.1 x.2.2.2.2.1.2.2.2.2.1 x.2.2.2.2.1.2.2.2.2.2.1 x.2.2.2.2.2.1 x.2.2.2.2.2.2.1⟩
def g3L0ok {E} (hE:EO E 127 g3H) (n):LO E g3B0 ((g3L0X m).at n):=lk hE (g3K m) (g3L0X m) n
def g3ok:FO (g3T m):=f1' g3H (g3T m) func3 (g3K m) λ_ h=>g3L0ok m h m
end
end Go.Vs.F
