/-The plain functions are what the code does (by program:gen.py). -/
import Derived.Test.YtkbgfnhdfmmfcaaGreatDoorOkb
set_option linter.unusedVariables false
set_option maxRecDepth 100000
namespace Go.Vs.F
open Go.Proofs
open Tryz
section
variable (m:Nat)
def g82H:Hints:=⟨[J [0,1,4],J [0,1,4,5],J [0,1,4,5,8,9],J [0,1,4,5,8,9,10],J [0,1,4,5,6,8,9],J' [(0,1)] [0,1,4,5,8,9],J' [(1,1)] [0,1,4,5,8,9],J' [(0,1)] [4]],[(0,[0,1,4,5,8,9])],[(0,[4,5]),(1,[0,1,4,5,8,9])],[4],[],[[false,false,false,false]]⟩
def g82T:FunT:=⟨82,[hC4,hC4],hI3,[sD,sD],fun x=>g82 m x.1 x.2.1⟩
noncomputable def g82C:Code:=codeOf f82
noncomputable def g82B0:Code:=qo g82C 0 0
theorem g82K:FL [g112T m,g147T m,g148T m]:=AllF.mem ⟨g112ok m,g147ok m,g148ok m,trivial⟩
def g82L0X:LT:=⟨0,[(0,hC4),(1,hC4),(4,sX 0 [.bool,.bool,.nm 1 (.int .u32),iI]),(5,h61),(8,sI),(9,sI)],[(.exit 0,[(4,sX 0 [.bool,.bool,.nm 1 (.int .u32),iI]),(5,h61)])],fun n x=>g82L0 m n x.1 x.2.1 x.2.2.1.1 x.2.2.1.2.1 x.2.2.1.2.2.1 x.2.2.1.2.2.2.1 x.2.2.2.1 x.2.2.2.2.1 x.2.2.2.2.2.1⟩
theorem g82L0ok {E} (hE:EO E 29 g82H) (n):LO E g82B0 ((g82L0X m).at n):=lk hE (g82K m) (g82L0X m) n
theorem g82ok:FO (g82T m):=f1' g82H (g82T m) func82 (g82K m) fun _ h=>g82L0ok m h m
def g278H:Hints:=⟨[J [0],J [0,10],J [2],J [0,3],J' [(3,1)] [0,3,4],J' [(1,1),(4,1)] [0,3,6],J [0,3,6,33],J' [(0,1)] [2],J' [(0,1)] [0,3]],[(0,[0,3])],[(0,[2]),(1,[0,3])],[2],[],[[false]]⟩
def g278T:FunT:=⟨278,[hE4],hE4,[sD],fun x=>g278 m x.1⟩
noncomputable def g278C:Code:=codeOf f278
noncomputable def g278B0:Code:=qo g278C 0 0
theorem g278K:FL [g269T m,g282T m,g279T m,g264T m,g283T m,g227T m]:=AllF.mem ⟨g269ok m,g282ok m,g279ok m,g264ok m,g283ok m,g227ok m,trivial⟩
def g278L0X:LT:=⟨0,[(0,hE4),(3,hE4)],[(.ret,[(2,hE4)])],fun n x=>g278L0 m n x.1 x.2.1⟩
theorem g278L0ok {E} (hE:EO E 36 g278H) (n):LO E g278B0 ((g278L0X m).at n):=lk hE (g278K m) (g278L0X m) n
theorem g278ok:FO (g278T m):=f1' g278H (g278T m) func278 (g278K m) fun _ h=>g278L0ok m h m
def g257H:Hints:=⟨[J [1,2],J [1,2,6],J [2,3],J [2,3]],[],[],[2,3],[],[[false,false],[false]]⟩
def g257T:FunT:=⟨257,[ha3],.tup [(.agg [.bool,(.imm (.int .u32))]),(.c (.int .i64))],[sD],fun x=>g257 m x.1.1 x.1.2.1⟩
theorem g257ok:FO (g257T m):=fk g257H (g257T m) func257 (AllF.mem (l:=[g226T m,g228T m,g278T m,g221T m]) ⟨g226ok m,g228ok m,g278ok m,g221ok m,trivial⟩)
def g209H:Hints:=⟨[J [1,2,4],J' [(0,1)] [2,4,5],J [2,4,5,22],J' [(0,1)] [2,4,5],J [2,4,5,6],J' [(2,1)] [2,4,5,6,7],J' [(3,1)] [4]],[],[],[4],[],[[false,false,false,false,false]]⟩
def g209T:FunT:=⟨209,[hI3,sI],hC3,[sD,sD],fun x=>g209 m x.1.1 x.1.2.1 x.1.2.2.1 x.1.2.2.2.1 x.2.1⟩
theorem g209ok:FO (g209T m):=fk g209H (g209T m) func209 (AllF.mem (l:=[g231T m,g225T m,g257T m,g223T m,g153T m]) ⟨g231ok m,g225ok m,g257ok m,g223ok m,g153ok m,trivial⟩)
def g109H:Hints:=⟨[J [1,2],J [1,2],J' [(2,1)] [1,2,7],J [4],J [1,2,15],J [4],J' [(2,1)] [4]],[],[(0,[1,2])],[4],[],[[false]]⟩
def g109T:FunT:=⟨109,[hI3,sI],sU,[sD,sD],fun x=>g109 m x.1.1 x.1.2.1 x.1.2.2.1 x.1.2.2.2.1 x.2.1⟩
theorem g109ok:FO (g109T m):=fk g109H (g109T m) func109 (AllF.mem (l:=[g206T m,g193T m,g209T m,g207T m]) ⟨g206ok m,g193ok m,g209ok m,g207ok m,trivial⟩)
def g44H:Hints:=⟨[J [0],J [2]],[],[],[2],[],[[false]]⟩
def g44T:FunT:=⟨44,[hC4],sU,[sD],fun x=>g44 m x.1⟩
theorem g44ok:FO (g44T m):=fk g44H (g44T m) func44 (AllF.mem (l:=[g82T m,g109T m]) ⟨g82ok m,g109ok m,trivial⟩)
def g210H:Hints:=⟨[J [2,3,4,6],J' [(0,1)] [3,4,6,7],J' [(9,1)] [3,4,6,7,8,9],J' [(10,1)] [6]],[],[],[6],[],[[false,false,false,false,false]]⟩
def g210T:FunT:=⟨210,[hI3,hI3,sI],hC3,[sD,sD,sD],fun x=>g210 m x.1.1 x.1.2.1 x.1.2.2.1 x.1.2.2.2.1 x.2.1.1 x.2.1.2.1 x.2.1.2.2.1 x.2.1.2.2.2.1 x.2.2.1⟩
theorem g210ok:FO (g210T m):=fk g210H (g210T m) func210 (AllF.mem (l:=[g231T m,g155T m,g225T m,g258T m,g226T m]) ⟨g231ok m,g155ok m,g225ok m,g258ok m,g226ok m,trivial⟩)
def g111H:Hints:=⟨[J [2,3,4],J [2,3,4],J' [(2,1),(6,1)] [2,3,4,11],J [6],J [2,3,4,23],J [6],J' [(3,1)] [6]],[],[(0,[2,3,4])],[6],[],[[false]]⟩
def g111T:FunT:=⟨111,[hI3,hI3,sI],sU,[sD,sD,sD],fun x=>g111 m x.1.1 x.1.2.1 x.1.2.2.1 x.1.2.2.2.1 x.2.1.1 x.2.1.2.1 x.2.1.2.2.1 x.2.1.2.2.2.1 x.2.2.1⟩
theorem g111ok:FO (g111T m):=fk g111H (g111T m) func111 (AllF.mem (l:=[g206T m,g193T m,g210T m,g207T m]) ⟨g206ok m,g193ok m,g210ok m,g207ok m,trivial⟩)
def g196H:Hints:=⟨[J [0],J' [(0,1)] [2]],[],[],[2],[],[[false]]⟩
def g196T:FunT:=⟨196,[sU],sB,[sD],fun x=>g196 m x.1⟩
theorem g196ok:FO (g196T m):=fk g196H (g196T m) func196 (AllF.mem (l:=[g47T m]) ⟨g47ok m,trivial⟩)
def g250bH:Hints:=⟨[J [0,1],J [0,1,7,8],J [0,1,7,8,9],J [0,1,5,7,8],J [0,1,5,7,8,16],J' [(0,1)] [4],J' [(1,1)] [0,1,7,8],J [4]],[(0,[0,1,7,8])],[(0,[]),(1,[0,1,7,8])],[4],[],[[false]]⟩
def g250bT:FunT:=⟨250,[hC4,hJ4],sI,[sD,sD],fun x=>g250b m x.1⟩
noncomputable def g250bC:Code:=codeOf f250
noncomputable def g250bB0:Code:=qo g250bC 0 0
theorem g250bK:FL [g196T m]:=AllF.mem ⟨g196ok m,trivial⟩
def g250bL0X:LT:=⟨0,[(0,hC4),(1,hJ4),(7,sI),(8,sI)],[(.ret,[(4,sI)]),(.exit 0,[])],fun n x=>g250bL0 m n x.1 x.2.2.1 x.2.2.2.1⟩
theorem g250bL0ok {E} (hE:EO E 19 g250bH) (n):LO E g250bB0 ((g250bL0X m).at n):=lk hE (g250bK m) (g250bL0X m) n
theorem g250bok:FO (g250bT m):=f1' g250bH (g250bT m) func250 (g250bK m) fun _ h=>g250bL0ok m h m
def g195bH:Hints:=⟨[J [0,1],J' [(0,1),(1,1)] [4]],[],[],[4],[],[[false]]⟩
def g195bT:FunT:=⟨195,[hC4,hJ4],sB,[sD,sD],fun x=>g195b m x.1⟩
theorem g195bok:FO (g195bT m):=fk g195bH (g195bT m) func195 (AllF.mem (l:=[g250bT m]) ⟨g250bok m,trivial⟩)
def g105H:Hints:=⟨[J [0],J' [(0,1)] [2]],[],[],[2],[],[[false]]⟩
def g105T:FunT:=⟨105,[hC4],sB,[sD],fun x=>g105 m x.1⟩
theorem g105ok:FO (g105T m):=fk g105H (g105T m) func105 (AllF.mem (l:=[g195bT m]) ⟨g195bok m,trivial⟩)
def g46H:Hints:=⟨[J [0,1],J [0,1,6],J' [(0,1)] [1,6,9,10,11],J [1,6,9,10,11,12],J [1,6,8,9,10,11],J' [(0,1),(1,1)] [1,6,9,10,11],J' [(1,1)] [1,6,9,10,11],J' [(0,2)] [4,5]],[(0,[1,6,9,10,11])],[(0,[6]),(1,[1,6,9,10,11])],[4,5],[],[[false],[false]]⟩
def g46T:FunT:=⟨46,[hC4,sU],.tup [(.c (.imm (.int .u64))),(.c .bool)],[sD,sD],fun x=>g46 m x.1 x.2.1⟩
noncomputable def g46C:Code:=codeOf f46
noncomputable def g46B0:Code:=qo g46C 0 0
theorem g46K:FL [g112T m,g111T m,g105T m]:=AllF.mem ⟨g112ok m,g111ok m,g105ok m,trivial⟩
def g46L0X:LT:=⟨0,[(1,sU),(6,h33),(9,hC4),(10,sI),(11,sI)],[(.exit 0,[(6,h33)])],fun n x=>g46L0 m n x.1 x.2.1 x.2.2.1 x.2.2.2.1 x.2.2.2.2.1⟩
theorem g46L0ok {E} (hE:EO E 27 g46H) (n):LO E g46B0 ((g46L0X m).at n):=lk hE (g46K m) (g46L0X m) n
theorem g46ok:FO (g46T m):=f1' g46H (g46T m) func46 (g46K m) fun _ h=>g46L0ok m h m
def g42H:Hints:=⟨[J [1,2,3],J [1,2,3,8],J [1,2,3,8,14],J [1,2,8,17],J [1,8],J [1,2,8,24],J [1,8],J' [(2,1)] [1,8,28],J [1,8],J [1,8,36],J' [(0,1)] [6,7],J [1,9],J [1,9,42],J [6,7],J [1,9,45],J [6,7],J' [(0,1),(1,1),(3,1)] [10,11],J' [(0,1)] [10,53],J [6,7],J' [(0,1)] [6,7]],[],[(0,[1,8])],[6,7],[],[[false],[false]]⟩
def g42T:FunT:=⟨42,[hC1,hC4,sI],.tup [(.c (.imm (.int .u64))),(.c (.int .i64))],[sD,sD,sD],fun x=>g42 m x.1.1 x.1.2.1 x.1.2.2.1 x.1.2.2.2.1 x.1.2.2.2.2.1 x.1.2.2.2.2.2.1 x.1.2.2.2.2.2.2.1 x.2.1 x.2.2.1⟩
theorem g42ok:FO (g42T m):=fk g42H (g42T m) func42 (AllF.mem (l:=[g104T m,g44T m,g45T m,g47T m,g46T m,g105T m]) ⟨g104ok m,g44ok m,g45ok m,g47ok m,g46ok m,g105ok m,trivial⟩)
def g251H:Hints:=⟨[J [0],J' [(0,1)] [5,6,7],J [5,6,7,8],J [4,5,6,7],J' [(0,1)] [5,6,7,13],J [2],J' [(1,1)] [5,6,7],J [2]],[(0,[5,6,7])],[(0,[]),(1,[5,6,7])],[2],[],[[false]]⟩
def g251T:FunT:=⟨251,[hC4],sI,[sD],fun x=>g251 m x.1⟩
noncomputable def g251C:Code:=codeOf f251
noncomputable def g251B0:Code:=qo g251C 0 0
theorem g251K:FL [g47T m]:=AllF.mem ⟨g47ok m,trivial⟩
def g251L0X:LT:=⟨0,[(5,hC4),(6,sI),(7,sI)],[(.ret,[(2,sI)]),(.exit 0,[])],fun n x=>g251L0 m n x.1 x.2.1 x.2.2.1⟩
theorem g251L0ok {E} (hE:EO E 15 g251H) (n):LO E g251B0 ((g251L0X m).at n):=lk hE (g251K m) (g251L0X m) n
theorem g251ok:FO (g251T m):=f1' g251H (g251T m) func251 (g251K m) fun _ h=>g251L0ok m h m
def g197H:Hints:=⟨[J [0,1],J' [(2,1)] [0,8],J [4],J' [(0,1)] [4]],[],[],[4],[],[[false]]⟩
def g197T:FunT:=⟨197,[hC4,sI],sI,[sD,sD],fun x=>g197 m x.1 x.2.1⟩
theorem g197ok:FO (g197T m):=fk g197H (g197T m) func197 (AllF.mem (l:=[g251T m]) ⟨g251ok m,trivial⟩)
def g198H:Hints:=⟨[J [1],J [1,3],J [1,3,7,8,9],J [1,3,7,8,9,10],J [1,3,5,7,8,9],J' [(2,1)] [1,3,5,7,8,9,23],J [2],J' [(0,1),(1,1)] [1,3,7,8,9],J' [(1,1)] [1,3,7,8,9],J [2]],[(0,[1,3,7,8,9])],[(0,[]),(1,[1,3,7,8,9])],[2],[],[[false]]⟩
def g198T:FunT:=⟨198,[hC1],sB,[sD],fun x=>g198 m x.1.1 x.1.2.1 x.1.2.2.1 x.1.2.2.2.1 x.1.2.2.2.2.1 x.1.2.2.2.2.2.1 x.1.2.2.2.2.2.2.1⟩
noncomputable def g198C:Code:=codeOf f198
noncomputable def g198B0:Code:=qo g198C 0 0
theorem g198K:FL [g45T m]:=AllF.mem ⟨g45ok m,trivial⟩
def g198L0X:LT:=⟨0,[(1,sX 0 [iL,iL,.imm (.int .u64),iL,iL,.imm (.int .u64),iI]),(3,sI),(7,sL),(8,sI),(9,sI)],[(.ret,[(2,sB)]),(.exit 0,[])],fun n x=>g198L0 m n x.1.1 x.1.2.1 x.1.2.2.1 x.1.2.2.2.1 x.1.2.2.2.2.1 x.1.2.2.2.2.2.1 x.1.2.2.2.2.2.2.1 x.2.1 x.2.2.1 x.2.2.2.1 x.2.2.2.2.1⟩
theorem g198L0ok {E} (hE:EO E 30 g198H) (n):LO E g198B0 ((g198L0X m).at n):=lk hE (g198K m) (g198L0X m) n
theorem g198ok:FO (g198T m):=f1' g198H (g198T m) func198 (g198K m) fun _ h=>g198L0ok m h m
def g200H:Hints:=⟨[J [0,1],J [0,1,5],J' [(0,1)] [0,5,11,12,13],J [0,5,11,12,13,14],J [0,5,6,7,11,12,13],J' [(1,1),(3,1)] [0,5,11,12,13],J' [(1,1)] [0,5,11,12,13],J' [(0,1)] [4]],[(0,[0,5,11,12,13])],[(0,[5]),(1,[0,5,11,12,13])],[4],[],[[true]]⟩
def g200T:FunT:=⟨200,[hC4,sL],h33,[sD,sD],fun x=>g200 m x.1 x.2.1⟩
noncomputable def g200C:Code:=codeOf f200
noncomputable def g200B0:Code:=qo g200C 0 0
def g200L0X:LT:=⟨0,[(0,hC4),(5,h33),(11,sL),(12,sI),(13,sI)],[(.exit 0,[(5,h33)])],fun n x=>g200L0 m n x.1 x.2.1 x.2.2.1 x.2.2.2.1 x.2.2.2.2.1⟩
theorem g200L0ok {E} (hE:EO E 27 g200H) (n):LO E g200B0 ((g200L0X m).at n):=lk hE noF (g200L0X m) n
theorem g200ok:FO (g200T m):=f1' g200H (g200T m) func200 noF fun _ h=>g200L0ok m h m
def g202H:Hints:=⟨[J [0],J' [(2,4)] [0,3],J' [(0,1)] [3,9,10,11],J [3,9,10,11,12],J [3,4,5,9,10,11],J' [(1,1),(2,1),(6,4)] [3,9,10,11],J' [(1,1)] [3,9,10,11],J' [(0,1)] [2]],[(0,[3,9,10,11])],[(0,[3]),(1,[3,9,10,11])],[2],[],[[false]]⟩
def g202T:FunT:=⟨202,[hC4],hY1,[sD],fun x=>g202 m x.1⟩
noncomputable def g202C:Code:=codeOf f202
noncomputable def g202B0:Code:=qo g202C 0 0
theorem g202K:FL [g112T m]:=AllF.mem ⟨g112ok m,trivial⟩
def g202L0X:LT:=⟨0,[(3,h41),(9,hC4),(10,sI),(11,sI)],[(.exit 0,[(3,h41)])],fun n x=>g202L0 m n x.1 x.2.1 x.2.2.1 x.2.2.2.1⟩
theorem g202L0ok {E} (hE:EO E 24 g202H) (n):LO E g202B0 ((g202L0X m).at n):=lk hE (g202K m) (g202L0X m) n
theorem g202ok:FO (g202T m):=f1' g202H (g202T m) func202 (g202K m) fun _ h=>g202L0ok m h m
def g204H:Hints:=⟨[J [0,1,4],J' [(0,1),(1,1)] [4]],[],[],[4],[],[[false,false,false,false]]⟩
def g204T:FunT:=⟨204,[hY1,sI],hI3,[sD,sD],fun x=>g204 m x.1 x.2.1⟩
theorem g204ok:FO (g204T m):=fk g204H (g204T m) func204 (AllF.mem (l:=[g148T m]) ⟨g148ok m,trivial⟩)
def g199H:Hints:=⟨[J [0,1,2,3],J [0,1,2,3,10,11],J' [(0,1)] [0,1,2,10,11,20,21],J [0,1,2,10,11,20,21,22],J [0,1,2,10,11,12,20,21],J [0,1,2,10,11,12,20,21],J [0,1,2,10,11,12,20,21,36],J [8,9],J [0,1,2,10,11,12,13,20,21],J [0,1,2,10,11,12,13,20,21,47],J' [(0,1)] [0,1,2,10,11,12,13,20,21],J [0,1,2,10,11,12,13,20,21],J' [(1,1)] [0,1,2,10,11,20,21],J' [(0,1)] [8,9]],[(0,[0,1,2,10,11,20,21]),(2,[0,1,2,10,11,12,13,20,21])],[(0,[11]),(1,[0,1,2,10,11,20,21]),(2,[0,1,2,10,11,20,21]),(3,[0,1,2,10,11,12,13,20,21])],[8,9],[],[[true],[false]]⟩
def g199T:FunT:=⟨199,[sL,sL,hC4,hC4],.tup [(.c (.nm 0 (.int .u64))),(.c (.int .i64))],[sD,sD,sD,sD],fun x=>g199 m x.1 x.2.1 x.2.2.1 x.2.2.2.1⟩
noncomputable def g199C:Code:=codeOf f199
noncomputable def g199B0:Code:=qo g199C 0 0
noncomputable def g199B2:Code:=qo g199B0 0 0
theorem g199K:FL [g202T m,g204T m,g107T m,g47T m]:=AllF.mem ⟨g202ok m,g204ok m,g107ok m,g47ok m,trivial⟩
def g199L1X:LT:=⟨2,[(0,sL),(1,sL),(2,hC4),(10,hY1),(11,h33),(12,sI),(13,sI),(20,sI),(21,sI)],[(.exit 2,[(0,sL),(1,sL),(2,hC4),(10,hY1),(11,h33),(20,sI),(21,sI)])],fun n x=>g199L1 m n x.1 x.2.1 x.2.2.1 x.2.2.2.1 x.2.2.2.2.1 x.2.2.2.2.2.1 x.2.2.2.2.2.2.1 x.2.2.2.2.2.2.2.1 x.2.2.2.2.2.2.2.2.1⟩
theorem g199L1ok {E} (hE:EO E 66 g199H) (n):LO E g199B2 ((g199L1X m).at n):=lk hE (g199K m) (g199L1X m) n
def g199L0X:LT:=⟨0,[(0,sL),(1,sL),(2,hC4),(10,hY1),(11,h33),(20,sI),(21,sI)],[(.ret,[(8,h33),(9,sI)]),(.exit 0,[(11,h33)])],fun n x=>g199L0 m n x.1 x.2.1 x.2.2.1 x.2.2.2.1 x.2.2.2.2.1 x.2.2.2.2.2.1 x.2.2.2.2.2.2.1⟩
theorem g199L0ok {E} (hE:EO E 66 g199H) (n):LO E g199B0 ((g199L0X m).at n):=
 lok hmix htt hE (g199K m) (L:=[(g199L1X m).at m]) (g199L0X m) (l:=[(2,g199B2)]) kR (fun _ _=>⟨qi ⟨yb (g199L1ok m hE m),trivial⟩,trivial⟩) (fun n x=>kR) (fun _=>kR) n
theorem g199ok:FO (g199T m):=f1' g199H (g199T m) func199 (g199K m) fun _ h=>g199L0ok m h m
def g201H:Hints:=⟨[J [1,2],J [1,2,6],J [1,2,6,7,8],J [1,2,6,7,8,21,22,23],J [1,2,6,7,8,21,22,23,24],J [1,2,6,7,8,10,21,22,23],J [1,2,6,7,8,10,21,22,23,28],J [1,2,6,7,8,10,21,22,23],J [1,2,6,7,8,10,11,12,13,21,22,23],J [1,2,6,7,8,10,11,12,13,14,21,22,23],J [1,2,6,7,8,10,11,12,13,14,15,16,21,22,23],J [1,2,6,7,8,10,11,12,14,15,16,21,22,23],J [1,2,6,7,8,10,21,22,23],J' [(0,1),(3,1)] [1,2,6,7,8,21,22,23],J' [(1,1)] [1,2,6,7,8,21,22,23],J [6,118],J [4,5],J' [(0,1)] [4,5]],[(0,[1,2,6,7,8,21,22,23])],[(0,[6]),(1,[1,2,6,7,8,21,22,23])],[4,5],[],[[true],[false]]⟩
def g201T:FunT:=⟨201,[hC1,hC4],.tup [(.c (.nm 0 (.int .u64))),(.c (.int .i64))],[sD,sD],fun x=>g201 m x.1.1 x.1.2.1 x.1.2.2.1 x.1.2.2.2.1 x.1.2.2.2.2.1 x.1.2.2.2.2.2.1 x.1.2.2.2.2.2.2.1 x.2.1⟩
noncomputable def g201C:Code:=codeOf f201
noncomputable def g201B0:Code:=qo g201C 0 0
theorem g201K:FL [g112T m,g111T m,g147T m,g83T m,g251T m]:=AllF.mem ⟨g112ok m,g111ok m,g147ok m,g83ok m,g251ok m,trivial⟩
def g201L0X:LT:=⟨0,[(1,hC4),(2,sX 0 [iL,iL,.imm (.int .u64),iL,iL,.imm (.int .u64),iI]),(6,h93),(7,sI),(8,sI),(21,sL),(22,sI),(23,sI)],[(.exit 0,[(6,h33)])],fun n x=>g201L0 m n x.1 x.2.1.1 x.2.1.2.1 x.2.1.2.2.1 x.2.1.2.2.2.1 x.2.1.2.2.2.2.1 x.2.1.2.2.2.2.2.1 x.2.1.2.2.2.2.2.2.1 x.2.2.1 x.2.2.2.1 x.2.2.2.2.1 x.2.2.2.2.2.1 x.2.2.2.2.2.2.1 x.2.2.2.2.2.2.2.1⟩
theorem g201L0ok {E} (hE:EO E 120 g201H) (n):LO E g201B0 ((g201L0X m).at n):=lk hE (g201K m) (g201L0X m) n
theorem g201ok:FO (g201T m):=f1' g201H (g201T m) func201 (g201K m) fun _ h=>g201L0ok m h m
def g205H:Hints:=⟨[J [0,1],J [0,1,5],J' [(0,1)] [0,5,11,12,13],J [0,5,11,12,13,14],J [0,5,6,7,11,12,13],J' [(1,1),(3,1)] [0,5,11,12,13],J' [(1,1)] [0,5,11,12,13],J' [(0,1)] [4]],[(0,[0,5,11,12,13])],[(0,[5]),(1,[0,5,11,12,13])],[4],[],[[true]]⟩
def g205T:FunT:=⟨205,[hC4,sL],h33,[sD,sD],fun x=>g205 m x.1 x.2.1⟩
noncomputable def g205C:Code:=codeOf f205
noncomputable def g205B0:Code:=qo g205C 0 0
def g205L0X:LT:=⟨0,[(0,hC4),(5,h33),(11,sL),(12,sI),(13,sI)],[(.exit 0,[(5,h33)])],fun n x=>g205L0 m n x.1 x.2.1 x.2.2.1 x.2.2.2.1 x.2.2.2.2.1⟩
theorem g205L0ok {E} (hE:EO E 27 g205H) (n):LO E g205B0 ((g205L0X m).at n):=lk hE noF (g205L0X m) n
theorem g205ok:FO (g205T m):=f1' g205H (g205T m) func205 noF fun _ h=>g205L0ok m h m
def g106H:Hints:=⟨[J [1,2],J [1,2,6],J [1,2,6,16],J [1,2,6],J' [(2,1)] [1,2,6,27],J [1,2,6],J [1,2,6,29],J' [(0,1)] [4,5],J' [(6,1),(11,1)] [2,6,7],J [2,6,7,46],J' [(0,1)] [4,5],J' [(1,1),(3,1),(6,2)] [2,6,8],J [2,6,8,55],J' [(0,1)] [4,5],J' [(0,2)] [2,8,9,10],J' [(0,1)] [2,9,10,11],J [2,9,10,11,66],J' [(0,1)] [2,9,10,11],J [2,9,10,11,12],J [2,9,10,11,12,81],J' [(0,1)] [2,9,10,11,12],J [2,9,10,11,12],J [2,9,10,11],J [2,9,10,11,112],J [4,5],J' [(0,1)] [4,5]],[(0,[2,9,10,11]),(2,[2,9,10,11,12])],[(0,[2,10]),(1,[2,9,10,11]),(2,[2,9,10,11]),(3,[2,9,10,11,12])],[4,5],[],[[true],[false]]⟩
def g106T:FunT:=⟨106,[hC1,hC4],.tup [(.c (.nm 0 (.int .u64))),(.c (.int .i64))],[sD,sD],fun x=>g106 m x.1.1 x.1.2.1 x.1.2.2.1 x.1.2.2.2.1 x.1.2.2.2.2.1 x.1.2.2.2.2.2.1 x.1.2.2.2.2.2.2.1 x.2.1⟩
noncomputable def g106C:Code:=codeOf f106
noncomputable def g106B0:Code:=qo g106C 0 0
noncomputable def g106B2:Code:=qo g106B0 0 0
theorem g106K:FL [g104T m,g197T m,g198T m,g200T m,g199T m,g201T m,g202T m,g204T m,g107T m,g47T m,g205T m]:=AllF.mem ⟨g104ok m,g197ok m,g198ok m,g200ok m,g199ok m,g201ok m,g202ok m,g204ok m,g107ok m,g47ok m,g205ok m,trivial⟩
def g106L1X:LT:=⟨2,[(2,sX 0 [iL,iL,.imm (.int .u64),iL,iL,.imm (.int .u64),iI]),(9,hY1),(10,h93),(11,sI),(12,sI)],[(.exit 2,[(2,sX 0 [iL,iL,.imm (.int .u64),iL,iL,.imm (.int .u64),iI]),(9,hY1),(10,h93),(11,sI)])],fun n x=>g106L1 m n x.1.1 x.1.2.1 x.1.2.2.1 x.1.2.2.2.1 x.1.2.2.2.2.1 x.1.2.2.2.2.2.1 x.1.2.2.2.2.2.2.1 x.2.1 x.2.2.1 x.2.2.2.1 x.2.2.2.2.1⟩
theorem g106L1ok {E} (hE:EO E 117 g106H) (n):LO E g106B2 ((g106L1X m).at n):=lk hE (g106K m) (g106L1X m) n
def g106L0X:LT:=⟨0,[(2,sX 0 [iL,iL,.imm (.int .u64),iL,iL,.imm (.int .u64),iI]),(9,hY1),(10,h93),(11,sI)],[(.ret,[(4,h33),(5,sI)]),(.exit 0,[(2,sX 0 [iL,iL,.imm (.int .u64),iL,iL,.imm (.int .u64),iI]),(10,h93)])],fun n x=>g106L0 m n x.1.1 x.1.2.1 x.1.2.2.1 x.1.2.2.2.1 x.1.2.2.2.2.1 x.1.2.2.2.2.2.1 x.1.2.2.2.2.2.2.1 x.2.1 x.2.2.1 x.2.2.2.1⟩
theorem g106L0ok {E} (hE:EO E 117 g106H) (n):LO E g106B0 ((g106L0X m).at n):=
 lok hmix htt hE (g106K m) (L:=[(g106L1X m).at m]) (g106L0X m) (l:=[(2,g106B2)]) kR (fun _ _=>⟨qi ⟨yb (g106L1ok m hE m),trivial⟩,trivial⟩) (fun n x=>kR) (fun _=>kR) n
theorem g106ok:FO (g106T m):=f1' g106H (g106T m) func106 (g106K m) fun _ h=>g106L0ok m h m
def g82bH:Hints:=⟨[J [0,1,4],J [0,1,4,5],J [0,1,4,5,8,9],J [0,1,4,5,8,9,10],J [0,1,4,5,6,8,9],J' [(0,1)] [0,1,4,5,8,9],J' [(1,1)] [0,1,4,5,8,9],J' [(0,1)] [1,4]],[(0,[0,1,4,5,8,9])],[(0,[1,4,5]),(1,[0,1,4,5,8,9])],[1,4],[1],[[false,false,false,false]]⟩
def g82bT:FunT:=⟨82,[hC4,h33],hI3,[sD,h33],fun x=>g82b m x.1 x.2.1⟩
noncomputable def g82bC:Code:=codeOf f82
noncomputable def g82bB0:Code:=qo g82bC 0 0
theorem g82bK:FL [g112T m,g147T m,g148T m]:=AllF.mem ⟨g112ok m,g147ok m,g148ok m,trivial⟩
def g82bL0X:LT:=⟨0,[(0,hC4),(1,h33),(4,sX 1 [.bool,.bool,.nm 2 (.int .u32),iI]),(5,h71),(8,sI),(9,sI)],[(.exit 0,[(1,h33),(4,sX 1 [.bool,.bool,.nm 2 (.int .u32),iI]),(5,h71)])],fun n x=>g82bL0 m n x.1 x.2.1 x.2.2.1.1 x.2.2.1.2.1 x.2.2.1.2.2.1 x.2.2.1.2.2.2.1 x.2.2.2.1 x.2.2.2.2.1 x.2.2.2.2.2.1⟩
theorem g82bL0ok {E} (hE:EO E 29 g82bH) (n):LO E g82bB0 ((g82bL0X m).at n):=lk hE (g82bK m) (g82bL0X m) n
theorem g82bok:FO (g82bT m):=f1' g82bH (g82bT m) func82 (g82bK m) fun _ h=>g82bL0ok m h m
def g108H:Hints:=⟨[J [0,1],J' [(2,12)] [0,1,5],J [0,1,5,13],J [0,4],J [0,1,5,15,16],J [0,1,5,15,16,17],J [0,1,5,6,15,16],J [0,1,5,15,16],J' [(1,1)] [0,1,5,15,16],J [0,4]],[(0,[0,1,5,15,16])],[(0,[0]),(1,[0,1,5,15,16])],[0,4],[0],[[false]]⟩
def g108T:FunT:=⟨108,[h33,hC4],sB,[h33,sD],fun x=>g108 m x.1 x.2.1⟩
noncomputable def g108C:Code:=codeOf f108
noncomputable def g108B0:Code:=qo g108C 0 0
theorem g108K:FL [g82bT m,g107T m,g47T m,g112T m,g147T m,g83T m,g105T m]:=AllF.mem ⟨g82bok m,g107ok m,g47ok m,g112ok m,g147ok m,g83ok m,g105ok m,trivial⟩
def g108L0X:LT:=⟨0,[(0,h33),(1,hC4),(5,sU),(15,sI),(16,sI)],[(.exit 0,[(0,h33)])],fun n x=>g108L0 m n x.1 x.2.1 x.2.2.1 x.2.2.2.1 x.2.2.2.2.1⟩
theorem g108L0ok {E} (hE:EO E 40 g108H) (n):LO E g108B0 ((g108L0X m).at n):=lk hE (g108K m) (g108L0X m) n
theorem g108ok:FO (g108T m):=f1' g108H (g108T m) func108 (g108K m) fun _ h=>g108L0ok m h m
def g43H:Hints:=⟨[J [0,3],J [0,3,6],J' [(3,1)] [0,6,7,8],J [0,6,7,8,31],J' [(0,1)] [0,4,5],J' [(0,1),(2,12)] [0,7,9],J [0,7,9,39],J [0,4,5],J' [(4,1),(5,1)] [0,7],J [0,7,50],J [0,7,50,51],J [0,7,50,55,56,57],J [0,7,50,55,56,57,58],J [0,7,11,50,55,56,57],J' [(1,1),(2,11)] [0,7,50,55,56,57,64],J [0,4,5],J' [(1,1)] [0,7,50,55,56,57],J' [(1,1)] [0,7,50],J' [(0,1)] [0,4,5]],[(0,[0,7,50]),(2,[0,7,50,55,56,57])],[(0,[0,7]),(1,[0,7,50]),(2,[0,7,50]),(3,[0,7,50,55,56,57])],[0,4,5],[0],[[true],[false]]⟩
def g43T:FunT:=⟨43,[sX 0 [.nm 1 (.int .u64),.nm 2 (.int .u64),.nm 3 (.sl false (.int .u64))],hC1],.tup [(.c (.nm 0 (.int .u64))),(.c (.int .i64))],[sX 1 [.nm 2 (.int .u64),.nm 3 (.int .u64),.nm 4 (.sl false (.int .u64))],sD],fun x=>g43 m x.1.1 x.1.2.1 x.1.2.2.1 x.2.1.1 x.2.1.2.1 x.2.1.2.2.1 x.2.1.2.2.2.1 x.2.1.2.2.2.2.1 x.2.1.2.2.2.2.2.1 x.2.1.2.2.2.2.2.2.1⟩
noncomputable def g43C:Code:=codeOf f43
noncomputable def g43B0:Code:=qo g43C 0 0
noncomputable def g43B2:Code:=qo g43B0 0 0
theorem g43K:FL [g106T m,g82bT m,g107T m,g47T m,g108T m]:=AllF.mem ⟨g106ok m,g82bok m,g107ok m,g47ok m,g108ok m,trivial⟩
def g43L1X:LT:=⟨2,[(0,sX 0 [.nm 1 (.int .u64),.nm 2 (.int .u64),.nm 3 (.sl false (.int .u64))]),(7,hA4),(50,sI),(55,.a (.c (.ref 0 3 1))),(56,sI),(57,sI)],[(.ret,[(0,sX 0 [.nm 1 (.int .u64),.nm 2 (.int .u64),.nm 3 (.sl false (.int .u64))]),(4,hA4),(5,sI)]),(.exit 2,[(0,sX 0 [.nm 1 (.int .u64),.nm 2 (.int .u64),.nm 3 (.sl false (.int .u64))]),(7,hA4),(50,sI)])],fun n x=>g43L1 m n x.1.1 x.1.2.1 x.1.2.2.1 x.2.1 x.2.2.1 x.2.2.2.2.1 x.2.2.2.2.2.1⟩
theorem g43L1ok {E} (hE:EO E 68 g43H) (n):LO E g43B2 ((g43L1X m).at n):=lk hE (g43K m) (g43L1X m) n
def g43L0X:LT:=⟨0,[(0,sX 0 [.nm 1 (.int .u64),.nm 2 (.int .u64),.nm 3 (.sl false (.int .u64))]),(7,hA4),(50,sI)],[(.ret,[(0,sX 0 [.nm 1 (.int .u64),.nm 2 (.int .u64),.nm 3 (.sl false (.int .u64))]),(4,hA4),(5,sI)]),(.exit 0,[(0,sX 0 [.nm 1 (.int .u64),.nm 2 (.int .u64),.nm 3 (.sl false (.int .u64))]),(7,hA4)])],fun n x=>g43L0 m n x.1.1 x.1.2.1 x.1.2.2.1 x.2.1 x.2.2.1⟩
theorem g43L0ok {E} (hE:EO E 68 g43H) (n):LO E g43B0 ((g43L0X m).at n):=
 lok hmix htt hE (g43K m) (L:=[(g43L1X m).at m]) (g43L0X m) (l:=[(2,g43B2)]) kR (fun _ _=>⟨qi ⟨yb (g43L1ok m hE m),trivial⟩,trivial⟩) (fun n x=>kR) (fun _=>kR) n
theorem g43ok:FO (g43T m):=f1' g43H (g43T m) func43 (g43K m) fun _ h=>g43L0ok m h m
def g12H:Hints:=⟨[J [1,2,3,6],J' [(1,1),(4,1)] [2,3,6,8,9],J [2,3,6,8,9,24],J' [(1,1)] [6,7],J' [(0,1)] [2,3,6,10],J' [(2,1)] [2,3,6,10,11,12],J [2,3,6,10,11,12,36],J' [(1,1)] [6,7],J [2,3,6,10,11,43],J' [(0,1)] [6,7],J [2,3,6,10,11,13],J [2,3,6,10,11,13,49],J' [(0,1)] [6,7],J' [(0,1),(3,1)] [2,3,6,10,13,14,15],J' [(3,1),(4,1)] [2,3,6,10,13,14,63],J [6,7],J' [(2,1),(4,3),(7,1),(9,3)] [2,3,6,10]],[(0,[2,3,6,10])],[(0,[6,7]),(1,[2,3,6,10])],[6,7],[],[[true,true,true],[false]]⟩
def g12T:FunT:=⟨12,[hC1,hC4,sI],.tup [(.agg [(.nm 0 (.int .u64)),(.nm 1 (.int .u64)),(.nm 2 (.sl false (.int .u64)))]),(.c (.int .i64))],[sD,sD,sD],fun x=>g12 m x.1.1 x.1.2.1 x.1.2.2.1 x.1.2.2.2.1 x.1.2.2.2.2.1 x.1.2.2.2.2.2.1 x.1.2.2.2.2.2.2.1 x.2.1 x.2.2.1⟩
noncomputable def g12C:Code:=codeOf f12
noncomputable def g12B0:Code:=qo g12C 0 0
theorem g12K:FL [g42T m,g43T m,g44T m,g45T m,g46T m,g47T m]:=AllF.mem ⟨g42ok m,g43ok m,g44ok m,g45ok m,g46ok m,g47ok m,trivial⟩
def g12L0X:LT:=⟨0,[(2,sI),(3,sX 0 [iL,iL,.imm (.int .u64),iL,iL,.imm (.int .u64),iI]),(6,sX 1 [.nm 2 (.int .u64),.nm 3 (.int .u64),.nm 4 (.sl false (.int .u64))]),(10,sX 5 [.nm 6 (.int .u64),.nm 7 (.int .u64),.nm 8 (.sl false (.int .u64))])],[(.ret,[(6,sX 0 [.nm 1 (.int .u64),.nm 2 (.int .u64),.nm 3 (.sl false (.int .u64))]),(7,sI)])],fun n x=>g12L0 m n x.1 x.2.1.1 x.2.1.2.1 x.2.1.2.2.1 x.2.1.2.2.2.1 x.2.1.2.2.2.2.1 x.2.1.2.2.2.2.2.1 x.2.1.2.2.2.2.2.2.1 x.2.2.1.1 x.2.2.1.2.1 x.2.2.1.2.2.1 x.2.2.2.1.1 x.2.2.2.1.2.1 x.2.2.2.1.2.2.1⟩
theorem g12L0ok {E} (hE:EO E 77 g12H) (n):LO E g12B0 ((g12L0X m).at n):=lk hE (g12K m) (g12L0X m) n
theorem g12ok:FO (g12T m):=f1' g12H (g12T m) func12 (g12K m) fun _ h=>g12L0ok m h m
def g29H:Hints:=⟨[J [0,1],J [0,1,10],J [4],J [0,1,5],J [0,1,5,14],J' [(0,1)] [0,1,5],J [0,1,5,25],J [4],J [4]],[(0,[0,1,5])],[(0,[]),(1,[0,1,5])],[4],[],[[false]]⟩
def g29T:FunT:=⟨29,[hC4,hC4],sB,[sD,sD],fun x=>g29 m x.1 x.2.1⟩
noncomputable def g29C:Code:=codeOf f29
noncomputable def g29B0:Code:=qo g29C 0 0
def g29L0X:LT:=⟨0,[(0,hC4),(1,hC4),(5,sI)],[(.ret,[(4,sB)]),(.exit 0,[])],fun n x=>g29L0 m n x.1 x.2.1 x.2.2.1⟩
theorem g29L0ok {E} (hE:EO E 26 g29H) (n):LO E g29B0 ((g29L0X m).at n):=lk hE noF (g29L0X m) n
theorem g29ok:FO (g29T m):=f1' g29H (g29T m) func29 noF fun _ h=>g29L0ok m h m
def g59H:Hints:=⟨[J [0,1],J [0,1,10],J [4],J [0,1,5],J [0,1,5,14],J' [(0,1)] [0,1,5],J [0,1,5,26],J [4],J [4]],[(0,[0,1,5])],[(0,[]),(1,[0,1,5])],[4],[],[[false]]⟩
def g59T:FunT:=⟨59,[hY3,hY3],sB,[sD,sD],fun x=>g59 m x.1 x.2.1⟩
noncomputable def g59C:Code:=codeOf f59
noncomputable def g59B0:Code:=qo g59C 0 0
theorem g59K:FL [g29T m]:=AllF.mem ⟨g29ok m,trivial⟩
def g59L0X:LT:=⟨0,[(0,hY3),(1,hY3),(5,sI)],[(.ret,[(4,sB)]),(.exit 0,[])],fun n x=>g59L0 m n x.1 x.2.1 x.2.2.1⟩
theorem g59L0ok {E} (hE:EO E 27 g59H) (n):LO E g59B0 ((g59L0X m).at n):=lk hE (g59K m) (g59L0X m) n
theorem g59ok:FO (g59T m):=f1' g59H (g59T m) func59 (g59K m) fun _ h=>g59L0ok m h m
def sparselaw38_awake_H:Hints:=⟨[J [],J' [(7,2),(8,2)] [1],J' [(0,2),(3,1)] [2,3],J' [(0,1),(2,1),(8,1),(14,1),(18,6)] [0]],[],[],[0],[],[[false]]⟩
abbrev sparselaw38_awake_A:List Sh:=[]
abbrev sparselaw38_awake_S:Sh:= sB
abbrev sparselaw38_awake_U:List Sh:=[]
def sparselaw38_awake_R:X7 sparselaw38_awake_A->Option (sparselaw38_awake_S.Val×X7 sparselaw38_awake_U):=fun(x:Unit)=>sparselaw38_awake m
def sparselaw38_awake_T:FunT:=⟨15,sparselaw38_awake_A,sparselaw38_awake_S,sparselaw38_awake_U,sparselaw38_awake_R m⟩
theorem sparselaw38_awake_ok:FO (sparselaw38_awake_T m):=fk sparselaw38_awake_H (sparselaw38_awake_T m) func15 (AllF.mem (l:=[g26T m,g12T m,g29T m,g59T m]) ⟨g26ok m,g12ok m,g29ok m,g59ok m,trivial⟩)
def sparselaw38_LanczosRitz_H:Hints:=⟨[J [0,1,2,3],J' [(7,1),(13,2),(14,2)] [1,9],J' [(0,1)] [9,29],J [9],J' [(2,1)] [9,10,11],J' [(2,1)] [10,11,12,13],J' [(0,1),(1,1),(3,1),(4,1),(5,1),(8,1)] [8]],[],[],[8],[],[[false]]⟩
abbrev sparselaw38_LanczosRitz_A:List Sh:=[hC4,sI,sI,sI]
abbrev sparselaw38_LanczosRitz_S:Sh:= sB
abbrev sparselaw38_LanczosRitz_U:List Sh:=[sD,sD,sD,sD]
def sparselaw38_LanczosRitz_R:X7 sparselaw38_LanczosRitz_A->Option (sparselaw38_LanczosRitz_S.Val×X7 sparselaw38_LanczosRitz_U):=fun(x:LI×Int×Int×Int×Unit)=>sparselaw38_LanczosRitz m x.1 x.2.1 x.2.2.1 x.2.2.2.1
def sparselaw38_LanczosRitz_T:FunT:=⟨8,sparselaw38_LanczosRitz_A,sparselaw38_LanczosRitz_S,sparselaw38_LanczosRitz_U,sparselaw38_LanczosRitz_R m⟩
theorem sparselaw38_LanczosRitz_ok:FO (sparselaw38_LanczosRitz_T m):=fk sparselaw38_LanczosRitz_H (sparselaw38_LanczosRitz_T m) func8 (AllF.mem (l:=[g11T m,g16T m,g33T m,g34T m,g35T m,sparselaw38_awake_T m]) ⟨g11ok m,g16ok m,g33ok m,g34ok m,g35ok m,sparselaw38_awake_ok m,trivial⟩)
end
end Go.Vs.F
