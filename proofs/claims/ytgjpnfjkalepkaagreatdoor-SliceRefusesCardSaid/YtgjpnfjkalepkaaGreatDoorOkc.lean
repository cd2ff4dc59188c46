/-The plain functions are what the code does (by program:gen.py). -/
import Derived.Test.YtgjpnfjkalepkaaGreatDoorOkb
set_option linter.unusedVariables false
set_option maxRecDepth 100000
namespace Go.Vs.F
open Go.Proofs
open Tryz
section
variable (m:Nat)
def g28H:Hints:=⟨[J [2,3,4,6],J [2,3,4,6,8],J [2,3,4,6,8,13],J [2,3,4,6,8,16],J [2,3,4,6,8],J' [(2,1)] [2,3,4,6,8,23],J [2,3,4,6,8],J' [(3,1)] [2,3,4,6,8,30],J [2,3,4,6,8],J [2,3,4,6,8,46],J' [(1,1)] [6,7],J' [(0,1)] [3,4,6,49,50],J [3,4,6,49,50,51],J [3,4,6,49,50,56],J' [(5,1)] [3,4,6,9,49,50],J [3,4,6,9,49,50,69],J [6,7],J [3,4,6,9,49,50,69,71],J' [(0,1)] [3,4,6,49,50],J [3,4,6,9,49,50,77],J' [(0,1)] [3,4,6,49,50],J' [(1,1)] [3,4,6,49,50],J [6,7]],[(1,[3,4,6,49,50])],[(0,[2,3,4,6,8]),(1,[4,6]),(2,[3,4,6,49,50]),(3,[3,4,6,49,50])],[6,7],[],[[false,false,false],[false]]⟩
def g28T:FunT:=⟨28,[.a (.agg [(.int .i64),(.int .i64),(.imm (.int .i64)),(.imm (.int .i64)),(.imm (.int .u64))]),.a (.agg [(.int .u64),(.int .u64),(.int .i64)]),sI],.tup [(.agg [(.int .u64),(.int .u64),(.int .i64)]),(.c (.int .i64))],[sD,sD,sD],fun x=>g28 m x.1.1 x.1.2.1 x.1.2.2.1 x.1.2.2.2.1 x.1.2.2.2.2.1 x.2.1.1 x.2.1.2.1 x.2.1.2.2.1 x.2.2.1⟩
noncomputable def g28C:Code:=codeOf f28
noncomputable def g28B1:Code:=qx g28C 0 0
theorem g28K:FL [g33T m,g41T m,g42T m,g36T m,g34T m]:=AllF.mem ⟨g33ok m,g41ok m,g42ok m,g36ok m,g34ok m,trivial⟩
def g28L0X:LT:=⟨1,[(3,sX 0 [iI,iI,iL,iL,.imm (.int .u64)]),(4,sX 1 [iU,iU,iI]),(6,sX 2 [iU,iU,iI]),(49,sI),(50,sI)],[(.exit 1,[(4,sX 0 [iU,iU,iI]),(6,sX 1 [iU,iU,iI])]),(.ret,[(6,sX 0 [iU,iU,iI]),(7,sI)])],fun n x=>g28L0 m n x.1.1 x.1.2.1 x.1.2.2.1 x.1.2.2.2.1 x.1.2.2.2.2.1 x.2.1.1 x.2.1.2.1 x.2.1.2.2.1 x.2.2.1.1 x.2.2.1.2.1 x.2.2.1.2.2.1 x.2.2.2.1 x.2.2.2.2.1⟩
theorem g28L0ok {E} (hE:EO E 83 g28H) (n):LO E g28B1 ((g28L0X m).at n):=lk hE (g28K m) (g28L0X m) n
theorem g28ok:FO (g28T m):=f1' g28H (g28T m) func28 (g28K m) fun _ h=>g28L0ok m h m
def g29H:Hints:=⟨[J [2,3,4,6],J [2,3,4,6,8],J [2,3,4,6,8,16],J' [(1,1)] [6,7],J [2,3,4,6,19],J [6,7],J' [(2,1)] [2,3,4,6,27],J [6,7],J' [(3,1)] [2,3,4,6,35],J [6,7],J [2,3,4,6,9],J' [(3,1)] [2,3,4,6,9,61],J' [(0,1)] [2,3,4,6,9],J' [(5,1)] [2,3,4,6,9,10],J [2,3,4,6,9,10,12],J' [(2,1)] [2,3,4,6,9,10,12,84],J' [(0,1)] [2,3,4,6,9,10,86],J' [(0,1)] [2,3,4,6,9],J' [(0,1)] [2,3,4,6,9],J [6,7]],[(1,[2,3,4,6,9])],[(0,[2,3,4,6]),(1,[4,6]),(2,[2,3,4,6,9])],[6,7],[],[[false,false,false],[false]]⟩
def g29T:FunT:=⟨29,[.a (.agg [(.int .i64),(.int .i64),(.imm (.int .i64)),(.imm (.int .i64)),(.imm (.int .u64))]),.a (.agg [(.int .u64),(.int .u64),(.int .i64)]),sI],.tup [(.agg [(.int .u64),(.int .u64),(.int .i64)]),(.c (.int .i64))],[sD,sD,sD],fun x=>g29 m x.1.1 x.1.2.1 x.1.2.2.1 x.1.2.2.2.1 x.1.2.2.2.2.1 x.2.1.1 x.2.1.2.1 x.2.1.2.2.1 x.2.2.1⟩
noncomputable def g29C:Code:=codeOf f29
noncomputable def g29B1:Code:=qx g29C 0 0
theorem g29K:FL [g37T m,g38T m,g20T m,g54T m,g55T m]:=AllF.mem ⟨g37ok m,g38ok m,g20ok m,g54ok m,g55ok m,trivial⟩
def g29L0X:LT:=⟨1,[(2,sI),(3,sX 0 [iI,iI,iL,iL,.imm (.int .u64)]),(4,sX 1 [iU,iU,iI]),(6,sX 2 [iU,iU,iI]),(9,sI)],[(.exit 1,[(4,sX 0 [iU,iU,iI]),(6,sX 1 [iU,iU,iI])])],fun n x=>g29L0 m n x.1 x.2.1.1 x.2.1.2.1 x.2.1.2.2.1 x.2.1.2.2.2.1 x.2.1.2.2.2.2.1 x.2.2.1.1 x.2.2.1.2.1 x.2.2.1.2.2.1 x.2.2.2.1.1 x.2.2.2.1.2.1 x.2.2.2.1.2.2.1 x.2.2.2.2.1⟩
theorem g29L0ok {E} (hE:EO E 92 g29H) (n):LO E g29B1 ((g29L0X m).at n):=lk hE (g29K m) (g29L0X m) n
theorem g29ok:FO (g29T m):=f1' g29H (g29T m) func29 (g29K m) fun _ h=>g29L0ok m h m
def sparselaw40_SliceRefuses_H:Hints:=⟨[J [0,1,2,3,4,5],J' [(0,1),(3,1)] [1,3,4,5,13],J' [(0,1)] [3,4,5,13,42],J [3,4,5,13],J' [(4,1)] [3,4,5,13,53],J [3,4,5,13],J [3,4,5,13,14,15],J [3,4,5,13,14,15,61],J' [(0,1),(2,1)] [5,13,14,15],J' [(2,1)] [5,13,14,15,16,17],J' [(0,1),(1,1)] [5,13,14,15,16,76],J' [(0,1),(2,1)] [5,13,14,15],J' [(2,1),(6,1),(7,1)] [13,14,15,92],J [12],J' [(4,1)] [13,14,15,18,19],J' [(4,1)] [13,14,15,18,19,20,21],J' [(5,1)] [13,14,15,18,19,20,21,22,23],J' [(1,1),(2,1),(5,1)] [13,18,19,20,21,22,23,24,25],J' [(2,1)] [13,18,19,20,21,22,23,24,25,27],J' [(2,1)] [13,18,19,20,21,22,23,24,25,27,29],J' [(2,1)] [13,18,19,20,21,22,23,24,25,27,29,31],J' [(2,1)] [18,19,20,21,22,23,24,25,27,29,31,33],J' [(0,1),(1,1),(3,1),(4,1),(5,1),(8,1),(13,1),(14,1),(15,1),(18,1),(19,1),(20,1),(23,1),(24,1),(25,1),(28,1)] [12]],[(1004,[3,4,5,13]),(1006,[3,4,5,13]),(1009,[5,13,14,15]),(1012,[5,13,14,15]),(1014,[13,14,15])],[],[12],[],[[false]]⟩
abbrev sparselaw40_SliceRefuses_A:List Sh:=[.a (.c (.imm (.int .u64))),sI,sI,sU,sU,sI]
abbrev sparselaw40_SliceRefuses_S:Sh:= sB
abbrev sparselaw40_SliceRefuses_U:List Sh:=[sD,sD,sD,sD,sD,sD]
def sparselaw40_SliceRefuses_R:Qw sparselaw40_SliceRefuses_A->Option (sparselaw40_SliceRefuses_S.Val×Qw sparselaw40_SliceRefuses_U):=fun(x:LI×Int×Int×Int×Int×Int×Unit)=>sparselaw40_SliceRefuses m x.1 x.2.1 x.2.2.1 x.2.2.2.1 x.2.2.2.2.1 x.2.2.2.2.2.1
def sparselaw40_SliceRefuses_T:FunT:=⟨9,sparselaw40_SliceRefuses_A,sparselaw40_SliceRefuses_S,sparselaw40_SliceRefuses_U,sparselaw40_SliceRefuses_R m⟩
noncomputable def sparselaw40_SliceRefuses_C:Code:=codeOf f9
noncomputable def sparselaw40_SliceRefuses_D4:Code:=qs9 [1004] sparselaw40_SliceRefuses_C 0
noncomputable def sparselaw40_SliceRefuses_D6:Code:=qs9 [1006] sparselaw40_SliceRefuses_C 0
noncomputable def sparselaw40_SliceRefuses_D9:Code:=qs9 [1009] sparselaw40_SliceRefuses_C 0
noncomputable def sparselaw40_SliceRefuses_D12:Code:=qs9 [1012] sparselaw40_SliceRefuses_C 0
noncomputable def sparselaw40_SliceRefuses_D14:Code:=qs9 [1014] sparselaw40_SliceRefuses_C 0
theorem sparselaw40_SliceRefuses_K:FL [g18T m,g30T m,g19T m,g24T m,g31T m,g32T m,sparselaw40_awake_T m,g12T m,g13T m,g28T m,g29T m,g16T m,g17T m,g21T m,g22T m,g14T m]:=AllF.mem ⟨g18ok m,g30ok m,g19ok m,g24ok m,g31ok m,g32ok m,sparselaw40_awake_ok m,g12ok m,g13ok m,g28ok m,g29ok m,g16ok m,g17ok m,g21ok m,g22ok m,g14ok m,trivial⟩
def sparselaw40_SliceRefuses_J4_X:LoopT:=⟨1014,[(13,sX 0 [iI,iI,iM 1,iM 2,.nm 3 (.int .u64)]),(14,sU),(15,sU)],[(.ret,[(12,sB)])],fun(x:(Int×Int×LI×LI×LI×Unit)×Int×Int×Unit)=>sparselaw40_SliceRefuses_J4 m x.1.1 x.1.2.1 x.1.2.2.1 x.1.2.2.2.1 x.1.2.2.2.2.1 x.2.1 x.2.2.1⟩
theorem sparselaw40_SliceRefuses_J4_ok {E:Entry} (hE:EOf prog E 175 sparselaw40_SliceRefuses_H.pins) (m:Nat):qs1 prog E sparselaw40_SliceRefuses_D14 (sparselaw40_SliceRefuses_J4_X m):=
 jok hmix htt hE (sparselaw40_SliceRefuses_K m) (L:=[]) (sparselaw40_SliceRefuses_J4_X m) 0 (l:=[]) [] (jl:=[]) kR kR (fun _ _=>trivial) kR (fun _ _=>trivial) (fun x=>kR)
def sparselaw40_SliceRefuses_J3_X:LoopT:=⟨1012,[(5,sI),(13,sX 0 [iI,iI,iM 1,iM 2,.nm 3 (.int .u64)]),(14,sU),(15,sU)],[(.ret,[(12,sB)])],fun(x:Int×(Int×Int×LI×LI×LI×Unit)×Int×Int×Unit)=>sparselaw40_SliceRefuses_J3 m x.1 x.2.1.1 x.2.1.2.1 x.2.1.2.2.1 x.2.1.2.2.2.1 x.2.1.2.2.2.2.1 x.2.2.1 x.2.2.2.1⟩
theorem sparselaw40_SliceRefuses_J3_ok {E:Entry} (hE:EOf prog E 175 sparselaw40_SliceRefuses_H.pins) (m:Nat):qs1 prog E sparselaw40_SliceRefuses_D12 (sparselaw40_SliceRefuses_J3_X m):=
 jok hmix htt hE (sparselaw40_SliceRefuses_K m) (L:=[sparselaw40_SliceRefuses_J4_X m]) (sparselaw40_SliceRefuses_J3_X m) 0 (l:=[]) [1014] (jl:=[(1014,sparselaw40_SliceRefuses_D14)]) kR kR (fun _ _=>⟨qj ⟨yb (sparselaw40_SliceRefuses_J4_ok hE m),trivial⟩,trivial⟩) kR (fun _ _=>trivial) (fun x=>kR)
def sparselaw40_SliceRefuses_J2_X:LoopT:=⟨1009,[(5,sI),(13,sX 0 [iI,iI,iM 1,iM 2,.nm 3 (.int .u64)]),(14,sU),(15,sU)],[(.ret,[(12,sB)])],fun(x:Int×(Int×Int×LI×LI×LI×Unit)×Int×Int×Unit)=>sparselaw40_SliceRefuses_J2 m x.1 x.2.1.1 x.2.1.2.1 x.2.1.2.2.1 x.2.1.2.2.2.1 x.2.1.2.2.2.2.1 x.2.2.1 x.2.2.2.1⟩
theorem sparselaw40_SliceRefuses_J2_ok {E:Entry} (hE:EOf prog E 175 sparselaw40_SliceRefuses_H.pins) (m:Nat):qs1 prog E sparselaw40_SliceRefuses_D9 (sparselaw40_SliceRefuses_J2_X m):=
 jok hmix htt hE (sparselaw40_SliceRefuses_K m) (L:=[sparselaw40_SliceRefuses_J3_X m]) (sparselaw40_SliceRefuses_J2_X m) 0 (l:=[]) [1012] (jl:=[(1012,sparselaw40_SliceRefuses_D12)]) kR kR (fun _ _=>⟨qj ⟨yb (sparselaw40_SliceRefuses_J3_ok hE m),trivial⟩,trivial⟩) kR (fun _ _=>trivial) (fun x=>kR)
def sparselaw40_SliceRefuses_J1_X:LoopT:=⟨1006,[(3,sU),(4,sU),(5,sI),(13,sX 0 [iI,iI,iM 1,iM 2,.nm 3 (.int .u64)])],[(.ret,[(12,sB)])],fun(x:Int×Int×Int×(Int×Int×LI×LI×LI×Unit)×Unit)=>sparselaw40_SliceRefuses_J1 m x.1 x.2.1 x.2.2.1 x.2.2.2.1.1 x.2.2.2.1.2.1 x.2.2.2.1.2.2.1 x.2.2.2.1.2.2.2.1 x.2.2.2.1.2.2.2.2.1⟩
theorem sparselaw40_SliceRefuses_J1_ok {E:Entry} (hE:EOf prog E 175 sparselaw40_SliceRefuses_H.pins) (m:Nat):qs1 prog E sparselaw40_SliceRefuses_D6 (sparselaw40_SliceRefuses_J1_X m):=
 jok hmix htt hE (sparselaw40_SliceRefuses_K m) (L:=[sparselaw40_SliceRefuses_J2_X m]) (sparselaw40_SliceRefuses_J1_X m) 0 (l:=[]) [1009] (jl:=[(1009,sparselaw40_SliceRefuses_D9)]) kR kR (fun _ _=>⟨qj ⟨yb (sparselaw40_SliceRefuses_J2_ok hE m),trivial⟩,trivial⟩) kR (fun _ _=>trivial) (fun x=>kR)
def sparselaw40_SliceRefuses_J0_X:LoopT:=⟨1004,[(3,sU),(4,sU),(5,sI),(13,sX 0 [iI,iI,iM 1,iM 2,.nm 3 (.int .u64)])],[(.ret,[(12,sB)])],fun(x:Int×Int×Int×(Int×Int×LI×LI×LI×Unit)×Unit)=>sparselaw40_SliceRefuses_J0 m x.1 x.2.1 x.2.2.1 x.2.2.2.1.1 x.2.2.2.1.2.1 x.2.2.2.1.2.2.1 x.2.2.2.1.2.2.2.1 x.2.2.2.1.2.2.2.2.1⟩
theorem sparselaw40_SliceRefuses_J0_ok {E:Entry} (hE:EOf prog E 175 sparselaw40_SliceRefuses_H.pins) (m:Nat):qs1 prog E sparselaw40_SliceRefuses_D4 (sparselaw40_SliceRefuses_J0_X m):=
 jok hmix htt hE (sparselaw40_SliceRefuses_K m) (L:=[sparselaw40_SliceRefuses_J1_X m]) (sparselaw40_SliceRefuses_J0_X m) 0 (l:=[]) [1006] (jl:=[(1006,sparselaw40_SliceRefuses_D6)]) kR kR (fun _ _=>⟨qj ⟨yb (sparselaw40_SliceRefuses_J1_ok hE m),trivial⟩,trivial⟩) kR (fun _ _=>trivial) (fun x=>kR)
theorem sparselaw40_SliceRefuses_ok:FO (sparselaw40_SliceRefuses_T m):=
 fokJ hmix htt (H:=sparselaw40_SliceRefuses_H) (sparselaw40_SliceRefuses_T m) func9 kR (sparselaw40_SliceRefuses_K m) (L:=[sparselaw40_SliceRefuses_J0_X m]) (l:=[]) [1004] (jl:=[(1004,sparselaw40_SliceRefuses_D4)]) kR kR (fun _ hE _ _=>⟨qj ⟨yb (sparselaw40_SliceRefuses_J0_ok hE m),trivial⟩,trivial⟩) kR (fun _ hE _ _=>trivial) (fun x=>kR)
end
end Go.Vs.F
