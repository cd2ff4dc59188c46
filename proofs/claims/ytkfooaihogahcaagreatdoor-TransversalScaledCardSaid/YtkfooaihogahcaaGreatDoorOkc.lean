/-The plain functions are what the code does (by program:gen.py). -/
import Derived.Test.YtkfooaihogahcaaGreatDoorOkb
set_option linter.unusedVariables false
set_option maxRecDepth 100000
namespace Go.Vs.F
open Go.Proofs
def g96_H:Hints:=⟨[⟨[],[1,2,3,4,5,10]⟩,⟨[],[1,2,3,4,5,10,11]⟩,⟨[],[1,2,3,4,10,11,15,16,17]⟩,⟨[],[1,2,3,4,10,11,15,16,17,18]⟩,⟨[],[1,2,3,4,10,11,13,15,16,17]⟩,⟨[(6,1)],[1,2,3,4,10,11,13,15,16,17,34]⟩,⟨[(0,1)],[1,2,3,4,10,11,15,16,17]⟩,⟨[(1,1)],[1,2,3,4,10,11,15,16,17]⟩,⟨[(0,1),(2,1),(4,1)],[10]⟩],[(0,[1,2,3,4,10,11,15,16,17])],[(0,[1,2,10,11]),(1,[1,2,3,4,10,11,15,16,17])],[10],[],[[false,false,true,true,true]]⟩
def g96_T (m:Nat):FunT:=⟨96,[.a (.agg [(.int .i64),(.int .i64),(.imm (.int .i64)),(.imm (.int .i64)),(.imm (.int .u64))]),sL,sL,sL,sL],.a (.agg [(.int .i64),(.int .i64),(.nm 0 (.int .i64)),(.nm 1 (.int .i64)),(.nm 2 (.int .u64))]),[sD,sD,sD,sD,sD],fun(x:(Int×Int×List Int×List Int×List Int×Unit)×List Int×List Int×List Int×List Int×Unit)=>g96 m x.1.1 x.1.2.1 x.1.2.2.1 x.1.2.2.2.1 x.1.2.2.2.2.1 x.2.1 x.2.2.1 x.2.2.2.1 x.2.2.2.2.1⟩
noncomputable def g96_C:Code:=codeOf Tryz.f96
noncomputable def g96_B0:Code:=qm g96_C 0 0
theorem g96_K (m:Nat): ∀u∈[g30_T m,g36_T m],FunOK Tryz.prog u:=AllF.mem ⟨g30_ok m,g36_ok m,trivial⟩
def g96_L0_X (m:Nat):LT:=⟨0,[(1,sL),(2,sL),(3,sL),(4,sL),(10,.a (.bx 0 [(.int .i64),(.int .i64),(.nm 1 (.int .i64)),(.nm 2 (.int .i64)),(.nm 3 (.int .u64))])),(11,.a (.c (.nm 4 (.pr (.int .i64) (.pr (.int .i64) (.int .u64)))))),(15,.a (.c (.nm 5 (.pr (.int .i64) (.pr (.int .i64) (.int .u64)))))),(16,sI),(17,sI)],[(.exit 0,[(1,sL),(2,sL),(10,.a (.bx 0 [(.int .i64),(.int .i64),(.nm 1 (.int .i64)),(.nm 2 (.int .i64)),(.nm 3 (.int .u64))])),(11,.a (.c (.nm 4 (.pr (.int .i64) (.pr (.int .i64) (.int .u64))))))])],fun n (x:List Int×List Int×List Int×List Int×(Int×Int×List Int×List Int×List Int×Unit)×(List (Int×Int×Int))×(List (Int×Int×Int))×Int×Int×Unit)=>g96_L0 m n x.1 x.2.1 x.2.2.1 x.2.2.2.1 x.2.2.2.2.1.1 x.2.2.2.2.1.2.1 x.2.2.2.2.1.2.2.1 x.2.2.2.2.1.2.2.2.1 x.2.2.2.2.1.2.2.2.2.1 x.2.2.2.2.2.1 x.2.2.2.2.2.2.1 x.2.2.2.2.2.2.2.1 x.2.2.2.2.2.2.2.2.1⟩
theorem g96_L0_ok {E:Entry} (hE:EOf Tryz.prog E 58 g96_H.pins) (m:Nat) (n:Nat):ql Tryz.prog E g96_B0 ((g96_L0_X m).at n):=
 lok hmix htt hE (g96_K m) (L:=[]) (g96_L0_X m) (l:=[]) kR (fun _ _=>trivial) (fun n x=>kR) (fun _=>kR) n
theorem g96_ok (m:Nat):FunOK Tryz.prog (g96_T m):=
 fok hmix htt (H:=g96_H) (g96_T m) Tryz.func96 kR (g96_K m) (L:=[(g96_L0_X m).at m]) (l:=[(0,g96_B0)]) kR (fun _ hE _ _=>⟨qg ⟨yb (g96_L0_ok hE m m),trivial⟩,trivial⟩) (fun x=>kR)
def g48_H:Hints:=⟨[⟨[],[1,2,3,6]⟩,⟨[],[1,2,3,6,8]⟩,⟨[],[1,2,3,6,8,14]⟩,⟨[(1,1)],[6,7]⟩,⟨[(5,1)],[1,2,3,6,19]⟩,⟨[],[6,7]⟩,⟨[(4,1)],[1,2,3,6,8,9]⟩,⟨[(4,1)],[1,2,3,6,8,9,10,11]⟩,⟨[(0,1),(2,1),(3,1)],[1,2,3,6,9,10,52]⟩,⟨[],[6,7]⟩,⟨[(1,1),(2,1),(3,1),(4,1)],[6,7]⟩],[],[(0,[1,2,3,6])],[6,7],[],[[false,false,true,true,true],[false]]⟩
def g48_T (m:Nat):FunT:=⟨48,[.a (.agg [(.int .i64),(.int .i64),(.imm (.int .i64)),(.imm (.int .i64)),(.imm (.int .u64))]),sL,sL],.tup [(.agg [(.int .i64),(.int .i64),(.nm 0 (.int .i64)),(.nm 1 (.int .i64)),(.nm 2 (.int .u64))]),(.c (.int .i64))],[sD,sD,sD],fun(x:(Int×Int×List Int×List Int×List Int×Unit)×List Int×List Int×Unit)=>g48 m x.1.1 x.1.2.1 x.1.2.2.1 x.1.2.2.2.1 x.1.2.2.2.2.1 x.2.1 x.2.2.1⟩
theorem g48_ok (m:Nat):FunOK Tryz.prog (g48_T m):=
 fok hmix htt (H:=g48_H) (g48_T m) Tryz.func48 kR (AllF.mem (l:=[g29_T m,g95_T m,g96_T m]) ⟨g29_ok m,g95_ok m,g96_ok m,trivial⟩) (L:=[]) (l:=[]) kR (fun _ hE _ _=>trivial) (fun x=>kR)
def g19_H:Hints:=⟨[⟨[],[2,3,4]⟩,⟨[],[2,3,4,6]⟩,⟨[],[2,3,4,6,19]⟩,⟨[(1,1)],[4,5]⟩,⟨[(8,1)],[3,4,7]⟩,⟨[],[3,4,7,34,35]⟩,⟨[],[3,4,7,34,35,36]⟩,⟨[],[3,4,7,9,34,35]⟩,⟨[],[3,4,7,9,10,34,35]⟩,⟨[],[3,4,7,9,10,34,35,50]⟩,⟨[(0,1)],[3,4,7,9,10,34,35]⟩,⟨[],[3,4,7,9,10,11,34,35]⟩,⟨[],[3,4,7,9,10,11,34,35,61]⟩,⟨[],[3,4,7,9,10,11,34,35]⟩,⟨[],[3,4,7,9,10,11,12,34,35]⟩,⟨[(4,1)],[3,4,7,9,10,12,13,14,34,35]⟩,⟨[(0,1),(2,1),(3,1)],[3,4,7,9,10,12,34,35,94]⟩,⟨[],[4,5]⟩,⟨[(3,1)],[3,4,7,9,10,34,35]⟩,⟨[(1,1)],[3,4,7,34,35]⟩,⟨[(0,1)],[4,5]⟩],[(0,[3,4,7,34,35]),(2,[3,4,7,9,10,34,35])],[(0,[4,7]),(1,[3,4,7,34,35]),(2,[3,4,7,34,35]),(3,[3,4,7,9,10,34,35])],[4,5],[],[[false,false,true,true,true],[false]]⟩
def g19_T (m:Nat):FunT:=⟨19,[.a (.agg [(.int .i64),(.int .i64),(.imm (.int .i64)),(.imm (.int .i64)),(.imm (.int .u64))]),.a (.agg [(.imm (.int .i64)),(.imm (.int .i64)),(.imm (.int .i64))])],.tup [(.agg [(.int .i64),(.int .i64),(.nm 0 (.int .i64)),(.nm 1 (.int .i64)),(.nm 2 (.int .u64))]),(.c (.int .i64))],[sD,sD],fun(x:(Int×Int×List Int×List Int×List Int×Unit)×(List Int×List Int×List Int×Unit)×Unit)=>g19 m x.1.1 x.1.2.1 x.1.2.2.1 x.1.2.2.2.1 x.1.2.2.2.2.1 x.2.1.1 x.2.1.2.1 x.2.1.2.2.1⟩
noncomputable def g19_C:Code:=codeOf Tryz.f19
noncomputable def g19_B0:Code:=qm g19_C 0 0
noncomputable def g19_B2:Code:=qm g19_B0 0 0
theorem g19_K (m:Nat): ∀u∈[g21_T m,g49_T m,g48_T m,g34_T m,g50_T m,g51_T m,g33_T m,g52_T m,g53_T m],FunOK Tryz.prog u:=AllF.mem ⟨g21_ok m,g49_ok m,g48_ok m,g34_ok m,g50_ok m,g51_ok m,g33_ok m,g52_ok m,g53_ok m,trivial⟩
def g19_L1_X (m:Nat):LT:=⟨2,[(3,.a (.bx 0 [(.imm (.int .i64)),(.imm (.int .i64)),(.imm (.int .i64))])),(4,.a (.bx 1 [(.int .i64),(.int .i64),(.nm 2 (.int .i64)),(.nm 3 (.int .i64)),(.nm 4 (.int .u64))])),(7,.a (.bx 5 [(.int .i64),(.int .i64),(.nm 6 (.int .i64)),(.nm 7 (.int .i64)),(.nm 8 (.int .u64))])),(9,sI),(10,sI),(34,sI),(35,sI)],[(.ret,[(4,.a (.bx 0 [(.int .i64),(.int .i64),(.nm 1 (.int .i64)),(.nm 2 (.int .i64)),(.nm 3 (.int .u64))])),(5,sI)]),(.exit 2,[(3,.a (.bx 0 [(.imm (.int .i64)),(.imm (.int .i64)),(.imm (.int .i64))])),(4,.a (.bx 1 [(.int .i64),(.int .i64),(.nm 2 (.int .i64)),(.nm 3 (.int .i64)),(.nm 4 (.int .u64))])),(7,.a (.bx 5 [(.int .i64),(.int .i64),(.nm 6 (.int .i64)),(.nm 7 (.int .i64)),(.nm 8 (.int .u64))])),(34,sI),(35,sI)])],fun n (x:(List Int×List Int×List Int×Unit)×(Int×Int×List Int×List Int×List Int×Unit)×(Int×Int×List Int×List Int×List Int×Unit)×Int×Int×Int×Int×Unit)=>g19_L1 m n x.1.1 x.1.2.1 x.1.2.2.1 x.2.1.1 x.2.1.2.1 x.2.1.2.2.1 x.2.1.2.2.2.1 x.2.1.2.2.2.2.1 x.2.2.1.1 x.2.2.1.2.1 x.2.2.1.2.2.1 x.2.2.1.2.2.2.1 x.2.2.1.2.2.2.2.1 x.2.2.2.1 x.2.2.2.2.1 x.2.2.2.2.2.1 x.2.2.2.2.2.2.1⟩
theorem g19_L1_ok {E:Entry} (hE:EOf Tryz.prog E 103 g19_H.pins) (m:Nat) (n:Nat):ql Tryz.prog E g19_B2 ((g19_L1_X m).at n):=
 lok hmix htt hE (g19_K m) (L:=[]) (g19_L1_X m) (l:=[]) kR (fun _ _=>trivial) (fun n x=>kR) (fun _=>kR) n
def g19_L0_X (m:Nat):LT:=⟨0,[(3,.a (.bx 0 [(.imm (.int .i64)),(.imm (.int .i64)),(.imm (.int .i64))])),(4,.a (.bx 1 [(.int .i64),(.int .i64),(.nm 2 (.int .i64)),(.nm 3 (.int .i64)),(.nm 4 (.int .u64))])),(7,.a (.bx 5 [(.int .i64),(.int .i64),(.nm 6 (.int .i64)),(.nm 7 (.int .i64)),(.nm 8 (.int .u64))])),(34,sI),(35,sI)],[(.ret,[(4,.a (.bx 0 [(.int .i64),(.int .i64),(.nm 1 (.int .i64)),(.nm 2 (.int .i64)),(.nm 3 (.int .u64))])),(5,sI)]),(.exit 0,[(4,.a (.bx 0 [(.int .i64),(.int .i64),(.nm 1 (.int .i64)),(.nm 2 (.int .i64)),(.nm 3 (.int .u64))])),(7,.a (.bx 4 [(.int .i64),(.int .i64),(.nm 5 (.int .i64)),(.nm 6 (.int .i64)),(.nm 7 (.int .u64))]))])],fun n (x:(List Int×List Int×List Int×Unit)×(Int×Int×List Int×List Int×List Int×Unit)×(Int×Int×List Int×List Int×List Int×Unit)×Int×Int×Unit)=>g19_L0 m n x.1.1 x.1.2.1 x.1.2.2.1 x.2.1.1 x.2.1.2.1 x.2.1.2.2.1 x.2.1.2.2.2.1 x.2.1.2.2.2.2.1 x.2.2.1.1 x.2.2.1.2.1 x.2.2.1.2.2.1 x.2.2.1.2.2.2.1 x.2.2.1.2.2.2.2.1 x.2.2.2.1 x.2.2.2.2.1⟩
theorem g19_L0_ok {E:Entry} (hE:EOf Tryz.prog E 103 g19_H.pins) (m:Nat) (n:Nat):ql Tryz.prog E g19_B0 ((g19_L0_X m).at n):=
 lok hmix htt hE (g19_K m) (L:=[(g19_L1_X m).at m]) (g19_L0_X m) (l:=[(2,g19_B2)]) kR (fun _ _=>⟨qg ⟨yb (g19_L1_ok hE m m),trivial⟩,trivial⟩) (fun n x=>kR) (fun _=>kR) n
theorem g19_ok (m:Nat):FunOK Tryz.prog (g19_T m):=
 fok hmix htt (H:=g19_H) (g19_T m) Tryz.func19 kR (g19_K m) (L:=[(g19_L0_X m).at m]) (l:=[(0,g19_B0)]) kR (fun _ hE _ _=>⟨qg ⟨yb (g19_L0_ok hE m m),trivial⟩,trivial⟩) (fun x=>kR)
def g66_H:Hints:=⟨[⟨[],[0]⟩,⟨[(0,1)],[5,6,7]⟩,⟨[],[5,6,7,8]⟩,⟨[],[4,5,6,7]⟩,⟨[(0,1)],[5,6,7,13]⟩,⟨[],[2]⟩,⟨[(1,1)],[5,6,7]⟩,⟨[],[2]⟩],[(0,[5,6,7])],[(0,[]),(1,[5,6,7])],[2],[],[[false]]⟩
def g66_T (m:Nat):FunT:=⟨66,[.a (.c (.imm (.int .u64)))],sB,[sD],fun(x:List Int×Unit)=>g66 m x.1⟩
noncomputable def g66_C:Code:=codeOf Tryz.f66
noncomputable def g66_B0:Code:=qm g66_C 0 0
theorem g66_K (m:Nat): ∀u∈[g31_T m],FunOK Tryz.prog u:=AllF.mem ⟨g31_ok m,trivial⟩
def g66_L0_X (m:Nat):LT:=⟨0,[(5,.a (.c (.imm (.int .u64)))),(6,sI),(7,sI)],[(.ret,[(2,sB)]),(.exit 0,[])],fun n (x:List Int×Int×Int×Unit)=>g66_L0 m n x.1 x.2.1 x.2.2.1⟩
theorem g66_L0_ok {E:Entry} (hE:EOf Tryz.prog E 15 g66_H.pins) (m:Nat) (n:Nat):ql Tryz.prog E g66_B0 ((g66_L0_X m).at n):=
 lok hmix htt hE (g66_K m) (L:=[]) (g66_L0_X m) (l:=[]) kR (fun _ _=>trivial) (fun n x=>kR) (fun _=>kR) n
theorem g66_ok (m:Nat):FunOK Tryz.prog (g66_T m):=
 fok hmix htt (H:=g66_H) (g66_T m) Tryz.func66 kR (g66_K m) (L:=[(g66_L0_X m).at m]) (l:=[(0,g66_B0)]) kR (fun _ hE _ _=>⟨qg ⟨yb (g66_L0_ok hE m m),trivial⟩,trivial⟩) (fun x=>kR)
def g25_H:Hints:=⟨[⟨[],[0]⟩,⟨[],[0,5]⟩,⟨[],[2]⟩,⟨[(0,1)],[2]⟩],[],[],[2],[],[[false]]⟩
def g25_T (m:Nat):FunT:=⟨25,[sU],sU,[sD],fun(x:Int×Unit)=>g25 m x.1⟩
theorem g25_ok (m:Nat):FunOK Tryz.prog (g25_T m):=
 fok hmix htt (H:=g25_H) (g25_T m) Tryz.func25 kR (AllF.mem (l:=[g66_T m]) ⟨g66_ok m,trivial⟩) (L:=[]) (l:=[]) kR (fun _ hE _ _=>trivial) (fun x=>kR)
def g67_H:Hints:=⟨[⟨[],[0]⟩,⟨[],[0,3]⟩,⟨[(0,1)],[3,8]⟩,⟨[(0,1)],[2]⟩,⟨[(0,1)],[2]⟩],[],[],[2],[],[[false]]⟩
def g67_T (m:Nat):FunT:=⟨67,[sU],sI,[sD],fun(x:Int×Unit)=>g67 m x.1⟩
theorem g67_ok (m:Nat):FunOK Tryz.prog (g67_T m):=
 fok hmix htt (H:=g67_H) (g67_T m) Tryz.func67 kR (AllF.mem (l:=[g82_T m]) ⟨g82_ok m,trivial⟩) (L:=[]) (l:=[]) kR (fun _ hE _ _=>trivial) (fun x=>kR)
def g24_H:Hints:=⟨[⟨[],[0,1]⟩,⟨[],[0,1,11]⟩,⟨[],[4,5]⟩,⟨[(0,1),(2,1)],[6,7]⟩,⟨[],[6,7,16]⟩,⟨[],[4,5]⟩,⟨[(0,1),(1,1)],[20]⟩,⟨[],[4,5]⟩,⟨[],[4,5]⟩],[],[(0,[])],[4,5],[],[[false],[false]]⟩
def g24_T (m:Nat):FunT:=⟨24,[sU,sU],.tup [(.c (.int .i64)),(.c .bool)],[sD,sD],fun(x:Int×Int×Unit)=>g24 m x.1 x.2.1⟩
theorem g24_ok (m:Nat):FunOK Tryz.prog (g24_T m):=
 fok hmix htt (H:=g24_H) (g24_T m) Tryz.func24 kR (AllF.mem (l:=[g66_T m,g67_T m]) ⟨g66_ok m,g67_ok m,trivial⟩) (L:=[]) (l:=[]) kR (fun _ hE _ _=>trivial) (fun x=>kR)
def g151_H:Hints:=⟨[⟨[],[0]⟩,⟨[],[2]⟩],[],[],[2],[],[[false]]⟩
def g151_T (m:Nat):FunT:=⟨151,[sI],sB,[sD],fun(x:Int×Unit)=>g151 m x.1⟩
theorem g151_ok (m:Nat):FunOK Tryz.prog (g151_T m):=
 fok hmix htt (H:=g151_H) (g151_T m) Tryz.func151 kR noF (L:=[]) (l:=[]) kR (fun _ hE _ _=>trivial) (fun x=>kR)
def g115_H:Hints:=⟨[⟨[],[0,1]⟩,⟨[],[0,1,6]⟩,⟨[],[0,1,6,7,8]⟩,⟨[],[0,1,6,7,8,15]⟩,⟨[],[0,1,6,7,8,9]⟩,⟨[],[0,1,6,7,8,9,27]⟩,⟨[(0,1)],[0,1,6,7,8]⟩,⟨[(0,1)],[0,1,6,7,8]⟩,⟨[(2,1),(4,1),(11,1),(17,1)],[4,5]⟩],[(0,[0,1,6,7,8])],[(0,[0,1,6,7]),(1,[0,1,6,7,8])],[4,5],[],[[false],[false]]⟩
def g115_T (m:Nat):FunT:=⟨115,[sL,sI],.tup [(.c (.int .i64)),(.c .bool)],[sD,sD],fun(x:List Int×Int×Unit)=>g115 m x.1 x.2.1⟩
noncomputable def g115_C:Code:=codeOf Tryz.f115
noncomputable def g115_B0:Code:=qm g115_C 0 0
theorem g115_K (m:Nat): ∀u∈[g150_T m,g151_T m],FunOK Tryz.prog u:=AllF.mem ⟨g150_ok m,g151_ok m,trivial⟩
def g115_L0_X (m:Nat):LT:=⟨0,[(0,sL),(1,sI),(6,sI),(7,sI),(8,sI)],[(.exit 0,[(0,sL),(1,sI),(6,sI),(7,sI)])],fun n (x:List Int×Int×Int×Int×Int×Unit)=>g115_L0 m n x.1 x.2.1 x.2.2.1 x.2.2.2.1 x.2.2.2.2.1⟩
theorem g115_L0_ok {E:Entry} (hE:EOf Tryz.prog E 54 g115_H.pins) (m:Nat) (n:Nat):ql Tryz.prog E g115_B0 ((g115_L0_X m).at n):=
 lok hmix htt hE (g115_K m) (L:=[]) (g115_L0_X m) (l:=[]) kR (fun _ _=>trivial) (fun n x=>kR) (fun _=>kR) n
theorem g115_ok (m:Nat):FunOK Tryz.prog (g115_T m):=
 fok hmix htt (H:=g115_H) (g115_T m) Tryz.func115 kR (g115_K m) (L:=[(g115_L0_X m).at m]) (l:=[(0,g115_B0)]) kR (fun _ hE _ _=>⟨qg ⟨yb (g115_L0_ok hE m m),trivial⟩,trivial⟩) (fun x=>kR)
def g69_H:Hints:=⟨[⟨[],[1,2,3]⟩,⟨[(14,1),(16,1)],[2,3,8,9]⟩,⟨[(0,1)],[2,3,8,30]⟩,⟨[],[6,7]⟩,⟨[(4,1),(7,1)],[6,7]⟩],[],[],[6,7],[],[[false],[false]]⟩
def g69_T (m:Nat):FunT:=⟨69,[.a (.agg [(.int .i64),(.int .i64),(.imm (.int .i64)),(.imm (.int .i64)),(.imm (.int .u64))]),sI,sI],.tup [(.c (.int .u64)),(.c .bool)],[sD,sD,sD],fun(x:(Int×Int×List Int×List Int×List Int×Unit)×Int×Int×Unit)=>g69 m x.1.1 x.1.2.1 x.1.2.2.1 x.1.2.2.2.1 x.1.2.2.2.2.1 x.2.1 x.2.2.1⟩
theorem g69_ok (m:Nat):FunOK Tryz.prog (g69_T m):=
 fok hmix htt (H:=g69_H) (g69_T m) Tryz.func69 kR (AllF.mem (l:=[g115_T m]) ⟨g115_ok m,trivial⟩) (L:=[]) (l:=[]) kR (fun _ hE _ _=>trivial) (fun x=>kR)
def g26_H:Hints:=⟨[⟨[],[1,2,3]⟩,⟨[(3,1),(11,1)],[1,2,3,27]⟩,⟨[],[6]⟩,⟨[(1,1),(2,1),(4,1)],[7]⟩,⟨[(0,1)],[6]⟩],[],[],[6],[],[[false]]⟩
def g26_T (m:Nat):FunT:=⟨26,[.a (.agg [(.int .i64),(.int .i64),(.imm (.int .i64)),(.imm (.int .i64)),(.imm (.int .u64))]),sI,sI],sU,[sD,sD,sD],fun(x:(Int×Int×List Int×List Int×List Int×Unit)×Int×Int×Unit)=>g26 m x.1.1 x.1.2.1 x.1.2.2.1 x.1.2.2.2.1 x.1.2.2.2.2.1 x.2.1 x.2.2.1⟩
theorem g26_ok (m:Nat):FunOK Tryz.prog (g26_T m):=
 fok hmix htt (H:=g26_H) (g26_T m) Tryz.func26 kR (AllF.mem (l:=[g29_T m,g68_T m,g69_T m]) ⟨g29_ok m,g68_ok m,g69_ok m,trivial⟩) (L:=[]) (l:=[]) kR (fun _ hE _ _=>trivial) (fun x=>kR)
def sparselaw14_TransversalScaled_H:Hints:=⟨[⟨[],[0,1]⟩,⟨[],[0,1,18]⟩,⟨[],[4]⟩,⟨[(0,1)],[0,1]⟩,⟨[(1,1)],[0,5]⟩,⟨[(2,1)],[0,5,6,7]⟩,⟨[],[0,5,6,7,31]⟩,⟨[(0,1),(2,1)],[4]⟩,⟨[(3,1)],[0,5,6,8,9]⟩,⟨[(0,1),(2,1),(9,1)],[0,6,8,60]⟩,⟨[],[4]⟩,⟨[],[0,6,8,10]⟩,⟨[],[0,6,8,10,65]⟩,⟨[(0,1)],[0,6,8,10]⟩,⟨[(7,1)],[0,6,8,10,11,12]⟩,⟨[(0,1),(2,1),(3,1)],[0,6,8,10,83]⟩,⟨[],[4]⟩,⟨[],[0,6,8,13]⟩,⟨[],[0,6,8,13,86]⟩,⟨[(0,1)],[0,6,8,13]⟩,⟨[(10,1)],[0,6,8,13,14,15]⟩,⟨[(0,1),(2,1),(3,1)],[0,6,8,13,107]⟩,⟨[],[4]⟩,⟨[],[4]⟩],[(0,[0,6,8,10]),(2,[0,6,8,13])],[(0,[0,6,8]),(1,[0,6,8,10]),(2,[]),(3,[0,6,8,13])],[4],[],[[false]]⟩
abbrev sparselaw14_TransversalScaled_A:List Sh:=[sI,sL]
abbrev sparselaw14_TransversalScaled_S:Sh:= sB
abbrev sparselaw14_TransversalScaled_U:List Sh:=[sD,sD]
def sparselaw14_TransversalScaled_R (m:Nat):Qp sparselaw14_TransversalScaled_A→Option (sparselaw14_TransversalScaled_S.Val×Qp sparselaw14_TransversalScaled_U):=fun(x:Int×List Int×Unit)=>sparselaw14_TransversalScaled m x.1 x.2.1
def sparselaw14_TransversalScaled_T (m:Nat):FunT:=⟨6,sparselaw14_TransversalScaled_A,sparselaw14_TransversalScaled_S,sparselaw14_TransversalScaled_U,sparselaw14_TransversalScaled_R m⟩
noncomputable def sparselaw14_TransversalScaled_C:Code:=codeOf Tryz.f6
noncomputable def sparselaw14_TransversalScaled_B0:Code:=qm sparselaw14_TransversalScaled_C 0 0
noncomputable def sparselaw14_TransversalScaled_B2:Code:=qm sparselaw14_TransversalScaled_C 0 1
theorem sparselaw14_TransversalScaled_K (m:Nat): ∀u∈[sparselaw14_awake_T m,g8_T m,g9_T m,g12_T m,g19_T m,g25_T m,g24_T m,g26_T m],FunOK Tryz.prog u:=AllF.mem ⟨sparselaw14_awake_ok m,g8_ok m,g9_ok m,g12_ok m,g19_ok m,g25_ok m,g24_ok m,g26_ok m,trivial⟩
def sparselaw14_TransversalScaled_L1_X (m:Nat):LT:=⟨2,[(0,sI),(6,.a (.bx 0 [(.nm 1 (.int .i64)),(.nm 2 (.int .i64)),(.nm 3 (.int .i64))])),(8,.a (.bx 4 [(.int .i64),(.int .i64),(.nm 5 (.int .i64)),(.nm 6 (.int .i64)),(.nm 7 (.int .u64))])),(13,sI)],[(.ret,[(4,sB)]),(.exit 2,[])],fun n (x:Int×(List Int×List Int×List Int×Unit)×(Int×Int×List Int×List Int×List Int×Unit)×Int×Unit)=>sparselaw14_TransversalScaled_L1 m n x.1 x.2.1.1 x.2.1.2.1 x.2.1.2.2.1 x.2.2.1.1 x.2.2.1.2.1 x.2.2.1.2.2.1 x.2.2.1.2.2.2.1 x.2.2.1.2.2.2.2.1 x.2.2.2.1⟩
theorem sparselaw14_TransversalScaled_L1_ok {E:Entry} (hE:EOf Tryz.prog E 109 sparselaw14_TransversalScaled_H.pins) (m:Nat) (n:Nat):ql Tryz.prog E sparselaw14_TransversalScaled_B2 ((sparselaw14_TransversalScaled_L1_X m).at n):=
 lok hmix htt hE (sparselaw14_TransversalScaled_K m) (L:=[]) (sparselaw14_TransversalScaled_L1_X m) (l:=[]) kR (fun _ _=>trivial) (fun n x=>kR) (fun _=>kR) n
def sparselaw14_TransversalScaled_L0_X (m:Nat):LT:=⟨0,[(0,sI),(6,.a (.bx 0 [(.nm 1 (.int .i64)),(.nm 2 (.int .i64)),(.nm 3 (.int .i64))])),(8,.a (.bx 4 [(.int .i64),(.int .i64),(.nm 5 (.int .i64)),(.nm 6 (.int .i64)),(.nm 7 (.int .u64))])),(10,sI)],[(.ret,[(4,sB)]),(.exit 0,[(0,sI),(6,.a (.bx 0 [(.nm 1 (.int .i64)),(.nm 2 (.int .i64)),(.nm 3 (.int .i64))])),(8,.a (.bx 4 [(.int .i64),(.int .i64),(.nm 5 (.int .i64)),(.nm 6 (.int .i64)),(.nm 7 (.int .u64))]))])],fun n (x:Int×(List Int×List Int×List Int×Unit)×(Int×Int×List Int×List Int×List Int×Unit)×Int×Unit)=>sparselaw14_TransversalScaled_L0 m n x.1 x.2.1.1 x.2.1.2.1 x.2.1.2.2.1 x.2.2.1.1 x.2.2.1.2.1 x.2.2.1.2.2.1 x.2.2.1.2.2.2.1 x.2.2.1.2.2.2.2.1 x.2.2.2.1⟩
theorem sparselaw14_TransversalScaled_L0_ok {E:Entry} (hE:EOf Tryz.prog E 109 sparselaw14_TransversalScaled_H.pins) (m:Nat) (n:Nat):ql Tryz.prog E sparselaw14_TransversalScaled_B0 ((sparselaw14_TransversalScaled_L0_X m).at n):=
 lok hmix htt hE (sparselaw14_TransversalScaled_K m) (L:=[]) (sparselaw14_TransversalScaled_L0_X m) (l:=[]) kR (fun _ _=>trivial) (fun n x=>kR) (fun _=>kR) n
theorem sparselaw14_TransversalScaled_ok (m:Nat):FunOK Tryz.prog (sparselaw14_TransversalScaled_T m):=
 fok hmix htt (H:=sparselaw14_TransversalScaled_H) (sparselaw14_TransversalScaled_T m) Tryz.func6 kR (sparselaw14_TransversalScaled_K m) (L:=[(sparselaw14_TransversalScaled_L0_X m).at m,(sparselaw14_TransversalScaled_L1_X m).at m]) (l:=[(0,sparselaw14_TransversalScaled_B0),(2,sparselaw14_TransversalScaled_B2)]) kR (fun _ hE _ _=>⟨qg ⟨yb (sparselaw14_TransversalScaled_L0_ok hE m m),nb rfl,trivial⟩,qg ⟨nb rfl,yb (sparselaw14_TransversalScaled_L1_ok hE m m),trivial⟩,trivial⟩) (fun x=>kR)
end Go.Vs.F
