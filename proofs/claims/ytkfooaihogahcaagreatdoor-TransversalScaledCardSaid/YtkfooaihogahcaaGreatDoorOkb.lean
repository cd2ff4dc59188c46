/-The plain functions are what the code does (by program:gen.py). -/
import Derived.Test.YtkfooaihogahcaaGreatDoorOka
set_option linter.unusedVariables false
set_option maxRecDepth 100000
namespace Go.Vs.F
open Go.Proofs
def g153_H:Hints:=⟨[⟨[],[0,1]⟩,⟨[(2,1),(5,1),(10,1),(13,1)],[0,21]⟩,⟨[(0,1)],[4]⟩,⟨[(0,1)],[4]⟩],[],[],[4],[],[[false]]⟩
def g153_T (m:Nat):FunT:=⟨153,[sB,sI],sU,[sD,sD],fun(x:Bool×Int×Unit)=>g153 m x.1 x.2.1⟩
theorem g153_ok (m:Nat):FunOK Tryz.prog (g153_T m):=
 fok hmix htt (H:=g153_H) (g153_T m) Tryz.func153 kR (AllF.mem (l:=[g156_T m]) ⟨g156_ok m,trivial⟩) (L:=[]) (l:=[]) kR (fun _ hE _ _=>trivial) (fun x=>kR)
def g169_H:Hints:=⟨[⟨[],[1,2]⟩,⟨[(3,1),(5,1)],[6]⟩,⟨[(0,1)],[4]⟩],[],[],[4],[],[[false]]⟩
def g169_T (m:Nat):FunT:=⟨169,[.a (.agg [.bool,(.imm (.int .u32))]),sI],sB,[sD,sD],fun(x:(Bool×List Int×Unit)×Int×Unit)=>g169 m x.1.1 x.1.2.1 x.2.1⟩
theorem g169_ok (m:Nat):FunOK Tryz.prog (g169_T m):=
 fok hmix htt (H:=g169_H) (g169_T m) Tryz.func169 kR (AllF.mem (l:=[g104_T m,g172_T m]) ⟨g104_ok m,g172_ok m,trivial⟩) (L:=[]) (l:=[]) kR (fun _ hE _ _=>trivial) (fun x=>kR)
def g170_H:Hints:=⟨[⟨[],[0,1,2,3]⟩,⟨[(0,1)],[0,1,2,9]⟩,⟨[],[0,1,2,9,10]⟩,⟨[(0,1)],[8]⟩,⟨[],[0,1,2,9,13]⟩,⟨[(0,1)],[8]⟩,⟨[],[1,2,17]⟩,⟨[],[8]⟩,⟨[(2,1),(5,1),(6,1)],[8]⟩],[],[(0,[1,2])],[8],[],[[false]]⟩
def g170_T (m:Nat):FunT:=⟨170,[sB,sI,sB,sI],sB,[sD,sD,sD,sD],fun(x:Bool×Int×Bool×Int×Unit)=>g170 m x.1 x.2.1 x.2.2.1 x.2.2.2.1⟩
theorem g170_ok (m:Nat):FunOK Tryz.prog (g170_T m):=
 fok hmix htt (H:=g170_H) (g170_T m) Tryz.func170 kR noF (L:=[]) (l:=[]) kR (fun _ hE _ _=>trivial) (fun x=>kR)
def g154_H:Hints:=⟨[⟨[],[0,2,3,4,6,10]⟩,⟨[],[0,2,3,4,6,10,11]⟩,⟨[],[0,2,3,4,6,10,11,12]⟩,⟨[(0,1),(2,1)],[0,2,3,4,6,10,11,27]⟩,⟨[(0,1)],[10]⟩,⟨[],[0,2,3,4,6,10,11,13]⟩,⟨[],[0,2,3,4,6,10,11,13,30]⟩,⟨[],[0,2,3,4,6,10,11,13,14]⟩,⟨[(3,1)],[0,2,3,4,6,10,11,13,42]⟩,⟨[],[0,2,3,4,6,10,11,13]⟩,⟨[(0,1),(1,1),(3,1)],[0,4,10,11,13,49]⟩,⟨[],[0,4,10,11,13]⟩,⟨[(3,1)],[0,4,10,11,13,15]⟩,⟨[(0,1),(1,1),(2,1),(3,1)],[10,11,62]⟩,⟨[],[10,11]⟩,⟨[(0,1)],[10]⟩],[],[],[10],[],[[false,true]]⟩
def g154_T (m:Nat):FunT:=⟨154,[sB,.a (.agg [.bool,(.imm (.int .u32))]),sI,sB,sI],.a (.agg [.bool,(.nm 0 (.int .u32))]),[sD,sD,sD,sD,sD],fun(x:Bool×(Bool×List Int×Unit)×Int×Bool×Int×Unit)=>g154 m x.1 x.2.1.1 x.2.1.2.1 x.2.2.1 x.2.2.2.1 x.2.2.2.2.1⟩
theorem g154_ok (m:Nat):FunOK Tryz.prog (g154_T m):=
 fok hmix htt (H:=g154_H) (g154_T m) Tryz.func154 kR (AllF.mem (l:=[g158_T m,g169_T m,g157_T m,g113_T m,g170_T m,g57_T m,g56_T m]) ⟨g158_ok m,g169_ok m,g157_ok m,g113_ok m,g170_ok m,g57_ok m,g56_ok m,trivial⟩) (L:=[]) (l:=[]) kR (fun _ hE _ _=>trivial) (fun x=>kR)
def g58_H:Hints:=⟨[⟨[],[1]⟩,⟨[],[1]⟩,⟨[],[1,11]⟩,⟨[],[2,3]⟩,⟨[],[1,4]⟩,⟨[],[1,4,5]⟩,⟨[],[1,4,5,16]⟩,⟨[(0,1)],[1,4,5]⟩,⟨[(0,1)],[1,4,5]⟩,⟨[],[4,31]⟩,⟨[],[4,33]⟩,⟨[],[2,3]⟩,⟨[(0,1)],[2,3]⟩,⟨[],[4,40]⟩,⟨[],[2,3]⟩,⟨[(0,1)],[2,3]⟩],[(0,[1,4,5])],[(0,[1,4]),(1,[1,4,5])],[2,3],[],[[false],[false]]⟩
def g58_T (m:Nat):FunT:=⟨58,[.a (.agg [.bool,(.imm (.int .u32))])],.tup [(.c (.int .i64)),(.c .bool)],[sD],fun(x:(Bool×List Int×Unit)×Unit)=>g58 m x.1.1 x.1.2.1⟩
noncomputable def g58_C:Code:=codeOf Tryz.f58
noncomputable def g58_B0:Code:=qm g58_C 0 0
theorem g58_K (m:Nat): ∀u∈[g109_T m],FunOK Tryz.prog u:=AllF.mem ⟨g109_ok m,trivial⟩
def g58_L0_X (m:Nat):LT:=⟨0,[(1,.a (.bx 0 [.bool,(.nm 1 (.int .u32))])),(4,sU),(5,sI)],[(.exit 0,[(1,.a (.bx 0 [.bool,(.nm 1 (.int .u32))])),(4,sU)])],fun n (x:(Bool×List Int×Unit)×Int×Int×Unit)=>g58_L0 m n x.1.1 x.1.2.1 x.2.1 x.2.2.1⟩
theorem g58_L0_ok {E:Entry} (hE:EOf Tryz.prog E 43 g58_H.pins) (m:Nat) (n:Nat):ql Tryz.prog E g58_B0 ((g58_L0_X m).at n):=
 lok hmix htt hE (g58_K m) (L:=[]) (g58_L0_X m) (l:=[]) kR (fun _ _=>trivial) (fun n x=>kR) (fun _=>kR) n
theorem g58_ok (m:Nat):FunOK Tryz.prog (g58_T m):=
 fok hmix htt (H:=g58_H) (g58_T m) Tryz.func58 kR (g58_K m) (L:=[(g58_L0_X m).at m]) (l:=[(0,g58_B0)]) kR (fun _ hE _ _=>⟨qg ⟨yb (g58_L0_ok hE m m),trivial⟩,trivial⟩) (fun x=>kR)
def g117_H:Hints:=⟨[⟨[],[0,2,3,4,6]⟩,⟨[],[0,2,3,4,6,11]⟩,⟨[],[0,2,3,4,6,11,22]⟩,⟨[(0,1),(1,1)],[10]⟩,⟨[(0,1)],[0,2,3,4,6,12]⟩,⟨[],[0,2,3,4,6,12,13]⟩,⟨[],[0,2,3,4,6,12,13,31]⟩,⟨[(3,1),(5,1)],[0,4,12,13]⟩,⟨[(1,1)],[0,4,12,13]⟩,⟨[(2,1)],[0,4,12,14]⟩,⟨[],[0,4,12,14,51]⟩,⟨[],[0,4,12,14]⟩,⟨[(0,1)],[0,4,12,14]⟩,⟨[(2,1)],[0,4,12,14,54]⟩,⟨[(0,1),(1,1)],[10]⟩,⟨[],[0,12,14,65]⟩,⟨[(0,1),(1,1),(5,1)],[10]⟩,⟨[(0,1),(1,1)],[10]⟩],[],[(0,[0,14])],[10],[],[[false]]⟩
def g117_T (m:Nat):FunT:=⟨117,[sB,.a (.agg [.bool,(.imm (.int .u32))]),sI,sB,sI],sU,[sD,sD,sD,sD,sD],fun(x:Bool×(Bool×List Int×Unit)×Int×Bool×Int×Unit)=>g117 m x.1 x.2.1.1 x.2.1.2.1 x.2.2.1 x.2.2.2.1 x.2.2.2.2.1⟩
theorem g117_ok (m:Nat):FunOK Tryz.prog (g117_T m):=
 fok hmix htt (H:=g117_H) (g117_T m) Tryz.func117 kR (AllF.mem (l:=[g152_T m,g153_T m,g154_T m,g58_T m,g156_T m,g155_T m]) ⟨g152_ok m,g153_ok m,g154_ok m,g58_ok m,g156_ok m,g155_ok m,trivial⟩) (L:=[]) (l:=[]) kR (fun _ hE _ _=>trivial) (fun x=>kR)
def g70_H:Hints:=⟨[⟨[],[1,2]⟩,⟨[],[1,2]⟩,⟨[],[1,2,8]⟩,⟨[],[4]⟩,⟨[],[1,2,12]⟩,⟨[],[4]⟩,⟨[(8,1)],[4]⟩],[],[],[4],[],[[false]]⟩
def g70_T (m:Nat):FunT:=⟨70,[.a (.agg [.bool,.bool,(.imm (.int .u32)),(.int .i64)]),sI],sU,[sD,sD],fun(x:(Bool×Bool×List Int×Int×Unit)×Int×Unit)=>g70 m x.1.1 x.1.2.1 x.1.2.2.1 x.1.2.2.2.1 x.2.1⟩
theorem g70_ok (m:Nat):FunOK Tryz.prog (g70_T m):=
 fok hmix htt (H:=g70_H) (g70_T m) Tryz.func70 kR (AllF.mem (l:=[g116_T m,g113_T m,g118_T m,g117_T m]) ⟨g116_ok m,g113_ok m,g118_ok m,g117_ok m,trivial⟩) (L:=[]) (l:=[]) kR (fun _ hE _ _=>trivial) (fun x=>kR)
def g27_H:Hints:=⟨[⟨[],[0]⟩,⟨[],[0,3]⟩,⟨[],[0,3,4]⟩,⟨[(0,1)],[3,4,5]⟩,⟨[],[3,4,5,15]⟩,⟨[(0,1)],[3,4]⟩,⟨[(0,1),(2,1)],[2]⟩],[],[],[2],[],[[false]]⟩
def g27_T (m:Nat):FunT:=⟨27,[sI],sU,[sD],fun(x:Int×Unit)=>g27 m x.1⟩
theorem g27_ok (m:Nat):FunOK Tryz.prog (g27_T m):=
 fok hmix htt (H:=g27_H) (g27_T m) Tryz.func27 kR (AllF.mem (l:=[g8_T m,g72_T m,g71_T m,g70_T m]) ⟨g8_ok m,g72_ok m,g71_ok m,g70_ok m,trivial⟩) (L:=[]) (l:=[]) kR (fun _ hE _ _=>trivial) (fun x=>kR)
def g28_H:Hints:=⟨[⟨[],[0,1,2,6]⟩,⟨[],[0,1,2,6,7]⟩,⟨[],[0,1,2,6,7,8]⟩,⟨[],[0,1,2,6,7,8,9]⟩,⟨[],[0,1,2,6,7,8,9,24]⟩,⟨[(0,1)],[0,1,2,6,7,8,9]⟩,⟨[],[0,1,2,6,7,8,9]⟩,⟨[],[0,1,2,6,7,8,10]⟩,⟨[],[0,1,2,6,7,8,10,46]⟩,⟨[(0,1)],[0,1,2,6,7,8,10]⟩,⟨[],[0,1,2,6,7,8,10,11]⟩,⟨[],[0,1,2,6,7,8,10,11,51]⟩,⟨[(0,1)],[0,1,2,6,7,8,10,11]⟩,⟨[],[0,1,2,6,7,8,10,11,12]⟩,⟨[],[0,1,2,6,7,8,10,11,12,63]⟩,⟨[(1,1)],[0,1,2,6,7,8,10,11,12]⟩,⟨[(3,1),(9,3)],[0,1,2,6,7,8,10,11]⟩,⟨[(1,1)],[0,1,2,6,7,8,10]⟩,⟨[(0,1)],[6]⟩],[(0,[0,1,2,6,7,8,9]),(2,[0,1,2,6,7,8,10]),(4,[0,1,2,6,7,8,10,11])],[(0,[0,1,2,6,7,8]),(1,[0,1,2,6,7,8,9]),(2,[6,7]),(3,[0,1,2,6,7,8,10]),(4,[0,1,2,6,7,8,10]),(5,[0,1,2,6,7,8,10,11])],[6],[],[[false,false,true,true,true]]⟩
def g28_T (m:Nat):FunT:=⟨28,[sI,sI,.a (.c (.imm (.pr (.int .i64) (.pr (.int .i64) (.int .u64)))))],.a (.agg [(.int .i64),(.int .i64),(.nm 0 (.int .i64)),(.nm 1 (.int .i64)),(.nm 2 (.int .u64))]),[sD,sD,sD],fun(x:Int×Int×(List (Int×Int×Int))×Unit)=>g28 m x.1 x.2.1 x.2.2.1⟩
noncomputable def g28_C:Code:=codeOf Tryz.f28
noncomputable def g28_B0:Code:=qm g28_C 0 0
noncomputable def g28_B2:Code:=qm g28_C 0 1
noncomputable def g28_B4:Code:=qm g28_B2 2 0
def g28_L2_X (m:Nat):LT:=⟨4,[(0,sI),(1,sI),(2,.a (.c (.imm (.pr (.int .i64) (.pr (.int .i64) (.int .u64)))))),(6,.a (.bx 0 [(.int .i64),(.int .i64),(.nm 1 (.int .i64)),(.nm 2 (.int .i64)),(.nm 3 (.int .u64))])),(7,.a (.bx 4 [(.int .i64),(.int .i64),(.nm 5 (.int .i64)),(.nm 6 (.int .i64)),(.nm 7 (.int .u64))])),(8,.a (.c (.nm 8 (.int .i64)))),(10,sI),(11,sI)],[(.exit 4,[(0,sI),(1,sI),(2,.a (.c (.imm (.pr (.int .i64) (.pr (.int .i64) (.int .u64)))))),(6,.a (.bx 0 [(.int .i64),(.int .i64),(.nm 1 (.int .i64)),(.nm 2 (.int .i64)),(.nm 3 (.int .u64))])),(7,.a (.bx 4 [(.int .i64),(.int .i64),(.nm 5 (.int .i64)),(.nm 6 (.int .i64)),(.nm 7 (.int .u64))])),(8,.a (.c (.nm 8 (.int .i64)))),(10,sI)])],fun n (x:Int×Int×(List (Int×Int×Int))×(Int×Int×List Int×List Int×List Int×Unit)×(Int×Int×List Int×List Int×List Int×Unit)×List Int×Int×Int×Unit)=>g28_L2 m n x.1 x.2.1 x.2.2.1 x.2.2.2.1.1 x.2.2.2.1.2.1 x.2.2.2.1.2.2.1 x.2.2.2.1.2.2.2.1 x.2.2.2.1.2.2.2.2.1 x.2.2.2.2.1.1 x.2.2.2.2.1.2.1 x.2.2.2.2.1.2.2.1 x.2.2.2.2.1.2.2.2.1 x.2.2.2.2.1.2.2.2.2.1 x.2.2.2.2.2.1 x.2.2.2.2.2.2.1 x.2.2.2.2.2.2.2.1⟩
theorem g28_L2_ok {E:Entry} (hE:EOf Tryz.prog E 90 g28_H.pins) (m:Nat) (n:Nat):ql Tryz.prog E g28_B4 ((g28_L2_X m).at n):=
 lok hmix htt hE noF (L:=[]) (g28_L2_X m) (l:=[]) kR (fun _ _=>trivial) (fun n x=>kR) (fun _=>kR) n
def g28_L1_X (m:Nat):LT:=⟨2,[(0,sI),(1,sI),(2,.a (.c (.imm (.pr (.int .i64) (.pr (.int .i64) (.int .u64)))))),(6,.a (.bx 0 [(.int .i64),(.int .i64),(.nm 1 (.int .i64)),(.nm 2 (.int .i64)),(.nm 3 (.int .u64))])),(7,.a (.bx 4 [(.int .i64),(.int .i64),(.nm 5 (.int .i64)),(.nm 6 (.int .i64)),(.nm 7 (.int .u64))])),(8,.a (.c (.nm 8 (.int .i64)))),(10,sI)],[(.exit 2,[(6,.a (.bx 0 [(.int .i64),(.int .i64),(.nm 1 (.int .i64)),(.nm 2 (.int .i64)),(.nm 3 (.int .u64))])),(7,.a (.bx 4 [(.int .i64),(.int .i64),(.nm 5 (.int .i64)),(.nm 6 (.int .i64)),(.nm 7 (.int .u64))]))])],fun n (x:Int×Int×(List (Int×Int×Int))×(Int×Int×List Int×List Int×List Int×Unit)×(Int×Int×List Int×List Int×List Int×Unit)×List Int×Int×Unit)=>g28_L1 m n x.1 x.2.1 x.2.2.1 x.2.2.2.1.1 x.2.2.2.1.2.1 x.2.2.2.1.2.2.1 x.2.2.2.1.2.2.2.1 x.2.2.2.1.2.2.2.2.1 x.2.2.2.2.1.1 x.2.2.2.2.1.2.1 x.2.2.2.2.1.2.2.1 x.2.2.2.2.1.2.2.2.1 x.2.2.2.2.1.2.2.2.2.1 x.2.2.2.2.2.1 x.2.2.2.2.2.2.1⟩
theorem g28_L1_ok {E:Entry} (hE:EOf Tryz.prog E 90 g28_H.pins) (m:Nat) (n:Nat):ql Tryz.prog E g28_B2 ((g28_L1_X m).at n):=
 lok hmix htt hE noF (L:=[(g28_L2_X m).at m]) (g28_L1_X m) (l:=[(4,g28_B4)]) kR (fun _ _=>⟨qg ⟨yb (g28_L2_ok hE m m),trivial⟩,trivial⟩) (fun n x=>kR) (fun _=>kR) n
def g28_L0_X (m:Nat):LT:=⟨0,[(0,sI),(1,sI),(2,.a (.c (.imm (.pr (.int .i64) (.pr (.int .i64) (.int .u64)))))),(6,.a (.bx 0 [(.int .i64),(.int .i64),(.nm 1 (.int .i64)),(.nm 2 (.int .i64)),(.nm 3 (.int .u64))])),(7,.a (.bx 4 [(.int .i64),(.int .i64),(.nm 5 (.int .i64)),(.nm 6 (.int .i64)),(.nm 7 (.int .u64))])),(8,.a (.c (.nm 8 (.int .i64)))),(9,sI)],[(.exit 0,[(0,sI),(1,sI),(2,.a (.c (.imm (.pr (.int .i64) (.pr (.int .i64) (.int .u64)))))),(6,.a (.bx 0 [(.int .i64),(.int .i64),(.nm 1 (.int .i64)),(.nm 2 (.int .i64)),(.nm 3 (.int .u64))])),(7,.a (.bx 4 [(.int .i64),(.int .i64),(.nm 5 (.int .i64)),(.nm 6 (.int .i64)),(.nm 7 (.int .u64))])),(8,.a (.c (.nm 8 (.int .i64))))])],fun n (x:Int×Int×(List (Int×Int×Int))×(Int×Int×List Int×List Int×List Int×Unit)×(Int×Int×List Int×List Int×List Int×Unit)×List Int×Int×Unit)=>g28_L0 m n x.1 x.2.1 x.2.2.1 x.2.2.2.1.1 x.2.2.2.1.2.1 x.2.2.2.1.2.2.1 x.2.2.2.1.2.2.2.1 x.2.2.2.1.2.2.2.2.1 x.2.2.2.2.1.1 x.2.2.2.2.1.2.1 x.2.2.2.2.1.2.2.1 x.2.2.2.2.1.2.2.2.1 x.2.2.2.2.1.2.2.2.2.1 x.2.2.2.2.2.1 x.2.2.2.2.2.2.1⟩
theorem g28_L0_ok {E:Entry} (hE:EOf Tryz.prog E 90 g28_H.pins) (m:Nat) (n:Nat):ql Tryz.prog E g28_B0 ((g28_L0_X m).at n):=
 lok hmix htt hE noF (L:=[]) (g28_L0_X m) (l:=[]) kR (fun _ _=>trivial) (fun n x=>kR) (fun _=>kR) n
theorem g28_ok (m:Nat):FunOK Tryz.prog (g28_T m):=
 fok hmix htt (H:=g28_H) (g28_T m) Tryz.func28 kR noF (L:=[(g28_L0_X m).at m,(g28_L1_X m).at m]) (l:=[(0,g28_B0),(2,g28_B2)]) kR (fun _ hE _ _=>⟨qg ⟨yb (g28_L0_ok hE m m),nb rfl,trivial⟩,qg ⟨nb rfl,yb (g28_L1_ok hE m m),trivial⟩,trivial⟩) (fun x=>kR)
def g9_H:Hints:=⟨[⟨[],[0,1,4]⟩,⟨[],[0,1,4,5]⟩,⟨[],[0,1,4,5,6]⟩,⟨[],[0,1,4,5,6,10]⟩,⟨[(0,1)],[0,1,4,5,6]⟩,⟨[(0,1)],[0,1,4,5,6]⟩,⟨[],[0,1,4,5,7]⟩,⟨[(5,1)],[0,1,4,5,7,33]⟩,⟨[(0,1)],[0,1,4,5,7]⟩,⟨[(0,1)],[0,1,4,5,7]⟩,⟨[(2,1)],[4]⟩],[(0,[0,1,4,5,6]),(2,[0,1,4,5,7])],[(0,[0,1,4,5]),(1,[0,1,4,5,6]),(2,[0,4,5]),(3,[0,1,4,5,7])],[4],[],[[false,false,true,true,true]]⟩
def g9_T (m:Nat):FunT:=⟨9,[sI,sL],.a (.agg [(.int .i64),(.int .i64),(.nm 0 (.int .i64)),(.nm 1 (.int .i64)),(.nm 2 (.int .u64))]),[sD,sD],fun(x:Int×List Int×Unit)=>g9 m x.1 x.2.1⟩
noncomputable def g9_C:Code:=codeOf Tryz.f9
noncomputable def g9_B0:Code:=qm g9_C 0 0
noncomputable def g9_B2:Code:=qm g9_C 0 1
theorem g9_K (m:Nat): ∀u∈[g10_T m,g27_T m,g8_T m,g28_T m],FunOK Tryz.prog u:=AllF.mem ⟨g10_ok m,g27_ok m,g8_ok m,g28_ok m,trivial⟩
def g9_L1_X (m:Nat):LT:=⟨2,[(0,sI),(1,sL),(4,.a (.bx 0 [(.int .i64),(.int .i64),(.nm 1 (.int .i64)),(.nm 2 (.int .i64)),(.nm 3 (.int .u64))])),(5,.a (.c (.nm 4 (.pr (.int .i64) (.pr (.int .i64) (.int .u64)))))),(7,sI)],[(.exit 2,[(0,sI),(4,.a (.bx 0 [(.int .i64),(.int .i64),(.nm 1 (.int .i64)),(.nm 2 (.int .i64)),(.nm 3 (.int .u64))])),(5,.a (.c (.nm 4 (.pr (.int .i64) (.pr (.int .i64) (.int .u64))))))])],fun n (x:Int×List Int×(Int×Int×List Int×List Int×List Int×Unit)×(List (Int×Int×Int))×Int×Unit)=>g9_L1 m n x.1 x.2.1 x.2.2.1.1 x.2.2.1.2.1 x.2.2.1.2.2.1 x.2.2.1.2.2.2.1 x.2.2.1.2.2.2.2.1 x.2.2.2.1 x.2.2.2.2.1⟩
theorem g9_L1_ok {E:Entry} (hE:EOf Tryz.prog E 63 g9_H.pins) (m:Nat) (n:Nat):ql Tryz.prog E g9_B2 ((g9_L1_X m).at n):=
 lok hmix htt hE (g9_K m) (L:=[]) (g9_L1_X m) (l:=[]) kR (fun _ _=>trivial) (fun n x=>kR) (fun _=>kR) n
def g9_L0_X (m:Nat):LT:=⟨0,[(0,sI),(1,sL),(4,.a (.bx 0 [(.int .i64),(.int .i64),(.nm 1 (.int .i64)),(.nm 2 (.int .i64)),(.nm 3 (.int .u64))])),(5,.a (.c (.nm 4 (.pr (.int .i64) (.pr (.int .i64) (.int .u64)))))),(6,sI)],[(.exit 0,[(0,sI),(1,sL),(4,.a (.bx 0 [(.int .i64),(.int .i64),(.nm 1 (.int .i64)),(.nm 2 (.int .i64)),(.nm 3 (.int .u64))])),(5,.a (.c (.nm 4 (.pr (.int .i64) (.pr (.int .i64) (.int .u64))))))])],fun n (x:Int×List Int×(Int×Int×List Int×List Int×List Int×Unit)×(List (Int×Int×Int))×Int×Unit)=>g9_L0 m n x.1 x.2.1 x.2.2.1.1 x.2.2.1.2.1 x.2.2.1.2.2.1 x.2.2.1.2.2.2.1 x.2.2.1.2.2.2.2.1 x.2.2.2.1 x.2.2.2.2.1⟩
theorem g9_L0_ok {E:Entry} (hE:EOf Tryz.prog E 63 g9_H.pins) (m:Nat) (n:Nat):ql Tryz.prog E g9_B0 ((g9_L0_X m).at n):=
 lok hmix htt hE (g9_K m) (L:=[]) (g9_L0_X m) (l:=[]) kR (fun _ _=>trivial) (fun n x=>kR) (fun _=>kR) n
theorem g9_ok (m:Nat):FunOK Tryz.prog (g9_T m):=
 fok hmix htt (H:=g9_H) (g9_T m) Tryz.func9 kR (g9_K m) (L:=[(g9_L0_X m).at m,(g9_L1_X m).at m]) (l:=[(0,g9_B0),(2,g9_B2)]) kR (fun _ hE _ _=>⟨qg ⟨yb (g9_L0_ok hE m m),nb rfl,trivial⟩,qg ⟨nb rfl,yb (g9_L1_ok hE m m),trivial⟩,trivial⟩) (fun x=>kR)
def g31_H:Hints:=⟨[⟨[],[0]⟩,⟨[(0,1),(2,1)],[3,4]⟩,⟨[(2,1)],[3,4,10]⟩,⟨[],[2]⟩,⟨[],[3,4,17]⟩,⟨[],[2]⟩,⟨[(0,1),(2,1),(3,1)],[20]⟩,⟨[],[2]⟩,⟨[],[2]⟩],[],[(0,[])],[2],[],[[false]]⟩
def g31_T (m:Nat):FunT:=⟨31,[sU],sI,[sD],fun(x:Int×Unit)=>g31 m x.1⟩
theorem g31_ok (m:Nat):FunOK Tryz.prog (g31_T m):=
 fok hmix htt (H:=g31_H) (g31_T m) Tryz.func31 kR (AllF.mem (l:=[g77_T m]) ⟨g77_ok m,trivial⟩) (L:=[]) (l:=[]) kR (fun _ hE _ _=>trivial) (fun x=>kR)
def g33_H:Hints:=⟨[⟨[],[1,2,4]⟩,⟨[(2,1)],[1,2,4,5]⟩,⟨[(0,1)],[1,2,4,12]⟩,⟨[],[4]⟩,⟨[(4,1)],[4]⟩],[],[],[4],[],[[false,false,false,false]]⟩
def g33_T (m:Nat):FunT:=⟨33,[.a (.agg [.bool,.bool,(.imm (.int .u32)),(.int .i64)]),sI],.a (.agg [.bool,.bool,(.imm (.int .u32)),(.int .i64)]),[sD,sD],fun(x:(Bool×Bool×List Int×Int×Unit)×Int×Unit)=>g33 m x.1.1 x.1.2.1 x.1.2.2.1 x.1.2.2.2.1 x.2.1⟩
theorem g33_ok (m:Nat):FunOK Tryz.prog (g33_T m):=
 fok hmix htt (H:=g33_H) (g33_T m) Tryz.func33 kR (AllF.mem (l:=[g78_T m,g79_T m,g80_T m]) ⟨g78_ok m,g79_ok m,g80_ok m,trivial⟩) (L:=[]) (l:=[]) kR (fun _ hE _ _=>trivial) (fun x=>kR)
def g98_H:Hints:=⟨[⟨[],[1,2]⟩,⟨[(2,1)],[1,2]⟩,⟨[],[2]⟩],[],[],[2],[],[[false,false,false,false]]⟩
def g98_T (m:Nat):FunT:=⟨98,[.a (.agg [.bool,.bool,(.imm (.int .u32)),(.int .i64)])],.a (.agg [.bool,.bool,(.imm (.int .u32)),(.int .i64)]),[sD],fun(x:(Bool×Bool×List Int×Int×Unit)×Unit)=>g98 m x.1.1 x.1.2.1 x.1.2.2.1 x.1.2.2.2.1⟩
theorem g98_ok (m:Nat):FunOK Tryz.prog (g98_T m):=
 fok hmix htt (H:=g98_H) (g98_T m) Tryz.func98 kR (AllF.mem (l:=[g78_T m]) ⟨g78_ok m,trivial⟩) (L:=[]) (l:=[]) kR (fun _ hE _ _=>trivial) (fun x=>kR)
def g50_H:Hints:=⟨[⟨[],[1]⟩,⟨[(2,1)],[1]⟩,⟨[],[2]⟩],[],[],[2],[],[[false]]⟩
def g50_T (m:Nat):FunT:=⟨50,[.a (.agg [.bool,.bool,(.imm (.int .u32)),(.int .i64)])],sI,[sD],fun(x:(Bool×Bool×List Int×Int×Unit)×Unit)=>g50 m x.1.1 x.1.2.1 x.1.2.2.1 x.1.2.2.2.1⟩
theorem g50_ok (m:Nat):FunOK Tryz.prog (g50_T m):=
 fok hmix htt (H:=g50_H) (g50_T m) Tryz.func50 kR (AllF.mem (l:=[g78_T m,g97_T m]) ⟨g78_ok m,g97_ok m,trivial⟩) (L:=[]) (l:=[]) kR (fun _ hE _ _=>trivial) (fun x=>kR)
def g142_H:Hints:=⟨[⟨[],[1,2]⟩,⟨[],[2]⟩],[],[],[2],[],[[false,false]]⟩
def g142_T (m:Nat):FunT:=⟨142,[.a (.agg [.bool,(.imm (.int .u32))])],.a (.agg [.bool,(.imm (.int .u32))]),[sD],fun(x:(Bool×List Int×Unit)×Unit)=>g142 m x.1.1 x.1.2.1⟩
theorem g142_ok (m:Nat):FunOK Tryz.prog (g142_T m):=
 fok hmix htt (H:=g142_H) (g142_T m) Tryz.func142 kR (AllF.mem (l:=[g128_T m,g127_T m]) ⟨g128_ok m,g127_ok m,trivial⟩) (L:=[]) (l:=[]) kR (fun _ hE _ _=>trivial) (fun x=>kR)
def g100_H:Hints:=⟨[⟨[],[1,2]⟩,⟨[],[2]⟩],[],[],[2],[],[[false,false,false,false,false]]⟩
def g100_T (m:Nat):FunT:=⟨100,[.a (.agg [.bool,.bool,(.imm (.int .u32)),(.int .i64)])],.a (.agg [.bool,.bool,(.imm (.int .u32)),(.int .i64),.bool]),[sD],fun(x:(Bool×Bool×List Int×Int×Unit)×Unit)=>g100 m x.1.1 x.1.2.1 x.1.2.2.1 x.1.2.2.2.1⟩
theorem g100_ok (m:Nat):FunOK Tryz.prog (g100_T m):=
 fok hmix htt (H:=g100_H) (g100_T m) Tryz.func100 kR (AllF.mem (l:=[g142_T m]) ⟨g142_ok m,trivial⟩) (L:=[]) (l:=[]) kR (fun _ hE _ _=>trivial) (fun x=>kR)
def g140_H:Hints:=⟨[⟨[],[1]⟩,⟨[],[2]⟩],[],[],[2],[],[[false]]⟩
def g140_T (m:Nat):FunT:=⟨140,[.a (.agg [.bool,.bool,(.imm (.int .u32)),(.int .i64),.bool])],sI,[sD],fun(x:(Bool×Bool×List Int×Int×Bool×Unit)×Unit)=>g140 m x.1.1 x.1.2.1 x.1.2.2.1 x.1.2.2.2.1 x.1.2.2.2.2.1⟩
theorem g140_ok (m:Nat):FunOK Tryz.prog (g140_T m):=
 fok hmix htt (H:=g140_H) (g140_T m) Tryz.func140 kR (AllF.mem (l:=[g125_T m]) ⟨g125_ok m,trivial⟩) (L:=[]) (l:=[]) kR (fun _ hE _ _=>trivial) (fun x=>kR)
def g146_H:Hints:=⟨[⟨[],[1,2,4]⟩,⟨[(1,1),(3,1)],[2,4]⟩,⟨[],[4]⟩],[],[],[4],[],[[false,false]]⟩
def g146_T (m:Nat):FunT:=⟨146,[.a (.agg [.bool,(.imm (.int .u32))]),sI],.a (.agg [.bool,(.imm (.int .u32))]),[sD,sD],fun(x:(Bool×List Int×Unit)×Int×Unit)=>g146 m x.1.1 x.1.2.1 x.2.1⟩
theorem g146_ok (m:Nat):FunOK Tryz.prog (g146_T m):=
 fok hmix htt (H:=g146_H) (g146_T m) Tryz.func146 kR (AllF.mem (l:=[g161_T m]) ⟨g161_ok m,trivial⟩) (L:=[]) (l:=[]) kR (fun _ hE _ _=>trivial) (fun x=>kR)
def g133_H:Hints:=⟨[⟨[],[0,1]⟩,⟨[],[0,1,5]⟩,⟨[],[0,1,5,6]⟩,⟨[(0,1)],[0,1,6,11]⟩,⟨[(0,1)],[12]⟩,⟨[],[4]⟩,⟨[],[4]⟩,⟨[(0,1)],[0,1,13]⟩,⟨[],[4]⟩,⟨[],[0,1,16]⟩,⟨[],[4]⟩,⟨[(0,1),(1,1)],[19]⟩,⟨[],[4]⟩,⟨[],[4]⟩],[],[],[4],[],[[false]]⟩
def g133_T (m:Nat):FunT:=⟨133,[sI,sI],sI,[sD,sD],fun(x:Int×Int×Unit)=>g133 m x.1 x.2.1⟩
theorem g133_ok (m:Nat):FunOK Tryz.prog (g133_T m):=
 fok hmix htt (H:=g133_H) (g133_T m) Tryz.func133 kR (AllF.mem (l:=[g163_T m]) ⟨g163_ok m,trivial⟩) (L:=[]) (l:=[]) kR (fun _ hE _ _=>trivial) (fun x=>kR)
def g180_H:Hints:=⟨[⟨[],[0]⟩,⟨[],[2]⟩],[],[],[2],[],[[false]]⟩
def g180_T (m:Nat):FunT:=⟨180,[.a (.c (.int .u32))],sB,[sD],fun(x:Int×Unit)=>g180 m x.1⟩
theorem g180_ok (m:Nat):FunOK Tryz.prog (g180_T m):=
 fok hmix htt (H:=g180_H) (g180_T m) Tryz.func180 kR noF (L:=[]) (l:=[]) kR (fun _ hE _ _=>trivial) (fun x=>kR)
def g166_H:Hints:=⟨[⟨[],[0,1]⟩,⟨[],[0,1,5]⟩,⟨[],[0,1,5,6]⟩,⟨[(0,1)],[0,1,6,11]⟩,⟨[(0,1)],[12]⟩,⟨[],[4]⟩,⟨[],[4]⟩,⟨[(0,1)],[0,1,13]⟩,⟨[],[4]⟩,⟨[],[0,1,16]⟩,⟨[],[4]⟩,⟨[(0,1),(1,1)],[19]⟩,⟨[],[4]⟩,⟨[],[4]⟩],[],[],[4],[],[[false]]⟩
def g166_T (m:Nat):FunT:=⟨166,[.a (.c (.int .u32)),.a (.c (.int .u32))],sI,[sD,sD],fun(x:Int×Int×Unit)=>g166 m x.1 x.2.1⟩
theorem g166_ok (m:Nat):FunOK Tryz.prog (g166_T m):=
 fok hmix htt (H:=g166_H) (g166_T m) Tryz.func166 kR (AllF.mem (l:=[g180_T m]) ⟨g180_ok m,trivial⟩) (L:=[]) (l:=[]) kR (fun _ hE _ _=>trivial) (fun x=>kR)
def g147_H:Hints:=⟨[⟨[],[0,1]⟩,⟨[],[0,1,10]⟩,⟨[(0,1),(2,1)],[4]⟩,⟨[],[0,1,5]⟩,⟨[],[0,1,5,20]⟩,⟨[(0,1)],[0,1,5]⟩,⟨[],[0,1,5,31]⟩,⟨[(0,1),(4,1)],[4]⟩,⟨[],[4]⟩],[(0,[0,1,5])],[(0,[]),(1,[0,1,5])],[4],[],[[false]]⟩
def g147_T (m:Nat):FunT:=⟨147,[.a (.c (.imm (.int .u32))),.a (.c (.imm (.int .u32)))],sI,[sD,sD],fun(x:List Int×List Int×Unit)=>g147 m x.1 x.2.1⟩
noncomputable def g147_C:Code:=codeOf Tryz.f147
noncomputable def g147_B0:Code:=qm g147_C 0 0
theorem g147_K (m:Nat): ∀u∈[g133_T m,g166_T m],FunOK Tryz.prog u:=AllF.mem ⟨g133_ok m,g166_ok m,trivial⟩
def g147_L0_X (m:Nat):LT:=⟨0,[(0,.a (.c (.imm (.int .u32)))),(1,.a (.c (.imm (.int .u32)))),(5,sI)],[(.ret,[(4,sI)]),(.exit 0,[])],fun n (x:List Int×List Int×Int×Unit)=>g147_L0 m n x.1 x.2.1 x.2.2.1⟩
theorem g147_L0_ok {E:Entry} (hE:EOf Tryz.prog E 41 g147_H.pins) (m:Nat) (n:Nat):ql Tryz.prog E g147_B0 ((g147_L0_X m).at n):=
 lok hmix htt hE (g147_K m) (L:=[]) (g147_L0_X m) (l:=[]) kR (fun _ _=>trivial) (fun n x=>kR) (fun _=>kR) n
theorem g147_ok (m:Nat):FunOK Tryz.prog (g147_T m):=
 fok hmix htt (H:=g147_H) (g147_T m) Tryz.func147 kR (g147_K m) (L:=[(g147_L0_X m).at m]) (l:=[(0,g147_B0)]) kR (fun _ hE _ _=>⟨qg ⟨yb (g147_L0_ok hE m m),trivial⟩,trivial⟩) (fun x=>kR)
def g179_H:Hints:=⟨[⟨[],[0,1]⟩,⟨[],[0,1,5]⟩,⟨[],[0,1,5,6]⟩,⟨[(0,1)],[1,5,6,13,14,15]⟩,⟨[],[1,5,6,13,14,15,16]⟩,⟨[],[1,5,6,7,8,13,14,15]⟩,⟨[(0,1),(2,1)],[1,5,7,9,13,14,15]⟩,⟨[],[1,5,7,9,13,14,15,27]⟩,⟨[(0,1)],[1,5,7,9,13,14,15]⟩,⟨[(1,1)],[1,5,9,13,14,15]⟩,⟨[(0,1)],[1,5,6,13,14,15]⟩,⟨[(1,1)],[1,5,6,13,14,15]⟩,⟨[(0,1)],[4]⟩],[(0,[1,5,6,13,14,15])],[(0,[5]),(1,[1,5,6,13,14,15])],[4],[],[[false]]⟩
def g179_T (m:Nat):FunT:=⟨179,[.a (.c (.imm (.int .u32))),.a (.c (.imm (.int .u32)))],.a (.c (.imm (.int .u32))),[sD,sD],fun(x:List Int×List Int×Unit)=>g179 m x.1 x.2.1⟩
noncomputable def g179_C:Code:=codeOf Tryz.f179
noncomputable def g179_B0:Code:=qm g179_C 0 0
theorem g179_K (m:Nat): ∀u∈[g139_T m],FunOK Tryz.prog u:=AllF.mem ⟨g139_ok m,trivial⟩
def g179_L0_X (m:Nat):LT:=⟨0,[(1,.a (.c (.imm (.int .u32)))),(5,.a (.c (.nm 0 (.int .u32)))),(6,sU),(13,.a (.c (.imm (.int .u32)))),(14,sI),(15,sI)],[(.exit 0,[(5,.a (.c (.nm 0 (.int .u32))))])],fun n (x:List Int×List Int×Int×List Int×Int×Int×Unit)=>g179_L0 m n x.1 x.2.1 x.2.2.1 x.2.2.2.1 x.2.2.2.2.1 x.2.2.2.2.2.1⟩
theorem g179_L0_ok {E:Entry} (hE:EOf Tryz.prog E 47 g179_H.pins) (m:Nat) (n:Nat):ql Tryz.prog E g179_B0 ((g179_L0_X m).at n):=
 lok hmix htt hE (g179_K m) (L:=[]) (g179_L0_X m) (l:=[]) kR (fun _ _=>trivial) (fun n x=>kR) (fun _=>kR) n
theorem g179_ok (m:Nat):FunOK Tryz.prog (g179_T m):=
 fok hmix htt (H:=g179_H) (g179_T m) Tryz.func179 kR (g179_K m) (L:=[(g179_L0_X m).at m]) (l:=[(0,g179_B0)]) kR (fun _ hE _ _=>⟨qg ⟨yb (g179_L0_ok hE m m),trivial⟩,trivial⟩) (fun x=>kR)
def g165_H:Hints:=⟨[⟨[],[2,3,4]⟩,⟨[],[2,3,4,5,6]⟩,⟨[],[2,3,4,5,6,13]⟩,⟨[(2,1),(3,1)],[4]⟩,⟨[],[2,3,4,5,6,25]⟩,⟨[(2,1),(3,1)],[4]⟩,⟨[(2,1),(3,1)],[4]⟩],[],[(0,[3,4,5,6])],[4],[],[[false,false]]⟩
def g165_T (m:Nat):FunT:=⟨165,[.a (.agg [.bool,(.imm (.int .u32))]),.a (.agg [.bool,(.imm (.int .u32))])],.a (.agg [.bool,(.imm (.int .u32))]),[sD,sD],fun(x:(Bool×List Int×Unit)×(Bool×List Int×Unit)×Unit)=>g165 m x.1.1 x.1.2.1 x.2.1.1 x.2.1.2.1⟩
theorem g165_ok (m:Nat):FunOK Tryz.prog (g165_T m):=
 fok hmix htt (H:=g165_H) (g165_T m) Tryz.func165 kR (AllF.mem (l:=[g139_T m,g175_T m,g127_T m,g147_T m,g179_T m]) ⟨g139_ok m,g175_ok m,g127_ok m,g147_ok m,g179_ok m,trivial⟩) (L:=[]) (l:=[]) kR (fun _ hE _ _=>trivial) (fun x=>kR)
def g178_H:Hints:=⟨[⟨[],[2,3,4]⟩,⟨[],[2,3,4]⟩,⟨[],[4]⟩],[],[],[4],[],[[false,false]]⟩
def g178_T (m:Nat):FunT:=⟨178,[.a (.agg [.bool,(.imm (.int .u32))]),.a (.agg [.bool,(.imm (.int .u32))])],.a (.agg [.bool,(.imm (.int .u32))]),[sD,sD],fun(x:(Bool×List Int×Unit)×(Bool×List Int×Unit)×Unit)=>g178 m x.1.1 x.1.2.1 x.2.1.1 x.2.1.2.1⟩
theorem g178_ok (m:Nat):FunOK Tryz.prog (g178_T m):=
 fok hmix htt (H:=g178_H) (g178_T m) Tryz.func178 kR (AllF.mem (l:=[g165_T m]) ⟨g165_ok m,trivial⟩) (L:=[]) (l:=[]) kR (fun _ hE _ _=>trivial) (fun x=>kR)
def g103_H:Hints:=⟨[⟨[],[2,3]⟩,⟨[],[2,3,5,6]⟩,⟨[],[2,3,5,6,11]⟩,⟨[],[4]⟩,⟨[(1,1)],[2,3,5,15]⟩,⟨[],[4]⟩,⟨[(0,1)],[4]⟩],[],[(0,[2,3,5])],[4],[],[[false]]⟩
def g103_T (m:Nat):FunT:=⟨103,[.a (.agg [.bool,(.imm (.int .u32))]),.a (.agg [.bool,(.imm (.int .u32))])],sI,[sD,sD],fun(x:(Bool×List Int×Unit)×(Bool×List Int×Unit)×Unit)=>g103 m x.1.1 x.1.2.1 x.2.1.1 x.2.1.2.1⟩
theorem g103_ok (m:Nat):FunOK Tryz.prog (g103_T m):=
 fok hmix htt (H:=g103_H) (g103_T m) Tryz.func103 kR (AllF.mem (l:=[g97_T m,g139_T m,g147_T m]) ⟨g97_ok m,g139_ok m,g147_ok m,trivial⟩) (L:=[]) (l:=[]) kR (fun _ hE _ _=>trivial) (fun x=>kR)
def g164_H:Hints:=⟨[⟨[],[1,2,4]⟩,⟨[],[1,2,4,7]⟩,⟨[(1,1)],[1,2,4,14]⟩,⟨[],[4,5,6]⟩,⟨[],[1,2,4]⟩,⟨[],[1,2,4,8]⟩,⟨[(2,1)],[2,4,5,8]⟩,⟨[(2,1)],[2,4,5,8,37]⟩,⟨[],[2,4,5,8]⟩,⟨[(1,1),(5,1)],[4,5,6]⟩],[],[],[4,5,6],[],[[false,false],[false],[false]]⟩
def g164_T (m:Nat):FunT:=⟨164,[.a (.agg [.bool,.bool,(.imm (.int .u32)),(.int .i64),.bool]),sI],.tup [(.agg [.bool,(.imm (.int .u32))]),(.c (.int .i64)),(.c .bool)],[sD,sD],fun(x:(Bool×Bool×List Int×Int×Bool×Unit)×Int×Unit)=>g164 m x.1.1 x.1.2.1 x.1.2.2.1 x.1.2.2.2.1 x.1.2.2.2.2.1 x.2.1⟩
theorem g164_ok (m:Nat):FunOK Tryz.prog (g164_T m):=
 fok hmix htt (H:=g164_H) (g164_T m) Tryz.func164 kR (AllF.mem (l:=[g125_T m,g126_T m,g146_T m,g178_T m,g81_T m,g103_T m,g97_T m]) ⟨g125_ok m,g126_ok m,g146_ok m,g178_ok m,g81_ok m,g103_ok m,g97_ok m,trivial⟩) (L:=[]) (l:=[]) kR (fun _ hE _ _=>trivial) (fun x=>kR)
def g143_H:Hints:=⟨[⟨[],[1,2,3,6]⟩,⟨[],[1,2,3,6,7,8,9]⟩,⟨[],[1,2,3,6,7,8,9,16]⟩,⟨[(3,1)],[2,3,6,7,8,9]⟩,⟨[(1,1),(6,1)],[2,3,6,7,8,9]⟩,⟨[],[2,3,6,7,8,9,10]⟩,⟨[(2,1),(5,1),(10,1)],[3,6,7,10]⟩,⟨[(0,1)],[2,3,6,7,8,10,49]⟩,⟨[],[2,3,6,7,8,10,51]⟩,⟨[],[3,6,7,10]⟩,⟨[],[2,3,6,7,8,10,56]⟩,⟨[],[3,6,7,10]⟩,⟨[(0,1)],[3,6,7,8,10,62]⟩,⟨[(0,1)],[3,6,7,65]⟩,⟨[],[3,6,7]⟩,⟨[],[6,7,70]⟩,⟨[],[6,7]⟩,⟨[],[6]⟩],[],[(0,[3,6,7,10])],[6],[],[[false,false]]⟩
def g143_T (m:Nat):FunT:=⟨143,[.a (.agg [.bool,.bool,(.imm (.int .u32)),(.int .i64),.bool]),sI,sI],.a (.agg [.bool,(.imm (.int .u32))]),[sD,sD,sD],fun(x:(Bool×Bool×List Int×Int×Bool×Unit)×Int×Int×Unit)=>g143 m x.1.1 x.1.2.1 x.1.2.2.1 x.1.2.2.2.1 x.1.2.2.2.2.1 x.2.1 x.2.2.1⟩
theorem g143_ok (m:Nat):FunOK Tryz.prog (g143_T m):=
 fok hmix htt (H:=g143_H) (g143_T m) Tryz.func143 kR (AllF.mem (l:=[g146_T m,g83_T m,g164_T m,g81_T m,g165_T m,g97_T m,g124_T m]) ⟨g146_ok m,g83_ok m,g164_ok m,g81_ok m,g165_ok m,g97_ok m,g124_ok m,trivial⟩) (L:=[]) (l:=[]) kR (fun _ hE _ _=>trivial) (fun x=>kR)
def g141_H:Hints:=⟨[⟨[],[1]⟩,⟨[],[1,4]⟩,⟨[],[1,4,13]⟩,⟨[],[2,3]⟩,⟨[],[1,4,5]⟩,⟨[(0,1)],[1,5,14,15,16]⟩,⟨[],[1,5,14,15,16,17]⟩,⟨[],[1,5,6,7,14,15,16]⟩,⟨[(0,1),(1,1),(3,1)],[1,5,14,15,16]⟩,⟨[(1,1)],[1,5,14,15,16]⟩,⟨[(2,1),(6,1)],[1,5,29]⟩,⟨[(0,1)],[2,3]⟩,⟨[(2,1),(6,1)],[5,45]⟩,⟨[(0,1)],[2,3]⟩,⟨[],[2,3]⟩],[(0,[1,5,14,15,16])],[(0,[1,5]),(1,[1,5,14,15,16]),(2,[])],[2,3],[],[[false],[false]]⟩
def g141_T (m:Nat):FunT:=⟨141,[.a (.agg [.bool,(.imm (.int .u32))])],.tup [(.c (.int .i64)),(.c .bool)],[sD],fun(x:(Bool×List Int×Unit)×Unit)=>g141 m x.1.1 x.1.2.1⟩
noncomputable def g141_C:Code:=codeOf Tryz.f141
noncomputable def g141_B0:Code:=qm g141_C 0 0
theorem g141_K (m:Nat): ∀u∈[g139_T m],FunOK Tryz.prog u:=AllF.mem ⟨g139_ok m,trivial⟩
def g141_L0_X (m:Nat):LT:=⟨0,[(1,.a (.bx 0 [.bool,(.imm (.int .u32))])),(5,sU),(14,.a (.c (.imm (.int .u32)))),(15,sI),(16,sI)],[(.exit 0,[(1,.a (.bx 0 [.bool,(.imm (.int .u32))])),(5,sU)])],fun n (x:(Bool×List Int×Unit)×Int×List Int×Int×Int×Unit)=>g141_L0 m n x.1.1 x.1.2.1 x.2.1 x.2.2.1 x.2.2.2.1 x.2.2.2.2.1⟩
theorem g141_L0_ok {E:Entry} (hE:EOf Tryz.prog E 59 g141_H.pins) (m:Nat) (n:Nat):ql Tryz.prog E g141_B0 ((g141_L0_X m).at n):=
 lok hmix htt hE (g141_K m) (L:=[]) (g141_L0_X m) (l:=[]) kR (fun _ _=>trivial) (fun n x=>kR) (fun _=>kR) n
theorem g141_ok (m:Nat):FunOK Tryz.prog (g141_T m):=
 fok hmix htt (H:=g141_H) (g141_T m) Tryz.func141 kR (g141_K m) (L:=[(g141_L0_X m).at m]) (l:=[(0,g141_B0)]) kR (fun _ hE _ _=>⟨qg ⟨yb (g141_L0_ok hE m m),trivial⟩,trivial⟩) (fun x=>kR)
def g144_H:Hints:=⟨[⟨[],[0,1]⟩,⟨[(0,1)],[0,5]⟩,⟨[(0,1)],[4]⟩,⟨[(0,1)],[4]⟩],[],[],[4],[],[[false]]⟩
def g144_T (m:Nat):FunT:=⟨144,[sU,sB],sU,[sD,sD],fun(x:Int×Bool×Unit)=>g144 m x.1 x.2.1⟩
theorem g144_ok (m:Nat):FunOK Tryz.prog (g144_T m):=
 fok hmix htt (H:=g144_H) (g144_T m) Tryz.func144 kR noF (L:=[]) (l:=[]) kR (fun _ hE _ _=>trivial) (fun x=>kR)
def g145_H:Hints:=⟨[⟨[],[0,1]⟩,⟨[(2,1),(5,1),(10,1),(13,1)],[0,21]⟩,⟨[(0,1)],[4]⟩,⟨[(0,1)],[4]⟩],[],[],[4],[],[[false]]⟩
def g145_T (m:Nat):FunT:=⟨145,[sB,sI],sU,[sD,sD],fun(x:Bool×Int×Unit)=>g145 m x.1 x.2.1⟩
theorem g145_ok (m:Nat):FunOK Tryz.prog (g145_T m):=
 fok hmix htt (H:=g145_H) (g145_T m) Tryz.func145 kR (AllF.mem (l:=[g144_T m]) ⟨g144_ok m,trivial⟩) (L:=[]) (l:=[]) kR (fun _ hE _ _=>trivial) (fun x=>kR)
def g99_H:Hints:=⟨[⟨[],[1,2]⟩,⟨[],[1,2,5]⟩,⟨[(6,1)],[1,2,5,6]⟩,⟨[(0,1)],[1,2,5,8]⟩,⟨[],[1,2,5,8,25]⟩,⟨[(0,1)],[1,2,5,8]⟩,⟨[],[1,2,5,8,29]⟩,⟨[(0,1)],[4]⟩,⟨[],[1,2,5,8,36]⟩,⟨[(2,1)],[4]⟩,⟨[(0,1),(4,1)],[4]⟩],[],[],[4],[],[[false]]⟩
def g99_T (m:Nat):FunT:=⟨99,[.a (.agg [.bool,.bool,(.imm (.int .u32)),(.int .i64),.bool]),sI],sU,[sD,sD],fun(x:(Bool×Bool×List Int×Int×Bool×Unit)×Int×Unit)=>g99 m x.1.1 x.1.2.1 x.1.2.2.1 x.1.2.2.2.1 x.1.2.2.2.2.1 x.2.1⟩
theorem g99_ok (m:Nat):FunOK Tryz.prog (g99_T m):=
 fok hmix htt (H:=g99_H) (g99_T m) Tryz.func99 kR (AllF.mem (l:=[g140_T m,g143_T m,g142_T m,g141_T m,g145_T m,g144_T m]) ⟨g140_ok m,g143_ok m,g142_ok m,g141_ok m,g145_ok m,g144_ok m,trivial⟩) (L:=[]) (l:=[]) kR (fun _ hE _ _=>trivial) (fun x=>kR)
def g52_H:Hints:=⟨[⟨[],[1,2]⟩,⟨[],[1,2]⟩,⟨[],[1,2,7]⟩,⟨[],[4]⟩,⟨[],[1,2,10]⟩,⟨[],[4]⟩,⟨[(2,1)],[4]⟩],[],[(0,[1,2])],[4],[],[[false]]⟩
def g52_T (m:Nat):FunT:=⟨52,[.a (.agg [.bool,.bool,(.imm (.int .u32)),(.int .i64)]),sI],sU,[sD,sD],fun(x:(Bool×Bool×List Int×Int×Unit)×Int×Unit)=>g52 m x.1.1 x.1.2.1 x.1.2.2.1 x.1.2.2.2.1 x.2.1⟩
theorem g52_ok (m:Nat):FunOK Tryz.prog (g52_T m):=
 fok hmix htt (H:=g52_H) (g52_T m) Tryz.func52 kR (AllF.mem (l:=[g98_T m,g50_T m,g100_T m,g99_T m]) ⟨g98_ok m,g50_ok m,g100_ok m,g99_ok m,trivial⟩) (L:=[]) (l:=[]) kR (fun _ hE _ _=>trivial) (fun x=>kR)
def g101_H:Hints:=⟨[⟨[],[2,3,4,5]⟩,⟨[(2,1)],[3,4,5,6]⟩,⟨[(2,1)],[4,5,6,7]⟩,⟨[(2,1),(3,1),(4,1)],[4,5,6]⟩],[],[],[4,5,6],[],[[false,false,false,false],[false,false,false,false],[false]]⟩
def g101_T (m:Nat):FunT:=⟨101,[.a (.agg [.bool,.bool,(.imm (.int .u32)),(.int .i64)]),.a (.agg [.bool,.bool,(.imm (.int .u32)),(.int .i64)])],.tup [(.agg [.bool,.bool,(.imm (.int .u32)),(.int .i64)]),(.agg [.bool,.bool,(.imm (.int .u32)),(.int .i64)]),(.c .bool)],[sD,sD],fun(x:(Bool×Bool×List Int×Int×Unit)×(Bool×Bool×List Int×Int×Unit)×Unit)=>g101 m x.1.1 x.1.2.1 x.1.2.2.1 x.1.2.2.2.1 x.2.1.1 x.2.1.2.1 x.2.1.2.2.1 x.2.1.2.2.2.1⟩
theorem g101_ok (m:Nat):FunOK Tryz.prog (g101_T m):=
 fok hmix htt (H:=g101_H) (g101_T m) Tryz.func101 kR (AllF.mem (l:=[g78_T m]) ⟨g78_ok m,trivial⟩) (L:=[]) (l:=[]) kR (fun _ hE _ _=>trivial) (fun x=>kR)
def g102_H:Hints:=⟨[⟨[],[2,3,4,5]⟩,⟨[],[2,3,4,5,6]⟩,⟨[],[4,5,6]⟩],[],[],[4,5,6],[],[[false,false],[false,false],[false]]⟩
def g102_T (m:Nat):FunT:=⟨102,[.a (.agg [.bool,.bool,(.imm (.int .u32)),(.int .i64)]),.a (.agg [.bool,.bool,(.imm (.int .u32)),(.int .i64)])],.tup [(.agg [.bool,(.imm (.int .u32))]),(.agg [.bool,(.imm (.int .u32))]),(.c (.int .i64))],[sD,sD],fun(x:(Bool×Bool×List Int×Int×Unit)×(Bool×Bool×List Int×Int×Unit)×Unit)=>g102 m x.1.1 x.1.2.1 x.1.2.2.1 x.1.2.2.2.1 x.2.1.1 x.2.1.2.1 x.2.1.2.2.1 x.2.1.2.2.2.1⟩
theorem g102_ok (m:Nat):FunOK Tryz.prog (g102_T m):=
 fok hmix htt (H:=g102_H) (g102_T m) Tryz.func102 kR (AllF.mem (l:=[g146_T m]) ⟨g146_ok m,trivial⟩) (L:=[]) (l:=[]) kR (fun _ hE _ _=>trivial) (fun x=>kR)
def g53_H:Hints:=⟨[⟨[],[2,3]⟩,⟨[(3,1)],[2,3,6]⟩,⟨[(0,1)],[2,3,18]⟩,⟨[],[4,5]⟩,⟨[(3,1)],[7,8]⟩,⟨[],[4,5]⟩],[],[],[4,5],[],[[false],[false]]⟩
def g53_T (m:Nat):FunT:=⟨53,[.a (.agg [.bool,.bool,(.imm (.int .u32)),(.int .i64)]),.a (.agg [.bool,.bool,(.imm (.int .u32)),(.int .i64)])],.tup [(.c (.int .i64)),(.c .bool)],[sD,sD],fun(x:(Bool×Bool×List Int×Int×Unit)×(Bool×Bool×List Int×Int×Unit)×Unit)=>g53 m x.1.1 x.1.2.1 x.1.2.2.1 x.1.2.2.2.1 x.2.1.1 x.2.1.2.1 x.2.1.2.2.1 x.2.1.2.2.2.1⟩
theorem g53_ok (m:Nat):FunOK Tryz.prog (g53_T m):=
 fok hmix htt (H:=g53_H) (g53_T m) Tryz.func53 kR (AllF.mem (l:=[g101_T m,g102_T m,g103_T m]) ⟨g101_ok m,g102_ok m,g103_ok m,trivial⟩) (L:=[]) (l:=[]) kR (fun _ hE _ _=>trivial) (fun x=>kR)
def g129_H:Hints:={regs:=[⟨[],[0]⟩,⟨[],[0]⟩,⟨[],[2]⟩,⟨[],[2]⟩],heads:=[],exits:=[],rets:=[2],pins:=[],spec:=[[true]]}
abbrev g129_A:List Sh:=[.a (.c (.imm (.pr (.int .i64) (.pr (.int .i64) (.int .u64)))))]
abbrev g129_S:Sh:= .a (.c (.nm 0 (.pr (.int .i64) (.pr (.int .i64) (.int .u64)))))
abbrev g129_U:List Sh:=[sD]
def g129_R (m:Nat):Qp g129_A→Option (g129_S.Val×Qp g129_U):=fun(x:(List (Int×Int×Int))×Unit)=>g129 m x.1
def g129_T (m:Nat):FunT:=⟨129,g129_A,g129_S,g129_U,g129_R m⟩
noncomputable def g129_C:Code:=codeOf Tryz.f129
theorem g129_ok (m:Nat):FunOK Tryz.prog (g129_T m):=
 qg4 hmix htt (H:=g129_H) (fn:=Tryz.f129) (f:=129) (t:=(.pr (.int .i64) (.pr (.int .i64) (.int .u64)))) (ty:=54) (e:=57) (ty2:=54) (k:=1) (cells:=[.nil (.pr (.int .i64) (.pr (.int .i64) (.int .u64)))]) (A:=pA g129_C) (X:=pX (pB (pA (pB g129_C)))) (Y:=pB (pB g129_C)) (o0:=pO 0 (pA (pA (pB g129_C)))) (o1:=pO 1 (pA (pA (pB g129_C)))) Tryz.func129 kR kR kR kR kR kR kR kR kR (of_decide_eq_true kR) rfl kR kR kR (fun xs=>[(0,.sl .imm (.pr (.int .i64) (.pr (.int .i64) (.int .u64))) xs)]) (fun xs=>[(2,.sl (.nm 0) (.pr (.int .i64) (.pr (.int .i64) (.int .u64))) xs)]) (fun xs=>kR) (fun _=>rfl) (fun _=>rfl) (fun _=>rfl) kR (fun xs=>kR) (fun xs=>kR)
def g132_H:Hints:=⟨[⟨[],[0]⟩,⟨[],[0,3]⟩,⟨[(0,1)],[3,6,7,8]⟩,⟨[],[3,6,7,8,9]⟩,⟨[],[3,5,6,7,8]⟩,⟨[],[3,5,6,7,8,14]⟩,⟨[(0,1)],[2]⟩,⟨[(1,1)],[3,6,7,8]⟩,⟨[(0,1)],[2]⟩],[(0,[3,6,7,8])],[(0,[3]),(1,[3,6,7,8])],[2],[],[[false]]⟩
def g132_T (m:Nat):FunT:=⟨132,[sL],sI,[sD],fun(x:List Int×Unit)=>g132 m x.1⟩
noncomputable def g132_C:Code:=codeOf Tryz.f132
noncomputable def g132_B0:Code:=qm g132_C 0 0
def g132_L0_X (m:Nat):LT:=⟨0,[(3,sI),(6,sL),(7,sI),(8,sI)],[(.ret,[(2,sI)]),(.exit 0,[(3,sI)])],fun n (x:Int×List Int×Int×Int×Unit)=>g132_L0 m n x.1 x.2.1 x.2.2.1 x.2.2.2.1⟩
theorem g132_L0_ok {E:Entry} (hE:EOf Tryz.prog E 18 g132_H.pins) (m:Nat) (n:Nat):ql Tryz.prog E g132_B0 ((g132_L0_X m).at n):=
 lok hmix htt hE noF (L:=[]) (g132_L0_X m) (l:=[]) kR (fun _ _=>trivial) (fun n x=>kR) (fun _=>kR) n
theorem g132_ok (m:Nat):FunOK Tryz.prog (g132_T m):=
 fok hmix htt (H:=g132_H) (g132_T m) Tryz.func132 kR noF (L:=[(g132_L0_X m).at m]) (l:=[(0,g132_B0)]) kR (fun _ hE _ _=>⟨qg ⟨yb (g132_L0_ok hE m m),trivial⟩,trivial⟩) (fun x=>kR)
def g131_H:Hints:=⟨[⟨[],[2,3]⟩,⟨[],[4]⟩],[],[],[4],[],[[false]]⟩
def g131_T (m:Nat):FunT:=⟨131,[.a (.agg [(.int .i64),(.int .i64),(.int .u64)]),.a (.agg [(.int .i64),(.int .i64),(.int .u64)])],sI,[sD,sD],fun(x:(Int×Int×Int×Unit)×(Int×Int×Int×Unit)×Unit)=>g131 m x.1.1 x.1.2.1 x.1.2.2.1 x.2.1.1 x.2.1.2.1 x.2.1.2.2.1⟩
theorem g131_ok (m:Nat):FunOK Tryz.prog (g131_T m):=
 fok hmix htt (H:=g131_H) (g131_T m) Tryz.func131 kR (AllF.mem (l:=[g133_T m,g132_T m]) ⟨g133_ok m,g132_ok m,trivial⟩) (L:=[]) (l:=[]) kR (fun _ hE _ _=>trivial) (fun x=>kR)
def g176_H:Hints:=⟨[⟨[],[0,1,2,3,8]⟩,⟨[],[0,1,2,3,8,14]⟩,⟨[(0,1)],[0,1,2,3,8]⟩,⟨[],[0,1,2,3,8,9]⟩,⟨[(3,1)],[0,1,2,3,8,9,34]⟩,⟨[(0,1)],[0,1,2,3,8,9]⟩,⟨[],[0,1,2,3,8,9]⟩],[(0,[0,1,2,3,8]),(2,[0,1,2,3,8,9])],[(0,[0]),(1,[0,1,2,3,8]),(2,[0,1,2,3,8]),(3,[0,1,2,3,8,9])],[0],[0],[]⟩
def g176_T (m:Nat):FunT:=⟨176,[.a (.c (.nm 0 (.pr (.int .i64) (.pr (.int .i64) (.int .u64))))),sI,sI,.a (.c (.fn 131))],.tup [],[.a (.c (.nm 0 (.pr (.int .i64) (.pr (.int .i64) (.int .u64))))),sD,sD,sD],fun(x:(List (Int×Int×Int))×Int×Int×Unit×Unit)=>g176 m x.1 x.2.1 x.2.2.1⟩
noncomputable def g176_C:Code:=codeOf Tryz.f176
noncomputable def g176_B0:Code:=qm g176_C 0 0
noncomputable def g176_B2:Code:=qm g176_B0 0 0
theorem g176_K (m:Nat): ∀u∈[g131_T m],FunOK Tryz.prog u:=AllF.mem ⟨g131_ok m,trivial⟩
def g176_L1_X (m:Nat):LT:=⟨2,[(0,.a (.c (.nm 0 (.pr (.int .i64) (.pr (.int .i64) (.int .u64)))))),(1,sI),(2,sI),(3,.a (.c (.fn 131))),(8,sI),(9,sI)],[(.exit 2,[(0,.a (.c (.nm 0 (.pr (.int .i64) (.pr (.int .i64) (.int .u64)))))),(1,sI),(2,sI),(3,.a (.c (.fn 131))),(8,sI)])],fun n (x:(List (Int×Int×Int))×Int×Int×Unit×Int×Int×Unit)=>g176_L1 m n x.1 x.2.1 x.2.2.1 x.2.2.2.2.1 x.2.2.2.2.2.1⟩
theorem g176_L1_ok {E:Entry} (hE:EOf Tryz.prog E 53 g176_H.pins) (m:Nat) (n:Nat):ql Tryz.prog E g176_B2 ((g176_L1_X m).at n):=
 lok hmix htt hE (g176_K m) (L:=[]) (g176_L1_X m) (l:=[]) kR (fun _ _=>trivial) (fun n x=>kR) (fun _=>kR) n
def g176_L0_X (m:Nat):LT:=⟨0,[(0,.a (.c (.nm 0 (.pr (.int .i64) (.pr (.int .i64) (.int .u64)))))),(1,sI),(2,sI),(3,.a (.c (.fn 131))),(8,sI)],[(.exit 0,[(0,.a (.c (.nm 0 (.pr (.int .i64) (.pr (.int .i64) (.int .u64))))))])],fun n (x:(List (Int×Int×Int))×Int×Int×Unit×Int×Unit)=>g176_L0 m n x.1 x.2.1 x.2.2.1 x.2.2.2.2.1⟩
theorem g176_L0_ok {E:Entry} (hE:EOf Tryz.prog E 53 g176_H.pins) (m:Nat) (n:Nat):ql Tryz.prog E g176_B0 ((g176_L0_X m).at n):=
 lok hmix htt hE (g176_K m) (L:=[(g176_L1_X m).at m]) (g176_L0_X m) (l:=[(2,g176_B2)]) kR (fun _ _=>⟨qg ⟨yb (g176_L1_ok hE m m),trivial⟩,trivial⟩) (fun n x=>kR) (fun _=>kR) n
theorem g176_ok (m:Nat):FunOK Tryz.prog (g176_T m):=
 fok hmix htt (H:=g176_H) (g176_T m) Tryz.func176 kR (g176_K m) (L:=[(g176_L0_X m).at m]) (l:=[(0,g176_B0)]) kR (fun _ hE _ _=>⟨qg ⟨yb (g176_L0_ok hE m m),trivial⟩,trivial⟩) (fun x=>kR)
def g185_H:Hints:=⟨[⟨[],[0,1,2,3,10]⟩,⟨[],[0,1,2,3,10,13]⟩,⟨[(0,1)],[0,1,2,3,10]⟩,⟨[],[0,1,2,3,10]⟩],[(0,[0,1,2,3,10])],[(0,[0]),(1,[0,1,2,3,10])],[0],[0],[]⟩
def g185_T (m:Nat):FunT:=⟨185,[.a (.c (.nm 0 (.pr (.int .i64) (.pr (.int .i64) (.int .u64))))),sI,sI,sI,.a (.c (.fn 131))],.tup [],[.a (.c (.nm 0 (.pr (.int .i64) (.pr (.int .i64) (.int .u64))))),sD,sD,sD,sD],fun(x:(List (Int×Int×Int))×Int×Int×Int×Unit×Unit)=>g185 m x.1 x.2.1 x.2.2.1 x.2.2.2.1⟩
noncomputable def g185_C:Code:=codeOf Tryz.f185
noncomputable def g185_B0:Code:=qm g185_C 0 0
def g185_L0_X (m:Nat):LT:=⟨0,[(0,.a (.c (.nm 0 (.pr (.int .i64) (.pr (.int .i64) (.int .u64)))))),(1,sI),(2,sI),(3,sI),(10,sI)],[(.exit 0,[(0,.a (.c (.nm 0 (.pr (.int .i64) (.pr (.int .i64) (.int .u64))))))])],fun n (x:(List (Int×Int×Int))×Int×Int×Int×Int×Unit)=>g185_L0 m n x.1 x.2.1 x.2.2.1 x.2.2.2.1 x.2.2.2.2.1⟩
theorem g185_L0_ok {E:Entry} (hE:EOf Tryz.prog E 38 g185_H.pins) (m:Nat) (n:Nat):ql Tryz.prog E g185_B0 ((g185_L0_X m).at n):=
 lok hmix htt hE noF (L:=[]) (g185_L0_X m) (l:=[]) kR (fun _ _=>trivial) (fun n x=>kR) (fun _=>kR) n
theorem g185_ok (m:Nat):FunOK Tryz.prog (g185_T m):=
 fok hmix htt (H:=g185_H) (g185_T m) Tryz.func185 kR noF (L:=[(g185_L0_X m).at m]) (l:=[(0,g185_B0)]) kR (fun _ hE _ _=>⟨qg ⟨yb (g185_L0_ok hE m m),trivial⟩,trivial⟩) (fun x=>kR)
def g183_H:Hints:=⟨[⟨[(1,1)],[0,2,3,4,10]⟩,⟨[(0,1)],[0,2,4,10,11]⟩,⟨[],[0,2,4,10,11,20]⟩,⟨[],[0,2,4,10,11,23]⟩,⟨[(7,11)],[0,2,4,10,11]⟩,⟨[(0,1)],[0,2,4,10,11]⟩,⟨[(11,11)],[0,2,4,10,11]⟩,⟨[(0,1)],[0,2,4,10,11]⟩,⟨[(6,1),(7,11)],[0]⟩],[(0,[0,2,4,10,11])],[(0,[0,2,4,10]),(1,[0,2,4,10,11])],[0],[0],[]⟩
def g183_T (m:Nat):FunT:=⟨183,[.a (.c (.nm 0 (.pr (.int .i64) (.pr (.int .i64) (.int .u64))))),sI,sI,sI,.a (.c (.fn 131))],.tup [],[.a (.c (.nm 0 (.pr (.int .i64) (.pr (.int .i64) (.int .u64))))),sD,sD,sD,sD],fun(x:(List (Int×Int×Int))×Int×Int×Int×Unit×Unit)=>g183 m x.1 x.2.1 x.2.2.1 x.2.2.2.1⟩
noncomputable def g183_C:Code:=codeOf Tryz.f183
noncomputable def g183_B0:Code:=qm g183_C 0 0
theorem g183_K (m:Nat): ∀u∈[g185_T m],FunOK Tryz.prog u:=AllF.mem ⟨g185_ok m,trivial⟩
def g183_L0_X (m:Nat):LT:=⟨0,[(0,.a (.c (.nm 0 (.pr (.int .i64) (.pr (.int .i64) (.int .u64)))))),(2,sI),(4,.a (.c (.fn 131))),(10,sI),(11,sI)],[(.exit 0,[(0,.a (.c (.nm 0 (.pr (.int .i64) (.pr (.int .i64) (.int .u64)))))),(2,sI),(4,.a (.c (.fn 131))),(10,sI)])],fun n (x:(List (Int×Int×Int))×Int×Unit×Int×Int×Unit)=>g183_L0 m n x.1 x.2.1 x.2.2.2.1 x.2.2.2.2.1⟩
theorem g183_L0_ok {E:Entry} (hE:EOf Tryz.prog E 58 g183_H.pins) (m:Nat) (n:Nat):ql Tryz.prog E g183_B0 ((g183_L0_X m).at n):=
 lok hmix htt hE (g183_K m) (L:=[]) (g183_L0_X m) (l:=[]) kR (fun _ _=>trivial) (fun n x=>kR) (fun _=>kR) n
theorem g183_ok (m:Nat):FunOK Tryz.prog (g183_T m):=
 fok hmix htt (H:=g183_H) (g183_T m) Tryz.func183 kR (g183_K m) (L:=[(g183_L0_X m).at m]) (l:=[(0,g183_B0)]) kR (fun _ hE _ _=>⟨qg ⟨yb (g183_L0_ok hE m m),trivial⟩,trivial⟩) (fun x=>kR)
def g177_H:Hints:=⟨[⟨[],[0,1,2,3,4,28]⟩,⟨[(0,1)],[0,1,3,4,10]⟩,⟨[(0,1)],[0,1,4,10,11]⟩,⟨[],[0,1,4,10,11,33]⟩,⟨[],[0,1,4,10,11,12]⟩,⟨[],[0,1,4,10,11,12,50]⟩,⟨[(0,1)],[0,1,4,10,11]⟩,⟨[(0,1)],[0,1,4,10,11]⟩,⟨[(0,1)],[0,10,13]⟩,⟨[],[0,10,13,58]⟩,⟨[(0,1)],[0,10,13]⟩,⟨[],[0,10,13]⟩,⟨[],[0,1,2,3,4,80]⟩,⟨[(0,1)],[0,2,4,14]⟩,⟨[],[0,2,4,14,15]⟩,⟨[],[0,2,4,14,15,85]⟩,⟨[],[0,2,4,14,15,16]⟩,⟨[],[0,2,4,14,15,16,103]⟩,⟨[(0,1)],[0,2,4,14,15]⟩,⟨[(0,1)],[0,2,4,14,15]⟩,⟨[(0,1)],[0,14,17]⟩,⟨[],[0,14,17,110]⟩,⟨[(0,1)],[0,14,17]⟩,⟨[],[0,14,17]⟩,⟨[],[0,1,2,3,4,18]⟩,⟨[],[0,1,2,3,4,18,19]⟩,⟨[],[0,1,2,3,4,18,19]⟩,⟨[],[0,1,2,3,4,18,19,140]⟩,⟨[],[0,1,2,3,4,18,19,20]⟩,⟨[],[0,1,2,3,4,18,19,20,21]⟩,⟨[],[0,1,2,3,4,18,19,20]⟩,⟨[],[0,1,2,3,4,18,19,20,21]⟩,⟨[],[0,1,2,3,4,18,19,20,21,22]⟩,⟨[],[0,1,2,3,4,18,19,20,21,22,151]⟩,⟨[],[0,1,2,3,4,18,19,20,21,22,23]⟩,⟨[],[0,1,2,3,4,18,19,20,21,22,23,171]⟩,⟨[(0,1)],[0,1,2,3,4,18,19,20,21,22]⟩,⟨[(0,1)],[0,1,2,3,4,18,19,20,21,22]⟩,⟨[(0,1)],[0,1,2,3,4,18,20,24]⟩,⟨[(3,1)],[0,1,2,3,4,18,20,24,185]⟩,⟨[(2,1),(5,11)],[0,1,3,4,18,20,24]⟩,⟨[(3,1)],[0,1,3,4,18,20,24,199]⟩,⟨[(1,1),(2,1),(5,11)],[0,3,4,18,24]⟩,⟨[(3,1)],[0,3,4,18,24,213]⟩,⟨[(1,1),(2,1),(3,1),(4,1),(5,11)],[0]⟩],[(0,[0,1,4,10,11]),(2,[0,10,13]),(4,[0,2,4,14,15]),(6,[0,14,17]),(8,[0,1,2,3,4,18,19,20,21,22])],[(0,[0,1,10]),(1,[0,1,4,10,11]),(2,[0]),(3,[0,10,13]),(4,[0,2,14]),(5,[0,2,4,14,15]),(6,[0]),(7,[0,14,17]),(8,[0,1,2,3,4,18,19,20]),(9,[0,1,2,3,4,18,19,20,21,22])],[0],[0],[]⟩
def g177_T (m:Nat):FunT:=⟨177,[.a (.c (.nm 0 (.pr (.int .i64) (.pr (.int .i64) (.int .u64))))),sI,sI,sI,.a (.c (.fn 131))],.tup [],[.a (.c (.nm 0 (.pr (.int .i64) (.pr (.int .i64) (.int .u64))))),sD,sD,sD,sD],fun(x:(List (Int×Int×Int))×Int×Int×Int×Unit×Unit)=>g177 m x.1 x.2.1 x.2.2.1 x.2.2.2.1⟩
noncomputable def g177_C:Code:=codeOf Tryz.f177
noncomputable def g177_B0:Code:=qm g177_C 0 0
noncomputable def g177_B2:Code:=qm g177_C 0 1
noncomputable def g177_B4:Code:=qm g177_C 0 2
noncomputable def g177_B6:Code:=qm g177_C 0 3
noncomputable def g177_B8:Code:=qm g177_C 0 4
theorem g177_K (m:Nat) (hself:FunOK Tryz.prog (g177_T m)): ∀u∈[g131_T m,g183_T m,g177_T m],FunOK Tryz.prog u:=AllF.mem ⟨g131_ok m,g183_ok m,hself,trivial⟩
def g177_L4_X (m:Nat):LT:=⟨8,[(0,.a (.c (.nm 0 (.pr (.int .i64) (.pr (.int .i64) (.int .u64)))))),(1,sI),(2,sI),(3,sI),(4,.a (.c (.fn 131))),(18,sI),(19,sI),(20,sI),(21,sI),(22,sI)],[(.exit 8,[(0,.a (.c (.nm 0 (.pr (.int .i64) (.pr (.int .i64) (.int .u64)))))),(1,sI),(2,sI),(3,sI),(4,.a (.c (.fn 131))),(18,sI),(19,sI),(20,sI)])],fun n (x:(List (Int×Int×Int))×Int×Int×Int×Unit×Int×Int×Int×Int×Int×Unit)=>g177_L4 (fun a0 a1 a2 a3=>g177 m a0 a1 a2 a3) m n x.1 x.2.1 x.2.2.1 x.2.2.2.1 x.2.2.2.2.2.1 x.2.2.2.2.2.2.1 x.2.2.2.2.2.2.2.1 x.2.2.2.2.2.2.2.2.1 x.2.2.2.2.2.2.2.2.2.1⟩
theorem g177_L4_ok {E:Entry} (hE:EOf Tryz.prog E 220 g177_H.pins) (m:Nat) (hself:FunOK Tryz.prog (g177_T m)) (n:Nat):ql Tryz.prog E g177_B8 ((g177_L4_X m).at n):=
 lok hmix htt hE (g177_K m hself) (L:=[]) (g177_L4_X m) (l:=[]) kR (fun _ _=>trivial) (fun n x=>kR) (fun _=>kR) n
def g177_L3_X (m:Nat):LT:=⟨6,[(0,.a (.c (.nm 0 (.pr (.int .i64) (.pr (.int .i64) (.int .u64)))))),(14,sI),(17,sI)],[(.exit 6,[(0,.a (.c (.nm 0 (.pr (.int .i64) (.pr (.int .i64) (.int .u64))))))])],fun n (x:(List (Int×Int×Int))×Int×Int×Unit)=>g177_L3 (fun a0 a1 a2 a3=>g177 m a0 a1 a2 a3) m n x.1 x.2.1 x.2.2.1⟩
theorem g177_L3_ok {E:Entry} (hE:EOf Tryz.prog E 220 g177_H.pins) (m:Nat) (hself:FunOK Tryz.prog (g177_T m)) (n:Nat):ql Tryz.prog E g177_B6 ((g177_L3_X m).at n):=
 lok hmix htt hE (g177_K m hself) (L:=[]) (g177_L3_X m) (l:=[]) kR (fun _ _=>trivial) (fun n x=>kR) (fun _=>kR) n
def g177_L2_X (m:Nat):LT:=⟨4,[(0,.a (.c (.nm 0 (.pr (.int .i64) (.pr (.int .i64) (.int .u64)))))),(2,sI),(4,.a (.c (.fn 131))),(14,sI),(15,sI)],[(.exit 4,[(0,.a (.c (.nm 0 (.pr (.int .i64) (.pr (.int .i64) (.int .u64)))))),(2,sI),(14,sI)])],fun n (x:(List (Int×Int×Int))×Int×Unit×Int×Int×Unit)=>g177_L2 (fun a0 a1 a2 a3=>g177 m a0 a1 a2 a3) m n x.1 x.2.1 x.2.2.2.1 x.2.2.2.2.1⟩
theorem g177_L2_ok {E:Entry} (hE:EOf Tryz.prog E 220 g177_H.pins) (m:Nat) (hself:FunOK Tryz.prog (g177_T m)) (n:Nat):ql Tryz.prog E g177_B4 ((g177_L2_X m).at n):=
 lok hmix htt hE (g177_K m hself) (L:=[]) (g177_L2_X m) (l:=[]) kR (fun _ _=>trivial) (fun n x=>kR) (fun _=>kR) n
def g177_L1_X (m:Nat):LT:=⟨2,[(0,.a (.c (.nm 0 (.pr (.int .i64) (.pr (.int .i64) (.int .u64)))))),(10,sI),(13,sI)],[(.exit 2,[(0,.a (.c (.nm 0 (.pr (.int .i64) (.pr (.int .i64) (.int .u64))))))])],fun n (x:(List (Int×Int×Int))×Int×Int×Unit)=>g177_L1 (fun a0 a1 a2 a3=>g177 m a0 a1 a2 a3) m n x.1 x.2.1 x.2.2.1⟩
theorem g177_L1_ok {E:Entry} (hE:EOf Tryz.prog E 220 g177_H.pins) (m:Nat) (hself:FunOK Tryz.prog (g177_T m)) (n:Nat):ql Tryz.prog E g177_B2 ((g177_L1_X m).at n):=
 lok hmix htt hE (g177_K m hself) (L:=[]) (g177_L1_X m) (l:=[]) kR (fun _ _=>trivial) (fun n x=>kR) (fun _=>kR) n
def g177_L0_X (m:Nat):LT:=⟨0,[(0,.a (.c (.nm 0 (.pr (.int .i64) (.pr (.int .i64) (.int .u64)))))),(1,sI),(4,.a (.c (.fn 131))),(10,sI),(11,sI)],[(.exit 0,[(0,.a (.c (.nm 0 (.pr (.int .i64) (.pr (.int .i64) (.int .u64)))))),(1,sI),(10,sI)])],fun n (x:(List (Int×Int×Int))×Int×Unit×Int×Int×Unit)=>g177_L0 (fun a0 a1 a2 a3=>g177 m a0 a1 a2 a3) m n x.1 x.2.1 x.2.2.2.1 x.2.2.2.2.1⟩
theorem g177_L0_ok {E:Entry} (hE:EOf Tryz.prog E 220 g177_H.pins) (m:Nat) (hself:FunOK Tryz.prog (g177_T m)) (n:Nat):ql Tryz.prog E g177_B0 ((g177_L0_X m).at n):=
 lok hmix htt hE (g177_K m hself) (L:=[]) (g177_L0_X m) (l:=[]) kR (fun _ _=>trivial) (fun n x=>kR) (fun _=>kR) n
theorem g177_ok: ∀m:Nat,FunOK Tryz.prog (g177_T m)
 |0=>fun _ _ h=>by cases h
 |m+1=>by
  have hself:=g177_ok m
  exact fok hmix htt (H:=g177_H) (g177_T (m+1)) Tryz.func177 kR (g177_K m hself) (L:=[(g177_L0_X m).at m,(g177_L1_X m).at m,(g177_L2_X m).at m,(g177_L3_X m).at m,(g177_L4_X m).at m]) (l:=[(0,g177_B0),(2,g177_B2),(4,g177_B4),(6,g177_B6),(8,g177_B8)]) kR (fun _ hE _ _=>⟨qg ⟨yb (g177_L0_ok hE m hself m),nb rfl,nb rfl,nb rfl,nb rfl,trivial⟩,qg ⟨nb rfl,yb (g177_L1_ok hE m hself m),nb rfl,nb rfl,nb rfl,trivial⟩,qg ⟨nb rfl,nb rfl,yb (g177_L2_ok hE m hself m),nb rfl,nb rfl,trivial⟩,qg ⟨nb rfl,nb rfl,nb rfl,yb (g177_L3_ok hE m hself m),nb rfl,trivial⟩,qg ⟨nb rfl,nb rfl,nb rfl,nb rfl,yb (g177_L4_ok hE m hself m),trivial⟩,trivial⟩) (fun x=>kR)
def g162_H:Hints:=⟨[⟨[],[0,1,2,6]⟩,⟨[],[0,1,2,6,7,8]⟩,⟨[],[0,1,2,6,7,8,13]⟩,⟨[(1,1),(4,11)],[0,1,2,6,8]⟩,⟨[],[0,1,2,6,7,8]⟩,⟨[(0,1)],[0,1,2,6,7,8]⟩,⟨[(1,1),(4,11)],[0,1,2,6]⟩,⟨[],[0,1,2,6,30]⟩,⟨[],[0,1,2,6,7,8]⟩,⟨[],[0,1,2,6,7,8,35]⟩,⟨[(7,11)],[0,1,2,6,8]⟩,⟨[],[0,1,2,6,7,8]⟩,⟨[(0,1)],[0,1,2,6,7,8]⟩,⟨[],[0,1,2,6,7,9]⟩,⟨[],[0,1,2,6,7,9,54]⟩,⟨[(1,1),(2,1),(5,11)],[0,1,2,6]⟩,⟨[(0,1)],[0,1,2,6]⟩],[(0,[0,1,2,6,7,8]),(2,[0,1,2,6]),(4,[0,1,2,6,7,8])],[(0,[0,1,2,6,7]),(1,[0,1,2,6,7,8]),(2,[0]),(3,[0,1,2,6]),(4,[0,1,2,6,7]),(5,[0,1,2,6,7,8])],[0],[0],[]⟩
def g162_T (m:Nat):FunT:=⟨162,[.a (.c (.nm 0 (.pr (.int .i64) (.pr (.int .i64) (.int .u64))))),sI,.a (.c (.fn 131))],.tup [],[.a (.c (.nm 0 (.pr (.int .i64) (.pr (.int .i64) (.int .u64))))),sD,sD],fun(x:(List (Int×Int×Int))×Int×Unit×Unit)=>g162 m x.1 x.2.1⟩
noncomputable def g162_C:Code:=codeOf Tryz.f162
noncomputable def g162_B0:Code:=qm g162_C 0 0
noncomputable def g162_B2:Code:=qm g162_C 0 1
noncomputable def g162_B4:Code:=qm g162_B2 2 0
theorem g162_K (m:Nat): ∀u∈[g176_T m,g177_T m],FunOK Tryz.prog u:=AllF.mem ⟨g176_ok m,g177_ok m,trivial⟩
def g162_L2_X (m:Nat):LT:=⟨4,[(0,.a (.c (.nm 0 (.pr (.int .i64) (.pr (.int .i64) (.int .u64)))))),(1,sI),(2,.a (.c (.fn 131))),(6,sI),(7,sI),(8,sI)],[(.exit 4,[(0,.a (.c (.nm 0 (.pr (.int .i64) (.pr (.int .i64) (.int .u64)))))),(1,sI),(2,.a (.c (.fn 131))),(6,sI),(7,sI)])],fun n (x:(List (Int×Int×Int))×Int×Unit×Int×Int×Int×Unit)=>g162_L2 m n x.1 x.2.1 x.2.2.2.1 x.2.2.2.2.1 x.2.2.2.2.2.1⟩
theorem g162_L2_ok {E:Entry} (hE:EOf Tryz.prog E 63 g162_H.pins) (m:Nat) (n:Nat):ql Tryz.prog E g162_B4 ((g162_L2_X m).at n):=
 lok hmix htt hE (g162_K m) (L:=[]) (g162_L2_X m) (l:=[]) kR (fun _ _=>trivial) (fun n x=>kR) (fun _=>kR) n
def g162_L1_X (m:Nat):LT:=⟨2,[(0,.a (.c (.nm 0 (.pr (.int .i64) (.pr (.int .i64) (.int .u64)))))),(1,sI),(2,.a (.c (.fn 131))),(6,sI)],[(.exit 2,[(0,.a (.c (.nm 0 (.pr (.int .i64) (.pr (.int .i64) (.int .u64))))))])],fun n (x:(List (Int×Int×Int))×Int×Unit×Int×Unit)=>g162_L1 m n x.1 x.2.1 x.2.2.2.1⟩
theorem g162_L1_ok {E:Entry} (hE:EOf Tryz.prog E 63 g162_H.pins) (m:Nat) (n:Nat):ql Tryz.prog E g162_B2 ((g162_L1_X m).at n):=
 lok hmix htt hE (g162_K m) (L:=[(g162_L2_X m).at m]) (g162_L1_X m) (l:=[(4,g162_B4)]) kR (fun _ _=>⟨qg ⟨yb (g162_L2_ok hE m m),trivial⟩,trivial⟩) (fun n x=>kR) (fun _=>kR) n
def g162_L0_X (m:Nat):LT:=⟨0,[(0,.a (.c (.nm 0 (.pr (.int .i64) (.pr (.int .i64) (.int .u64)))))),(1,sI),(2,.a (.c (.fn 131))),(6,sI),(7,sI),(8,sI)],[(.exit 0,[(0,.a (.c (.nm 0 (.pr (.int .i64) (.pr (.int .i64) (.int .u64)))))),(1,sI),(2,.a (.c (.fn 131))),(6,sI),(7,sI)])],fun n (x:(List (Int×Int×Int))×Int×Unit×Int×Int×Int×Unit)=>g162_L0 m n x.1 x.2.1 x.2.2.2.1 x.2.2.2.2.1 x.2.2.2.2.2.1⟩
theorem g162_L0_ok {E:Entry} (hE:EOf Tryz.prog E 63 g162_H.pins) (m:Nat) (n:Nat):ql Tryz.prog E g162_B0 ((g162_L0_X m).at n):=
 lok hmix htt hE (g162_K m) (L:=[]) (g162_L0_X m) (l:=[]) kR (fun _ _=>trivial) (fun n x=>kR) (fun _=>kR) n
theorem g162_ok (m:Nat):FunOK Tryz.prog (g162_T m):=
 fok hmix htt (H:=g162_H) (g162_T m) Tryz.func162 kR (g162_K m) (L:=[(g162_L0_X m).at m,(g162_L1_X m).at m]) (l:=[(0,g162_B0),(2,g162_B2)]) kR (fun _ hE _ _=>⟨qg ⟨yb (g162_L0_ok hE m m),nb rfl,trivial⟩,qg ⟨nb rfl,yb (g162_L1_ok hE m m),trivial⟩,trivial⟩) (fun x=>kR)
def g130_H:Hints:=⟨[⟨[(3,1),(4,11)],[0]⟩],[],[],[0],[0],[]⟩
def g130_T (m:Nat):FunT:=⟨130,[.a (.c (.nm 0 (.pr (.int .i64) (.pr (.int .i64) (.int .u64))))),.a (.c (.fn 131))],.tup [],[.a (.c (.nm 0 (.pr (.int .i64) (.pr (.int .i64) (.int .u64))))),sD],fun(x:(List (Int×Int×Int))×Unit×Unit)=>g130 m x.1⟩
theorem g130_ok (m:Nat):FunOK Tryz.prog (g130_T m):=
 fok hmix htt (H:=g130_H) (g130_T m) Tryz.func130 kR (AllF.mem (l:=[g162_T m]) ⟨g162_ok m,trivial⟩) (L:=[]) (l:=[]) kR (fun _ hE _ _=>trivial) (fun x=>kR)
def g84_H:Hints:=⟨[⟨[],[0]⟩,⟨[(0,1)],[0]⟩,⟨[(1,11)],[0]⟩,⟨[(0,1)],[2]⟩],[],[],[2],[],[[true]]⟩
def g84_T (m:Nat):FunT:=⟨84,[.a (.c (.imm (.pr (.int .i64) (.pr (.int .i64) (.int .u64)))))],.a (.c (.nm 0 (.pr (.int .i64) (.pr (.int .i64) (.int .u64))))),[sD],fun(x:(List (Int×Int×Int))×Unit)=>g84 m x.1⟩
theorem g84_ok (m:Nat):FunOK Tryz.prog (g84_T m):=
 fok hmix htt (H:=g84_H) (g84_T m) Tryz.func84 kR (AllF.mem (l:=[g129_T m,g130_T m]) ⟨g129_ok m,g130_ok m,trivial⟩) (L:=[]) (l:=[]) kR (fun _ hE _ _=>trivial) (fun x=>kR)
def g36_H:Hints:=⟨[⟨[],[0,1,2,6]⟩,⟨[(0,1)],[1,2,6,7]⟩,⟨[(0,1)],[1,6,7,18,19,20]⟩,⟨[],[1,6,7,18,19,20,21]⟩,⟨[],[1,6,7,9,18,19,20]⟩,⟨[(5,3),(11,3)],[1,6,7,9,18,19,20]⟩,⟨[],[1,6,7,18,19,20]⟩,⟨[(1,1)],[1,6,7,18,19,20]⟩,⟨[(0,1)],[6,7,48,49]⟩,⟨[],[6,7,48,49,50]⟩,⟨[],[6,7,10,48,49]⟩,⟨[],[6,7,48,49]⟩,⟨[(1,1)],[6,7,48,49]⟩,⟨[(0,1)],[6]⟩],[(0,[1,6,7,18,19,20]),(2,[6,7,48,49])],[(0,[1,6,7]),(1,[1,6,7,18,19,20]),(2,[6,7]),(3,[6,7,48,49])],[6],[],[[false,false,true,true,true]]⟩
def g36_T (m:Nat):FunT:=⟨36,[sI,sI,.a (.c (.imm (.pr (.int .i64) (.pr (.int .i64) (.int .u64)))))],.a (.agg [(.int .i64),(.int .i64),(.nm 0 (.int .i64)),(.nm 1 (.int .i64)),(.nm 2 (.int .u64))]),[sD,sD,sD],fun(x:Int×Int×(List (Int×Int×Int))×Unit)=>g36 m x.1 x.2.1 x.2.2.1⟩
noncomputable def g36_C:Code:=codeOf Tryz.f36
noncomputable def g36_B0:Code:=qm g36_C 0 0
noncomputable def g36_B2:Code:=qm g36_C 0 1
theorem g36_K (m:Nat): ∀u∈[g84_T m],FunOK Tryz.prog u:=AllF.mem ⟨g84_ok m,trivial⟩
def g36_L1_X (m:Nat):LT:=⟨2,[(6,.a (.bx 0 [(.int .i64),(.int .i64),(.nm 1 (.int .i64)),(.nm 2 (.int .i64)),(.nm 3 (.int .u64))])),(7,.a (.bx 4 [(.int .i64),(.int .i64),(.nm 5 (.int .i64)),(.nm 6 (.int .i64)),(.nm 7 (.int .u64))])),(48,sI),(49,sI)],[(.exit 2,[(6,.a (.bx 0 [(.int .i64),(.int .i64),(.nm 1 (.int .i64)),(.nm 2 (.int .i64)),(.nm 3 (.int .u64))])),(7,.a (.bx 4 [(.int .i64),(.int .i64),(.nm 5 (.int .i64)),(.nm 6 (.int .i64)),(.nm 7 (.int .u64))]))])],fun n (x:(Int×Int×List Int×List Int×List Int×Unit)×(Int×Int×List Int×List Int×List Int×Unit)×Int×Int×Unit)=>g36_L1 m n x.1.1 x.1.2.1 x.1.2.2.1 x.1.2.2.2.1 x.1.2.2.2.2.1 x.2.1.1 x.2.1.2.1 x.2.1.2.2.1 x.2.1.2.2.2.1 x.2.1.2.2.2.2.1 x.2.2.1 x.2.2.2.1⟩
theorem g36_L1_ok {E:Entry} (hE:EOf Tryz.prog E 67 g36_H.pins) (m:Nat) (n:Nat):ql Tryz.prog E g36_B2 ((g36_L1_X m).at n):=
 lok hmix htt hE (g36_K m) (L:=[]) (g36_L1_X m) (l:=[]) kR (fun _ _=>trivial) (fun n x=>kR) (fun _=>kR) n
def g36_L0_X (m:Nat):LT:=⟨0,[(1,sI),(6,.a (.bx 0 [(.int .i64),(.int .i64),(.nm 1 (.int .i64)),(.nm 2 (.int .i64)),(.nm 3 (.int .u64))])),(7,.a (.bx 4 [(.int .i64),(.int .i64),(.nm 5 (.int .i64)),(.nm 6 (.int .i64)),(.nm 7 (.int .u64))])),(18,.a (.c (.nm 8 (.pr (.int .i64) (.pr (.int .i64) (.int .u64)))))),(19,sI),(20,sI)],[(.exit 0,[(1,sI),(6,.a (.bx 0 [(.int .i64),(.int .i64),(.nm 1 (.int .i64)),(.nm 2 (.int .i64)),(.nm 3 (.int .u64))])),(7,.a (.bx 4 [(.int .i64),(.int .i64),(.nm 5 (.int .i64)),(.nm 6 (.int .i64)),(.nm 7 (.int .u64))]))])],fun n (x:Int×(Int×Int×List Int×List Int×List Int×Unit)×(Int×Int×List Int×List Int×List Int×Unit)×(List (Int×Int×Int))×Int×Int×Unit)=>g36_L0 m n x.1 x.2.1.1 x.2.1.2.1 x.2.1.2.2.1 x.2.1.2.2.2.1 x.2.1.2.2.2.2.1 x.2.2.1.1 x.2.2.1.2.1 x.2.2.1.2.2.1 x.2.2.1.2.2.2.1 x.2.2.1.2.2.2.2.1 x.2.2.2.1 x.2.2.2.2.1 x.2.2.2.2.2.1⟩
theorem g36_L0_ok {E:Entry} (hE:EOf Tryz.prog E 67 g36_H.pins) (m:Nat) (n:Nat):ql Tryz.prog E g36_B0 ((g36_L0_X m).at n):=
 lok hmix htt hE (g36_K m) (L:=[]) (g36_L0_X m) (l:=[]) kR (fun _ _=>trivial) (fun n x=>kR) (fun _=>kR) n
theorem g36_ok (m:Nat):FunOK Tryz.prog (g36_T m):=
 fok hmix htt (H:=g36_H) (g36_T m) Tryz.func36 kR (g36_K m) (L:=[(g36_L0_X m).at m,(g36_L1_X m).at m]) (l:=[(0,g36_B0),(2,g36_B2)]) kR (fun _ hE _ _=>⟨qg ⟨yb (g36_L0_ok hE m m),nb rfl,trivial⟩,qg ⟨nb rfl,yb (g36_L1_ok hE m m),trivial⟩,trivial⟩) (fun x=>kR)
def g49_H:Hints:=⟨[⟨[],[0]⟩,⟨[(0,1)],[3]⟩,⟨[],[3,8,9]⟩,⟨[],[3,8,9,10]⟩,⟨[],[3,4,8,9]⟩,⟨[],[3,8,9]⟩,⟨[(1,1)],[3,8,9]⟩,⟨[(0,1)],[2]⟩],[(0,[3,8,9])],[(0,[3]),(1,[3,8,9])],[2],[],[[true]]⟩
def g49_T (m:Nat):FunT:=⟨49,[sI],.a (.c (.nm 0 (.int .i64))),[sD],fun(x:Int×Unit)=>g49 m x.1⟩
noncomputable def g49_C:Code:=codeOf Tryz.f49
noncomputable def g49_B0:Code:=qm g49_C 0 0
theorem g49_K (m:Nat): ∀u∈[g85_T m],FunOK Tryz.prog u:=AllF.mem ⟨g85_ok m,trivial⟩
def g49_L0_X (m:Nat):LT:=⟨0,[(3,.a (.c (.nm 0 (.int .i64)))),(8,sI),(9,sI)],[(.exit 0,[(3,.a (.c (.nm 0 (.int .i64))))])],fun n (x:List Int×Int×Int×Unit)=>g49_L0 m n x.1 x.2.1 x.2.2.1⟩
theorem g49_L0_ok {E:Entry} (hE:EOf Tryz.prog E 18 g49_H.pins) (m:Nat) (n:Nat):ql Tryz.prog E g49_B0 ((g49_L0_X m).at n):=
 lok hmix htt hE (g49_K m) (L:=[]) (g49_L0_X m) (l:=[]) kR (fun _ _=>trivial) (fun n x=>kR) (fun _=>kR) n
theorem g49_ok (m:Nat):FunOK Tryz.prog (g49_T m):=
 fok hmix htt (H:=g49_H) (g49_T m) Tryz.func49 kR (g49_K m) (L:=[(g49_L0_X m).at m]) (l:=[(0,g49_B0)]) kR (fun _ hE _ _=>⟨qg ⟨yb (g49_L0_ok hE m m),trivial⟩,trivial⟩) (fun x=>kR)
def g95_H:Hints:=⟨[⟨[],[0,1]⟩,⟨[],[0,1,6]⟩,⟨[],[0,1,6,15,16]⟩,⟨[],[0,1,6,15,16,17]⟩,⟨[],[0,1,6,7,15,16]⟩,⟨[(1,1)],[0,1,6,15,16]⟩,⟨[(1,1)],[0,1,6,15,16]⟩,⟨[],[0,1,6,23,24,25]⟩,⟨[],[0,1,6,23,24,25,26]⟩,⟨[],[0,1,6,9,23,24,25]⟩,⟨[(0,1)],[0,1,6,23,24,25,33]⟩,⟨[],[4,5]⟩,⟨[(1,1)],[0,1,6,23,24,25]⟩,⟨[(0,1)],[6,35,36,37]⟩,⟨[],[6,35,36,37,38]⟩,⟨[],[6,10,11,35,36,37]⟩,⟨[],[6,10,11,35,36,37,46]⟩,⟨[],[4,5]⟩,⟨[(1,1),(2,1)],[6,35,36,37]⟩,⟨[(1,1)],[6,35,36,37]⟩,⟨[(0,1)],[4,5]⟩],[(0,[0,1,6,15,16]),(2,[0,1,6,23,24,25]),(4,[6,35,36,37])],[(0,[0,1,6]),(1,[0,1,6,15,16]),(2,[0,6]),(3,[0,1,6,23,24,25]),(4,[6]),(5,[6,35,36,37])],[4,5],[],[[true],[false]]⟩
def g95_T (m:Nat):FunT:=⟨95,[sL,sI],.tup [(.c (.nm 0 (.int .i64))),(.c (.int .i64))],[sD,sD],fun(x:List Int×Int×Unit)=>g95 m x.1 x.2.1⟩
noncomputable def g95_C:Code:=codeOf Tryz.f95
noncomputable def g95_B0:Code:=qm g95_C 0 0
noncomputable def g95_B2:Code:=qm g95_C 0 1
noncomputable def g95_B4:Code:=qm g95_C 0 2
theorem g95_K (m:Nat): ∀u∈[g68_T m],FunOK Tryz.prog u:=AllF.mem ⟨g68_ok m,trivial⟩
def g95_L2_X (m:Nat):LT:=⟨4,[(6,.a (.c (.nm 0 (.int .i64)))),(35,sL),(36,sI),(37,sI)],[(.ret,[(4,.a (.c (.nm 0 (.int .i64)))),(5,sI)]),(.exit 4,[(6,.a (.c (.nm 0 (.int .i64))))])],fun n (x:List Int×List Int×Int×Int×Unit)=>g95_L2 m n x.1 x.2.1 x.2.2.1 x.2.2.2.1⟩
theorem g95_L2_ok {E:Entry} (hE:EOf Tryz.prog E 53 g95_H.pins) (m:Nat) (n:Nat):ql Tryz.prog E g95_B4 ((g95_L2_X m).at n):=
 lok hmix htt hE (g95_K m) (L:=[]) (g95_L2_X m) (l:=[]) kR (fun _ _=>trivial) (fun n x=>kR) (fun _=>kR) n
def g95_L1_X (m:Nat):LT:=⟨2,[(0,sL),(1,sI),(6,.a (.c (.nm 0 (.int .i64)))),(23,sL),(24,sI),(25,sI)],[(.ret,[(4,.a (.c (.nm 0 (.int .i64)))),(5,sI)]),(.exit 2,[(0,sL),(6,.a (.c (.nm 0 (.int .i64))))])],fun n (x:List Int×Int×List Int×List Int×Int×Int×Unit)=>g95_L1 m n x.1 x.2.1 x.2.2.1 x.2.2.2.1 x.2.2.2.2.1 x.2.2.2.2.2.1⟩
theorem g95_L1_ok {E:Entry} (hE:EOf Tryz.prog E 53 g95_H.pins) (m:Nat) (n:Nat):ql Tryz.prog E g95_B2 ((g95_L1_X m).at n):=
 lok hmix htt hE (g95_K m) (L:=[]) (g95_L1_X m) (l:=[]) kR (fun _ _=>trivial) (fun n x=>kR) (fun _=>kR) n
def g95_L0_X (m:Nat):LT:=⟨0,[(0,sL),(1,sI),(6,.a (.c (.nm 0 (.int .i64)))),(15,sI),(16,sI)],[(.exit 0,[(0,sL),(1,sI),(6,.a (.c (.nm 0 (.int .i64))))])],fun n (x:List Int×Int×List Int×Int×Int×Unit)=>g95_L0 m n x.1 x.2.1 x.2.2.1 x.2.2.2.1 x.2.2.2.2.1⟩
theorem g95_L0_ok {E:Entry} (hE:EOf Tryz.prog E 53 g95_H.pins) (m:Nat) (n:Nat):ql Tryz.prog E g95_B0 ((g95_L0_X m).at n):=
 lok hmix htt hE (g95_K m) (L:=[]) (g95_L0_X m) (l:=[]) kR (fun _ _=>trivial) (fun n x=>kR) (fun _=>kR) n
theorem g95_ok (m:Nat):FunOK Tryz.prog (g95_T m):=
 fok hmix htt (H:=g95_H) (g95_T m) Tryz.func95 kR (g95_K m) (L:=[(g95_L0_X m).at m,(g95_L1_X m).at m,(g95_L2_X m).at m]) (l:=[(0,g95_B0),(2,g95_B2),(4,g95_B4)]) kR (fun _ hE _ _=>⟨qg ⟨yb (g95_L0_ok hE m m),nb rfl,nb rfl,trivial⟩,qg ⟨nb rfl,yb (g95_L1_ok hE m m),nb rfl,trivial⟩,qg ⟨nb rfl,nb rfl,yb (g95_L2_ok hE m m),trivial⟩,trivial⟩) (fun x=>kR)
end Go.Vs.F
