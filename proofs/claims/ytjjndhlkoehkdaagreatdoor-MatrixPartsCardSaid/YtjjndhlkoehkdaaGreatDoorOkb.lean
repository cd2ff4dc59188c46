/-The plain functions are what the code does (by program:gen.py). -/
import Derived.Test.YtjjndhlkoehkdaaGreatDoorOka
set_option linter.unusedVariables false
set_option maxRecDepth 100000
namespace Go.Vs.F
open Go.Proofs
def g45_H:Hints:=⟨[⟨[],[1]⟩,⟨[(3,1),(8,1),(13,1),(18,1)],[1,30]⟩,⟨[],[2]⟩,⟨[],[1,3]⟩,⟨[(5,1),(14,1),(21,1)],[1,64]⟩,⟨[],[2]⟩,⟨[],[1,4]⟩,⟨[],[1,4,68]⟩,⟨[(0,1)],[1,4]⟩,⟨[],[1,4,82]⟩,⟨[],[2]⟩,⟨[],[1,5]⟩,⟨[],[1,5,86]⟩,⟨[(0,1)],[1,5]⟩,⟨[],[1,5,6]⟩,⟨[],[1,5,6,101]⟩,⟨[(0,1)],[1,5,6]⟩,⟨[(6,1),(16,1),(24,1)],[1,5,6,142]⟩,⟨[],[2]⟩,⟨[],[146]⟩,⟨[],[2]⟩,⟨[],[2]⟩],[(0,[1,4]),(2,[1,5]),(4,[1,5,6])],[(0,[1]),(1,[1,4]),(2,[1]),(3,[1,5]),(4,[1,5]),(5,[1,5,6])],[2],[],[[false]]⟩
def g45_T (m:Nat):FunT:=⟨45,[.a (.agg [(.int .i64),(.int .i64),(.imm (.int .i64)),(.imm (.int .i64)),(.imm (.int .u64))])],sI,[sD],fun(x:(Int×Int×List Int×List Int×List Int×Unit)×Unit)=>g45 m x.1.1 x.1.2.1 x.1.2.2.1 x.1.2.2.2.1 x.1.2.2.2.2.1⟩
noncomputable def g45_C:Code:=codeOf Tryz.f45
noncomputable def g45_B0:Code:=qo g45_C 0 0
noncomputable def g45_B2:Code:=qo g45_C 0 1
noncomputable def g45_B4:Code:=qo g45_B2 2 0
theorem g45_K (m:Nat): ∀u∈[g68_T m],FunOK Tryz.prog u:=AllF.mem ⟨g68_ok m,trivial⟩
def g45_L2_X (m:Nat):LT:=⟨4,[(1,.a (.bx 0 [(.int .i64),(.int .i64),(.imm (.int .i64)),(.imm (.int .i64)),(.imm (.int .u64))])),(5,sI),(6,sI)],[(.ret,[(2,sI)]),(.exit 4,[(1,.a (.bx 0 [(.int .i64),(.int .i64),(.imm (.int .i64)),(.imm (.int .i64)),(.imm (.int .u64))])),(5,sI)])],fun n (x:(Int×Int×List Int×List Int×List Int×Unit)×Int×Int×Unit)=>g45_L2 m n x.1.1 x.1.2.1 x.1.2.2.1 x.1.2.2.2.1 x.1.2.2.2.2.1 x.2.1 x.2.2.1⟩
theorem g45_L2_ok {E:Entry} (hE:EOf Tryz.prog E 147 g45_H.pins) (m:Nat) (n:Nat):ql Tryz.prog E g45_B4 ((g45_L2_X m).at n):=
 lok hmix htt hE (g45_K m) (L:=[]) (g45_L2_X m) (l:=[]) kR (fun _ _=>trivial) (fun n x=>kR) (fun _=>kR) n
def g45_L1_X (m:Nat):LT:=⟨2,[(1,.a (.bx 0 [(.int .i64),(.int .i64),(.imm (.int .i64)),(.imm (.int .i64)),(.imm (.int .u64))])),(5,sI)],[(.ret,[(2,sI)]),(.exit 2,[(1,.a (.bx 0 [(.int .i64),(.int .i64),(.imm (.int .i64)),(.imm (.int .i64)),(.imm (.int .u64))]))])],fun n (x:(Int×Int×List Int×List Int×List Int×Unit)×Int×Unit)=>g45_L1 m n x.1.1 x.1.2.1 x.1.2.2.1 x.1.2.2.2.1 x.1.2.2.2.2.1 x.2.1⟩
theorem g45_L1_ok {E:Entry} (hE:EOf Tryz.prog E 147 g45_H.pins) (m:Nat) (n:Nat):ql Tryz.prog E g45_B2 ((g45_L1_X m).at n):=
 lok hmix htt hE (g45_K m) (L:=[(g45_L2_X m).at m]) (g45_L1_X m) (l:=[(4,g45_B4)]) kR (fun _ _=>⟨qi ⟨yb (g45_L2_ok hE m m),trivial⟩,trivial⟩) (fun n x=>kR) (fun _=>kR) n
def g45_L0_X (m:Nat):LT:=⟨0,[(1,.a (.bx 0 [(.int .i64),(.int .i64),(.imm (.int .i64)),(.imm (.int .i64)),(.imm (.int .u64))])),(4,sI)],[(.ret,[(2,sI)]),(.exit 0,[(1,.a (.bx 0 [(.int .i64),(.int .i64),(.imm (.int .i64)),(.imm (.int .i64)),(.imm (.int .u64))]))])],fun n (x:(Int×Int×List Int×List Int×List Int×Unit)×Int×Unit)=>g45_L0 m n x.1.1 x.1.2.1 x.1.2.2.1 x.1.2.2.2.1 x.1.2.2.2.2.1 x.2.1⟩
theorem g45_L0_ok {E:Entry} (hE:EOf Tryz.prog E 147 g45_H.pins) (m:Nat) (n:Nat):ql Tryz.prog E g45_B0 ((g45_L0_X m).at n):=
 lok hmix htt hE (g45_K m) (L:=[]) (g45_L0_X m) (l:=[]) kR (fun _ _=>trivial) (fun n x=>kR) (fun _=>kR) n
theorem g45_ok (m:Nat):FunOK Tryz.prog (g45_T m):=
 fok hmix htt (H:=g45_H) (g45_T m) Tryz.func45 kR (g45_K m) (L:=[(g45_L0_X m).at m,(g45_L1_X m).at m]) (l:=[(0,g45_B0),(2,g45_B2)]) kR (fun _ hE _ _=>⟨qi ⟨yb (g45_L0_ok hE m m),nb rfl,trivial⟩,qi ⟨nb rfl,yb (g45_L1_ok hE m m),trivial⟩,trivial⟩) (fun x=>kR)
def g48_H:Hints:=⟨[⟨[],[1]⟩,⟨[],[1,8]⟩,⟨[],[2]⟩,⟨[],[1,3]⟩,⟨[],[1,3,4]⟩,⟨[],[1,3,4,12]⟩,⟨[(0,1)],[1,3,4]⟩,⟨[],[1,3,4,5]⟩,⟨[],[1,3,4,5,27]⟩,⟨[(0,1)],[1,3,4,5]⟩,⟨[(0,1)],[1,3,4,5]⟩,⟨[(0,1)],[2]⟩],[(0,[1,3,4]),(2,[1,3,4,5])],[(0,[3]),(1,[1,3,4]),(2,[1,3,4]),(3,[1,3,4,5])],[2],[],[[true]]⟩
def g48_T (m:Nat):FunT:=⟨48,[.a (.agg [(.int .i64),(.int .i64),(.imm (.int .i64)),(.imm (.int .i64)),(.imm (.int .u64))])],.a (.c (.nm 0 (.pr (.int .i64) (.pr (.int .i64) (.int .u64))))),[sD],fun(x:(Int×Int×List Int×List Int×List Int×Unit)×Unit)=>g48 m x.1.1 x.1.2.1 x.1.2.2.1 x.1.2.2.2.1 x.1.2.2.2.2.1⟩
noncomputable def g48_C:Code:=codeOf Tryz.f48
noncomputable def g48_B0:Code:=qo g48_C 0 0
noncomputable def g48_B2:Code:=qo g48_B0 0 0
theorem g48_K (m:Nat): ∀u∈[g45_T m],FunOK Tryz.prog u:=AllF.mem ⟨g45_ok m,trivial⟩
def g48_L1_X (m:Nat):LT:=⟨2,[(1,.a (.bx 0 [(.int .i64),(.int .i64),(.imm (.int .i64)),(.imm (.int .i64)),(.imm (.int .u64))])),(3,.a (.c (.nm 1 (.pr (.int .i64) (.pr (.int .i64) (.int .u64)))))),(4,sI),(5,sI)],[(.exit 2,[(1,.a (.bx 0 [(.int .i64),(.int .i64),(.imm (.int .i64)),(.imm (.int .i64)),(.imm (.int .u64))])),(3,.a (.c (.nm 1 (.pr (.int .i64) (.pr (.int .i64) (.int .u64)))))),(4,sI)])],fun n (x:(Int×Int×List Int×List Int×List Int×Unit)×(List (Int×Int×Int))×Int×Int×Unit)=>g48_L1 m n x.1.1 x.1.2.1 x.1.2.2.1 x.1.2.2.2.1 x.1.2.2.2.2.1 x.2.1 x.2.2.1 x.2.2.2.1⟩
theorem g48_L1_ok {E:Entry} (hE:EOf Tryz.prog E 46 g48_H.pins) (m:Nat) (n:Nat):ql Tryz.prog E g48_B2 ((g48_L1_X m).at n):=
 lok hmix htt hE (g48_K m) (L:=[]) (g48_L1_X m) (l:=[]) kR (fun _ _=>trivial) (fun n x=>kR) (fun _=>kR) n
def g48_L0_X (m:Nat):LT:=⟨0,[(1,.a (.bx 0 [(.int .i64),(.int .i64),(.imm (.int .i64)),(.imm (.int .i64)),(.imm (.int .u64))])),(3,.a (.c (.nm 1 (.pr (.int .i64) (.pr (.int .i64) (.int .u64)))))),(4,sI)],[(.exit 0,[(3,.a (.c (.nm 0 (.pr (.int .i64) (.pr (.int .i64) (.int .u64))))))])],fun n (x:(Int×Int×List Int×List Int×List Int×Unit)×(List (Int×Int×Int))×Int×Unit)=>g48_L0 m n x.1.1 x.1.2.1 x.1.2.2.1 x.1.2.2.2.1 x.1.2.2.2.2.1 x.2.1 x.2.2.1⟩
theorem g48_L0_ok {E:Entry} (hE:EOf Tryz.prog E 46 g48_H.pins) (m:Nat) (n:Nat):ql Tryz.prog E g48_B0 ((g48_L0_X m).at n):=
 lok hmix htt hE (g48_K m) (L:=[(g48_L1_X m).at m]) (g48_L0_X m) (l:=[(2,g48_B2)]) kR (fun _ _=>⟨qi ⟨yb (g48_L1_ok hE m m),trivial⟩,trivial⟩) (fun n x=>kR) (fun _=>kR) n
theorem g48_ok (m:Nat):FunOK Tryz.prog (g48_T m):=
 fok hmix htt (H:=g48_H) (g48_T m) Tryz.func48 kR (g48_K m) (L:=[(g48_L0_X m).at m]) (l:=[(0,g48_B0)]) kR (fun _ hE _ _=>⟨qi ⟨yb (g48_L0_ok hE m m),trivial⟩,trivial⟩) (fun x=>kR)
def g42_H:Hints:=⟨[⟨[],[1]⟩,⟨[],[1,4]⟩,⟨[],[1,4,12]⟩,⟨[(0,1)],[2,3]⟩,⟨[(0,6)],[1,5]⟩,⟨[],[1,5,6]⟩,⟨[],[1,5,6,17]⟩,⟨[(0,1)],[1,5,6]⟩,⟨[(0,1),(4,6),(5,6)],[1,5,6]⟩,⟨[],[5,7]⟩,⟨[],[5,7,8]⟩,⟨[],[5,7,8,31]⟩,⟨[(0,1)],[5,7,8]⟩,⟨[],[5,7,8]⟩,⟨[(0,1)],[2,3]⟩],[(0,[1,5,6]),(2,[5,7,8])],[(0,[1,5]),(1,[1,5,6]),(2,[5]),(3,[5,7,8])],[2,3],[],[[false],[false]]⟩
def g42_T (m:Nat):FunT:=⟨42,[.a (.agg [(.int .i64),(.int .i64),(.imm (.int .i64)),(.imm (.int .i64)),(.imm (.int .u64))])],.tup [(.c (.imm (.sl false (.int .u64)))),(.c (.int .i64))],[sD],fun(x:(Int×Int×List Int×List Int×List Int×Unit)×Unit)=>g42 m x.1.1 x.1.2.1 x.1.2.2.1 x.1.2.2.2.1 x.1.2.2.2.2.1⟩
noncomputable def g42_C:Code:=codeOf Tryz.f42
noncomputable def g42_B0:Code:=qo g42_C 0 0
noncomputable def g42_B2:Code:=qo g42_C 0 1
theorem g42_K (m:Nat): ∀u∈[g45_T m,g48_T m],FunOK Tryz.prog u:=AllF.mem ⟨g45_ok m,g48_ok m,trivial⟩
def g42_L1_X (m:Nat):LT:=⟨2,[(5,.a (.c (.dp 0 (.int .u64)))),(7,.a (.c (.nm 1 (.pr (.int .i64) (.pr (.int .i64) (.int .u64)))))),(8,sI)],[(.exit 2,[(5,.a (.c (.dp 0 (.int .u64))))])],fun n (x:List (List Int)×(List (Int×Int×Int))×Int×Unit)=>g42_L1 m n x.1 x.2.1 x.2.2.1⟩
theorem g42_L1_ok {E:Entry} (hE:EOf Tryz.prog E 54 g42_H.pins) (m:Nat) (n:Nat):ql Tryz.prog E g42_B2 ((g42_L1_X m).at n):=
 lok hmix htt hE (g42_K m) (L:=[]) (g42_L1_X m) (l:=[]) kR (fun _ _=>trivial) (fun n x=>kR) (fun _=>kR) n
def g42_L0_X (m:Nat):LT:=⟨0,[(1,.a (.bx 0 [(.int .i64),(.int .i64),(.imm (.int .i64)),(.imm (.int .i64)),(.imm (.int .u64))])),(5,.a (.c (.dp 1 (.int .u64)))),(6,sI)],[(.exit 0,[(1,.a (.bx 0 [(.int .i64),(.int .i64),(.imm (.int .i64)),(.imm (.int .i64)),(.imm (.int .u64))])),(5,.a (.c (.dp 1 (.int .u64))))])],fun n (x:(Int×Int×List Int×List Int×List Int×Unit)×List (List Int)×Int×Unit)=>g42_L0 m n x.1.1 x.1.2.1 x.1.2.2.1 x.1.2.2.2.1 x.1.2.2.2.2.1 x.2.1 x.2.2.1⟩
theorem g42_L0_ok {E:Entry} (hE:EOf Tryz.prog E 54 g42_H.pins) (m:Nat) (n:Nat):ql Tryz.prog E g42_B0 ((g42_L0_X m).at n):=
 lok hmix htt hE (g42_K m) (L:=[]) (g42_L0_X m) (l:=[]) kR (fun _ _=>trivial) (fun n x=>kR) (fun _=>kR) n
theorem g42_ok (m:Nat):FunOK Tryz.prog (g42_T m):=
 fok hmix htt (H:=g42_H) (g42_T m) Tryz.func42 kR (g42_K m) (L:=[(g42_L0_X m).at m,(g42_L1_X m).at m]) (l:=[(0,g42_B0),(2,g42_B2)]) kR (fun _ hE _ _=>⟨qi ⟨yb (g42_L0_ok hE m m),nb rfl,trivial⟩,qi ⟨nb rfl,yb (g42_L1_ok hE m m),trivial⟩,trivial⟩) (fun x=>kR)
def g26_H:Hints:=⟨[⟨[],[1,3]⟩,⟨[],[1,3,4]⟩,⟨[],[1,3,4,15]⟩,⟨[(0,1)],[2,3,4]⟩,⟨[(3,1)],[1,3,19]⟩,⟨[],[2,3,4]⟩,⟨[],[1,3,5]⟩,⟨[],[1,3,5,29,30,31]⟩,⟨[],[1,3,5,29,30,31,32]⟩,⟨[],[1,3,5,7,29,30,31]⟩,⟨[(0,1)],[1,3,5,8,29,30,31]⟩,⟨[(3,1),(5,1)],[1,3,5,8,29,30,31,48]⟩,⟨[],[1,3,5,29,30,31]⟩,⟨[(1,1)],[1,3,5,29,30,31]⟩,⟨[(2,4)],[1,2,3]⟩,⟨[],[1,2,3,56,57]⟩,⟨[],[1,2,3,56,57,58]⟩,⟨[],[1,2,3,9,56,57]⟩,⟨[(1,1),(6,4)],[1,2,3,56,57]⟩,⟨[(1,1)],[1,2,3,56,57]⟩,⟨[],[2,3,68,69,70]⟩,⟨[],[2,3,68,69,70,71]⟩,⟨[],[2,3,11,68,69,70]⟩,⟨[],[2,3,11,12,68,69,70]⟩,⟨[],[2,3,11,12,68,69,70,79]⟩,⟨[(14,1)],[2,3,68,69,70]⟩,⟨[(1,1)],[2,3,68,69,70]⟩,⟨[(0,1),(1,1)],[2,3,4]⟩],[(1,[1,3,5,29,30,31]),(3,[1,2,3,56,57]),(5,[2,3,68,69,70])],[(0,[1,3]),(1,[1,3]),(2,[1,3,5,29,30,31]),(3,[1,2,3]),(4,[1,2,3,56,57]),(5,[2,3]),(6,[2,3,68,69,70])],[2,3,4],[],[[false],[false],[false]]⟩
def g26_T (m:Nat):FunT:=⟨26,[.a (.agg [(.int .i64),(.int .i64),(.imm (.int .i64)),(.imm (.int .i64)),(.imm (.int .u64))])],.tup [(.c (.imm (.sl false (.pr .bool (.sl false (.int .u32)))))),(.c (.int .i64)),(.c (.int .i64))],[sD],fun(x:(Int×Int×List Int×List Int×List Int×Unit)×Unit)=>g26 m x.1.1 x.1.2.1 x.1.2.2.1 x.1.2.2.2.1 x.1.2.2.2.2.1⟩
noncomputable def g26_C:Code:=codeOf Tryz.f26
noncomputable def g26_B1:Code:=qo g26_C 0 0
noncomputable def g26_B3:Code:=qo g26_C 0 1
noncomputable def g26_B5:Code:=qo g26_C 0 2
theorem g26_K (m:Nat): ∀u∈[g44_T m,g29_T m,g77_T m,g73_T m,g78_T m],FunOK Tryz.prog u:=AllF.mem ⟨g44_ok m,g29_ok m,g77_ok m,g73_ok m,g78_ok m,trivial⟩
def g26_L2_X (m:Nat):LT:=⟨5,[(2,.a (.c (.dp 0 (.pr .bool (.sl false (.int .u32)))))),(3,sI),(68,.a (.c (.nm 1 (.pr (.int .i64) (.pr (.int .i64) (.int .u64)))))),(69,sI),(70,sI)],[(.exit 5,[(2,.a (.c (.dp 0 (.pr .bool (.sl false (.int .u32)))))),(3,sI)])],fun n (x:(List (List (Bool×List Int)))×Int×(List (Int×Int×Int))×Int×Int×Unit)=>g26_L2 m n x.1 x.2.1 x.2.2.1 x.2.2.2.1 x.2.2.2.2.1⟩
theorem g26_L2_ok {E:Entry} (hE:EOf Tryz.prog E 101 g26_H.pins) (m:Nat) (n:Nat):ql Tryz.prog E g26_B5 ((g26_L2_X m).at n):=
 lok hmix htt hE (g26_K m) (L:=[]) (g26_L2_X m) (l:=[]) kR (fun _ _=>trivial) (fun n x=>kR) (fun _=>kR) n
def g26_L1_X (m:Nat):LT:=⟨3,[(1,.a (.bx 0 [(.int .i64),(.int .i64),(.imm (.int .i64)),(.imm (.int .i64)),(.imm (.int .u64))])),(2,.a (.c (.dp 1 (.pr .bool (.sl false (.int .u32)))))),(3,sI),(56,sI),(57,sI)],[(.exit 3,[(1,.a (.bx 0 [(.int .i64),(.int .i64),(.imm (.int .i64)),(.imm (.int .i64)),(.imm (.int .u64))])),(2,.a (.c (.dp 1 (.pr .bool (.sl false (.int .u32)))))),(3,sI)])],fun n (x:(Int×Int×List Int×List Int×List Int×Unit)×(List (List (Bool×List Int)))×Int×Int×Int×Unit)=>g26_L1 m n x.1.1 x.1.2.1 x.1.2.2.1 x.1.2.2.2.1 x.1.2.2.2.2.1 x.2.1 x.2.2.1 x.2.2.2.1 x.2.2.2.2.1⟩
theorem g26_L1_ok {E:Entry} (hE:EOf Tryz.prog E 101 g26_H.pins) (m:Nat) (n:Nat):ql Tryz.prog E g26_B3 ((g26_L1_X m).at n):=
 lok hmix htt hE (g26_K m) (L:=[]) (g26_L1_X m) (l:=[]) kR (fun _ _=>trivial) (fun n x=>kR) (fun _=>kR) n
def g26_L0_X (m:Nat):LT:=⟨1,[(1,.a (.bx 0 [(.int .i64),(.int .i64),(.imm (.int .i64)),(.imm (.int .i64)),(.imm (.int .u64))])),(3,sI),(5,sB),(29,.a (.c (.imm (.int .u64)))),(30,sI),(31,sI)],[(.exit 1,[(1,.a (.bx 0 [(.int .i64),(.int .i64),(.imm (.int .i64)),(.imm (.int .i64)),(.imm (.int .u64))])),(3,sI)])],fun n (x:(Int×Int×List Int×List Int×List Int×Unit)×Int×Bool×List Int×Int×Int×Unit)=>g26_L0 m n x.1.1 x.1.2.1 x.1.2.2.1 x.1.2.2.2.1 x.1.2.2.2.2.1 x.2.1 x.2.2.1 x.2.2.2.1 x.2.2.2.2.1 x.2.2.2.2.2.1⟩
theorem g26_L0_ok {E:Entry} (hE:EOf Tryz.prog E 101 g26_H.pins) (m:Nat) (n:Nat):ql Tryz.prog E g26_B1 ((g26_L0_X m).at n):=
 lok hmix htt hE (g26_K m) (L:=[]) (g26_L0_X m) (l:=[]) kR (fun _ _=>trivial) (fun n x=>kR) (fun _=>kR) n
theorem g26_ok (m:Nat):FunOK Tryz.prog (g26_T m):=
 fok hmix htt (H:=g26_H) (g26_T m) Tryz.func26 kR (g26_K m) (L:=[(g26_L0_X m).at m,(g26_L1_X m).at m,(g26_L2_X m).at m]) (l:=[(1,g26_B1),(3,g26_B3),(5,g26_B5)]) kR (fun _ hE _ _=>⟨qi ⟨yb (g26_L0_ok hE m m),nb rfl,nb rfl,trivial⟩,qi ⟨nb rfl,yb (g26_L1_ok hE m m),nb rfl,trivial⟩,qi ⟨nb rfl,nb rfl,yb (g26_L2_ok hE m m),trivial⟩,trivial⟩) (fun x=>kR)
def g93_H:Hints:=⟨[⟨[],[0]⟩,⟨[],[0]⟩],[],[],[0],[],[[false,false,true,false]]⟩
def g93_T (m:Nat):FunT:=⟨93,[],.a (.agg [.bool,.bool,(.nm 0 (.int .u32)),(.int .i64)]),[],fun(x:Unit)=>g93 m⟩
theorem g93_ok (m:Nat):FunOK Tryz.prog (g93_T m):=
 fok hmix htt (H:=g93_H) (g93_T m) Tryz.func93 kR noF (L:=[]) (l:=[]) kR (fun _ hE _ _=>trivial) (fun x=>kR)
def g95_H:Hints:=⟨[⟨[],[0]⟩,⟨[(0,1)],[2]⟩],[],[],[2],[],[[false]]⟩
def g95_T (m:Nat):FunT:=⟨95,[sU],sB,[sD],fun(x:Int×Unit)=>g95 m x.1⟩
theorem g95_ok (m:Nat):FunOK Tryz.prog (g95_T m):=
 fok hmix htt (H:=g95_H) (g95_T m) Tryz.func95 kR noF (L:=[]) (l:=[]) kR (fun _ hE _ _=>trivial) (fun x=>kR)
def g162_H:Hints:=⟨[⟨[],[0]⟩,⟨[],[0,3]⟩,⟨[(2,1)],[0,3,17]⟩,⟨[(0,1)],[0,3]⟩,⟨[],[0,3,4]⟩,⟨[],[0,3,4,5]⟩,⟨[],[0,3,4,5,22]⟩,⟨[(0,1)],[0,3,4,5]⟩,⟨[(0,1)],[0,3,4,5]⟩,⟨[(0,1)],[2]⟩],[(0,[0,3]),(2,[0,3,4,5])],[(0,[0,3]),(1,[0,3]),(2,[4]),(3,[0,3,4,5])],[2],[],[[true]]⟩
def g162_T (m:Nat):FunT:=⟨162,[.a (.c (.imm (.int .u32)))],.a (.c (.nm 0 (.int .u32))),[sD],fun(x:List Int×Unit)=>g162 m x.1⟩
noncomputable def g162_C:Code:=codeOf Tryz.f162
noncomputable def g162_B0:Code:=qo g162_C 0 0
noncomputable def g162_B2:Code:=qo g162_C 0 1
def g162_L1_X (m:Nat):LT:=⟨2,[(0,.a (.c (.imm (.int .u32)))),(3,sI),(4,.a (.c (.nm 0 (.int .u32)))),(5,sI)],[(.exit 2,[(4,.a (.c (.nm 0 (.int .u32))))])],fun n (x:List Int×Int×List Int×Int×Unit)=>g162_L1 m n x.1 x.2.1 x.2.2.1 x.2.2.2.1⟩
theorem g162_L1_ok {E:Entry} (hE:EOf Tryz.prog E 33 g162_H.pins) (m:Nat) (n:Nat):ql Tryz.prog E g162_B2 ((g162_L1_X m).at n):=
 lok hmix htt hE noF (L:=[]) (g162_L1_X m) (l:=[]) kR (fun _ _=>trivial) (fun n x=>kR) (fun _=>kR) n
def g162_L0_X (m:Nat):LT:=⟨0,[(0,.a (.c (.imm (.int .u32)))),(3,sI)],[(.exit 0,[(0,.a (.c (.imm (.int .u32)))),(3,sI)])],fun n (x:List Int×Int×Unit)=>g162_L0 m n x.1 x.2.1⟩
theorem g162_L0_ok {E:Entry} (hE:EOf Tryz.prog E 33 g162_H.pins) (m:Nat) (n:Nat):ql Tryz.prog E g162_B0 ((g162_L0_X m).at n):=
 lok hmix htt hE noF (L:=[]) (g162_L0_X m) (l:=[]) kR (fun _ _=>trivial) (fun n x=>kR) (fun _=>kR) n
theorem g162_ok (m:Nat):FunOK Tryz.prog (g162_T m):=
 fok hmix htt (H:=g162_H) (g162_T m) Tryz.func162 kR noF (L:=[(g162_L0_X m).at m,(g162_L1_X m).at m]) (l:=[(0,g162_B0),(2,g162_B2)]) kR (fun _ hE _ _=>⟨qi ⟨yb (g162_L0_ok hE m m),nb rfl,trivial⟩,qi ⟨nb rfl,yb (g162_L1_ok hE m m),trivial⟩,trivial⟩) (fun x=>kR)
def g153_H:Hints:=⟨[⟨[],[0,1,4]⟩,⟨[(0,1)],[0,1,4]⟩,⟨[(0,1),(1,1),(6,1)],[4]⟩],[],[],[4],[],[[false,true]]⟩
def g153_T (m:Nat):FunT:=⟨153,[sB,.a (.c (.imm (.int .u32)))],.a (.agg [.bool,(.nm 0 (.int .u32))]),[sD,sD],fun(x:Bool×List Int×Unit)=>g153 m x.1 x.2.1⟩
theorem g153_ok (m:Nat):FunOK Tryz.prog (g153_T m):=
 fok hmix htt (H:=g153_H) (g153_T m) Tryz.func153 kR (AllF.mem (l:=[g162_T m]) ⟨g162_ok m,trivial⟩) (L:=[]) (l:=[]) kR (fun _ hE _ _=>trivial) (fun x=>kR)
def g147_H:Hints:=⟨[⟨[],[1,2]⟩,⟨[],[2]⟩],[],[],[2],[],[[false,true]]⟩
def g147_T (m:Nat):FunT:=⟨147,[.a (.agg [.bool,(.imm (.int .u32))])],.a (.agg [.bool,(.nm 0 (.int .u32))]),[sD],fun(x:(Bool×List Int×Unit)×Unit)=>g147 m x.1.1 x.1.2.1⟩
theorem g147_ok (m:Nat):FunOK Tryz.prog (g147_T m):=
 fok hmix htt (H:=g147_H) (g147_T m) Tryz.func147 kR (AllF.mem (l:=[g153_T m]) ⟨g153_ok m,trivial⟩) (L:=[]) (l:=[]) kR (fun _ hE _ _=>trivial) (fun x=>kR)
def g148_H:Hints:=⟨[⟨[],[1]⟩,⟨[],[3]⟩,⟨[],[3,4]⟩,⟨[],[3,4,11]⟩,⟨[(0,1)],[3,4]⟩,⟨[],[3,4,18]⟩,⟨[(2,1)],[2]⟩,⟨[],[2]⟩],[(0,[3,4])],[(0,[]),(1,[3,4])],[2],[],[[false]]⟩
def g148_T (m:Nat):FunT:=⟨148,[.a (.agg [.bool,(.imm (.int .u32))])],sI,[sD],fun(x:(Bool×List Int×Unit)×Unit)=>g148 m x.1.1 x.1.2.1⟩
noncomputable def g148_C:Code:=codeOf Tryz.f148
noncomputable def g148_B0:Code:=qo g148_C 0 0
theorem g148_K (m:Nat): ∀u∈[g162_T m,g87_T m],FunOK Tryz.prog u:=AllF.mem ⟨g162_ok m,g87_ok m,trivial⟩
def g148_L0_X (m:Nat):LT:=⟨0,[(3,.a (.c (.nm 0 (.int .u32)))),(4,sI)],[(.ret,[(2,sI)]),(.exit 0,[])],fun n (x:List Int×Int×Unit)=>g148_L0 m n x.1 x.2.1⟩
theorem g148_L0_ok {E:Entry} (hE:EOf Tryz.prog E 27 g148_H.pins) (m:Nat) (n:Nat):ql Tryz.prog E g148_B0 ((g148_L0_X m).at n):=
 lok hmix htt hE (g148_K m) (L:=[]) (g148_L0_X m) (l:=[]) kR (fun _ _=>trivial) (fun n x=>kR) (fun _=>kR) n
theorem g148_ok (m:Nat):FunOK Tryz.prog (g148_T m):=
 fok hmix htt (H:=g148_H) (g148_T m) Tryz.func148 kR (g148_K m) (L:=[(g148_L0_X m).at m]) (l:=[(0,g148_B0)]) kR (fun _ hE _ _=>⟨qi ⟨yb (g148_L0_ok hE m m),trivial⟩,trivial⟩) (fun x=>kR)
def g131_H:Hints:=⟨[⟨[],[1,2]⟩,⟨[],[2]⟩],[],[],[2],[],[[false,true]]⟩
def g131_T (m:Nat):FunT:=⟨131,[.a (.agg [.bool,(.imm (.int .u32))])],.a (.agg [.bool,(.nm 0 (.int .u32))]),[sD],fun(x:(Bool×List Int×Unit)×Unit)=>g131 m x.1.1 x.1.2.1⟩
theorem g131_ok (m:Nat):FunOK Tryz.prog (g131_T m):=
 fok hmix htt (H:=g131_H) (g131_T m) Tryz.func131 kR (AllF.mem (l:=[g153_T m]) ⟨g153_ok m,trivial⟩) (L:=[]) (l:=[]) kR (fun _ hE _ _=>trivial) (fun x=>kR)
def g154_H:Hints:=⟨[⟨[],[0,1]⟩,⟨[],[0,1,5]⟩,⟨[],[0,1,5,6]⟩,⟨[],[0,1,5,6,7]⟩,⟨[],[0,1,5,6,7,14]⟩,⟨[(0,1)],[0,1,5,6,7]⟩,⟨[(0,1)],[0,1,5,6,7]⟩,⟨[(0,1)],[0,1,5,6,7]⟩,⟨[(0,1)],[0,1,5,6,7]⟩,⟨[(0,1),(1,1)],[4]⟩],[(0,[0,1,5,6,7])],[(0,[5,6]),(1,[0,1,5,6,7])],[4],[],[[true]]⟩
def g154_T (m:Nat):FunT:=⟨154,[.a (.c (.imm (.int .u32))),sI],.a (.c (.nm 0 (.int .u32))),[sD,sD],fun(x:List Int×Int×Unit)=>g154 m x.1 x.2.1⟩
noncomputable def g154_C:Code:=codeOf Tryz.f154
noncomputable def g154_B0:Code:=qo g154_C 0 0
def g154_L0_X (m:Nat):LT:=⟨0,[(0,.a (.c (.imm (.int .u32)))),(1,sI),(5,.a (.c (.nm 0 (.int .u32)))),(6,sU),(7,sI)],[(.exit 0,[(5,.a (.c (.nm 0 (.int .u32)))),(6,sU)])],fun n (x:List Int×Int×List Int×Int×Int×Unit)=>g154_L0 m n x.1 x.2.1 x.2.2.1 x.2.2.2.1 x.2.2.2.2.1⟩
theorem g154_L0_ok {E:Entry} (hE:EOf Tryz.prog E 39 g154_H.pins) (m:Nat) (n:Nat):ql Tryz.prog E g154_B0 ((g154_L0_X m).at n):=
 lok hmix htt hE noF (L:=[]) (g154_L0_X m) (l:=[]) kR (fun _ _=>trivial) (fun n x=>kR) (fun _=>kR) n
theorem g154_ok (m:Nat):FunOK Tryz.prog (g154_T m):=
 fok hmix htt (H:=g154_H) (g154_T m) Tryz.func154 kR noF (L:=[(g154_L0_X m).at m]) (l:=[(0,g154_B0)]) kR (fun _ hE _ _=>⟨qi ⟨yb (g154_L0_ok hE m m),trivial⟩,trivial⟩) (fun x=>kR)
def g155_H:Hints:=⟨[⟨[],[0,1]⟩,⟨[],[0,1,6]⟩,⟨[],[0,1,6,7]⟩,⟨[(4,1)],[0,1,6,7,21]⟩,⟨[(0,1)],[0,1,6,7]⟩,⟨[(0,1),(1,1)],[0,1,6,7]⟩,⟨[],[0,1,6,8]⟩,⟨[],[0,1,6,8,9]⟩,⟨[],[0,1,6,8,9,10]⟩,⟨[],[0,1,6,8,9,10,39]⟩,⟨[(0,1)],[0,1,6,8,9,10]⟩,⟨[],[0,1,6,8,9,10,11]⟩,⟨[],[0,1,6,8,9,10,11,51]⟩,⟨[(0,1)],[0,1,6,8,9,10,11]⟩,⟨[(4,1)],[0,1,6,8,9,10,11,75]⟩,⟨[],[0,1,6,8,9,10,11]⟩,⟨[(0,1),(1,1)],[0,1,6,8,9,10]⟩,⟨[(0,1),(1,1)],[4,5]⟩],[(0,[0,1,6,7]),(2,[0,1,6,8,9,10])],[(0,[0,1,6]),(1,[0,1,6,7]),(2,[6,8]),(3,[0,1,6,8,9,10])],[4,5],[],[[true],[false]]⟩
def g155_T (m:Nat):FunT:=⟨155,[.a (.c (.imm (.int .u32))),sI],.tup [(.c (.nm 0 (.int .u32))),(.c .bool)],[sD,sD],fun(x:List Int×Int×Unit)=>g155 m x.1 x.2.1⟩
noncomputable def g155_C:Code:=codeOf Tryz.f155
noncomputable def g155_B0:Code:=qo g155_C 0 0
noncomputable def g155_B2:Code:=qo g155_C 0 1
def g155_L1_X (m:Nat):LT:=⟨2,[(0,.a (.c (.imm (.int .u32)))),(1,sI),(6,sB),(8,.a (.c (.nm 0 (.int .u32)))),(9,sI),(10,sI)],[(.exit 2,[(6,sB),(8,.a (.c (.nm 0 (.int .u32))))])],fun n (x:List Int×Int×Bool×List Int×Int×Int×Unit)=>g155_L1 m n x.1 x.2.1 x.2.2.1 x.2.2.2.1 x.2.2.2.2.1 x.2.2.2.2.2.1⟩
theorem g155_L1_ok {E:Entry} (hE:EOf Tryz.prog E 85 g155_H.pins) (m:Nat) (n:Nat):ql Tryz.prog E g155_B2 ((g155_L1_X m).at n):=
 lok hmix htt hE noF (L:=[]) (g155_L1_X m) (l:=[]) kR (fun _ _=>trivial) (fun n x=>kR) (fun _=>kR) n
def g155_L0_X (m:Nat):LT:=⟨0,[(0,.a (.c (.imm (.int .u32)))),(1,sI),(6,sB),(7,sI)],[(.exit 0,[(0,.a (.c (.imm (.int .u32)))),(1,sI),(6,sB)])],fun n (x:List Int×Int×Bool×Int×Unit)=>g155_L0 m n x.1 x.2.1 x.2.2.1 x.2.2.2.1⟩
theorem g155_L0_ok {E:Entry} (hE:EOf Tryz.prog E 85 g155_H.pins) (m:Nat) (n:Nat):ql Tryz.prog E g155_B0 ((g155_L0_X m).at n):=
 lok hmix htt hE noF (L:=[]) (g155_L0_X m) (l:=[]) kR (fun _ _=>trivial) (fun n x=>kR) (fun _=>kR) n
theorem g155_ok (m:Nat):FunOK Tryz.prog (g155_T m):=
 fok hmix htt (H:=g155_H) (g155_T m) Tryz.func155 kR noF (L:=[(g155_L0_X m).at m,(g155_L1_X m).at m]) (l:=[(0,g155_B0),(2,g155_B2)]) kR (fun _ hE _ _=>⟨qi ⟨yb (g155_L0_ok hE m m),nb rfl,trivial⟩,qi ⟨nb rfl,yb (g155_L1_ok hE m m),trivial⟩,trivial⟩) (fun x=>kR)
def g114_H:Hints:=⟨[⟨[],[0,2]⟩,⟨[],[0,2,3]⟩,⟨[],[0,2,3,7]⟩,⟨[],[0,2,3]⟩,⟨[(0,1)],[2]⟩],[],[],[2],[],[[false,true]]⟩
def g114_T (m:Nat):FunT:=⟨114,[sI],.a (.agg [.bool,(.nm 0 (.int .u32))]),[sD],fun(x:Int×Unit)=>g114 m x.1⟩
theorem g114_ok (m:Nat):FunOK Tryz.prog (g114_T m):=
 fok hmix htt (H:=g114_H) (g114_T m) Tryz.func114 kR (AllF.mem (l:=[g153_T m]) ⟨g153_ok m,trivial⟩) (L:=[]) (l:=[]) kR (fun _ hE _ _=>trivial) (fun x=>kR)
def g152_H:Hints:=⟨[⟨[],[1,2]⟩,⟨[],[2]⟩],[],[],[2],[],[[false,true]]⟩
def g152_T (m:Nat):FunT:=⟨152,[.a (.agg [.bool,(.imm (.int .u32))])],.a (.agg [.bool,(.nm 0 (.int .u32))]),[sD],fun(x:(Bool×List Int×Unit)×Unit)=>g152 m x.1.1 x.1.2.1⟩
theorem g152_ok (m:Nat):FunOK Tryz.prog (g152_T m):=
 fok hmix htt (H:=g152_H) (g152_T m) Tryz.func152 kR (AllF.mem (l:=[g153_T m]) ⟨g153_ok m,trivial⟩) (L:=[]) (l:=[]) kR (fun _ hE _ _=>trivial) (fun x=>kR)
def g163_H:Hints:=⟨[⟨[],[0,1]⟩,⟨[],[0,1,5]⟩,⟨[],[0,1,5,6]⟩,⟨[],[0,1,5,6,7]⟩,⟨[],[0,1,5,6,7,14]⟩,⟨[(0,1)],[0,1,5,6,7]⟩,⟨[],[0,1,5,6,7,20]⟩,⟨[(0,1)],[0,1,5,6,7]⟩,⟨[],[0,1,5,6,7,31]⟩,⟨[(0,1)],[0,1,5,6,7]⟩,⟨[(0,1)],[0,1,5,6,7]⟩,⟨[(0,1)],[0,1,5,6,7]⟩,⟨[(0,1),(1,1)],[4]⟩],[(0,[0,1,5,6,7])],[(0,[5,6]),(1,[0,1,5,6,7])],[4],[],[[true]]⟩
def g163_T (m:Nat):FunT:=⟨163,[.a (.c (.imm (.int .u32))),.a (.c (.imm (.int .u32)))],.a (.c (.nm 0 (.int .u32))),[sD,sD],fun(x:List Int×List Int×Unit)=>g163 m x.1 x.2.1⟩
noncomputable def g163_C:Code:=codeOf Tryz.f163
noncomputable def g163_B0:Code:=qo g163_C 0 0
def g163_L0_X (m:Nat):LT:=⟨0,[(0,.a (.c (.imm (.int .u32)))),(1,.a (.c (.imm (.int .u32)))),(5,.a (.c (.nm 0 (.int .u32)))),(6,sU),(7,sI)],[(.exit 0,[(5,.a (.c (.nm 0 (.int .u32)))),(6,sU)])],fun n (x:List Int×List Int×List Int×Int×Int×Unit)=>g163_L0 m n x.1 x.2.1 x.2.2.1 x.2.2.2.1 x.2.2.2.2.1⟩
theorem g163_L0_ok {E:Entry} (hE:EOf Tryz.prog E 51 g163_H.pins) (m:Nat) (n:Nat):ql Tryz.prog E g163_B0 ((g163_L0_X m).at n):=
 lok hmix htt hE noF (L:=[]) (g163_L0_X m) (l:=[]) kR (fun _ _=>trivial) (fun n x=>kR) (fun _=>kR) n
theorem g163_ok (m:Nat):FunOK Tryz.prog (g163_T m):=
 fok hmix htt (H:=g163_H) (g163_T m) Tryz.func163 kR noF (L:=[(g163_L0_X m).at m]) (l:=[(0,g163_B0)]) kR (fun _ hE _ _=>⟨qi ⟨yb (g163_L0_ok hE m m),trivial⟩,trivial⟩) (fun x=>kR)
def g164_H:Hints:=⟨[⟨[],[0,1]⟩,⟨[],[0,1,10]⟩,⟨[(0,1),(2,1)],[15]⟩,⟨[],[4]⟩,⟨[],[4]⟩,⟨[],[0,1,5]⟩,⟨[],[0,1,5,20]⟩,⟨[(0,1)],[0,1,5]⟩,⟨[],[0,1,5,31]⟩,⟨[(0,1),(4,1)],[40]⟩,⟨[],[4]⟩,⟨[],[4]⟩,⟨[],[4]⟩],[(0,[0,1,5])],[(0,[]),(1,[0,1,5])],[4],[],[[false]]⟩
def g164_T (m:Nat):FunT:=⟨164,[.a (.c (.imm (.int .u32))),.a (.c (.imm (.int .u32)))],sI,[sD,sD],fun(x:List Int×List Int×Unit)=>g164 m x.1 x.2.1⟩
noncomputable def g164_C:Code:=codeOf Tryz.f164
noncomputable def g164_B0:Code:=qo g164_C 0 0
def g164_L0_X (m:Nat):LT:=⟨0,[(0,.a (.c (.imm (.int .u32)))),(1,.a (.c (.imm (.int .u32)))),(5,sI)],[(.ret,[(4,sI)]),(.exit 0,[])],fun n (x:List Int×List Int×Int×Unit)=>g164_L0 m n x.1 x.2.1 x.2.2.1⟩
theorem g164_L0_ok {E:Entry} (hE:EOf Tryz.prog E 41 g164_H.pins) (m:Nat) (n:Nat):ql Tryz.prog E g164_B0 ((g164_L0_X m).at n):=
 lok hmix htt hE noF (L:=[]) (g164_L0_X m) (l:=[]) kR (fun _ _=>trivial) (fun n x=>kR) (fun _=>kR) n
theorem g164_ok (m:Nat):FunOK Tryz.prog (g164_T m):=
 fok hmix htt (H:=g164_H) (g164_T m) Tryz.func164 kR noF (L:=[(g164_L0_X m).at m]) (l:=[(0,g164_B0)]) kR (fun _ hE _ _=>⟨qi ⟨yb (g164_L0_ok hE m m),trivial⟩,trivial⟩) (fun x=>kR)
def g165_H:Hints:=⟨[⟨[],[0,1]⟩,⟨[],[0,1,5]⟩,⟨[],[0,1,5,6]⟩,⟨[],[0,1,5,6,7]⟩,⟨[],[0,1,5,6,7,12]⟩,⟨[(0,1)],[0,1,5,6,7]⟩,⟨[(5,1)],[0,1,5,7,8]⟩,⟨[],[0,1,5,7,8,25]⟩,⟨[(0,1)],[0,1,5,7,8]⟩,⟨[(0,1)],[0,1,5,7,8]⟩,⟨[(0,1)],[0,1,5,6,7]⟩,⟨[(0,1)],[4]⟩],[(0,[0,1,5,6,7])],[(0,[5]),(1,[0,1,5,6,7])],[4],[],[[true]]⟩
def g165_T (m:Nat):FunT:=⟨165,[.a (.c (.imm (.int .u32))),.a (.c (.imm (.int .u32)))],.a (.c (.nm 0 (.int .u32))),[sD,sD],fun(x:List Int×List Int×Unit)=>g165 m x.1 x.2.1⟩
noncomputable def g165_C:Code:=codeOf Tryz.f165
noncomputable def g165_B0:Code:=qo g165_C 0 0
def g165_L0_X (m:Nat):LT:=⟨0,[(0,.a (.c (.imm (.int .u32)))),(1,.a (.c (.imm (.int .u32)))),(5,.a (.c (.nm 0 (.int .u32)))),(6,sU),(7,sI)],[(.exit 0,[(5,.a (.c (.nm 0 (.int .u32))))])],fun n (x:List Int×List Int×List Int×Int×Int×Unit)=>g165_L0 m n x.1 x.2.1 x.2.2.1 x.2.2.2.1 x.2.2.2.2.1⟩
theorem g165_L0_ok {E:Entry} (hE:EOf Tryz.prog E 41 g165_H.pins) (m:Nat) (n:Nat):ql Tryz.prog E g165_B0 ((g165_L0_X m).at n):=
 lok hmix htt hE noF (L:=[]) (g165_L0_X m) (l:=[]) kR (fun _ _=>trivial) (fun n x=>kR) (fun _=>kR) n
theorem g165_ok (m:Nat):FunOK Tryz.prog (g165_T m):=
 fok hmix htt (H:=g165_H) (g165_T m) Tryz.func165 kR noF (L:=[(g165_L0_X m).at m]) (l:=[(0,g165_B0)]) kR (fun _ hE _ _=>⟨qi ⟨yb (g165_L0_ok hE m m),trivial⟩,trivial⟩) (fun x=>kR)
def g113_H:Hints:=⟨[⟨[],[2,3,4]⟩,⟨[],[2,3,4,5,6]⟩,⟨[],[2,3,4,5,6,17]⟩,⟨[(2,1),(3,1)],[4]⟩,⟨[],[2,3,4,5,6,27]⟩,⟨[(2,1),(3,1)],[4]⟩,⟨[(2,1),(3,1)],[4]⟩],[],[],[4],[],[[false,true]]⟩
def g113_T (m:Nat):FunT:=⟨113,[.a (.agg [.bool,(.imm (.int .u32))]),.a (.agg [.bool,(.imm (.int .u32))])],.a (.agg [.bool,(.nm 0 (.int .u32))]),[sD,sD],fun(x:(Bool×List Int×Unit)×(Bool×List Int×Unit)×Unit)=>g113 m x.1.1 x.1.2.1 x.2.1.1 x.2.1.2.1⟩
theorem g113_ok (m:Nat):FunOK Tryz.prog (g113_T m):=
 fok hmix htt (H:=g113_H) (g113_T m) Tryz.func113 kR (AllF.mem (l:=[g162_T m,g163_T m,g153_T m,g164_T m,g165_T m]) ⟨g162_ok m,g163_ok m,g153_ok m,g164_ok m,g165_ok m,trivial⟩) (L:=[]) (l:=[]) kR (fun _ hE _ _=>trivial) (fun x=>kR)
def g156_H:Hints:=⟨[⟨[],[2,3,4]⟩,⟨[],[4]⟩],[],[],[4],[],[[false,true]]⟩
def g156_T (m:Nat):FunT:=⟨156,[.a (.agg [.bool,(.imm (.int .u32))]),.a (.agg [.bool,(.imm (.int .u32))])],.a (.agg [.bool,(.nm 0 (.int .u32))]),[sD,sD],fun(x:(Bool×List Int×Unit)×(Bool×List Int×Unit)×Unit)=>g156 m x.1.1 x.1.2.1 x.2.1.1 x.2.1.2.1⟩
theorem g156_ok (m:Nat):FunOK Tryz.prog (g156_T m):=
 fok hmix htt (H:=g156_H) (g156_T m) Tryz.func156 kR (AllF.mem (l:=[g152_T m,g113_T m]) ⟨g152_ok m,g113_ok m,trivial⟩) (L:=[]) (l:=[]) kR (fun _ hE _ _=>trivial) (fun x=>kR)
def g101_H:Hints:=⟨[⟨[],[1,2,4]⟩,⟨[],[1,2,4]⟩,⟨[],[1,2,4,11]⟩,⟨[(4,1)],[4]⟩,⟨[(2,1),(5,1)],[2,4,5,6]⟩,⟨[(2,1)],[2,4,6,7]⟩,⟨[(2,1),(3,1)],[4,7,35]⟩,⟨[],[4,7]⟩,⟨[(0,1)],[4]⟩],[],[],[4],[],[[false,false]]⟩
def g101_T (m:Nat):FunT:=⟨101,[.a (.agg [.bool,(.imm (.int .u32))]),sI],.a (.agg [.bool,(.imm (.int .u32))]),[sD,sD],fun(x:(Bool×List Int×Unit)×Int×Unit)=>g101 m x.1.1 x.1.2.1 x.2.1⟩
theorem g101_ok (m:Nat):FunOK Tryz.prog (g101_T m):=
 fok hmix htt (H:=g101_H) (g101_T m) Tryz.func101 kR (AllF.mem (l:=[g147_T m,g154_T m,g153_T m,g155_T m,g114_T m,g156_T m]) ⟨g147_ok m,g154_ok m,g153_ok m,g155_ok m,g114_ok m,g156_ok m,trivial⟩) (L:=[]) (l:=[]) kR (fun _ hE _ _=>trivial) (fun x=>kR)
def g149_H:Hints:=⟨[⟨[],[1,2,4]⟩,⟨[],[1,2,4,6]⟩,⟨[],[1,2,4]⟩,⟨[(0,1)],[1,2,4]⟩,⟨[(1,1)],[4]⟩],[(0,[1,2,4])],[(0,[1,2,4]),(1,[1,2,4])],[4],[],[[false,false]]⟩
def g149_T (m:Nat):FunT:=⟨149,[.a (.agg [.bool,(.imm (.int .u32))]),sI],.a (.agg [.bool,(.imm (.int .u32))]),[sD,sD],fun(x:(Bool×List Int×Unit)×Int×Unit)=>g149 m x.1.1 x.1.2.1 x.2.1⟩
noncomputable def g149_C:Code:=codeOf Tryz.f149
noncomputable def g149_B0:Code:=qo g149_C 0 0
theorem g149_K (m:Nat): ∀u∈[g101_T m],FunOK Tryz.prog u:=AllF.mem ⟨g101_ok m,trivial⟩
def g149_L0_X (m:Nat):LT:=⟨0,[(1,sI),(2,.a (.bx 0 [.bool,(.imm (.int .u32))])),(4,.a (.bx 1 [.bool,(.nm 2 (.int .u32))]))],[(.exit 0,[(1,sI),(2,.a (.bx 0 [.bool,(.imm (.int .u32))])),(4,.a (.bx 1 [.bool,(.nm 2 (.int .u32))]))])],fun n (x:Int×(Bool×List Int×Unit)×(Bool×List Int×Unit)×Unit)=>g149_L0 m n x.1 x.2.1.1 x.2.1.2.1 x.2.2.1.1 x.2.2.1.2.1⟩
theorem g149_L0_ok {E:Entry} (hE:EOf Tryz.prog E 15 g149_H.pins) (m:Nat) (n:Nat):ql Tryz.prog E g149_B0 ((g149_L0_X m).at n):=
 lok hmix htt hE (g149_K m) (L:=[]) (g149_L0_X m) (l:=[]) kR (fun _ _=>trivial) (fun n x=>kR) (fun _=>kR) n
theorem g149_ok (m:Nat):FunOK Tryz.prog (g149_T m):=
 fok hmix htt (H:=g149_H) (g149_T m) Tryz.func149 kR (g149_K m) (L:=[(g149_L0_X m).at m]) (l:=[(0,g149_B0)]) kR (fun _ hE _ _=>⟨qi ⟨yb (g149_L0_ok hE m m),trivial⟩,trivial⟩) (fun x=>kR)
def g150_H:Hints:=⟨[⟨[],[1]⟩,⟨[],[3]⟩,⟨[],[3,9]⟩,⟨[],[2]⟩,⟨[],[2]⟩],[],[],[2],[],[[false]]⟩
def g150_T (m:Nat):FunT:=⟨150,[.a (.agg [.bool,(.imm (.int .u32))])],sI,[sD],fun(x:(Bool×List Int×Unit)×Unit)=>g150 m x.1.1 x.1.2.1⟩
theorem g150_ok (m:Nat):FunOK Tryz.prog (g150_T m):=
 fok hmix htt (H:=g150_H) (g150_T m) Tryz.func150 kR (AllF.mem (l:=[g162_T m,g190_T m]) ⟨g162_ok m,g190_ok m,trivial⟩) (L:=[]) (l:=[]) kR (fun _ hE _ _=>trivial) (fun x=>kR)
def g94_H:Hints:=⟨[⟨[],[1,2,4]⟩,⟨[(2,2),(3,2)],[1,2,4,5]⟩,⟨[],[1,2,4,5,13]⟩,⟨[],[4]⟩,⟨[],[1,2,4,5,16]⟩,⟨[],[4]⟩,⟨[],[1,2,4,5,6]⟩,⟨[(0,1)],[2,4,5,6,7]⟩,⟨[(2,2)],[2,4,5,6,7]⟩,⟨[(0,2),(1,1)],[2,4,5,7]⟩,⟨[(2,1)],[2,4,5,7,36]⟩,⟨[],[4]⟩,⟨[],[4,5,7]⟩,⟨[(1,1)],[4]⟩],[],[],[4],[],[[false,false,false,false]]⟩
def g94_T (m:Nat):FunT:=⟨94,[.a (.agg [.bool,(.imm (.int .u32))]),sI],.a (.agg [.bool,.bool,(.imm (.int .u32)),(.int .i64)]),[sD,sD],fun(x:(Bool×List Int×Unit)×Int×Unit)=>g94 m x.1.1 x.1.2.1 x.2.1⟩
theorem g94_ok (m:Nat):FunOK Tryz.prog (g94_T m):=
 fok hmix htt (H:=g94_H) (g94_T m) Tryz.func94 kR (AllF.mem (l:=[g147_T m,g93_T m,g148_T m,g131_T m,g149_T m,g150_T m]) ⟨g147_ok m,g93_ok m,g148_ok m,g131_ok m,g149_ok m,g150_ok m,trivial⟩) (L:=[]) (l:=[]) kR (fun _ hE _ _=>trivial) (fun x=>kR)
def g37_H:Hints:=⟨[⟨[],[0,2]⟩,⟨[],[0,2,8]⟩,⟨[],[2]⟩,⟨[],[0,2,3,4]⟩,⟨[],[0,2,3,4,5]⟩,⟨[],[0,2,3,4,5,17]⟩,⟨[(0,1)],[0,2,3,4]⟩,⟨[(0,1)],[0,2,4,5]⟩,⟨[(0,1),(9,1)],[2]⟩],[],[],[2],[],[[false,false,false,false]]⟩
def g37_T (m:Nat):FunT:=⟨37,[sU],.a (.agg [.bool,.bool,(.imm (.int .u32)),(.int .i64)]),[sD],fun(x:Int×Unit)=>g37 m x.1⟩
theorem g37_ok (m:Nat):FunOK Tryz.prog (g37_T m):=
 fok hmix htt (H:=g37_H) (g37_T m) Tryz.func37 kR (AllF.mem (l:=[g63_T m,g93_T m,g95_T m,g94_T m]) ⟨g63_ok m,g93_ok m,g95_ok m,g94_ok m,trivial⟩) (L:=[]) (l:=[]) kR (fun _ hE _ _=>trivial) (fun x=>kR)
def g128_H:Hints:=⟨[⟨[],[1,2]⟩,⟨[],[1,2,4]⟩,⟨[],[2]⟩,⟨[],[2]⟩],[],[],[2],[],[[false,false,false,false]]⟩
def g128_T (m:Nat):FunT:=⟨128,[.a (.agg [.bool,.bool,(.imm (.int .u32)),(.int .i64)])],.a (.agg [.bool,.bool,(.imm (.int .u32)),(.int .i64)]),[sD],fun(x:(Bool×Bool×List Int×Int×Unit)×Unit)=>g128 m x.1.1 x.1.2.1 x.1.2.2.1 x.1.2.2.2.1⟩
theorem g128_ok (m:Nat):FunOK Tryz.prog (g128_T m):=
 fok hmix htt (H:=g128_H) (g128_T m) Tryz.func128 kR (AllF.mem (l:=[g93_T m,g94_T m]) ⟨g93_ok m,g94_ok m,trivial⟩) (L:=[]) (l:=[]) kR (fun _ hE _ _=>trivial) (fun x=>kR)
def g129_H:Hints:=⟨[⟨[],[1]⟩,⟨[],[1]⟩,⟨[],[1,5]⟩,⟨[],[2]⟩,⟨[],[10]⟩,⟨[],[2]⟩,⟨[],[2]⟩],[],[(0,[])],[2],[],[[false]]⟩
def g129_T (m:Nat):FunT:=⟨129,[.a (.agg [.bool,(.imm (.int .u32))])],sI,[sD],fun(x:(Bool×List Int×Unit)×Unit)=>g129 m x.1.1 x.1.2.1⟩
theorem g129_ok (m:Nat):FunOK Tryz.prog (g129_T m):=
 fok hmix htt (H:=g129_H) (g129_T m) Tryz.func129 kR (AllF.mem (l:=[g147_T m]) ⟨g147_ok m,trivial⟩) (L:=[]) (l:=[]) kR (fun _ hE _ _=>trivial) (fun x=>kR)
def g100_H:Hints:=⟨[⟨[],[1]⟩,⟨[],[1]⟩,⟨[],[1,6]⟩,⟨[],[2]⟩,⟨[],[2]⟩],[],[],[2],[],[[false]]⟩
def g100_T (m:Nat):FunT:=⟨100,[.a (.agg [.bool,.bool,(.imm (.int .u32)),(.int .i64)])],sI,[sD],fun(x:(Bool×Bool×List Int×Int×Unit)×Unit)=>g100 m x.1.1 x.1.2.1 x.1.2.2.1 x.1.2.2.2.1⟩
theorem g100_ok (m:Nat):FunOK Tryz.prog (g100_T m):=
 fok hmix htt (H:=g100_H) (g100_T m) Tryz.func100 kR (AllF.mem (l:=[g128_T m,g129_T m]) ⟨g128_ok m,g129_ok m,trivial⟩) (L:=[]) (l:=[]) kR (fun _ hE _ _=>trivial) (fun x=>kR)
def g43_H:Hints:=⟨[⟨[],[1]⟩,⟨[],[1,5]⟩,⟨[],[1,5,20]⟩,⟨[(0,1)],[2,3,4]⟩,⟨[(3,1)],[1,29]⟩,⟨[],[2,3,4]⟩,⟨[],[1,6,7]⟩,⟨[],[1,6,7,8]⟩,⟨[],[1,6,7,8,34]⟩,⟨[(0,1)],[1,6,7,8]⟩,⟨[],[1,6,7,8,9]⟩,⟨[(3,1),(6,1)],[1,6,7,8,9,55]⟩,⟨[],[1,6,7,8]⟩,⟨[(2,1)],[1,6,10]⟩,⟨[(0,6)],[1,6,10,12]⟩,⟨[],[1,6,10,12,13]⟩,⟨[],[1,6,10,12,13,66]⟩,⟨[(0,1)],[1,6,10,12,13]⟩,⟨[],[1,6,10,12,13,14]⟩,⟨[],[1,6,10,12,13,14,15]⟩,⟨[],[1,6,10,12,13,14,15,72]⟩,⟨[(0,1)],[1,6,10,12,13,14,15]⟩,⟨[],[1,6,10,12,13,14,15,16]⟩,⟨[],[1,6,10,12,13,14,15,16,85]⟩,⟨[(0,1)],[1,6,10,12,13,14,15]⟩,⟨[(0,1)],[1,6,10,12,13,14,15]⟩,⟨[(0,1),(1,1),(2,6),(3,6)],[1,6,10,12,13]⟩,⟨[(0,1),(1,1)],[2,3,4]⟩],[(0,[1,6,7,8]),(2,[1,6,10,12,13]),(4,[1,6,10,12,13,14,15])],[(0,[1,6]),(1,[1,6,7,8]),(2,[6,12]),(3,[1,6,10,12,13]),(4,[1,6,10,12,13,14]),(5,[1,6,10,12,13,14,15])],[2,3,4],[],[[false],[false],[false]]⟩
def g43_T (m:Nat):FunT:=⟨43,[.a (.agg [(.int .i64),(.int .i64),(.imm (.int .i64)),(.imm (.int .i64)),(.imm (.int .u64))])],.tup [(.c (.imm (.sl false (.pr .bool (.sl false (.int .u32)))))),(.c (.int .i64)),(.c (.int .i64))],[sD],fun(x:(Int×Int×List Int×List Int×List Int×Unit)×Unit)=>g43 m x.1.1 x.1.2.1 x.1.2.2.1 x.1.2.2.2.1 x.1.2.2.2.2.1⟩
noncomputable def g43_C:Code:=codeOf Tryz.f43
noncomputable def g43_B0:Code:=qo g43_C 0 0
noncomputable def g43_B2:Code:=qo g43_C 0 1
noncomputable def g43_B4:Code:=qo g43_B2 2 0
theorem g43_K (m:Nat): ∀u∈[g45_T m,g37_T m,g100_T m,g42_T m,g101_T m],FunOK Tryz.prog u:=AllF.mem ⟨g45_ok m,g37_ok m,g100_ok m,g42_ok m,g101_ok m,trivial⟩
def g43_L2_X (m:Nat):LT:=⟨4,[(1,.a (.bx 0 [(.int .i64),(.int .i64),(.imm (.int .i64)),(.imm (.int .i64)),(.imm (.int .u64))])),(6,sI),(10,.a (.c (.imm (.sl false (.int .u64))))),(12,.a (.c (.dp 1 (.pr .bool (.sl false (.int .u32)))))),(13,sI),(14,.a (.c (.nm 2 (.pr .bool (.sl false (.int .u32)))))),(15,sI)],[(.exit 4,[(1,.a (.bx 0 [(.int .i64),(.int .i64),(.imm (.int .i64)),(.imm (.int .i64)),(.imm (.int .u64))])),(6,sI),(10,.a (.c (.imm (.sl false (.int .u64))))),(12,.a (.c (.dp 1 (.pr .bool (.sl false (.int .u32)))))),(13,sI),(14,.a (.c (.nm 2 (.pr .bool (.sl false (.int .u32))))))])],fun n (x:(Int×Int×List Int×List Int×List Int×Unit)×Int×List (List Int)×(List (List (Bool×List Int)))×Int×(List (Bool×List Int))×Int×Unit)=>g43_L2 m n x.1.1 x.1.2.1 x.1.2.2.1 x.1.2.2.2.1 x.1.2.2.2.2.1 x.2.1 x.2.2.1 x.2.2.2.1 x.2.2.2.2.1 x.2.2.2.2.2.1 x.2.2.2.2.2.2.1⟩
theorem g43_L2_ok {E:Entry} (hE:EOf Tryz.prog E 106 g43_H.pins) (m:Nat) (n:Nat):ql Tryz.prog E g43_B4 ((g43_L2_X m).at n):=
 lok hmix htt hE (g43_K m) (L:=[]) (g43_L2_X m) (l:=[]) kR (fun _ _=>trivial) (fun n x=>kR) (fun _=>kR) n
def g43_L1_X (m:Nat):LT:=⟨2,[(1,.a (.bx 0 [(.int .i64),(.int .i64),(.imm (.int .i64)),(.imm (.int .i64)),(.imm (.int .u64))])),(6,sI),(10,.a (.c (.imm (.sl false (.int .u64))))),(12,.a (.c (.dp 1 (.pr .bool (.sl false (.int .u32)))))),(13,sI)],[(.exit 2,[(6,sI),(12,.a (.c (.dp 0 (.pr .bool (.sl false (.int .u32))))))])],fun n (x:(Int×Int×List Int×List Int×List Int×Unit)×Int×List (List Int)×(List (List (Bool×List Int)))×Int×Unit)=>g43_L1 m n x.1.1 x.1.2.1 x.1.2.2.1 x.1.2.2.2.1 x.1.2.2.2.2.1 x.2.1 x.2.2.1 x.2.2.2.1 x.2.2.2.2.1⟩
theorem g43_L1_ok {E:Entry} (hE:EOf Tryz.prog E 106 g43_H.pins) (m:Nat) (n:Nat):ql Tryz.prog E g43_B2 ((g43_L1_X m).at n):=
 lok hmix htt hE (g43_K m) (L:=[(g43_L2_X m).at m]) (g43_L1_X m) (l:=[(4,g43_B4)]) kR (fun _ _=>⟨qi ⟨yb (g43_L2_ok hE m m),trivial⟩,trivial⟩) (fun n x=>kR) (fun _=>kR) n
def g43_L0_X (m:Nat):LT:=⟨0,[(1,.a (.bx 0 [(.int .i64),(.int .i64),(.imm (.int .i64)),(.imm (.int .i64)),(.imm (.int .u64))])),(6,sI),(7,sB),(8,sI)],[(.exit 0,[(1,.a (.bx 0 [(.int .i64),(.int .i64),(.imm (.int .i64)),(.imm (.int .i64)),(.imm (.int .u64))])),(6,sI)])],fun n (x:(Int×Int×List Int×List Int×List Int×Unit)×Int×Bool×Int×Unit)=>g43_L0 m n x.1.1 x.1.2.1 x.1.2.2.1 x.1.2.2.2.1 x.1.2.2.2.2.1 x.2.1 x.2.2.1 x.2.2.2.1⟩
theorem g43_L0_ok {E:Entry} (hE:EOf Tryz.prog E 106 g43_H.pins) (m:Nat) (n:Nat):ql Tryz.prog E g43_B0 ((g43_L0_X m).at n):=
 lok hmix htt hE (g43_K m) (L:=[]) (g43_L0_X m) (l:=[]) kR (fun _ _=>trivial) (fun n x=>kR) (fun _=>kR) n
theorem g43_ok (m:Nat):FunOK Tryz.prog (g43_T m):=
 fok hmix htt (H:=g43_H) (g43_T m) Tryz.func43 kR (g43_K m) (L:=[(g43_L0_X m).at m,(g43_L1_X m).at m]) (l:=[(0,g43_B0),(2,g43_B2)]) kR (fun _ hE _ _=>⟨qi ⟨yb (g43_L0_ok hE m m),nb rfl,trivial⟩,qi ⟨nb rfl,yb (g43_L1_ok hE m m),trivial⟩,trivial⟩) (fun x=>kR)
def g47_H:Hints:=⟨[⟨[],[1]⟩,⟨[],[1,5]⟩,⟨[],[2]⟩,⟨[],[2]⟩],[],[],[2],[],[[true]]⟩
def g47_T (m:Nat):FunT:=⟨47,[.a (.agg [(.int .i64),(.int .i64),(.imm (.int .i64)),(.imm (.int .i64)),(.imm (.int .u64))])],.a (.c (.nm 0 (.pr (.int .i64) (.pr (.int .i64) (.int .u64))))),[sD],fun(x:(Int×Int×List Int×List Int×List Int×Unit)×Unit)=>g47 m x.1.1 x.1.2.1 x.1.2.2.1 x.1.2.2.2.1 x.1.2.2.2.2.1⟩
theorem g47_ok (m:Nat):FunOK Tryz.prog (g47_T m):=
 fok hmix htt (H:=g47_H) (g47_T m) Tryz.func47 kR (AllF.mem (l:=[g44_T m,g73_T m]) ⟨g44_ok m,g73_ok m,trivial⟩) (L:=[]) (l:=[]) kR (fun _ hE _ _=>trivial) (fun x=>kR)
def g46_H:Hints:=⟨[⟨[],[0,1]⟩,⟨[],[0,1,10]⟩,⟨[],[4]⟩,⟨[],[0,1,5]⟩,⟨[],[0,1,5,14]⟩,⟨[(0,1)],[0,1,5]⟩,⟨[],[0,1,5,25]⟩,⟨[],[4]⟩,⟨[],[4]⟩],[(0,[0,1,5])],[(0,[]),(1,[0,1,5])],[4],[],[[false]]⟩
def g46_T (m:Nat):FunT:=⟨46,[.a (.c (.imm (.pr (.int .i64) (.pr (.int .i64) (.int .u64))))),.a (.c (.imm (.pr (.int .i64) (.pr (.int .i64) (.int .u64)))))],sB,[sD,sD],fun(x:(List (Int×Int×Int))×(List (Int×Int×Int))×Unit)=>g46 m x.1 x.2.1⟩
noncomputable def g46_C:Code:=codeOf Tryz.f46
noncomputable def g46_B0:Code:=qo g46_C 0 0
def g46_L0_X (m:Nat):LT:=⟨0,[(0,.a (.c (.imm (.pr (.int .i64) (.pr (.int .i64) (.int .u64)))))),(1,.a (.c (.imm (.pr (.int .i64) (.pr (.int .i64) (.int .u64)))))),(5,sI)],[(.ret,[(4,sB)]),(.exit 0,[])],fun n (x:(List (Int×Int×Int))×(List (Int×Int×Int))×Int×Unit)=>g46_L0 m n x.1 x.2.1 x.2.2.1⟩
theorem g46_L0_ok {E:Entry} (hE:EOf Tryz.prog E 26 g46_H.pins) (m:Nat) (n:Nat):ql Tryz.prog E g46_B0 ((g46_L0_X m).at n):=
 lok hmix htt hE noF (L:=[]) (g46_L0_X m) (l:=[]) kR (fun _ _=>trivial) (fun n x=>kR) (fun _=>kR) n
theorem g46_ok (m:Nat):FunOK Tryz.prog (g46_T m):=
 fok hmix htt (H:=g46_H) (g46_T m) Tryz.func46 kR noF (L:=[(g46_L0_X m).at m]) (l:=[(0,g46_B0)]) kR (fun _ hE _ _=>⟨qi ⟨yb (g46_L0_ok hE m m),trivial⟩,trivial⟩) (fun x=>kR)
def g187_H:Hints:=⟨[⟨[],[0]⟩,⟨[],[2]⟩],[],[],[2],[],[[false]]⟩
def g187_T (m:Nat):FunT:=⟨187,[sI],sB,[sD],fun(x:Int×Unit)=>g187 m x.1⟩
theorem g187_ok (m:Nat):FunOK Tryz.prog (g187_T m):=
 fok hmix htt (H:=g187_H) (g187_T m) Tryz.func187 kR noF (L:=[]) (l:=[]) kR (fun _ hE _ _=>trivial) (fun x=>kR)
def g143_H:Hints:=⟨[⟨[],[0,1]⟩,⟨[],[0,1,6]⟩,⟨[],[0,1,6,7,8]⟩,⟨[],[0,1,6,7,8,15]⟩,⟨[],[0,1,6,7,8,9]⟩,⟨[],[0,1,6,7,8,9,27]⟩,⟨[(0,1)],[0,1,6,7,8]⟩,⟨[(0,1)],[0,1,6,7,8]⟩,⟨[(2,1),(4,1),(11,1),(17,1)],[4,5]⟩],[(0,[0,1,6,7,8])],[(0,[0,1,6,7]),(1,[0,1,6,7,8])],[4,5],[],[[false],[false]]⟩
def g143_T (m:Nat):FunT:=⟨143,[sL,sI],.tup [(.c (.int .i64)),(.c .bool)],[sD,sD],fun(x:List Int×Int×Unit)=>g143 m x.1 x.2.1⟩
noncomputable def g143_C:Code:=codeOf Tryz.f143
noncomputable def g143_B0:Code:=qo g143_C 0 0
theorem g143_K (m:Nat): ∀u∈[g186_T m,g187_T m],FunOK Tryz.prog u:=AllF.mem ⟨g186_ok m,g187_ok m,trivial⟩
def g143_L0_X (m:Nat):LT:=⟨0,[(0,sL),(1,sI),(6,sI),(7,sI),(8,sI)],[(.exit 0,[(0,sL),(1,sI),(6,sI),(7,sI)])],fun n (x:List Int×Int×Int×Int×Int×Unit)=>g143_L0 m n x.1 x.2.1 x.2.2.1 x.2.2.2.1 x.2.2.2.2.1⟩
theorem g143_L0_ok {E:Entry} (hE:EOf Tryz.prog E 54 g143_H.pins) (m:Nat) (n:Nat):ql Tryz.prog E g143_B0 ((g143_L0_X m).at n):=
 lok hmix htt hE (g143_K m) (L:=[]) (g143_L0_X m) (l:=[]) kR (fun _ _=>trivial) (fun n x=>kR) (fun _=>kR) n
theorem g143_ok (m:Nat):FunOK Tryz.prog (g143_T m):=
 fok hmix htt (H:=g143_H) (g143_T m) Tryz.func143 kR (g143_K m) (L:=[(g143_L0_X m).at m]) (l:=[(0,g143_B0)]) kR (fun _ hE _ _=>⟨qi ⟨yb (g143_L0_ok hE m m),trivial⟩,trivial⟩) (fun x=>kR)
def g85_H:Hints:=⟨[⟨[],[1,2,3]⟩,⟨[(14,1),(16,1)],[2,3,8,9]⟩,⟨[(0,1)],[2,3,8,30]⟩,⟨[],[6,7]⟩,⟨[(4,1),(7,1)],[6,7]⟩],[],[],[6,7],[],[[false],[false]]⟩
def g85_T (m:Nat):FunT:=⟨85,[.a (.agg [(.int .i64),(.int .i64),(.imm (.int .i64)),(.imm (.int .i64)),(.imm (.int .u64))]),sI,sI],.tup [(.c (.int .u64)),(.c .bool)],[sD,sD,sD],fun(x:(Int×Int×List Int×List Int×List Int×Unit)×Int×Int×Unit)=>g85 m x.1.1 x.1.2.1 x.1.2.2.1 x.1.2.2.2.1 x.1.2.2.2.2.1 x.2.1 x.2.2.1⟩
theorem g85_ok (m:Nat):FunOK Tryz.prog (g85_T m):=
 fok hmix htt (H:=g85_H) (g85_T m) Tryz.func85 kR (AllF.mem (l:=[g143_T m]) ⟨g143_ok m,trivial⟩) (L:=[]) (l:=[]) kR (fun _ hE _ _=>trivial) (fun x=>kR)
def g30_H:Hints:=⟨[⟨[],[1,2,3]⟩,⟨[(3,1),(11,1)],[1,2,3,27]⟩,⟨[],[6]⟩,⟨[(1,1),(2,1),(4,1)],[7]⟩,⟨[(0,1)],[6]⟩],[],[],[6],[],[[false]]⟩
def g30_T (m:Nat):FunT:=⟨30,[.a (.agg [(.int .i64),(.int .i64),(.imm (.int .i64)),(.imm (.int .i64)),(.imm (.int .u64))]),sI,sI],sU,[sD,sD,sD],fun(x:(Int×Int×List Int×List Int×List Int×Unit)×Int×Int×Unit)=>g30 m x.1.1 x.1.2.1 x.1.2.2.1 x.1.2.2.2.1 x.1.2.2.2.2.1 x.2.1 x.2.2.1⟩
theorem g30_ok (m:Nat):FunOK Tryz.prog (g30_T m):=
 fok hmix htt (H:=g30_H) (g30_T m) Tryz.func30 kR (AllF.mem (l:=[g44_T m,g57_T m,g85_T m]) ⟨g44_ok m,g57_ok m,g85_ok m,trivial⟩) (L:=[]) (l:=[]) kR (fun _ hE _ _=>trivial) (fun x=>kR)
def g38_H:Hints:=⟨[⟨[],[1,2,3]⟩,⟨[(3,1),(7,1)],[1,2,3,20]⟩,⟨[],[6]⟩,⟨[],[1,2,3,7]⟩,⟨[],[1,2,3,7,33]⟩,⟨[(0,1)],[1,2,3,7]⟩,⟨[],[1,2,3,7,42]⟩,⟨[(2,1)],[6]⟩,⟨[],[6]⟩],[(0,[1,2,3,7])],[(0,[]),(1,[1,2,3,7])],[6],[],[[false]]⟩
def g38_T (m:Nat):FunT:=⟨38,[.a (.agg [(.int .i64),(.int .i64),(.imm (.int .i64)),(.imm (.int .i64)),(.imm (.int .u64))]),sI,sI],sU,[sD,sD,sD],fun(x:(Int×Int×List Int×List Int×List Int×Unit)×Int×Int×Unit)=>g38 m x.1.1 x.1.2.1 x.1.2.2.1 x.1.2.2.2.1 x.1.2.2.2.2.1 x.2.1 x.2.2.1⟩
noncomputable def g38_C:Code:=codeOf Tryz.f38
noncomputable def g38_B0:Code:=qo g38_C 0 0
theorem g38_K (m:Nat): ∀u∈[g45_T m],FunOK Tryz.prog u:=AllF.mem ⟨g45_ok m,trivial⟩
def g38_L0_X (m:Nat):LT:=⟨0,[(1,sI),(2,sI),(3,.a (.bx 0 [(.int .i64),(.int .i64),(.imm (.int .i64)),(.imm (.int .i64)),(.imm (.int .u64))])),(7,sI)],[(.ret,[(6,sU)]),(.exit 0,[])],fun n (x:Int×Int×(Int×Int×List Int×List Int×List Int×Unit)×Int×Unit)=>g38_L0 m n x.1 x.2.1 x.2.2.1.1 x.2.2.1.2.1 x.2.2.1.2.2.1 x.2.2.1.2.2.2.1 x.2.2.1.2.2.2.2.1 x.2.2.2.1⟩
theorem g38_L0_ok {E:Entry} (hE:EOf Tryz.prog E 48 g38_H.pins) (m:Nat) (n:Nat):ql Tryz.prog E g38_B0 ((g38_L0_X m).at n):=
 lok hmix htt hE (g38_K m) (L:=[]) (g38_L0_X m) (l:=[]) kR (fun _ _=>trivial) (fun n x=>kR) (fun _=>kR) n
theorem g38_ok (m:Nat):FunOK Tryz.prog (g38_T m):=
 fok hmix htt (H:=g38_H) (g38_T m) Tryz.func38 kR (g38_K m) (L:=[(g38_L0_X m).at m]) (l:=[(0,g38_B0)]) kR (fun _ hE _ _=>⟨qi ⟨yb (g38_L0_ok hE m m),trivial⟩,trivial⟩) (fun x=>kR)
def g138_H:Hints:=⟨[⟨[],[0,1]⟩,⟨[],[0,1,10]⟩,⟨[],[4]⟩,⟨[],[0,1,5]⟩,⟨[],[0,1,5,14]⟩,⟨[(0,1)],[0,1,5]⟩,⟨[],[0,1,5,25]⟩,⟨[],[4]⟩,⟨[],[4]⟩],[(0,[0,1,5])],[(0,[]),(1,[0,1,5])],[4],[],[[false]]⟩
def g138_T (m:Nat):FunT:=⟨138,[.a (.c (.imm (.int .u32))),.a (.c (.imm (.int .u32)))],sB,[sD,sD],fun(x:List Int×List Int×Unit)=>g138 m x.1 x.2.1⟩
noncomputable def g138_C:Code:=codeOf Tryz.f138
noncomputable def g138_B0:Code:=qo g138_C 0 0
def g138_L0_X (m:Nat):LT:=⟨0,[(0,.a (.c (.imm (.int .u32)))),(1,.a (.c (.imm (.int .u32)))),(5,sI)],[(.ret,[(4,sB)]),(.exit 0,[])],fun n (x:List Int×List Int×Int×Unit)=>g138_L0 m n x.1 x.2.1 x.2.2.1⟩
theorem g138_L0_ok {E:Entry} (hE:EOf Tryz.prog E 26 g138_H.pins) (m:Nat) (n:Nat):ql Tryz.prog E g138_B0 ((g138_L0_X m).at n):=
 lok hmix htt hE noF (L:=[]) (g138_L0_X m) (l:=[]) kR (fun _ _=>trivial) (fun n x=>kR) (fun _=>kR) n
theorem g138_ok (m:Nat):FunOK Tryz.prog (g138_T m):=
 fok hmix htt (H:=g138_H) (g138_T m) Tryz.func138 kR noF (L:=[(g138_L0_X m).at m]) (l:=[(0,g138_B0)]) kR (fun _ hE _ _=>⟨qi ⟨yb (g138_L0_ok hE m m),trivial⟩,trivial⟩) (fun x=>kR)
def g79_H:Hints:=⟨[⟨[],[2,3]⟩,⟨[(5,1)],[4]⟩],[],[],[4],[],[[false]]⟩
def g79_T (m:Nat):FunT:=⟨79,[.a (.agg [.bool,(.imm (.int .u32))]),.a (.agg [.bool,(.imm (.int .u32))])],sB,[sD,sD],fun(x:(Bool×List Int×Unit)×(Bool×List Int×Unit)×Unit)=>g79 m x.1.1 x.1.2.1 x.2.1.1 x.2.1.2.1⟩
theorem g79_ok (m:Nat):FunOK Tryz.prog (g79_T m):=
 fok hmix htt (H:=g79_H) (g79_T m) Tryz.func79 kR (AllF.mem (l:=[g138_T m]) ⟨g138_ok m,trivial⟩) (L:=[]) (l:=[]) kR (fun _ hE _ _=>trivial) (fun x=>kR)
def g105_H:Hints:=⟨[⟨[],[0,1]⟩,⟨[],[0,1,10]⟩,⟨[],[4]⟩,⟨[],[0,1,5]⟩,⟨[],[0,1,5,14]⟩,⟨[(0,1)],[0,1,5]⟩,⟨[],[0,1,5,26]⟩,⟨[],[4]⟩,⟨[],[4]⟩],[(0,[0,1,5])],[(0,[]),(1,[0,1,5])],[4],[],[[false]]⟩
def g105_T (m:Nat):FunT:=⟨105,[.a (.c (.imm (.pr .bool (.sl false (.int .u32))))),.a (.c (.imm (.pr .bool (.sl false (.int .u32)))))],sB,[sD,sD],fun(x:(List (Bool×List Int))×(List (Bool×List Int))×Unit)=>g105 m x.1 x.2.1⟩
noncomputable def g105_C:Code:=codeOf Tryz.f105
noncomputable def g105_B0:Code:=qo g105_C 0 0
theorem g105_K (m:Nat): ∀u∈[g79_T m],FunOK Tryz.prog u:=AllF.mem ⟨g79_ok m,trivial⟩
def g105_L0_X (m:Nat):LT:=⟨0,[(0,.a (.c (.imm (.pr .bool (.sl false (.int .u32)))))),(1,.a (.c (.imm (.pr .bool (.sl false (.int .u32)))))),(5,sI)],[(.ret,[(4,sB)]),(.exit 0,[])],fun n (x:(List (Bool×List Int))×(List (Bool×List Int))×Int×Unit)=>g105_L0 m n x.1 x.2.1 x.2.2.1⟩
theorem g105_L0_ok {E:Entry} (hE:EOf Tryz.prog E 27 g105_H.pins) (m:Nat) (n:Nat):ql Tryz.prog E g105_B0 ((g105_L0_X m).at n):=
 lok hmix htt hE (g105_K m) (L:=[]) (g105_L0_X m) (l:=[]) kR (fun _ _=>trivial) (fun n x=>kR) (fun _=>kR) n
theorem g105_ok (m:Nat):FunOK Tryz.prog (g105_T m):=
 fok hmix htt (H:=g105_H) (g105_T m) Tryz.func105 kR (g105_K m) (L:=[(g105_L0_X m).at m]) (l:=[(0,g105_B0)]) kR (fun _ hE _ _=>⟨qi ⟨yb (g105_L0_ok hE m m),trivial⟩,trivial⟩) (fun x=>kR)
def g49_H:Hints:=⟨[⟨[],[0,1]⟩,⟨[],[0,1,10]⟩,⟨[],[4]⟩,⟨[],[0,1,5]⟩,⟨[],[0,1,5,14]⟩,⟨[(0,1)],[0,1,5]⟩,⟨[],[0,1,5,26]⟩,⟨[],[4]⟩,⟨[],[4]⟩],[(0,[0,1,5])],[(0,[]),(1,[0,1,5])],[4],[],[[false]]⟩
def g49_T (m:Nat):FunT:=⟨49,[.a (.c (.imm (.sl false (.pr .bool (.sl false (.int .u32)))))),.a (.c (.imm (.sl false (.pr .bool (.sl false (.int .u32))))))],sB,[sD,sD],fun(x:(List (List (Bool×List Int)))×(List (List (Bool×List Int)))×Unit)=>g49 m x.1 x.2.1⟩
noncomputable def g49_C:Code:=codeOf Tryz.f49
noncomputable def g49_B0:Code:=qo g49_C 0 0
theorem g49_K (m:Nat): ∀u∈[g105_T m],FunOK Tryz.prog u:=AllF.mem ⟨g105_ok m,trivial⟩
def g49_L0_X (m:Nat):LT:=⟨0,[(0,.a (.c (.imm (.sl false (.pr .bool (.sl false (.int .u32))))))),(1,.a (.c (.imm (.sl false (.pr .bool (.sl false (.int .u32))))))),(5,sI)],[(.ret,[(4,sB)]),(.exit 0,[])],fun n (x:(List (List (Bool×List Int)))×(List (List (Bool×List Int)))×Int×Unit)=>g49_L0 m n x.1 x.2.1 x.2.2.1⟩
theorem g49_L0_ok {E:Entry} (hE:EOf Tryz.prog E 27 g49_H.pins) (m:Nat) (n:Nat):ql Tryz.prog E g49_B0 ((g49_L0_X m).at n):=
 lok hmix htt hE (g49_K m) (L:=[]) (g49_L0_X m) (l:=[]) kR (fun _ _=>trivial) (fun n x=>kR) (fun _=>kR) n
theorem g49_ok (m:Nat):FunOK Tryz.prog (g49_T m):=
 fok hmix htt (H:=g49_H) (g49_T m) Tryz.func49 kR (g49_K m) (L:=[(g49_L0_X m).at m]) (l:=[(0,g49_B0)]) kR (fun _ hE _ _=>⟨qi ⟨yb (g49_L0_ok hE m m),trivial⟩,trivial⟩) (fun x=>kR)
def g108_H:Hints:=⟨[⟨[],[0]⟩,⟨[(0,1),(2,1)],[3,4]⟩,⟨[(2,1)],[3,4,10]⟩,⟨[],[2]⟩,⟨[],[3,4,17]⟩,⟨[],[2]⟩,⟨[(0,1),(2,1),(3,1)],[20]⟩,⟨[],[2]⟩,⟨[],[2]⟩],[],[(0,[])],[2],[],[[false]]⟩
def g108_T (m:Nat):FunT:=⟨108,[sU],sI,[sD],fun(x:Int×Unit)=>g108 m x.1⟩
theorem g108_ok (m:Nat):FunOK Tryz.prog (g108_T m):=
 fok hmix htt (H:=g108_H) (g108_T m) Tryz.func108 kR (AllF.mem (l:=[g81_T m]) ⟨g81_ok m,trivial⟩) (L:=[]) (l:=[]) kR (fun _ hE _ _=>trivial) (fun x=>kR)
def g92_H:Hints:=⟨[⟨[],[0]⟩,⟨[(0,1)],[5,6,7]⟩,⟨[],[5,6,7,8]⟩,⟨[],[4,5,6,7]⟩,⟨[(0,1)],[5,6,7,13]⟩,⟨[],[2]⟩,⟨[(1,1)],[5,6,7]⟩,⟨[],[2]⟩],[(0,[5,6,7])],[(0,[]),(1,[5,6,7])],[2],[],[[false]]⟩
def g92_T (m:Nat):FunT:=⟨92,[.a (.c (.imm (.int .u64)))],sB,[sD],fun(x:List Int×Unit)=>g92 m x.1⟩
noncomputable def g92_C:Code:=codeOf Tryz.f92
noncomputable def g92_B0:Code:=qo g92_C 0 0
theorem g92_K (m:Nat): ∀u∈[g108_T m],FunOK Tryz.prog u:=AllF.mem ⟨g108_ok m,trivial⟩
def g92_L0_X (m:Nat):LT:=⟨0,[(5,.a (.c (.imm (.int .u64)))),(6,sI),(7,sI)],[(.ret,[(2,sB)]),(.exit 0,[])],fun n (x:List Int×Int×Int×Unit)=>g92_L0 m n x.1 x.2.1 x.2.2.1⟩
theorem g92_L0_ok {E:Entry} (hE:EOf Tryz.prog E 15 g92_H.pins) (m:Nat) (n:Nat):ql Tryz.prog E g92_B0 ((g92_L0_X m).at n):=
 lok hmix htt hE (g92_K m) (L:=[]) (g92_L0_X m) (l:=[]) kR (fun _ _=>trivial) (fun n x=>kR) (fun _=>kR) n
theorem g92_ok (m:Nat):FunOK Tryz.prog (g92_T m):=
 fok hmix htt (H:=g92_H) (g92_T m) Tryz.func92 kR (g92_K m) (L:=[(g92_L0_X m).at m]) (l:=[(0,g92_B0)]) kR (fun _ hE _ _=>⟨qi ⟨yb (g92_L0_ok hE m m),trivial⟩,trivial⟩) (fun x=>kR)
def g159_H:Hints:=⟨[⟨[],[0]⟩,⟨[],[0,3]⟩,⟨[(0,1)],[3,8]⟩,⟨[(0,1)],[2]⟩,⟨[(0,1)],[2]⟩],[],[],[2],[],[[false]]⟩
def g159_T (m:Nat):FunT:=⟨159,[sU],sI,[sD],fun(x:Int×Unit)=>g159 m x.1⟩
theorem g159_ok (m:Nat):FunOK Tryz.prog (g159_T m):=
 fok hmix htt (H:=g159_H) (g159_T m) Tryz.func159 kR (AllF.mem (l:=[g83_T m]) ⟨g83_ok m,trivial⟩) (L:=[]) (l:=[]) kR (fun _ hE _ _=>trivial) (fun x=>kR)
def g106_H:Hints:=⟨[⟨[],[0,1]⟩,⟨[],[0,1,11]⟩,⟨[],[4,5]⟩,⟨[(0,1),(2,1)],[6,7]⟩,⟨[],[6,7,16]⟩,⟨[],[4,5]⟩,⟨[(0,1),(1,1)],[20]⟩,⟨[],[4,5]⟩,⟨[],[4,5]⟩],[],[(0,[])],[4,5],[],[[false],[false]]⟩
def g106_T (m:Nat):FunT:=⟨106,[sU,sU],.tup [(.c (.int .i64)),(.c .bool)],[sD,sD],fun(x:Int×Int×Unit)=>g106 m x.1 x.2.1⟩
theorem g106_ok (m:Nat):FunOK Tryz.prog (g106_T m):=
 fok hmix htt (H:=g106_H) (g106_T m) Tryz.func106 kR (AllF.mem (l:=[g92_T m,g159_T m]) ⟨g92_ok m,g159_ok m,trivial⟩) (L:=[]) (l:=[]) kR (fun _ hE _ _=>trivial) (fun x=>kR)
def g50_H:Hints:=⟨[⟨[],[1]⟩,⟨[(3,1)],[1,18]⟩,⟨[],[2]⟩,⟨[],[1,20,21,22]⟩,⟨[],[1,20,21,22,23]⟩,⟨[],[1,4,20,21,22]⟩,⟨[(6,1)],[1,4,5,20,21,22]⟩,⟨[(2,1),(4,1)],[1,7,20,21,22]⟩,⟨[(0,1)],[1,20,21,22,43]⟩,⟨[],[2]⟩,⟨[(1,1)],[1,20,21,22]⟩,⟨[],[2]⟩],[(0,[1,20,21,22])],[(0,[]),(1,[1,20,21,22])],[2],[],[[false]]⟩
def g50_T (m:Nat):FunT:=⟨50,[.a (.agg [(.int .i64),(.int .i64),(.imm (.int .i64)),(.imm (.int .i64)),(.imm (.int .u64))])],sB,[sD],fun(x:(Int×Int×List Int×List Int×List Int×Unit)×Unit)=>g50 m x.1.1 x.1.2.1 x.1.2.2.1 x.1.2.2.2.1 x.1.2.2.2.2.1⟩
noncomputable def g50_C:Code:=codeOf Tryz.f50
noncomputable def g50_B0:Code:=qo g50_C 0 0
theorem g50_K (m:Nat): ∀u∈[g44_T m,g73_T m,g85_T m,g106_T m],FunOK Tryz.prog u:=AllF.mem ⟨g44_ok m,g73_ok m,g85_ok m,g106_ok m,trivial⟩
def g50_L0_X (m:Nat):LT:=⟨0,[(1,.a (.bx 0 [(.int .i64),(.int .i64),(.imm (.int .i64)),(.imm (.int .i64)),(.imm (.int .u64))])),(20,.a (.c (.nm 1 (.pr (.int .i64) (.pr (.int .i64) (.int .u64)))))),(21,sI),(22,sI)],[(.ret,[(2,sB)]),(.exit 0,[])],fun n (x:(Int×Int×List Int×List Int×List Int×Unit)×(List (Int×Int×Int))×Int×Int×Unit)=>g50_L0 m n x.1.1 x.1.2.1 x.1.2.2.1 x.1.2.2.2.1 x.1.2.2.2.2.1 x.2.1 x.2.2.1 x.2.2.2.1⟩
theorem g50_L0_ok {E:Entry} (hE:EOf Tryz.prog E 45 g50_H.pins) (m:Nat) (n:Nat):ql Tryz.prog E g50_B0 ((g50_L0_X m).at n):=
 lok hmix htt hE (g50_K m) (L:=[]) (g50_L0_X m) (l:=[]) kR (fun _ _=>trivial) (fun n x=>kR) (fun _=>kR) n
theorem g50_ok (m:Nat):FunOK Tryz.prog (g50_T m):=
 fok hmix htt (H:=g50_H) (g50_T m) Tryz.func50 kR (g50_K m) (L:=[(g50_L0_X m).at m]) (l:=[(0,g50_B0)]) kR (fun _ hE _ _=>⟨qi ⟨yb (g50_L0_ok hE m m),trivial⟩,trivial⟩) (fun x=>kR)
def g111_H:Hints:=⟨[⟨[],[0]⟩,⟨[],[3,4]⟩,⟨[(2,1)],[3,4,10]⟩,⟨[],[2]⟩,⟨[],[3,4,17]⟩,⟨[],[2]⟩,⟨[(0,1),(2,1),(3,1)],[20]⟩,⟨[],[2]⟩,⟨[],[2]⟩],[],[(0,[])],[2],[],[[false]]⟩
def g111_T (m:Nat):FunT:=⟨111,[sU],sI,[sD],fun(x:Int×Unit)=>g111 m x.1⟩
theorem g111_ok (m:Nat):FunOK Tryz.prog (g111_T m):=
 fok hmix htt (H:=g111_H) (g111_T m) Tryz.func111 kR noF (L:=[]) (l:=[]) kR (fun _ hE _ _=>trivial) (fun x=>kR)
def g160_H:Hints:=⟨[⟨[],[0]⟩,⟨[(0,1)],[2]⟩],[],[],[2],[],[[false]]⟩
def g160_T (m:Nat):FunT:=⟨160,[sU],sB,[sD],fun(x:Int×Unit)=>g160 m x.1⟩
theorem g160_ok (m:Nat):FunOK Tryz.prog (g160_T m):=
 fok hmix htt (H:=g160_H) (g160_T m) Tryz.func160 kR (AllF.mem (l:=[g111_T m]) ⟨g111_ok m,trivial⟩) (L:=[]) (l:=[]) kR (fun _ hE _ _=>trivial) (fun x=>kR)
def g161_H:Hints:=⟨[⟨[],[0]⟩,⟨[],[0,4]⟩,⟨[(0,1)],[2]⟩,⟨[(0,1)],[2]⟩],[],[],[2],[],[[false]]⟩
def g161_T (m:Nat):FunT:=⟨161,[sU],sI,[sD],fun(x:Int×Unit)=>g161 m x.1⟩
theorem g161_ok (m:Nat):FunOK Tryz.prog (g161_T m):=
 fok hmix htt (H:=g161_H) (g161_T m) Tryz.func161 kR (AllF.mem (l:=[g95_T m]) ⟨g95_ok m,trivial⟩) (L:=[]) (l:=[]) kR (fun _ hE _ _=>trivial) (fun x=>kR)
def g107_H:Hints:=⟨[⟨[],[0,1]⟩,⟨[(2,1)],[0,1,11]⟩,⟨[],[4,5]⟩,⟨[],[0,1,12]⟩,⟨[],[4,5]⟩,⟨[(0,1),(2,1)],[18]⟩,⟨[],[4,5]⟩,⟨[],[4,5]⟩],[],[(0,[])],[4,5],[],[[false],[false]]⟩
def g107_T (m:Nat):FunT:=⟨107,[sU,sU],.tup [(.c (.int .i64)),(.c .bool)],[sD,sD],fun(x:Int×Int×Unit)=>g107 m x.1 x.2.1⟩
theorem g107_ok (m:Nat):FunOK Tryz.prog (g107_T m):=
 fok hmix htt (H:=g107_H) (g107_T m) Tryz.func107 kR (AllF.mem (l:=[g160_T m,g161_T m]) ⟨g160_ok m,g161_ok m,trivial⟩) (L:=[]) (l:=[]) kR (fun _ hE _ _=>trivial) (fun x=>kR)
def g51_H:Hints:=⟨[⟨[],[1]⟩,⟨[(3,1)],[1,16]⟩,⟨[],[2]⟩,⟨[],[1,3]⟩,⟨[],[1,3,20]⟩,⟨[(0,1)],[1,3]⟩,⟨[],[1,3,4]⟩,⟨[],[1,3,4,25]⟩,⟨[(0,1)],[1,3,4]⟩,⟨[(9,1)],[1,3,4,5]⟩,⟨[(0,1)],[1,3,4,41]⟩,⟨[],[2]⟩,⟨[],[2]⟩],[(0,[1,3]),(2,[1,3,4])],[(0,[]),(1,[1,3]),(2,[1,3]),(3,[1,3,4])],[2],[],[[false]]⟩
def g51_T (m:Nat):FunT:=⟨51,[.a (.agg [(.int .i64),(.int .i64),(.imm (.int .i64)),(.imm (.int .i64)),(.imm (.int .u64))])],sB,[sD],fun(x:(Int×Int×List Int×List Int×List Int×Unit)×Unit)=>g51 m x.1.1 x.1.2.1 x.1.2.2.1 x.1.2.2.2.1 x.1.2.2.2.2.1⟩
noncomputable def g51_C:Code:=codeOf Tryz.f51
noncomputable def g51_B0:Code:=qo g51_C 0 0
noncomputable def g51_B2:Code:=qo g51_B0 0 0
theorem g51_K (m:Nat): ∀u∈[g45_T m,g38_T m,g107_T m],FunOK Tryz.prog u:=AllF.mem ⟨g45_ok m,g38_ok m,g107_ok m,trivial⟩
def g51_L1_X (m:Nat):LT:=⟨2,[(1,.a (.bx 0 [(.int .i64),(.int .i64),(.imm (.int .i64)),(.imm (.int .i64)),(.imm (.int .u64))])),(3,sI),(4,sI)],[(.ret,[(2,sB)]),(.exit 2,[(1,.a (.bx 0 [(.int .i64),(.int .i64),(.imm (.int .i64)),(.imm (.int .i64)),(.imm (.int .u64))])),(3,sI)])],fun n (x:(Int×Int×List Int×List Int×List Int×Unit)×Int×Int×Unit)=>g51_L1 m n x.1.1 x.1.2.1 x.1.2.2.1 x.1.2.2.2.1 x.1.2.2.2.2.1 x.2.1 x.2.2.1⟩
theorem g51_L1_ok {E:Entry} (hE:EOf Tryz.prog E 42 g51_H.pins) (m:Nat) (n:Nat):ql Tryz.prog E g51_B2 ((g51_L1_X m).at n):=
 lok hmix htt hE (g51_K m) (L:=[]) (g51_L1_X m) (l:=[]) kR (fun _ _=>trivial) (fun n x=>kR) (fun _=>kR) n
def g51_L0_X (m:Nat):LT:=⟨0,[(1,.a (.bx 0 [(.int .i64),(.int .i64),(.imm (.int .i64)),(.imm (.int .i64)),(.imm (.int .u64))])),(3,sI)],[(.ret,[(2,sB)]),(.exit 0,[])],fun n (x:(Int×Int×List Int×List Int×List Int×Unit)×Int×Unit)=>g51_L0 m n x.1.1 x.1.2.1 x.1.2.2.1 x.1.2.2.2.1 x.1.2.2.2.2.1 x.2.1⟩
theorem g51_L0_ok {E:Entry} (hE:EOf Tryz.prog E 42 g51_H.pins) (m:Nat) (n:Nat):ql Tryz.prog E g51_B0 ((g51_L0_X m).at n):=
 lok hmix htt hE (g51_K m) (L:=[(g51_L1_X m).at m]) (g51_L0_X m) (l:=[(2,g51_B2)]) kR (fun _ _=>⟨qi ⟨yb (g51_L1_ok hE m m),trivial⟩,trivial⟩) (fun n x=>kR) (fun _=>kR) n
theorem g51_ok (m:Nat):FunOK Tryz.prog (g51_T m):=
 fok hmix htt (H:=g51_H) (g51_T m) Tryz.func51 kR (g51_K m) (L:=[(g51_L0_X m).at m]) (l:=[(0,g51_B0)]) kR (fun _ hE _ _=>⟨qi ⟨yb (g51_L0_ok hE m m),trivial⟩,trivial⟩) (fun x=>kR)
def g19_H:Hints:=⟨[⟨[],[0,1]⟩,⟨[],[0,1,10]⟩,⟨[],[4]⟩,⟨[],[0,1,5]⟩,⟨[],[0,1,5,14]⟩,⟨[(0,1)],[0,1,5]⟩,⟨[],[0,1,5,25]⟩,⟨[],[4]⟩,⟨[],[4]⟩],[(0,[0,1,5])],[(0,[]),(1,[0,1,5])],[4],[],[[false]]⟩
def g19_T (m:Nat):FunT:=⟨19,[.a (.c (.imm (.int .u64))),.a (.c (.imm (.int .u64)))],sB,[sD,sD],fun(x:List Int×List Int×Unit)=>g19 m x.1 x.2.1⟩
noncomputable def g19_C:Code:=codeOf Tryz.f19
noncomputable def g19_B0:Code:=qo g19_C 0 0
def g19_L0_X (m:Nat):LT:=⟨0,[(0,.a (.c (.imm (.int .u64)))),(1,.a (.c (.imm (.int .u64)))),(5,sI)],[(.ret,[(4,sB)]),(.exit 0,[])],fun n (x:List Int×List Int×Int×Unit)=>g19_L0 m n x.1 x.2.1 x.2.2.1⟩
theorem g19_L0_ok {E:Entry} (hE:EOf Tryz.prog E 26 g19_H.pins) (m:Nat) (n:Nat):ql Tryz.prog E g19_B0 ((g19_L0_X m).at n):=
 lok hmix htt hE noF (L:=[]) (g19_L0_X m) (l:=[]) kR (fun _ _=>trivial) (fun n x=>kR) (fun _=>kR) n
theorem g19_ok (m:Nat):FunOK Tryz.prog (g19_T m):=
 fok hmix htt (H:=g19_H) (g19_T m) Tryz.func19 kR noF (L:=[(g19_L0_X m).at m]) (l:=[(0,g19_B0)]) kR (fun _ hE _ _=>⟨qi ⟨yb (g19_L0_ok hE m m),trivial⟩,trivial⟩) (fun x=>kR)
def g52_H:Hints:=⟨[⟨[],[2,3]⟩,⟨[(5,1),(12,1),(19,1),(26,1)],[4]⟩],[],[],[4],[],[[false]]⟩
def g52_T (m:Nat):FunT:=⟨52,[.a (.agg [(.int .i64),(.int .i64),(.imm (.int .i64)),(.imm (.int .i64)),(.imm (.int .u64))]),.a (.agg [(.int .i64),(.int .i64),(.imm (.int .i64)),(.imm (.int .i64)),(.imm (.int .u64))])],sB,[sD,sD],fun(x:(Int×Int×List Int×List Int×List Int×Unit)×(Int×Int×List Int×List Int×List Int×Unit)×Unit)=>g52 m x.1.1 x.1.2.1 x.1.2.2.1 x.1.2.2.2.1 x.1.2.2.2.2.1 x.2.1.1 x.2.1.2.1 x.2.1.2.2.1 x.2.1.2.2.2.1 x.2.1.2.2.2.2.1⟩
theorem g52_ok (m:Nat):FunOK Tryz.prog (g52_T m):=
 fok hmix htt (H:=g52_H) (g52_T m) Tryz.func52 kR (AllF.mem (l:=[g56_T m,g19_T m]) ⟨g56_ok m,g19_ok m,trivial⟩) (L:=[]) (l:=[]) kR (fun _ hE _ _=>trivial) (fun x=>kR)
def sparselaw09_MatrixParts_H:Hints:=⟨[⟨[],[1,2,3]⟩,⟨[],[1,2,3,21]⟩,⟨[],[6]⟩,⟨[(2,2),(3,2)],[1,2,3,7]⟩,⟨[(0,2),(2,1)],[1,2,3,7,8,9]⟩,⟨[(2,1)],[1,2,3,7,8,9,10,11]⟩,⟨[(2,1)],[1,2,3,7,8,9,10,11,12,13,14]⟩,⟨[(2,1)],[1,2,3,7,8,9,10,11,12,13,14,15,16,17]⟩,⟨[(5,1),(13,1),(24,1),(25,1),(26,1),(29,1),(36,1),(37,1),(38,1),(41,1),(42,1),(43,1),(46,1),(47,1),(48,1),(52,1)],[3,7,8,10,105]⟩,⟨[],[6]⟩,⟨[],[3,7,8,10,18]⟩,⟨[],[3,7,8,10,18,109]⟩,⟨[(0,1)],[3,7,8,10,18]⟩,⟨[],[3,7,8,10,18,121]⟩,⟨[],[6]⟩,⟨[(3,1)],[6]⟩],[(0,[3,7,8,10,18])],[(0,[3,7]),(1,[3,7,8,10,18])],[6],[],[[false]]⟩
abbrev sparselaw09_MatrixParts_A:List Sh:=[.a (.agg [(.int .i64),(.int .i64),(.imm (.int .i64)),(.imm (.int .i64)),(.imm (.int .u64))]),sI,sI]
abbrev sparselaw09_MatrixParts_S:Sh:= sB
abbrev sparselaw09_MatrixParts_U:List Sh:=[sD,sD,sD]
def sparselaw09_MatrixParts_R (m:Nat):Qq sparselaw09_MatrixParts_A→Option (sparselaw09_MatrixParts_S.Val×Qq sparselaw09_MatrixParts_U):=fun(x:(Int×Int×List Int×List Int×List Int×Unit)×Int×Int×Unit)=>sparselaw09_MatrixParts m x.1.1 x.1.2.1 x.1.2.2.1 x.1.2.2.2.1 x.1.2.2.2.2.1 x.2.1 x.2.2.1
def sparselaw09_MatrixParts_T (m:Nat):FunT:=⟨8,sparselaw09_MatrixParts_A,sparselaw09_MatrixParts_S,sparselaw09_MatrixParts_U,sparselaw09_MatrixParts_R m⟩
noncomputable def sparselaw09_MatrixParts_C:Code:=codeOf Tryz.f8
noncomputable def sparselaw09_MatrixParts_B0:Code:=qo sparselaw09_MatrixParts_C 0 0
theorem sparselaw09_MatrixParts_K (m:Nat): ∀u∈[sparselaw09_small_T m,sparselaw09_awake_T m,g40_T m,g41_T m,g42_T m,g26_T m,g43_T m,g44_T m,g45_T m,g47_T m,g48_T m,g46_T m,g30_T m,g38_T m,g49_T m,g50_T m,g51_T m,g19_T m,g52_T m],FunOK Tryz.prog u:=AllF.mem ⟨sparselaw09_small_ok m,sparselaw09_awake_ok m,g40_ok m,g41_ok m,g42_ok m,g26_ok m,g43_ok m,g44_ok m,g45_ok m,g47_ok m,g48_ok m,g46_ok m,g30_ok m,g38_ok m,g49_ok m,g50_ok m,g51_ok m,g19_ok m,g52_ok m,trivial⟩
def sparselaw09_MatrixParts_L0_X (m:Nat):LT:=⟨0,[(3,.a (.bx 0 [(.int .i64),(.int .i64),(.imm (.int .i64)),(.imm (.int .i64)),(.imm (.int .u64))])),(7,.a (.bx 1 [(.int .i64),(.int .i64),(.imm (.int .i64)),(.imm (.int .i64)),(.imm (.int .u64))])),(8,.a (.c (.imm (.sl false (.int .u64))))),(10,.a (.c (.imm (.sl false (.int .u64))))),(18,sI)],[(.ret,[(6,sB)]),(.exit 0,[(3,.a (.bx 0 [(.int .i64),(.int .i64),(.imm (.int .i64)),(.imm (.int .i64)),(.imm (.int .u64))])),(7,.a (.bx 1 [(.int .i64),(.int .i64),(.imm (.int .i64)),(.imm (.int .i64)),(.imm (.int .u64))]))])],fun n (x:(Int×Int×List Int×List Int×List Int×Unit)×(Int×Int×List Int×List Int×List Int×Unit)×List (List Int)×List (List Int)×Int×Unit)=>sparselaw09_MatrixParts_L0 m n x.1.1 x.1.2.1 x.1.2.2.1 x.1.2.2.2.1 x.1.2.2.2.2.1 x.2.1.1 x.2.1.2.1 x.2.1.2.2.1 x.2.1.2.2.2.1 x.2.1.2.2.2.2.1 x.2.2.1 x.2.2.2.1 x.2.2.2.2.1⟩
theorem sparselaw09_MatrixParts_L0_ok {E:Entry} (hE:EOf Tryz.prog E 128 sparselaw09_MatrixParts_H.pins) (m:Nat) (n:Nat):ql Tryz.prog E sparselaw09_MatrixParts_B0 ((sparselaw09_MatrixParts_L0_X m).at n):=
 lok hmix htt hE (sparselaw09_MatrixParts_K m) (L:=[]) (sparselaw09_MatrixParts_L0_X m) (l:=[]) kR (fun _ _=>trivial) (fun n x=>kR) (fun _=>kR) n
theorem sparselaw09_MatrixParts_ok (m:Nat):FunOK Tryz.prog (sparselaw09_MatrixParts_T m):=
 fok hmix htt (H:=sparselaw09_MatrixParts_H) (sparselaw09_MatrixParts_T m) Tryz.func8 kR (sparselaw09_MatrixParts_K m) (L:=[(sparselaw09_MatrixParts_L0_X m).at m]) (l:=[(0,sparselaw09_MatrixParts_B0)]) kR (fun _ hE _ _=>⟨qi ⟨yb (sparselaw09_MatrixParts_L0_ok hE m m),trivial⟩,trivial⟩) (fun x=>kR)
end Go.Vs.F
