/-The plain functions are what the code does (by program:gen.py). -/
import Derived.Test.YtjjndhlkoehkdaaGreatDoorFn
import Derived.Test.YtjjndhlkoehkdaaGreatDoorVc
import Derived.Test.YtjjndhlkoehkdaaGreatDoorProg
import Derived.KernelRfl
set_option linter.unusedVariables false
set_option maxRecDepth 100000
namespace Go.Vs.F
open Go.Proofs
theorem kR{p:Prop}(h:p:=by kernel_rfl):p:=h
abbrev sD:Sh:=.a (.c .dead)
abbrev sI:Sh:=.a (.c (.int .i64))
abbrev sL:Sh:=.a (.c (.imm (.int .i64)))
abbrev sB:Sh:=.a (.c .bool)
abbrev sU:Sh:=.a (.c (.int .u64))
def tt:TT:=[none,none,none,some ⟨(.int .i64),[.int .i64]⟩,some ⟨.bool,[.bool]⟩,some ⟨(.int .u8),[.int .u8]⟩,none,none,none,some ⟨.string,[.other]⟩,none,none,none,none,none,none,none,none,none,none,none,none,some ⟨(.slice 80 (.pr (.int .i64) (.pr (.int .i64) (.int .u64)))),[.nil (.pr (.int .i64) (.pr (.int .i64) (.int .u64)))]⟩,none,some ⟨(.slice 3 (.int .i64)),[.nil (.int .i64)]⟩,some ⟨(.slice 45 (.int .u64)),[.nil (.int .u64)]⟩,none,some ⟨(.struct [(0,1),(1,1),(2,1),(3,1),(4,1)]),[.int .i64,.int .i64,.nil (.int .i64),.nil (.int .i64),.nil (.int .u64)]⟩,none,none,none,none,none,none,none,none,none,none,none,none,none,none,none,none,some ⟨(.int .u64),[.int .u64]⟩,some ⟨(.int .u64),[.int .u64]⟩,none,some ⟨(.slice 50 (.sl false (.pr .bool (.sl false (.int .u32))))),[.nil (.sl false (.pr .bool (.sl false (.int .u32))))]⟩,none,none,some ⟨(.slice 54 (.pr .bool (.sl false (.int .u32)))),[.nil (.pr .bool (.sl false (.int .u32)))]⟩,none,some ⟨(.slice 113 (.int .u32)),[.nil (.int .u32)]⟩,none,some ⟨(.struct [(0,1),(1,1)]),[.bool,.nil (.int .u32)]⟩,none,some ⟨(.struct [(0,1),(1,2),(3,1)]),[.bool,.bool,.nil (.int .u32),.int .i64]⟩,none,none,none,none,none,none,none,none,none,none,none,none,some ⟨(.slice 25 (.sl false (.int .u64))),[.nil (.sl false (.int .u64))]⟩,none,none,none,none,none,none,none,none,none,none,some ⟨(.struct [(0,1),(1,1),(2,1)]),[.int .i64,.int .i64,.int .u64]⟩,none,none,none,none,some ⟨(.slice 56 (.pr .bool (.pr (.pr .bool (.sl false (.int .u32))) (.int .i64)))),[.nil (.pr .bool (.pr (.pr .bool (.sl false (.int .u32))) (.int .i64)))]⟩,none,none,none,none,none,none,none,none,none,some ⟨(.int .u64),[.int .u64]⟩,none,none,none,none,none,none,none,none,none,none,none,none,none,none,none,none,none,some ⟨(.int .u32),[.int .u32]⟩,none,none,none,none,none,none,none,none,none,none,none,none,none,none,none,none,none,none,none,none,none,none,none,some ⟨(.struct [(0,1),(1,2),(3,1),(4,1)]),[.bool,.bool,.nil (.int .u32),.int .i64,.bool]⟩,none,none,some ⟨(.slice 85 (.sl false (.pr .bool (.pr (.pr .bool (.sl false (.int .u32))) (.int .i64))))),[.nil (.sl false (.pr .bool (.pr (.pr .bool (.sl false (.int .u32))) (.int .i64))))]⟩,none,none,none,none,none,none,none,none,some ⟨(.tab 0 .u8 [0,1,28,2,29,14,24,3,30,22,20,15,25,17,4,8,31,27,13,23,21,19,16,7,26,12,18,6,11,5,10,9]),[.other,.other,.other,.other,.other,.other,.other,.other,.other,.other,.other,.other,.other,.other,.other,.other,.other,.other,.other,.other,.other,.other,.other,.other,.other,.other,.other,.other,.other,.other,.other,.other]⟩]
theorem htt:TTok Tryz.prog tt:=qe8 kR
theorem hmix:Tryz.prog.follows .mixedOrders=true:=kR
def sparselaw09_small_H:Hints:=⟨[⟨[],[1]⟩,⟨[(4,1),(10,1),(16,1),(20,1),(26,1),(30,1)],[2]⟩],[],[],[2],[],[[false]]⟩
abbrev sparselaw09_small_A:List Sh:=[.a (.agg [(.int .i64),(.int .i64),(.imm (.int .i64)),(.imm (.int .i64)),(.imm (.int .u64))])]
abbrev sparselaw09_small_S:Sh:= sB
abbrev sparselaw09_small_U:List Sh:=[sD]
def sparselaw09_small_R (m:Nat):Qq sparselaw09_small_A→Option (sparselaw09_small_S.Val×Qq sparselaw09_small_U):=fun(x:(Int×Int×List Int×List Int×List Int×Unit)×Unit)=>sparselaw09_small m x.1.1 x.1.2.1 x.1.2.2.1 x.1.2.2.2.1 x.1.2.2.2.2.1
def sparselaw09_small_T (m:Nat):FunT:=⟨14,sparselaw09_small_A,sparselaw09_small_S,sparselaw09_small_U,sparselaw09_small_R m⟩
theorem sparselaw09_small_ok (m:Nat):FunOK Tryz.prog (sparselaw09_small_T m):=
 fok hmix htt (H:=sparselaw09_small_H) (sparselaw09_small_T m) Tryz.func14 kR noF (L:=[]) (l:=[]) kR (fun _ hE _ _=>trivial) (fun x=>kR)
def g57_H:Hints:=⟨[⟨[],[0,1,2]⟩,⟨[(1,1),(3,1),(5,1)],[6]⟩],[],[],[6],[],[[false]]⟩
def g57_T (m:Nat):FunT:=⟨57,[sI,sI,sI],sB,[sD,sD,sD],fun(x:Int×Int×Int×Unit)=>g57 m x.1 x.2.1 x.2.2.1⟩
theorem g57_ok (m:Nat):FunOK Tryz.prog (g57_T m):=
 fok hmix htt (H:=g57_H) (g57_T m) Tryz.func57 kR noF (L:=[]) (l:=[]) kR (fun _ hE _ _=>trivial) (fun x=>kR)
def g81_H:Hints:=⟨[⟨[],[0]⟩,⟨[],[2,3]⟩],[],[],[2,3],[],[[false],[false]]⟩
def g81_T (m:Nat):FunT:=⟨81,[sU],.tup [(.c (.int .i64)),(.c (.int .u64))],[sD],fun(x:Int×Unit)=>g81 m x.1⟩
theorem g81_ok (m:Nat):FunOK Tryz.prog (g81_T m):=
 fok hmix htt (H:=g81_H) (g81_T m) Tryz.func81 kR noF (L:=[]) (l:=[]) kR (fun _ hE _ _=>trivial) (fun x=>kR)
def g58_H:Hints:=⟨[⟨[],[0]⟩,⟨[(0,1),(2,1)],[3]⟩,⟨[(0,1)],[2]⟩],[],[],[2],[],[[false]]⟩
def g58_T (m:Nat):FunT:=⟨58,[sU],sB,[sD],fun(x:Int×Unit)=>g58 m x.1⟩
theorem g58_ok (m:Nat):FunOK Tryz.prog (g58_T m):=
 fok hmix htt (H:=g58_H) (g58_T m) Tryz.func58 kR (AllF.mem (l:=[g81_T m]) ⟨g81_ok m,trivial⟩) (L:=[]) (l:=[]) kR (fun _ hE _ _=>trivial) (fun x=>kR)
def g117_H:Hints:={regs:=[⟨[],[0]⟩,⟨[],[0]⟩,⟨[],[2]⟩,⟨[],[2]⟩],heads:=[],exits:=[],rets:=[2],pins:=[],spec:=[[true]]}
abbrev g117_A:List Sh:=[.a (.c (.imm (.pr (.int .i64) (.pr (.int .i64) (.int .u64)))))]
abbrev g117_S:Sh:= .a (.c (.nm 0 (.pr (.int .i64) (.pr (.int .i64) (.int .u64)))))
abbrev g117_U:List Sh:=[sD]
def g117_R (m:Nat):Qq g117_A→Option (g117_S.Val×Qq g117_U):=fun(x:(List (Int×Int×Int))×Unit)=>g117 m x.1
def g117_T (m:Nat):FunT:=⟨117,g117_A,g117_S,g117_U,g117_R m⟩
noncomputable def g117_C:Code:=codeOf Tryz.f117
theorem g117_ok (m:Nat):FunOK Tryz.prog (g117_T m):=
 qc8 hmix htt (H:=g117_H) (fn:=Tryz.f117) (f:=117) (t:=(.pr (.int .i64) (.pr (.int .i64) (.int .u64)))) (ty:=22) (e:=80) (ty2:=22) (k:=1) (cells:=[.nil (.pr (.int .i64) (.pr (.int .i64) (.int .u64)))]) (A:=pA g117_C) (X:=pX (pB (pA (pB g117_C)))) (Y:=pB (pB g117_C)) (o0:=pO 0 (pA (pA (pB g117_C)))) (o1:=pO 1 (pA (pA (pB g117_C)))) Tryz.func117 kR kR kR kR kR kR kR kR kR (of_decide_eq_true kR) rfl kR kR kR (fun xs=>[(0,.sl .imm (.pr (.int .i64) (.pr (.int .i64) (.int .u64))) xs)]) (fun xs=>[(2,.sl (.nm 0) (.pr (.int .i64) (.pr (.int .i64) (.int .u64))) xs)]) (fun xs=>kR) (fun _=>rfl) (fun _=>rfl) (fun _=>rfl) kR (fun xs=>kR) (fun xs=>kR)
def g168_H:Hints:=⟨[⟨[],[0]⟩,⟨[],[2]⟩],[],[],[2],[],[[false]]⟩
def g168_T (m:Nat):FunT:=⟨168,[sI],sB,[sD],fun(x:Int×Unit)=>g168 m x.1⟩
theorem g168_ok (m:Nat):FunOK Tryz.prog (g168_T m):=
 fok hmix htt (H:=g168_H) (g168_T m) Tryz.func168 kR noF (L:=[]) (l:=[]) kR (fun _ hE _ _=>trivial) (fun x=>kR)
def g121_H:Hints:=⟨[⟨[],[0,1]⟩,⟨[],[0,1,5]⟩,⟨[],[0,1,5,6]⟩,⟨[(0,1)],[0,1,6,11]⟩,⟨[(0,1)],[12]⟩,⟨[],[4]⟩,⟨[],[4]⟩,⟨[(0,1)],[0,1,13]⟩,⟨[],[4]⟩,⟨[],[0,1,16]⟩,⟨[],[4]⟩,⟨[(0,1),(1,1)],[19]⟩,⟨[],[4]⟩,⟨[],[4]⟩],[],[],[4],[],[[false]]⟩
def g121_T (m:Nat):FunT:=⟨121,[sI,sI],sI,[sD,sD],fun(x:Int×Int×Unit)=>g121 m x.1 x.2.1⟩
theorem g121_ok (m:Nat):FunOK Tryz.prog (g121_T m):=
 fok hmix htt (H:=g121_H) (g121_T m) Tryz.func121 kR (AllF.mem (l:=[g168_T m]) ⟨g168_ok m,trivial⟩) (L:=[]) (l:=[]) kR (fun _ hE _ _=>trivial) (fun x=>kR)
def g120_H:Hints:=⟨[⟨[],[0]⟩,⟨[],[0,3]⟩,⟨[(0,1)],[3,6,7,8]⟩,⟨[],[3,6,7,8,9]⟩,⟨[],[3,5,6,7,8]⟩,⟨[],[3,5,6,7,8,14]⟩,⟨[(0,1)],[2]⟩,⟨[(1,1)],[3,6,7,8]⟩,⟨[(0,1)],[2]⟩],[(0,[3,6,7,8])],[(0,[3]),(1,[3,6,7,8])],[2],[],[[false]]⟩
def g120_T (m:Nat):FunT:=⟨120,[sL],sI,[sD],fun(x:List Int×Unit)=>g120 m x.1⟩
noncomputable def g120_C:Code:=codeOf Tryz.f120
noncomputable def g120_B0:Code:=qo g120_C 0 0
def g120_L0_X (m:Nat):LT:=⟨0,[(3,sI),(6,sL),(7,sI),(8,sI)],[(.ret,[(2,sI)]),(.exit 0,[(3,sI)])],fun n (x:Int×List Int×Int×Int×Unit)=>g120_L0 m n x.1 x.2.1 x.2.2.1 x.2.2.2.1⟩
theorem g120_L0_ok {E:Entry} (hE:EOf Tryz.prog E 18 g120_H.pins) (m:Nat) (n:Nat):ql Tryz.prog E g120_B0 ((g120_L0_X m).at n):=
 lok hmix htt hE noF (L:=[]) (g120_L0_X m) (l:=[]) kR (fun _ _=>trivial) (fun n x=>kR) (fun _=>kR) n
theorem g120_ok (m:Nat):FunOK Tryz.prog (g120_T m):=
 fok hmix htt (H:=g120_H) (g120_T m) Tryz.func120 kR noF (L:=[(g120_L0_X m).at m]) (l:=[(0,g120_B0)]) kR (fun _ hE _ _=>⟨qi ⟨yb (g120_L0_ok hE m m),trivial⟩,trivial⟩) (fun x=>kR)
def g119_H:Hints:=⟨[⟨[],[2,3]⟩,⟨[],[4]⟩],[],[],[4],[],[[false]]⟩
def g119_T (m:Nat):FunT:=⟨119,[.a (.agg [(.int .i64),(.int .i64),(.int .u64)]),.a (.agg [(.int .i64),(.int .i64),(.int .u64)])],sI,[sD,sD],fun(x:(Int×Int×Int×Unit)×(Int×Int×Int×Unit)×Unit)=>g119 m x.1.1 x.1.2.1 x.1.2.2.1 x.2.1.1 x.2.1.2.1 x.2.1.2.2.1⟩
theorem g119_ok (m:Nat):FunOK Tryz.prog (g119_T m):=
 fok hmix htt (H:=g119_H) (g119_T m) Tryz.func119 kR (AllF.mem (l:=[g121_T m,g120_T m]) ⟨g121_ok m,g120_ok m,trivial⟩) (L:=[]) (l:=[]) kR (fun _ hE _ _=>trivial) (fun x=>kR)
def g192_H:Hints:=⟨[⟨[],[0,1,2,3,8]⟩,⟨[],[0,1,2,3,8,14]⟩,⟨[(0,1)],[0,1,2,3,8]⟩,⟨[],[0,1,2,3,8,9]⟩,⟨[(3,1)],[0,1,2,3,8,9,34]⟩,⟨[(0,1)],[0,1,2,3,8,9]⟩,⟨[],[0,1,2,3,8,9]⟩],[(0,[0,1,2,3,8]),(2,[0,1,2,3,8,9])],[(0,[0]),(1,[0,1,2,3,8]),(2,[0,1,2,3,8]),(3,[0,1,2,3,8,9])],[0],[0],[]⟩
def g192_T (m:Nat):FunT:=⟨192,[.a (.c (.nm 0 (.pr (.int .i64) (.pr (.int .i64) (.int .u64))))),sI,sI,.a (.c (.fn 119))],.tup [],[.a (.c (.nm 0 (.pr (.int .i64) (.pr (.int .i64) (.int .u64))))),sD,sD,sD],fun(x:(List (Int×Int×Int))×Int×Int×Unit×Unit)=>g192 m x.1 x.2.1 x.2.2.1⟩
noncomputable def g192_C:Code:=codeOf Tryz.f192
noncomputable def g192_B0:Code:=qo g192_C 0 0
noncomputable def g192_B2:Code:=qo g192_B0 0 0
theorem g192_K (m:Nat): ∀u∈[g119_T m],FunOK Tryz.prog u:=AllF.mem ⟨g119_ok m,trivial⟩
def g192_L1_X (m:Nat):LT:=⟨2,[(0,.a (.c (.nm 0 (.pr (.int .i64) (.pr (.int .i64) (.int .u64)))))),(1,sI),(2,sI),(3,.a (.c (.fn 119))),(8,sI),(9,sI)],[(.exit 2,[(0,.a (.c (.nm 0 (.pr (.int .i64) (.pr (.int .i64) (.int .u64)))))),(1,sI),(2,sI),(3,.a (.c (.fn 119))),(8,sI)])],fun n (x:(List (Int×Int×Int))×Int×Int×Unit×Int×Int×Unit)=>g192_L1 m n x.1 x.2.1 x.2.2.1 x.2.2.2.2.1 x.2.2.2.2.2.1⟩
theorem g192_L1_ok {E:Entry} (hE:EOf Tryz.prog E 53 g192_H.pins) (m:Nat) (n:Nat):ql Tryz.prog E g192_B2 ((g192_L1_X m).at n):=
 lok hmix htt hE (g192_K m) (L:=[]) (g192_L1_X m) (l:=[]) kR (fun _ _=>trivial) (fun n x=>kR) (fun _=>kR) n
def g192_L0_X (m:Nat):LT:=⟨0,[(0,.a (.c (.nm 0 (.pr (.int .i64) (.pr (.int .i64) (.int .u64)))))),(1,sI),(2,sI),(3,.a (.c (.fn 119))),(8,sI)],[(.exit 0,[(0,.a (.c (.nm 0 (.pr (.int .i64) (.pr (.int .i64) (.int .u64))))))])],fun n (x:(List (Int×Int×Int))×Int×Int×Unit×Int×Unit)=>g192_L0 m n x.1 x.2.1 x.2.2.1 x.2.2.2.2.1⟩
theorem g192_L0_ok {E:Entry} (hE:EOf Tryz.prog E 53 g192_H.pins) (m:Nat) (n:Nat):ql Tryz.prog E g192_B0 ((g192_L0_X m).at n):=
 lok hmix htt hE (g192_K m) (L:=[(g192_L1_X m).at m]) (g192_L0_X m) (l:=[(2,g192_B2)]) kR (fun _ _=>⟨qi ⟨yb (g192_L1_ok hE m m),trivial⟩,trivial⟩) (fun n x=>kR) (fun _=>kR) n
theorem g192_ok (m:Nat):FunOK Tryz.prog (g192_T m):=
 fok hmix htt (H:=g192_H) (g192_T m) Tryz.func192 kR (g192_K m) (L:=[(g192_L0_X m).at m]) (l:=[(0,g192_B0)]) kR (fun _ hE _ _=>⟨qi ⟨yb (g192_L0_ok hE m m),trivial⟩,trivial⟩) (fun x=>kR)
def g204_H:Hints:=⟨[⟨[],[0,1,2,3,10]⟩,⟨[],[0,1,2,3,10,13]⟩,⟨[(0,1)],[0,1,2,3,10]⟩,⟨[],[0,1,2,3,10]⟩],[(0,[0,1,2,3,10])],[(0,[0]),(1,[0,1,2,3,10])],[0],[0],[]⟩
def g204_T (m:Nat):FunT:=⟨204,[.a (.c (.nm 0 (.pr (.int .i64) (.pr (.int .i64) (.int .u64))))),sI,sI,sI,.a (.c (.fn 119))],.tup [],[.a (.c (.nm 0 (.pr (.int .i64) (.pr (.int .i64) (.int .u64))))),sD,sD,sD,sD],fun(x:(List (Int×Int×Int))×Int×Int×Int×Unit×Unit)=>g204 m x.1 x.2.1 x.2.2.1 x.2.2.2.1⟩
noncomputable def g204_C:Code:=codeOf Tryz.f204
noncomputable def g204_B0:Code:=qo g204_C 0 0
def g204_L0_X (m:Nat):LT:=⟨0,[(0,.a (.c (.nm 0 (.pr (.int .i64) (.pr (.int .i64) (.int .u64)))))),(1,sI),(2,sI),(3,sI),(10,sI)],[(.exit 0,[(0,.a (.c (.nm 0 (.pr (.int .i64) (.pr (.int .i64) (.int .u64))))))])],fun n (x:(List (Int×Int×Int))×Int×Int×Int×Int×Unit)=>g204_L0 m n x.1 x.2.1 x.2.2.1 x.2.2.2.1 x.2.2.2.2.1⟩
theorem g204_L0_ok {E:Entry} (hE:EOf Tryz.prog E 38 g204_H.pins) (m:Nat) (n:Nat):ql Tryz.prog E g204_B0 ((g204_L0_X m).at n):=
 lok hmix htt hE noF (L:=[]) (g204_L0_X m) (l:=[]) kR (fun _ _=>trivial) (fun n x=>kR) (fun _=>kR) n
theorem g204_ok (m:Nat):FunOK Tryz.prog (g204_T m):=
 fok hmix htt (H:=g204_H) (g204_T m) Tryz.func204 kR noF (L:=[(g204_L0_X m).at m]) (l:=[(0,g204_B0)]) kR (fun _ hE _ _=>⟨qi ⟨yb (g204_L0_ok hE m m),trivial⟩,trivial⟩) (fun x=>kR)
def g201_H:Hints:=⟨[⟨[(1,1)],[0,2,3,4,10]⟩,⟨[(0,1)],[0,2,4,10,11]⟩,⟨[],[0,2,4,10,11,20]⟩,⟨[],[0,2,4,10,11,23]⟩,⟨[(7,11)],[0,2,4,10,11]⟩,⟨[(0,1)],[0,2,4,10,11]⟩,⟨[(11,11)],[0,2,4,10,11]⟩,⟨[(0,1)],[0,2,4,10,11]⟩,⟨[(6,1),(7,11)],[0]⟩],[(0,[0,2,4,10,11])],[(0,[0,2,4,10]),(1,[0,2,4,10,11])],[0],[0],[]⟩
def g201_T (m:Nat):FunT:=⟨201,[.a (.c (.nm 0 (.pr (.int .i64) (.pr (.int .i64) (.int .u64))))),sI,sI,sI,.a (.c (.fn 119))],.tup [],[.a (.c (.nm 0 (.pr (.int .i64) (.pr (.int .i64) (.int .u64))))),sD,sD,sD,sD],fun(x:(List (Int×Int×Int))×Int×Int×Int×Unit×Unit)=>g201 m x.1 x.2.1 x.2.2.1 x.2.2.2.1⟩
noncomputable def g201_C:Code:=codeOf Tryz.f201
noncomputable def g201_B0:Code:=qo g201_C 0 0
theorem g201_K (m:Nat): ∀u∈[g204_T m],FunOK Tryz.prog u:=AllF.mem ⟨g204_ok m,trivial⟩
def g201_L0_X (m:Nat):LT:=⟨0,[(0,.a (.c (.nm 0 (.pr (.int .i64) (.pr (.int .i64) (.int .u64)))))),(2,sI),(4,.a (.c (.fn 119))),(10,sI),(11,sI)],[(.exit 0,[(0,.a (.c (.nm 0 (.pr (.int .i64) (.pr (.int .i64) (.int .u64)))))),(2,sI),(4,.a (.c (.fn 119))),(10,sI)])],fun n (x:(List (Int×Int×Int))×Int×Unit×Int×Int×Unit)=>g201_L0 m n x.1 x.2.1 x.2.2.2.1 x.2.2.2.2.1⟩
theorem g201_L0_ok {E:Entry} (hE:EOf Tryz.prog E 58 g201_H.pins) (m:Nat) (n:Nat):ql Tryz.prog E g201_B0 ((g201_L0_X m).at n):=
 lok hmix htt hE (g201_K m) (L:=[]) (g201_L0_X m) (l:=[]) kR (fun _ _=>trivial) (fun n x=>kR) (fun _=>kR) n
theorem g201_ok (m:Nat):FunOK Tryz.prog (g201_T m):=
 fok hmix htt (H:=g201_H) (g201_T m) Tryz.func201 kR (g201_K m) (L:=[(g201_L0_X m).at m]) (l:=[(0,g201_B0)]) kR (fun _ hE _ _=>⟨qi ⟨yb (g201_L0_ok hE m m),trivial⟩,trivial⟩) (fun x=>kR)
def g193_H:Hints:=⟨[⟨[],[0,1,2,3,4,28]⟩,⟨[(0,1)],[0,1,3,4,10]⟩,⟨[(0,1)],[0,1,4,10,11]⟩,⟨[],[0,1,4,10,11,33]⟩,⟨[],[0,1,4,10,11,12]⟩,⟨[],[0,1,4,10,11,12,50]⟩,⟨[(0,1)],[0,1,4,10,11]⟩,⟨[(0,1)],[0,1,4,10,11]⟩,⟨[(0,1)],[0,10,13]⟩,⟨[],[0,10,13,58]⟩,⟨[(0,1)],[0,10,13]⟩,⟨[],[0,10,13]⟩,⟨[],[0,1,2,3,4,80]⟩,⟨[(0,1)],[0,2,4,14]⟩,⟨[],[0,2,4,14,15]⟩,⟨[],[0,2,4,14,15,85]⟩,⟨[],[0,2,4,14,15,16]⟩,⟨[],[0,2,4,14,15,16,103]⟩,⟨[(0,1)],[0,2,4,14,15]⟩,⟨[(0,1)],[0,2,4,14,15]⟩,⟨[(0,1)],[0,14,17]⟩,⟨[],[0,14,17,110]⟩,⟨[(0,1)],[0,14,17]⟩,⟨[],[0,14,17]⟩,⟨[],[0,1,2,3,4,18]⟩,⟨[],[0,1,2,3,4,18,19]⟩,⟨[],[0,1,2,3,4,18,19]⟩,⟨[],[0,1,2,3,4,18,19,140]⟩,⟨[],[0,1,2,3,4,18,19,20]⟩,⟨[],[0,1,2,3,4,18,19,20,21]⟩,⟨[],[0,1,2,3,4,18,19,20]⟩,⟨[],[0,1,2,3,4,18,19,20,21]⟩,⟨[],[0,1,2,3,4,18,19,20,21,22]⟩,⟨[],[0,1,2,3,4,18,19,20,21,22,151]⟩,⟨[],[0,1,2,3,4,18,19,20,21,22,23]⟩,⟨[],[0,1,2,3,4,18,19,20,21,22,23,171]⟩,⟨[(0,1)],[0,1,2,3,4,18,19,20,21,22]⟩,⟨[(0,1)],[0,1,2,3,4,18,19,20,21,22]⟩,⟨[(0,1)],[0,1,2,3,4,18,20,24]⟩,⟨[(3,1)],[0,1,2,3,4,18,20,24,185]⟩,⟨[(2,1),(5,11)],[0,1,3,4,18,20,24]⟩,⟨[(3,1)],[0,1,3,4,18,20,24,199]⟩,⟨[(1,1),(2,1),(5,11)],[0,3,4,18,24]⟩,⟨[(3,1)],[0,3,4,18,24,213]⟩,⟨[(1,1),(2,1),(3,1),(4,1),(5,11)],[0]⟩],[(0,[0,1,4,10,11]),(2,[0,10,13]),(4,[0,2,4,14,15]),(6,[0,14,17]),(8,[0,1,2,3,4,18,19,20,21,22])],[(0,[0,1,10]),(1,[0,1,4,10,11]),(2,[0]),(3,[0,10,13]),(4,[0,2,14]),(5,[0,2,4,14,15]),(6,[0]),(7,[0,14,17]),(8,[0,1,2,3,4,18,19,20]),(9,[0,1,2,3,4,18,19,20,21,22])],[0],[0],[]⟩
def g193_T (m:Nat):FunT:=⟨193,[.a (.c (.nm 0 (.pr (.int .i64) (.pr (.int .i64) (.int .u64))))),sI,sI,sI,.a (.c (.fn 119))],.tup [],[.a (.c (.nm 0 (.pr (.int .i64) (.pr (.int .i64) (.int .u64))))),sD,sD,sD,sD],fun(x:(List (Int×Int×Int))×Int×Int×Int×Unit×Unit)=>g193 m x.1 x.2.1 x.2.2.1 x.2.2.2.1⟩
noncomputable def g193_C:Code:=codeOf Tryz.f193
noncomputable def g193_B0:Code:=qo g193_C 0 0
noncomputable def g193_B2:Code:=qo g193_C 0 1
noncomputable def g193_B4:Code:=qo g193_C 0 2
noncomputable def g193_B6:Code:=qo g193_C 0 3
noncomputable def g193_B8:Code:=qo g193_C 0 4
theorem g193_K (m:Nat) (hself:FunOK Tryz.prog (g193_T m)): ∀u∈[g119_T m,g201_T m,g193_T m],FunOK Tryz.prog u:=AllF.mem ⟨g119_ok m,g201_ok m,hself,trivial⟩
def g193_L4_X (m:Nat):LT:=⟨8,[(0,.a (.c (.nm 0 (.pr (.int .i64) (.pr (.int .i64) (.int .u64)))))),(1,sI),(2,sI),(3,sI),(4,.a (.c (.fn 119))),(18,sI),(19,sI),(20,sI),(21,sI),(22,sI)],[(.exit 8,[(0,.a (.c (.nm 0 (.pr (.int .i64) (.pr (.int .i64) (.int .u64)))))),(1,sI),(2,sI),(3,sI),(4,.a (.c (.fn 119))),(18,sI),(19,sI),(20,sI)])],fun n (x:(List (Int×Int×Int))×Int×Int×Int×Unit×Int×Int×Int×Int×Int×Unit)=>g193_L4 (fun a0 a1 a2 a3=>g193 m a0 a1 a2 a3) m n x.1 x.2.1 x.2.2.1 x.2.2.2.1 x.2.2.2.2.2.1 x.2.2.2.2.2.2.1 x.2.2.2.2.2.2.2.1 x.2.2.2.2.2.2.2.2.1 x.2.2.2.2.2.2.2.2.2.1⟩
theorem g193_L4_ok {E:Entry} (hE:EOf Tryz.prog E 220 g193_H.pins) (m:Nat) (hself:FunOK Tryz.prog (g193_T m)) (n:Nat):ql Tryz.prog E g193_B8 ((g193_L4_X m).at n):=
 lok hmix htt hE (g193_K m hself) (L:=[]) (g193_L4_X m) (l:=[]) kR (fun _ _=>trivial) (fun n x=>kR) (fun _=>kR) n
def g193_L3_X (m:Nat):LT:=⟨6,[(0,.a (.c (.nm 0 (.pr (.int .i64) (.pr (.int .i64) (.int .u64)))))),(14,sI),(17,sI)],[(.exit 6,[(0,.a (.c (.nm 0 (.pr (.int .i64) (.pr (.int .i64) (.int .u64))))))])],fun n (x:(List (Int×Int×Int))×Int×Int×Unit)=>g193_L3 (fun a0 a1 a2 a3=>g193 m a0 a1 a2 a3) m n x.1 x.2.1 x.2.2.1⟩
theorem g193_L3_ok {E:Entry} (hE:EOf Tryz.prog E 220 g193_H.pins) (m:Nat) (hself:FunOK Tryz.prog (g193_T m)) (n:Nat):ql Tryz.prog E g193_B6 ((g193_L3_X m).at n):=
 lok hmix htt hE (g193_K m hself) (L:=[]) (g193_L3_X m) (l:=[]) kR (fun _ _=>trivial) (fun n x=>kR) (fun _=>kR) n
def g193_L2_X (m:Nat):LT:=⟨4,[(0,.a (.c (.nm 0 (.pr (.int .i64) (.pr (.int .i64) (.int .u64)))))),(2,sI),(4,.a (.c (.fn 119))),(14,sI),(15,sI)],[(.exit 4,[(0,.a (.c (.nm 0 (.pr (.int .i64) (.pr (.int .i64) (.int .u64)))))),(2,sI),(14,sI)])],fun n (x:(List (Int×Int×Int))×Int×Unit×Int×Int×Unit)=>g193_L2 (fun a0 a1 a2 a3=>g193 m a0 a1 a2 a3) m n x.1 x.2.1 x.2.2.2.1 x.2.2.2.2.1⟩
theorem g193_L2_ok {E:Entry} (hE:EOf Tryz.prog E 220 g193_H.pins) (m:Nat) (hself:FunOK Tryz.prog (g193_T m)) (n:Nat):ql Tryz.prog E g193_B4 ((g193_L2_X m).at n):=
 lok hmix htt hE (g193_K m hself) (L:=[]) (g193_L2_X m) (l:=[]) kR (fun _ _=>trivial) (fun n x=>kR) (fun _=>kR) n
def g193_L1_X (m:Nat):LT:=⟨2,[(0,.a (.c (.nm 0 (.pr (.int .i64) (.pr (.int .i64) (.int .u64)))))),(10,sI),(13,sI)],[(.exit 2,[(0,.a (.c (.nm 0 (.pr (.int .i64) (.pr (.int .i64) (.int .u64))))))])],fun n (x:(List (Int×Int×Int))×Int×Int×Unit)=>g193_L1 (fun a0 a1 a2 a3=>g193 m a0 a1 a2 a3) m n x.1 x.2.1 x.2.2.1⟩
theorem g193_L1_ok {E:Entry} (hE:EOf Tryz.prog E 220 g193_H.pins) (m:Nat) (hself:FunOK Tryz.prog (g193_T m)) (n:Nat):ql Tryz.prog E g193_B2 ((g193_L1_X m).at n):=
 lok hmix htt hE (g193_K m hself) (L:=[]) (g193_L1_X m) (l:=[]) kR (fun _ _=>trivial) (fun n x=>kR) (fun _=>kR) n
def g193_L0_X (m:Nat):LT:=⟨0,[(0,.a (.c (.nm 0 (.pr (.int .i64) (.pr (.int .i64) (.int .u64)))))),(1,sI),(4,.a (.c (.fn 119))),(10,sI),(11,sI)],[(.exit 0,[(0,.a (.c (.nm 0 (.pr (.int .i64) (.pr (.int .i64) (.int .u64)))))),(1,sI),(10,sI)])],fun n (x:(List (Int×Int×Int))×Int×Unit×Int×Int×Unit)=>g193_L0 (fun a0 a1 a2 a3=>g193 m a0 a1 a2 a3) m n x.1 x.2.1 x.2.2.2.1 x.2.2.2.2.1⟩
theorem g193_L0_ok {E:Entry} (hE:EOf Tryz.prog E 220 g193_H.pins) (m:Nat) (hself:FunOK Tryz.prog (g193_T m)) (n:Nat):ql Tryz.prog E g193_B0 ((g193_L0_X m).at n):=
 lok hmix htt hE (g193_K m hself) (L:=[]) (g193_L0_X m) (l:=[]) kR (fun _ _=>trivial) (fun n x=>kR) (fun _=>kR) n
theorem g193_ok: ∀m:Nat,FunOK Tryz.prog (g193_T m)
 |0=>fun _ _ h=>by cases h
 |m+1=>by
  have hself:=g193_ok m
  exact fok hmix htt (H:=g193_H) (g193_T (m+1)) Tryz.func193 kR (g193_K m hself) (L:=[(g193_L0_X m).at m,(g193_L1_X m).at m,(g193_L2_X m).at m,(g193_L3_X m).at m,(g193_L4_X m).at m]) (l:=[(0,g193_B0),(2,g193_B2),(4,g193_B4),(6,g193_B6),(8,g193_B8)]) kR (fun _ hE _ _=>⟨qi ⟨yb (g193_L0_ok hE m hself m),nb rfl,nb rfl,nb rfl,nb rfl,trivial⟩,qi ⟨nb rfl,yb (g193_L1_ok hE m hself m),nb rfl,nb rfl,nb rfl,trivial⟩,qi ⟨nb rfl,nb rfl,yb (g193_L2_ok hE m hself m),nb rfl,nb rfl,trivial⟩,qi ⟨nb rfl,nb rfl,nb rfl,yb (g193_L3_ok hE m hself m),nb rfl,trivial⟩,qi ⟨nb rfl,nb rfl,nb rfl,nb rfl,yb (g193_L4_ok hE m hself m),trivial⟩,trivial⟩) (fun x=>kR)
def g167_H:Hints:=⟨[⟨[],[0,1,2,6]⟩,⟨[],[0,1,2,6,7,8]⟩,⟨[],[0,1,2,6,7,8,13]⟩,⟨[(1,1),(4,11)],[0,1,2,6,8]⟩,⟨[],[0,1,2,6,7,8]⟩,⟨[(0,1)],[0,1,2,6,7,8]⟩,⟨[(1,1),(4,11)],[0,1,2,6]⟩,⟨[],[0,1,2,6,30]⟩,⟨[],[0,1,2,6,7,8]⟩,⟨[],[0,1,2,6,7,8,35]⟩,⟨[(7,11)],[0,1,2,6,8]⟩,⟨[],[0,1,2,6,7,8]⟩,⟨[(0,1)],[0,1,2,6,7,8]⟩,⟨[],[0,1,2,6,7,9]⟩,⟨[],[0,1,2,6,7,9,54]⟩,⟨[(1,1),(2,1),(5,11)],[0,1,2,6]⟩,⟨[(0,1)],[0,1,2,6]⟩],[(0,[0,1,2,6,7,8]),(2,[0,1,2,6]),(4,[0,1,2,6,7,8])],[(0,[0,1,2,6,7]),(1,[0,1,2,6,7,8]),(2,[0]),(3,[0,1,2,6]),(4,[0,1,2,6,7]),(5,[0,1,2,6,7,8])],[0],[0],[]⟩
def g167_T (m:Nat):FunT:=⟨167,[.a (.c (.nm 0 (.pr (.int .i64) (.pr (.int .i64) (.int .u64))))),sI,.a (.c (.fn 119))],.tup [],[.a (.c (.nm 0 (.pr (.int .i64) (.pr (.int .i64) (.int .u64))))),sD,sD],fun(x:(List (Int×Int×Int))×Int×Unit×Unit)=>g167 m x.1 x.2.1⟩
noncomputable def g167_C:Code:=codeOf Tryz.f167
noncomputable def g167_B0:Code:=qo g167_C 0 0
noncomputable def g167_B2:Code:=qo g167_C 0 1
noncomputable def g167_B4:Code:=qo g167_B2 2 0
theorem g167_K (m:Nat): ∀u∈[g192_T m,g193_T m],FunOK Tryz.prog u:=AllF.mem ⟨g192_ok m,g193_ok m,trivial⟩
def g167_L2_X (m:Nat):LT:=⟨4,[(0,.a (.c (.nm 0 (.pr (.int .i64) (.pr (.int .i64) (.int .u64)))))),(1,sI),(2,.a (.c (.fn 119))),(6,sI),(7,sI),(8,sI)],[(.exit 4,[(0,.a (.c (.nm 0 (.pr (.int .i64) (.pr (.int .i64) (.int .u64)))))),(1,sI),(2,.a (.c (.fn 119))),(6,sI),(7,sI)])],fun n (x:(List (Int×Int×Int))×Int×Unit×Int×Int×Int×Unit)=>g167_L2 m n x.1 x.2.1 x.2.2.2.1 x.2.2.2.2.1 x.2.2.2.2.2.1⟩
theorem g167_L2_ok {E:Entry} (hE:EOf Tryz.prog E 63 g167_H.pins) (m:Nat) (n:Nat):ql Tryz.prog E g167_B4 ((g167_L2_X m).at n):=
 lok hmix htt hE (g167_K m) (L:=[]) (g167_L2_X m) (l:=[]) kR (fun _ _=>trivial) (fun n x=>kR) (fun _=>kR) n
def g167_L1_X (m:Nat):LT:=⟨2,[(0,.a (.c (.nm 0 (.pr (.int .i64) (.pr (.int .i64) (.int .u64)))))),(1,sI),(2,.a (.c (.fn 119))),(6,sI)],[(.exit 2,[(0,.a (.c (.nm 0 (.pr (.int .i64) (.pr (.int .i64) (.int .u64))))))])],fun n (x:(List (Int×Int×Int))×Int×Unit×Int×Unit)=>g167_L1 m n x.1 x.2.1 x.2.2.2.1⟩
theorem g167_L1_ok {E:Entry} (hE:EOf Tryz.prog E 63 g167_H.pins) (m:Nat) (n:Nat):ql Tryz.prog E g167_B2 ((g167_L1_X m).at n):=
 lok hmix htt hE (g167_K m) (L:=[(g167_L2_X m).at m]) (g167_L1_X m) (l:=[(4,g167_B4)]) kR (fun _ _=>⟨qi ⟨yb (g167_L2_ok hE m m),trivial⟩,trivial⟩) (fun n x=>kR) (fun _=>kR) n
def g167_L0_X (m:Nat):LT:=⟨0,[(0,.a (.c (.nm 0 (.pr (.int .i64) (.pr (.int .i64) (.int .u64)))))),(1,sI),(2,.a (.c (.fn 119))),(6,sI),(7,sI),(8,sI)],[(.exit 0,[(0,.a (.c (.nm 0 (.pr (.int .i64) (.pr (.int .i64) (.int .u64)))))),(1,sI),(2,.a (.c (.fn 119))),(6,sI),(7,sI)])],fun n (x:(List (Int×Int×Int))×Int×Unit×Int×Int×Int×Unit)=>g167_L0 m n x.1 x.2.1 x.2.2.2.1 x.2.2.2.2.1 x.2.2.2.2.2.1⟩
theorem g167_L0_ok {E:Entry} (hE:EOf Tryz.prog E 63 g167_H.pins) (m:Nat) (n:Nat):ql Tryz.prog E g167_B0 ((g167_L0_X m).at n):=
 lok hmix htt hE (g167_K m) (L:=[]) (g167_L0_X m) (l:=[]) kR (fun _ _=>trivial) (fun n x=>kR) (fun _=>kR) n
theorem g167_ok (m:Nat):FunOK Tryz.prog (g167_T m):=
 fok hmix htt (H:=g167_H) (g167_T m) Tryz.func167 kR (g167_K m) (L:=[(g167_L0_X m).at m,(g167_L1_X m).at m]) (l:=[(0,g167_B0),(2,g167_B2)]) kR (fun _ hE _ _=>⟨qi ⟨yb (g167_L0_ok hE m m),nb rfl,trivial⟩,qi ⟨nb rfl,yb (g167_L1_ok hE m m),trivial⟩,trivial⟩) (fun x=>kR)
def g118_H:Hints:=⟨[⟨[(3,1),(4,11)],[0]⟩],[],[],[0],[0],[]⟩
def g118_T (m:Nat):FunT:=⟨118,[.a (.c (.nm 0 (.pr (.int .i64) (.pr (.int .i64) (.int .u64))))),.a (.c (.fn 119))],.tup [],[.a (.c (.nm 0 (.pr (.int .i64) (.pr (.int .i64) (.int .u64))))),sD],fun(x:(List (Int×Int×Int))×Unit×Unit)=>g118 m x.1⟩
theorem g118_ok (m:Nat):FunOK Tryz.prog (g118_T m):=
 fok hmix htt (H:=g118_H) (g118_T m) Tryz.func118 kR (AllF.mem (l:=[g167_T m]) ⟨g167_ok m,trivial⟩) (L:=[]) (l:=[]) kR (fun _ hE _ _=>trivial) (fun x=>kR)
def g59_H:Hints:=⟨[⟨[],[0]⟩,⟨[(0,1)],[0]⟩,⟨[(1,11)],[0]⟩,⟨[(0,1)],[2]⟩],[],[],[2],[],[[true]]⟩
def g59_T (m:Nat):FunT:=⟨59,[.a (.c (.imm (.pr (.int .i64) (.pr (.int .i64) (.int .u64)))))],.a (.c (.nm 0 (.pr (.int .i64) (.pr (.int .i64) (.int .u64))))),[sD],fun(x:(List (Int×Int×Int))×Unit)=>g59 m x.1⟩
theorem g59_ok (m:Nat):FunOK Tryz.prog (g59_T m):=
 fok hmix htt (H:=g59_H) (g59_T m) Tryz.func59 kR (AllF.mem (l:=[g117_T m,g118_T m]) ⟨g117_ok m,g118_ok m,trivial⟩) (L:=[]) (l:=[]) kR (fun _ hE _ _=>trivial) (fun x=>kR)
def g86_H:Hints:=⟨[⟨[],[0]⟩,⟨[],[0,3]⟩,⟨[(2,1)],[0,3,15]⟩,⟨[(0,1)],[0,3]⟩,⟨[(0,1),(1,1)],[2]⟩],[(0,[0,3])],[(0,[0,3]),(1,[0,3])],[2],[],[[false]]⟩
def g86_T (m:Nat):FunT:=⟨86,[.a (.c (.imm (.int .u32)))],.a (.c (.imm (.int .u32))),[sD],fun(x:List Int×Unit)=>g86 m x.1⟩
noncomputable def g86_C:Code:=codeOf Tryz.f86
noncomputable def g86_B0:Code:=qo g86_C 0 0
def g86_L0_X (m:Nat):LT:=⟨0,[(0,.a (.c (.imm (.int .u32)))),(3,sI)],[(.exit 0,[(0,.a (.c (.imm (.int .u32)))),(3,sI)])],fun n (x:List Int×Int×Unit)=>g86_L0 m n x.1 x.2.1⟩
theorem g86_L0_ok {E:Entry} (hE:EOf Tryz.prog E 21 g86_H.pins) (m:Nat) (n:Nat):ql Tryz.prog E g86_B0 ((g86_L0_X m).at n):=
 lok hmix htt hE noF (L:=[]) (g86_L0_X m) (l:=[]) kR (fun _ _=>trivial) (fun n x=>kR) (fun _=>kR) n
theorem g86_ok (m:Nat):FunOK Tryz.prog (g86_T m):=
 fok hmix htt (H:=g86_H) (g86_T m) Tryz.func86 kR noF (L:=[(g86_L0_X m).at m]) (l:=[(0,g86_B0)]) kR (fun _ hE _ _=>⟨qi ⟨yb (g86_L0_ok hE m m),trivial⟩,trivial⟩) (fun x=>kR)
def g134_H:Hints:=⟨[⟨[],[0,1,4]⟩,⟨[(0,1)],[0,1,4]⟩,⟨[],[0,1,4,9]⟩,⟨[],[4]⟩,⟨[(0,1),(1,1)],[4]⟩],[],[],[4],[],[[false,false]]⟩
def g134_T (m:Nat):FunT:=⟨134,[sB,.a (.c (.imm (.int .u32)))],.a (.agg [.bool,(.imm (.int .u32))]),[sD,sD],fun(x:Bool×List Int×Unit)=>g134 m x.1 x.2.1⟩
theorem g134_ok (m:Nat):FunOK Tryz.prog (g134_T m):=
 fok hmix htt (H:=g134_H) (g134_T m) Tryz.func134 kR (AllF.mem (l:=[g86_T m]) ⟨g86_ok m,trivial⟩) (L:=[]) (l:=[]) kR (fun _ hE _ _=>trivial) (fun x=>kR)
def g82_H:Hints:=⟨[⟨[],[0,2]⟩,⟨[],[0,2,3]⟩,⟨[],[0,2,3,7]⟩,⟨[(0,1)],[0,2,3]⟩,⟨[(0,1)],[2]⟩],[],[],[2],[],[[false,false]]⟩
def g82_T (m:Nat):FunT:=⟨82,[sI],.a (.agg [.bool,(.imm (.int .u32))]),[sD],fun(x:Int×Unit)=>g82 m x.1⟩
theorem g82_ok (m:Nat):FunOK Tryz.prog (g82_T m):=
 fok hmix htt (H:=g82_H) (g82_T m) Tryz.func82 kR (AllF.mem (l:=[g134_T m]) ⟨g134_ok m,trivial⟩) (L:=[]) (l:=[]) kR (fun _ hE _ _=>trivial) (fun x=>kR)
def g83_H:Hints:=⟨[⟨[],[0]⟩,⟨[(0,1)],[2]⟩],[],[],[2],[],[[false]]⟩
def g83_T (m:Nat):FunT:=⟨83,[sU],sB,[sD],fun(x:Int×Unit)=>g83 m x.1⟩
theorem g83_ok (m:Nat):FunOK Tryz.prog (g83_T m):=
 fok hmix htt (H:=g83_H) (g83_T m) Tryz.func83 kR noF (L:=[]) (l:=[]) kR (fun _ hE _ _=>trivial) (fun x=>kR)
def g142_H:Hints:={regs:=[⟨[],[0]⟩,⟨[],[0]⟩,⟨[],[2]⟩,⟨[],[2]⟩],heads:=[],exits:=[],rets:=[2],pins:=[],spec:=[[true]]}
abbrev g142_A:List Sh:=[.a (.c (.imm (.int .u32)))]
abbrev g142_S:Sh:= .a (.c (.nm 0 (.int .u32)))
abbrev g142_U:List Sh:=[sD]
def g142_R (m:Nat):Qq g142_A→Option (g142_S.Val×Qq g142_U):=fun(x:List Int×Unit)=>g142 m x.1
def g142_T (m:Nat):FunT:=⟨142,g142_A,g142_S,g142_U,g142_R m⟩
noncomputable def g142_C:Code:=codeOf Tryz.f142
theorem g142_ok (m:Nat):FunOK Tryz.prog (g142_T m):=
 qc8 hmix htt (H:=g142_H) (fn:=Tryz.f142) (f:=142) (t:=(.int .u32)) (ty:=52) (e:=113) (ty2:=52) (k:=1) (cells:=[.nil (.int .u32)]) (A:=pA g142_C) (X:=pX (pB (pA (pB g142_C)))) (Y:=pB (pB g142_C)) (o0:=pO 0 (pA (pA (pB g142_C)))) (o1:=pO 1 (pA (pA (pB g142_C)))) Tryz.func142 kR kR kR kR kR kR kR kR kR (of_decide_eq_true kR) rfl kR kR kR (fun xs=>[(0,.sl .imm (.int .u32) xs)]) (fun xs=>[(2,.sl (.nm 0) (.int .u32) xs)]) (fun xs=>kR) (fun _=>rfl) (fun _=>rfl) (fun _=>rfl) kR (fun xs=>kR) (fun xs=>kR)
def g84_H:Hints:=⟨[⟨[],[1,2]⟩,⟨[],[2]⟩],[],[],[2],[],[[false,false]]⟩
def g84_T (m:Nat):FunT:=⟨84,[.a (.agg [.bool,(.imm (.int .u32))])],.a (.agg [.bool,(.imm (.int .u32))]),[sD],fun(x:(Bool×List Int×Unit)×Unit)=>g84 m x.1.1 x.1.2.1⟩
theorem g84_ok (m:Nat):FunOK Tryz.prog (g84_T m):=
 fok hmix htt (H:=g84_H) (g84_T m) Tryz.func84 kR (AllF.mem (l:=[g142_T m,g134_T m]) ⟨g142_ok m,g134_ok m,trivial⟩) (L:=[]) (l:=[]) kR (fun _ hE _ _=>trivial) (fun x=>kR)
def g125_H:Hints:=⟨[⟨[],[0]⟩,⟨[],[0]⟩],[],[],[0],[],[[false,false,true,false]]⟩
def g125_T (m:Nat):FunT:=⟨125,[],.a (.agg [.bool,.bool,(.nm 0 (.int .u32)),(.int .i64)]),[],fun(x:Unit)=>g125 m⟩
theorem g125_ok (m:Nat):FunOK Tryz.prog (g125_T m):=
 fok hmix htt (H:=g125_H) (g125_T m) Tryz.func125 kR noF (L:=[]) (l:=[]) kR (fun _ hE _ _=>trivial) (fun x=>kR)
def g139_H:Hints:=⟨[⟨[],[1,2]⟩,⟨[],[2]⟩],[],[],[2],[],[[false,false]]⟩
def g139_T (m:Nat):FunT:=⟨139,[.a (.agg [.bool,(.imm (.int .u32))])],.a (.agg [.bool,(.imm (.int .u32))]),[sD],fun(x:(Bool×List Int×Unit)×Unit)=>g139 m x.1.1 x.1.2.1⟩
theorem g139_ok (m:Nat):FunOK Tryz.prog (g139_T m):=
 fok hmix htt (H:=g139_H) (g139_T m) Tryz.func139 kR (AllF.mem (l:=[g142_T m,g134_T m]) ⟨g142_ok m,g134_ok m,trivial⟩) (L:=[]) (l:=[]) kR (fun _ hE _ _=>trivial) (fun x=>kR)
def g31_H:Hints:=⟨[⟨[],[1]⟩,⟨[],[1,3]⟩,⟨[],[2]⟩,⟨[],[9]⟩,⟨[],[2]⟩,⟨[],[2]⟩],[],[(0,[])],[2],[],[[false]]⟩
def g31_T (m:Nat):FunT:=⟨31,[.a (.agg [.bool,(.imm (.int .u32))])],sI,[sD],fun(x:(Bool×List Int×Unit)×Unit)=>g31 m x.1.1 x.1.2.1⟩
theorem g31_ok (m:Nat):FunOK Tryz.prog (g31_T m):=
 fok hmix htt (H:=g31_H) (g31_T m) Tryz.func31 kR (AllF.mem (l:=[g86_T m]) ⟨g86_ok m,trivial⟩) (L:=[]) (l:=[]) kR (fun _ hE _ _=>trivial) (fun x=>kR)
def g87_H:Hints:=⟨[⟨[],[0]⟩,⟨[],[0,4]⟩,⟨[],[2]⟩,⟨[],[2]⟩],[],[],[2],[],[[false]]⟩
def g87_T (m:Nat):FunT:=⟨87,[.a (.c (.int .u32))],sI,[sD],fun(x:Int×Unit)=>g87 m x.1⟩
theorem g87_ok (m:Nat):FunOK Tryz.prog (g87_T m):=
 fok hmix htt (H:=g87_H) (g87_T m) Tryz.func87 kR noF (L:=[]) (l:=[]) kR (fun _ hE _ _=>trivial) (fun x=>kR)
def g32_H:Hints:=⟨[⟨[],[1]⟩,⟨[],[6,7,8]⟩,⟨[],[6,7,8,9]⟩,⟨[],[3,4,6,7,8]⟩,⟨[],[3,4,6,7,8,14]⟩,⟨[(0,1),(2,1)],[2]⟩,⟨[(1,1)],[6,7,8]⟩,⟨[],[2]⟩],[(0,[6,7,8])],[(0,[]),(1,[6,7,8])],[2],[],[[false]]⟩
def g32_T (m:Nat):FunT:=⟨32,[.a (.agg [.bool,(.imm (.int .u32))])],sI,[sD],fun(x:(Bool×List Int×Unit)×Unit)=>g32 m x.1.1 x.1.2.1⟩
noncomputable def g32_C:Code:=codeOf Tryz.f32
noncomputable def g32_B0:Code:=qo g32_C 0 0
theorem g32_K (m:Nat): ∀u∈[g87_T m],FunOK Tryz.prog u:=AllF.mem ⟨g87_ok m,trivial⟩
def g32_L0_X (m:Nat):LT:=⟨0,[(6,.a (.c (.imm (.int .u32)))),(7,sI),(8,sI)],[(.ret,[(2,sI)]),(.exit 0,[])],fun n (x:List Int×Int×Int×Unit)=>g32_L0 m n x.1 x.2.1 x.2.2.1⟩
theorem g32_L0_ok {E:Entry} (hE:EOf Tryz.prog E 21 g32_H.pins) (m:Nat) (n:Nat):ql Tryz.prog E g32_B0 ((g32_L0_X m).at n):=
 lok hmix htt hE (g32_K m) (L:=[]) (g32_L0_X m) (l:=[]) kR (fun _ _=>trivial) (fun n x=>kR) (fun _=>kR) n
theorem g32_ok (m:Nat):FunOK Tryz.prog (g32_T m):=
 fok hmix htt (H:=g32_H) (g32_T m) Tryz.func32 kR (g32_K m) (L:=[(g32_L0_X m).at m]) (l:=[(0,g32_B0)]) kR (fun _ hE _ _=>⟨qi ⟨yb (g32_L0_ok hE m m),trivial⟩,trivial⟩) (fun x=>kR)
def g190_H:Hints:=⟨[⟨[],[0,2]⟩,⟨[],[0,2,4]⟩,⟨[(0,1)],[0]⟩,⟨[],[0,2]⟩,⟨[],[0,2,8]⟩,⟨[(0,1)],[0,2]⟩,⟨[(0,1)],[0,2]⟩,⟨[(0,1),(1,1)],[2]⟩],[],[],[2],[],[[false]]⟩
def g190_T (m:Nat):FunT:=⟨190,[.a (.c (.int .u32))],sI,[sD],fun(x:Int×Unit)=>g190 m x.1⟩
theorem g190_ok (m:Nat):FunOK Tryz.prog (g190_T m):=
 fok hmix htt (H:=g190_H) (g190_T m) Tryz.func190 kR noF (L:=[]) (l:=[]) kR (fun _ hE _ _=>trivial) (fun x=>kR)
def g185_H:Hints:=⟨[⟨[],[0]⟩,⟨[],[0,5]⟩,⟨[],[2]⟩,⟨[],[2]⟩],[],[],[2],[],[[false]]⟩
def g185_T (m:Nat):FunT:=⟨185,[.a (.c (.imm (.int .u32)))],sI,[sD],fun(x:List Int×Unit)=>g185 m x.1⟩
theorem g185_ok (m:Nat):FunOK Tryz.prog (g185_T m):=
 fok hmix htt (H:=g185_H) (g185_T m) Tryz.func185 kR (AllF.mem (l:=[g190_T m]) ⟨g190_ok m,trivial⟩) (L:=[]) (l:=[]) kR (fun _ hE _ _=>trivial) (fun x=>kR)
def g140_H:Hints:=⟨[⟨[],[1]⟩,⟨[],[2]⟩],[],[],[2],[],[[false]]⟩
def g140_T (m:Nat):FunT:=⟨140,[.a (.agg [.bool,(.imm (.int .u32))])],sI,[sD],fun(x:(Bool×List Int×Unit)×Unit)=>g140 m x.1.1 x.1.2.1⟩
theorem g140_ok (m:Nat):FunOK Tryz.prog (g140_T m):=
 fok hmix htt (H:=g140_H) (g140_T m) Tryz.func140 kR (AllF.mem (l:=[g86_T m,g185_T m]) ⟨g86_ok m,g185_ok m,trivial⟩) (L:=[]) (l:=[]) kR (fun _ hE _ _=>trivial) (fun x=>kR)
def g135_H:Hints:=⟨[⟨[],[0,1]⟩,⟨[],[0,1,13]⟩,⟨[],[4]⟩,⟨[],[0,5,6]⟩,⟨[],[0,5,6,7]⟩,⟨[(0,1)],[5,6,7,25,26,27]⟩,⟨[],[5,6,7,25,26,27,28]⟩,⟨[],[5,6,7,8,9,25,26,27]⟩,⟨[(0,1)],[5,6,7,8,10,25,26,27]⟩,⟨[],[5,6,7,8,10,25,26,27]⟩,⟨[(2,1),(5,1)],[5,6,7,25,26,27]⟩,⟨[(1,1)],[5,6,7,25,26,27]⟩,⟨[(0,1)],[4]⟩],[(0,[5,6,7,25,26,27])],[(0,[7]),(1,[5,6,7,25,26,27])],[4],[],[[false]]⟩
def g135_T (m:Nat):FunT:=⟨135,[.a (.c (.imm (.int .u32))),sI],.a (.c (.imm (.int .u32))),[sD,sD],fun(x:List Int×Int×Unit)=>g135 m x.1 x.2.1⟩
noncomputable def g135_C:Code:=codeOf Tryz.f135
noncomputable def g135_B0:Code:=qo g135_C 0 0
theorem g135_K (m:Nat): ∀u∈[g86_T m],FunOK Tryz.prog u:=AllF.mem ⟨g86_ok m,trivial⟩
def g135_L0_X (m:Nat):LT:=⟨0,[(5,sI),(6,sU),(7,.a (.c (.nm 0 (.int .u32)))),(25,.a (.c (.imm (.int .u32)))),(26,sI),(27,sI)],[(.exit 0,[(7,.a (.c (.nm 0 (.int .u32))))])],fun n (x:Int×Int×List Int×List Int×Int×Int×Unit)=>g135_L0 m n x.1 x.2.1 x.2.2.1 x.2.2.2.1 x.2.2.2.2.1 x.2.2.2.2.2.1⟩
theorem g135_L0_ok {E:Entry} (hE:EOf Tryz.prog E 59 g135_H.pins) (m:Nat) (n:Nat):ql Tryz.prog E g135_B0 ((g135_L0_X m).at n):=
 lok hmix htt hE (g135_K m) (L:=[]) (g135_L0_X m) (l:=[]) kR (fun _ _=>trivial) (fun n x=>kR) (fun _=>kR) n
theorem g135_ok (m:Nat):FunOK Tryz.prog (g135_T m):=
 fok hmix htt (H:=g135_H) (g135_T m) Tryz.func135 kR (g135_K m) (L:=[(g135_L0_X m).at m]) (l:=[(0,g135_B0)]) kR (fun _ hE _ _=>⟨qi ⟨yb (g135_L0_ok hE m m),trivial⟩,trivial⟩) (fun x=>kR)
def g184_H:Hints:=⟨[⟨[],[0]⟩,⟨[(0,1)],[2]⟩],[],[],[2],[],[[false]]⟩
def g184_T (m:Nat):FunT:=⟨184,[.a (.c (.int .u32))],sB,[sD],fun(x:Int×Unit)=>g184 m x.1⟩
theorem g184_ok (m:Nat):FunOK Tryz.prog (g184_T m):=
 fok hmix htt (H:=g184_H) (g184_T m) Tryz.func184 kR noF (L:=[]) (l:=[]) kR (fun _ hE _ _=>trivial) (fun x=>kR)
def g200_H:Hints:=⟨[⟨[],[0,1]⟩,⟨[],[0,1,7,8]⟩,⟨[],[0,1,7,8,9]⟩,⟨[],[0,1,5,7,8]⟩,⟨[],[0,1,5,7,8,16]⟩,⟨[(0,1)],[4]⟩,⟨[(1,1)],[0,1,7,8]⟩,⟨[],[4]⟩],[(0,[0,1,7,8])],[(0,[]),(1,[0,1,7,8])],[4],[],[[false]]⟩
def g200_T (m:Nat):FunT:=⟨200,[.a (.c (.imm (.int .u32))),.a (.c (.fn 184))],sI,[sD,sD],fun(x:List Int×Unit×Unit)=>g200 m x.1⟩
noncomputable def g200_C:Code:=codeOf Tryz.f200
noncomputable def g200_B0:Code:=qo g200_C 0 0
theorem g200_K (m:Nat): ∀u∈[g184_T m],FunOK Tryz.prog u:=AllF.mem ⟨g184_ok m,trivial⟩
def g200_L0_X (m:Nat):LT:=⟨0,[(0,.a (.c (.imm (.int .u32)))),(1,.a (.c (.fn 184))),(7,sI),(8,sI)],[(.ret,[(4,sI)]),(.exit 0,[])],fun n (x:List Int×Unit×Int×Int×Unit)=>g200_L0 m n x.1 x.2.2.1 x.2.2.2.1⟩
theorem g200_L0_ok {E:Entry} (hE:EOf Tryz.prog E 19 g200_H.pins) (m:Nat) (n:Nat):ql Tryz.prog E g200_B0 ((g200_L0_X m).at n):=
 lok hmix htt hE (g200_K m) (L:=[]) (g200_L0_X m) (l:=[]) kR (fun _ _=>trivial) (fun n x=>kR) (fun _=>kR) n
theorem g200_ok (m:Nat):FunOK Tryz.prog (g200_T m):=
 fok hmix htt (H:=g200_H) (g200_T m) Tryz.func200 kR (g200_K m) (L:=[(g200_L0_X m).at m]) (l:=[(0,g200_B0)]) kR (fun _ hE _ _=>⟨qi ⟨yb (g200_L0_ok hE m m),trivial⟩,trivial⟩) (fun x=>kR)
def g183_H:Hints:=⟨[⟨[],[0,1]⟩,⟨[(0,1),(1,1)],[4]⟩],[],[],[4],[],[[false]]⟩
def g183_T (m:Nat):FunT:=⟨183,[.a (.c (.imm (.int .u32))),.a (.c (.fn 184))],sB,[sD,sD],fun(x:List Int×Unit×Unit)=>g183 m x.1⟩
theorem g183_ok (m:Nat):FunOK Tryz.prog (g183_T m):=
 fok hmix htt (H:=g183_H) (g183_T m) Tryz.func183 kR (AllF.mem (l:=[g200_T m]) ⟨g200_ok m,trivial⟩) (L:=[]) (l:=[]) kR (fun _ hE _ _=>trivial) (fun x=>kR)
def g136_H:Hints:=⟨[⟨[],[0,1]⟩,⟨[],[0,6,7]⟩,⟨[],[0,6,7,20]⟩,⟨[(0,1)],[4,5]⟩,⟨[(4,1)],[0,6,7,8]⟩,⟨[],[0,6,7,8,9]⟩,⟨[],[0,6,7,8,9,45,46]⟩,⟨[],[0,6,7,8,9,45,46,47]⟩,⟨[],[0,6,7,8,9,10,45,46]⟩,⟨[],[0,6,7,8,9,10,11,45,46]⟩,⟨[],[0,6,7,8,9,10,11,45,46,62]⟩,⟨[(0,1)],[0,6,7,8,9,10,11,45,46]⟩,⟨[(1,1),(2,1)],[0,6,7,8,9,45,46]⟩,⟨[(1,1)],[0,6,7,8,9,45,46]⟩,⟨[(0,1),(2,1)],[4,5]⟩],[(0,[0,6,7,8,9,45,46])],[(0,[8,9]),(1,[0,6,7,8,9,45,46])],[4,5],[],[[false],[false]]⟩
def g136_T (m:Nat):FunT:=⟨136,[.a (.c (.imm (.int .u32))),sI],.tup [(.c (.imm (.int .u32))),(.c .bool)],[sD,sD],fun(x:List Int×Int×Unit)=>g136 m x.1 x.2.1⟩
noncomputable def g136_C:Code:=codeOf Tryz.f136
noncomputable def g136_B0:Code:=qo g136_C 0 0
theorem g136_K (m:Nat): ∀u∈[g183_T m,g86_T m],FunOK Tryz.prog u:=AllF.mem ⟨g183_ok m,g86_ok m,trivial⟩
def g136_L0_X (m:Nat):LT:=⟨0,[(0,.a (.c (.imm (.int .u32)))),(6,sI),(7,sU),(8,sB),(9,.a (.c (.nm 0 (.int .u32)))),(45,sI),(46,sI)],[(.exit 0,[(8,sB),(9,.a (.c (.nm 0 (.int .u32))))])],fun n (x:List Int×Int×Int×Bool×List Int×Int×Int×Unit)=>g136_L0 m n x.1 x.2.1 x.2.2.1 x.2.2.2.1 x.2.2.2.2.1 x.2.2.2.2.2.1 x.2.2.2.2.2.2.1⟩
theorem g136_L0_ok {E:Entry} (hE:EOf Tryz.prog E 86 g136_H.pins) (m:Nat) (n:Nat):ql Tryz.prog E g136_B0 ((g136_L0_X m).at n):=
 lok hmix htt hE (g136_K m) (L:=[]) (g136_L0_X m) (l:=[]) kR (fun _ _=>trivial) (fun n x=>kR) (fun _=>kR) n
theorem g136_ok (m:Nat):FunOK Tryz.prog (g136_T m):=
 fok hmix htt (H:=g136_H) (g136_T m) Tryz.func136 kR (g136_K m) (L:=[(g136_L0_X m).at m]) (l:=[(0,g136_B0)]) kR (fun _ hE _ _=>⟨qi ⟨yb (g136_L0_ok hE m m),trivial⟩,trivial⟩) (fun x=>kR)
def g137_H:Hints:=⟨[⟨[],[0,1]⟩,⟨[],[0,1,14]⟩,⟨[(0,1),(1,1)],[0,1]⟩,⟨[],[0,1,5]⟩,⟨[],[0,1,5,6]⟩,⟨[(0,1)],[1,5,6,21,22,23]⟩,⟨[],[1,5,6,21,22,23,24]⟩,⟨[],[1,5,6,7,8,21,22,23]⟩,⟨[(0,1),(2,1)],[1,5,7,9,21,22,23]⟩,⟨[],[1,5,7,9,21,22,23,35]⟩,⟨[(0,1),(2,1)],[1,5,9,21,22,23]⟩,⟨[(0,1)],[1,5,9,21,22,23]⟩,⟨[(0,1)],[1,5,6,21,22,23]⟩,⟨[(1,1)],[1,5,6,21,22,23]⟩,⟨[(0,1),(1,1)],[4]⟩],[(0,[1,5,6,21,22,23])],[(0,[5,6]),(1,[1,5,6,21,22,23])],[4],[],[[false]]⟩
def g137_T (m:Nat):FunT:=⟨137,[.a (.c (.imm (.int .u32))),.a (.c (.imm (.int .u32)))],.a (.c (.imm (.int .u32))),[sD,sD],fun(x:List Int×List Int×Unit)=>g137 m x.1 x.2.1⟩
noncomputable def g137_C:Code:=codeOf Tryz.f137
noncomputable def g137_B0:Code:=qo g137_C 0 0
theorem g137_K (m:Nat): ∀u∈[g86_T m],FunOK Tryz.prog u:=AllF.mem ⟨g86_ok m,trivial⟩
def g137_L0_X (m:Nat):LT:=⟨0,[(1,.a (.c (.imm (.int .u32)))),(5,.a (.c (.nm 0 (.int .u32)))),(6,sU),(21,.a (.c (.imm (.int .u32)))),(22,sI),(23,sI)],[(.exit 0,[(5,.a (.c (.nm 0 (.int .u32)))),(6,sU)])],fun n (x:List Int×List Int×Int×List Int×Int×Int×Unit)=>g137_L0 m n x.1 x.2.1 x.2.2.1 x.2.2.2.1 x.2.2.2.2.1 x.2.2.2.2.2.1⟩
theorem g137_L0_ok {E:Entry} (hE:EOf Tryz.prog E 58 g137_H.pins) (m:Nat) (n:Nat):ql Tryz.prog E g137_B0 ((g137_L0_X m).at n):=
 lok hmix htt hE (g137_K m) (L:=[]) (g137_L0_X m) (l:=[]) kR (fun _ _=>trivial) (fun n x=>kR) (fun _=>kR) n
theorem g137_ok (m:Nat):FunOK Tryz.prog (g137_T m):=
 fok hmix htt (H:=g137_H) (g137_T m) Tryz.func137 kR (g137_K m) (L:=[(g137_L0_X m).at m]) (l:=[(0,g137_B0)]) kR (fun _ hE _ _=>⟨qi ⟨yb (g137_L0_ok hE m m),trivial⟩,trivial⟩) (fun x=>kR)
def g78_H:Hints:=⟨[⟨[],[1,2,4]⟩,⟨[(2,1)],[1,2,4,14]⟩,⟨[],[4,5]⟩,⟨[],[1,2,4,6]⟩,⟨[],[1,2,4,6,20]⟩,⟨[(2,1),(3,1)],[4,5]⟩,⟨[(0,1),(1,1),(4,1)],[2,4,7,8]⟩,⟨[(2,1),(3,1)],[2,4,7,38]⟩,⟨[(0,1)],[2,4,7]⟩,⟨[(2,1)],[4,5]⟩],[],[],[4,5],[],[[false,false],[false]]⟩
def g78_T (m:Nat):FunT:=⟨78,[.a (.agg [.bool,(.imm (.int .u32))]),sI],.tup [(.agg [.bool,(.imm (.int .u32))]),(.c (.int .i64))],[sD,sD],fun(x:(Bool×List Int×Unit)×Int×Unit)=>g78 m x.1.1 x.1.2.1 x.2.1⟩
theorem g78_ok (m:Nat):FunOK Tryz.prog (g78_T m):=
 fok hmix htt (H:=g78_H) (g78_T m) Tryz.func78 kR (AllF.mem (l:=[g86_T m,g135_T m,g134_T m,g136_T m,g137_T m]) ⟨g86_ok m,g135_ok m,g134_ok m,g136_ok m,g137_ok m,trivial⟩) (L:=[]) (l:=[]) kR (fun _ hE _ _=>trivial) (fun x=>kR)
def g141_H:Hints:=⟨[⟨[],[1,2,4]⟩,⟨[],[1,2,4,6]⟩,⟨[(2,1)],[1,2,4]⟩,⟨[(0,1)],[1,2,4]⟩,⟨[(1,1),(4,1)],[2,4]⟩,⟨[],[4]⟩],[(0,[1,2,4])],[(0,[1,2,4]),(1,[1,2,4])],[4],[],[[false,false]]⟩
def g141_T (m:Nat):FunT:=⟨141,[.a (.agg [.bool,(.imm (.int .u32))]),sI],.a (.agg [.bool,(.imm (.int .u32))]),[sD,sD],fun(x:(Bool×List Int×Unit)×Int×Unit)=>g141 m x.1.1 x.1.2.1 x.2.1⟩
noncomputable def g141_C:Code:=codeOf Tryz.f141
noncomputable def g141_B0:Code:=qo g141_C 0 0
theorem g141_K (m:Nat): ∀u∈[g78_T m],FunOK Tryz.prog u:=AllF.mem ⟨g78_ok m,trivial⟩
def g141_L0_X (m:Nat):LT:=⟨0,[(1,sI),(2,.a (.bx 0 [.bool,(.imm (.int .u32))])),(4,.a (.bx 1 [.bool,(.nm 2 (.int .u32))]))],[(.exit 0,[(1,sI),(2,.a (.bx 0 [.bool,(.imm (.int .u32))])),(4,.a (.bx 1 [.bool,(.nm 2 (.int .u32))]))])],fun n (x:Int×(Bool×List Int×Unit)×(Bool×List Int×Unit)×Unit)=>g141_L0 m n x.1 x.2.1.1 x.2.1.2.1 x.2.2.1.1 x.2.2.1.2.1⟩
theorem g141_L0_ok {E:Entry} (hE:EOf Tryz.prog E 22 g141_H.pins) (m:Nat) (n:Nat):ql Tryz.prog E g141_B0 ((g141_L0_X m).at n):=
 lok hmix htt hE (g141_K m) (L:=[]) (g141_L0_X m) (l:=[]) kR (fun _ _=>trivial) (fun n x=>kR) (fun _=>kR) n
theorem g141_ok (m:Nat):FunOK Tryz.prog (g141_T m):=
 fok hmix htt (H:=g141_H) (g141_T m) Tryz.func141 kR (g141_K m) (L:=[(g141_L0_X m).at m]) (l:=[(0,g141_B0)]) kR (fun _ hE _ _=>⟨qi ⟨yb (g141_L0_ok hE m m),trivial⟩,trivial⟩) (fun x=>kR)
def g80_H:Hints:=⟨[⟨[],[1,2]⟩,⟨[],[1,2,7]⟩,⟨[],[2,3]⟩,⟨[],[1,2,4]⟩,⟨[],[1,2,4,14]⟩,⟨[],[2,3]⟩,⟨[],[1,2,4,5]⟩,⟨[(6,1)],[1,2,4,5,30]⟩,⟨[],[2,3]⟩,⟨[],[2,3]⟩],[],[],[2,3],[],[[false,false,false,false],[false]]⟩
def g80_T (m:Nat):FunT:=⟨80,[.a (.agg [.bool,.bool,(.imm (.int .u32)),(.int .i64)])],.tup [(.agg [.bool,.bool,(.imm (.int .u32)),(.int .i64)]),(.c .bool)],[sD],fun(x:(Bool×Bool×List Int×Int×Unit)×Unit)=>g80 m x.1.1 x.1.2.1 x.1.2.2.1 x.1.2.2.2.1⟩
theorem g80_ok (m:Nat):FunOK Tryz.prog (g80_T m):=
 fok hmix htt (H:=g80_H) (g80_T m) Tryz.func80 kR (AllF.mem (l:=[g125_T m,g139_T m,g31_T m,g32_T m,g140_T m,g141_T m]) ⟨g125_ok m,g139_ok m,g31_ok m,g32_ok m,g140_ok m,g141_ok m,trivial⟩) (L:=[]) (l:=[]) kR (fun _ hE _ _=>trivial) (fun x=>kR)
def g28_H:Hints:=⟨[⟨[],[1,2,4]⟩,⟨[(1,1),(4,1)],[4,5]⟩,⟨[],[4]⟩],[],[],[4],[],[[false,false,false,false]]⟩
def g28_T (m:Nat):FunT:=⟨28,[.a (.agg [.bool,(.imm (.int .u32))]),sI],.a (.agg [.bool,.bool,(.imm (.int .u32)),(.int .i64)]),[sD,sD],fun(x:(Bool×List Int×Unit)×Int×Unit)=>g28 m x.1.1 x.1.2.1 x.2.1⟩
theorem g28_ok (m:Nat):FunOK Tryz.prog (g28_T m):=
 fok hmix htt (H:=g28_H) (g28_T m) Tryz.func28 kR (AllF.mem (l:=[g80_T m]) ⟨g80_ok m,trivial⟩) (L:=[]) (l:=[]) kR (fun _ hE _ _=>trivial) (fun x=>kR)
def g29_H:Hints:=⟨[⟨[],[0,2]⟩,⟨[(2,1)],[0,2,3,4]⟩,⟨[],[0,2,3,4,11]⟩,⟨[(0,1)],[0,2,3,4]⟩,⟨[(0,1)],[0,2,3,4]⟩,⟨[],[0,2,3,4,11,16]⟩,⟨[],[2]⟩,⟨[],[0,2,3,4,19]⟩,⟨[],[0,2,3,4]⟩,⟨[(0,1)],[0,2,3,5]⟩,⟨[(0,1)],[2,3,5,25]⟩,⟨[],[2,3,5]⟩,⟨[(1,1)],[2]⟩],[],[(0,[0,2,3,4])],[2],[],[[false,false,false,false]]⟩
def g29_T (m:Nat):FunT:=⟨29,[sU],.a (.agg [.bool,.bool,(.imm (.int .u32)),(.int .i64)]),[sD],fun(x:Int×Unit)=>g29 m x.1⟩
theorem g29_ok (m:Nat):FunOK Tryz.prog (g29_T m):=
 fok hmix htt (H:=g29_H) (g29_T m) Tryz.func29 kR (AllF.mem (l:=[g81_T m,g82_T m,g83_T m,g84_T m,g28_T m]) ⟨g81_ok m,g82_ok m,g83_ok m,g84_ok m,g28_ok m,trivial⟩) (L:=[]) (l:=[]) kR (fun _ hE _ _=>trivial) (fun x=>kR)
def g127_H:Hints:=⟨[⟨[],[1,2,4]⟩,⟨[(1,1),(3,1)],[2,4]⟩,⟨[],[4]⟩],[],[],[4],[],[[false,false]]⟩
def g127_T (m:Nat):FunT:=⟨127,[.a (.agg [.bool,(.imm (.int .u32))]),sI],.a (.agg [.bool,(.imm (.int .u32))]),[sD,sD],fun(x:(Bool×List Int×Unit)×Int×Unit)=>g127 m x.1.1 x.1.2.1 x.2.1⟩
theorem g127_ok (m:Nat):FunOK Tryz.prog (g127_T m):=
 fok hmix htt (H:=g127_H) (g127_T m) Tryz.func127 kR (AllF.mem (l:=[g78_T m]) ⟨g78_ok m,trivial⟩) (L:=[]) (l:=[]) kR (fun _ hE _ _=>trivial) (fun x=>kR)
def g203_H:Hints:=⟨[⟨[],[0]⟩,⟨[],[2]⟩],[],[],[2],[],[[false]]⟩
def g203_T (m:Nat):FunT:=⟨203,[.a (.c (.int .u32))],sB,[sD],fun(x:Int×Unit)=>g203 m x.1⟩
theorem g203_ok (m:Nat):FunOK Tryz.prog (g203_T m):=
 fok hmix htt (H:=g203_H) (g203_T m) Tryz.func203 kR noF (L:=[]) (l:=[]) kR (fun _ hE _ _=>trivial) (fun x=>kR)
def g195_H:Hints:=⟨[⟨[],[0,1]⟩,⟨[],[0,1,5]⟩,⟨[],[0,1,5,6]⟩,⟨[(0,1)],[0,1,6,11]⟩,⟨[(0,1)],[12]⟩,⟨[],[4]⟩,⟨[],[4]⟩,⟨[(0,1)],[0,1,13]⟩,⟨[],[4]⟩,⟨[],[0,1,16]⟩,⟨[],[4]⟩,⟨[(0,1),(1,1)],[19]⟩,⟨[],[4]⟩,⟨[],[4]⟩],[],[],[4],[],[[false]]⟩
def g195_T (m:Nat):FunT:=⟨195,[.a (.c (.int .u32)),.a (.c (.int .u32))],sI,[sD,sD],fun(x:Int×Int×Unit)=>g195 m x.1 x.2.1⟩
theorem g195_ok (m:Nat):FunOK Tryz.prog (g195_T m):=
 fok hmix htt (H:=g195_H) (g195_T m) Tryz.func195 kR (AllF.mem (l:=[g203_T m]) ⟨g203_ok m,trivial⟩) (L:=[]) (l:=[]) kR (fun _ hE _ _=>trivial) (fun x=>kR)
def g175_H:Hints:=⟨[⟨[],[0,1]⟩,⟨[],[0,1,10]⟩,⟨[(0,1),(2,1)],[4]⟩,⟨[],[0,1,5]⟩,⟨[],[0,1,5,20]⟩,⟨[(0,1)],[0,1,5]⟩,⟨[],[0,1,5,31]⟩,⟨[(0,1),(4,1)],[4]⟩,⟨[],[4]⟩],[(0,[0,1,5])],[(0,[]),(1,[0,1,5])],[4],[],[[false]]⟩
def g175_T (m:Nat):FunT:=⟨175,[.a (.c (.imm (.int .u32))),.a (.c (.imm (.int .u32)))],sI,[sD,sD],fun(x:List Int×List Int×Unit)=>g175 m x.1 x.2.1⟩
noncomputable def g175_C:Code:=codeOf Tryz.f175
noncomputable def g175_B0:Code:=qo g175_C 0 0
theorem g175_K (m:Nat): ∀u∈[g121_T m,g195_T m],FunOK Tryz.prog u:=AllF.mem ⟨g121_ok m,g195_ok m,trivial⟩
def g175_L0_X (m:Nat):LT:=⟨0,[(0,.a (.c (.imm (.int .u32)))),(1,.a (.c (.imm (.int .u32)))),(5,sI)],[(.ret,[(4,sI)]),(.exit 0,[])],fun n (x:List Int×List Int×Int×Unit)=>g175_L0 m n x.1 x.2.1 x.2.2.1⟩
theorem g175_L0_ok {E:Entry} (hE:EOf Tryz.prog E 41 g175_H.pins) (m:Nat) (n:Nat):ql Tryz.prog E g175_B0 ((g175_L0_X m).at n):=
 lok hmix htt hE (g175_K m) (L:=[]) (g175_L0_X m) (l:=[]) kR (fun _ _=>trivial) (fun n x=>kR) (fun _=>kR) n
theorem g175_ok (m:Nat):FunOK Tryz.prog (g175_T m):=
 fok hmix htt (H:=g175_H) (g175_T m) Tryz.func175 kR (g175_K m) (L:=[(g175_L0_X m).at m]) (l:=[(0,g175_B0)]) kR (fun _ hE _ _=>⟨qi ⟨yb (g175_L0_ok hE m m),trivial⟩,trivial⟩) (fun x=>kR)
def g176_H:Hints:=⟨[⟨[],[0,1]⟩,⟨[],[0,1,5]⟩,⟨[],[0,1,5,6]⟩,⟨[(0,1)],[1,5,6,13,14,15]⟩,⟨[],[1,5,6,13,14,15,16]⟩,⟨[],[1,5,6,7,8,13,14,15]⟩,⟨[(0,1),(2,1)],[1,5,7,9,13,14,15]⟩,⟨[],[1,5,7,9,13,14,15,27]⟩,⟨[(0,1)],[1,5,7,9,13,14,15]⟩,⟨[(1,1)],[1,5,9,13,14,15]⟩,⟨[(0,1)],[1,5,6,13,14,15]⟩,⟨[(1,1)],[1,5,6,13,14,15]⟩,⟨[(0,1)],[4]⟩],[(0,[1,5,6,13,14,15])],[(0,[5]),(1,[1,5,6,13,14,15])],[4],[],[[false]]⟩
def g176_T (m:Nat):FunT:=⟨176,[.a (.c (.imm (.int .u32))),.a (.c (.imm (.int .u32)))],.a (.c (.imm (.int .u32))),[sD,sD],fun(x:List Int×List Int×Unit)=>g176 m x.1 x.2.1⟩
noncomputable def g176_C:Code:=codeOf Tryz.f176
noncomputable def g176_B0:Code:=qo g176_C 0 0
theorem g176_K (m:Nat): ∀u∈[g86_T m],FunOK Tryz.prog u:=AllF.mem ⟨g86_ok m,trivial⟩
def g176_L0_X (m:Nat):LT:=⟨0,[(1,.a (.c (.imm (.int .u32)))),(5,.a (.c (.nm 0 (.int .u32)))),(6,sU),(13,.a (.c (.imm (.int .u32)))),(14,sI),(15,sI)],[(.exit 0,[(5,.a (.c (.nm 0 (.int .u32))))])],fun n (x:List Int×List Int×Int×List Int×Int×Int×Unit)=>g176_L0 m n x.1 x.2.1 x.2.2.1 x.2.2.2.1 x.2.2.2.2.1 x.2.2.2.2.2.1⟩
theorem g176_L0_ok {E:Entry} (hE:EOf Tryz.prog E 47 g176_H.pins) (m:Nat) (n:Nat):ql Tryz.prog E g176_B0 ((g176_L0_X m).at n):=
 lok hmix htt hE (g176_K m) (L:=[]) (g176_L0_X m) (l:=[]) kR (fun _ _=>trivial) (fun n x=>kR) (fun _=>kR) n
theorem g176_ok (m:Nat):FunOK Tryz.prog (g176_T m):=
 fok hmix htt (H:=g176_H) (g176_T m) Tryz.func176 kR (g176_K m) (L:=[(g176_L0_X m).at m]) (l:=[(0,g176_B0)]) kR (fun _ hE _ _=>⟨qi ⟨yb (g176_L0_ok hE m m),trivial⟩,trivial⟩) (fun x=>kR)
def g126_H:Hints:=⟨[⟨[],[2,3,4]⟩,⟨[],[2,3,4,5,6]⟩,⟨[],[2,3,4,5,6,13]⟩,⟨[(2,1),(3,1)],[4]⟩,⟨[],[2,3,4,5,6,25]⟩,⟨[(2,1),(3,1)],[4]⟩,⟨[(2,1),(3,1)],[4]⟩],[],[(0,[3,4,5,6])],[4],[],[[false,false]]⟩
def g126_T (m:Nat):FunT:=⟨126,[.a (.agg [.bool,(.imm (.int .u32))]),.a (.agg [.bool,(.imm (.int .u32))])],.a (.agg [.bool,(.imm (.int .u32))]),[sD,sD],fun(x:(Bool×List Int×Unit)×(Bool×List Int×Unit)×Unit)=>g126 m x.1.1 x.1.2.1 x.2.1.1 x.2.1.2.1⟩
theorem g126_ok (m:Nat):FunOK Tryz.prog (g126_T m):=
 fok hmix htt (H:=g126_H) (g126_T m) Tryz.func126 kR (AllF.mem (l:=[g86_T m,g137_T m,g134_T m,g175_T m,g176_T m]) ⟨g86_ok m,g137_ok m,g134_ok m,g175_ok m,g176_ok m,trivial⟩) (L:=[]) (l:=[]) kR (fun _ hE _ _=>trivial) (fun x=>kR)
def g61_H:Hints:=⟨[⟨[],[0,2]⟩,⟨[],[0,2,3]⟩,⟨[],[0,2,3,4]⟩,⟨[(0,1)],[2,3,4,12,13,14]⟩,⟨[],[2,3,4,12,13,14,15]⟩,⟨[],[2,3,4,6,12,13,14]⟩,⟨[(2,1)],[2,3,4,7,8,12,13,14]⟩,⟨[(0,1)],[2,3,4,7,12,13,14,24]⟩,⟨[],[2]⟩,⟨[(0,1)],[2,3,4,7,12,13,14]⟩,⟨[(0,1)],[2,3,4,12,13,14]⟩,⟨[(1,1)],[2,3,4,12,13,14]⟩,⟨[(0,2)],[2,3,4,9]⟩,⟨[(0,1)],[2,4,9,35,36,37]⟩,⟨[],[2,4,9,35,36,37,38]⟩,⟨[],[2,4,9,11,35,36,37]⟩,⟨[(0,2)],[2,4,9,35,36,37]⟩,⟨[(1,1)],[2,4,9,35,36,37]⟩,⟨[(1,1)],[2]⟩],[(0,[2,3,4,12,13,14]),(2,[2,4,9,35,36,37])],[(0,[2,3,4]),(1,[2,3,4,12,13,14]),(2,[2,4,9]),(3,[2,4,9,35,36,37])],[2],[],[[false,false,false,false]]⟩
def g61_T (m:Nat):FunT:=⟨61,[.a (.c (.imm (.pr .bool (.pr (.pr .bool (.sl false (.int .u32))) (.int .i64)))))],.a (.agg [.bool,.bool,(.imm (.int .u32)),(.int .i64)]),[sD],fun(x:(List (Bool×(Bool×List Int)×Int))×Unit)=>g61 m x.1⟩
noncomputable def g61_C:Code:=codeOf Tryz.f61
noncomputable def g61_B0:Code:=qo g61_C 0 0
noncomputable def g61_B2:Code:=qo g61_C 0 1
theorem g61_K (m:Nat): ∀u∈[g80_T m,g125_T m,g127_T m,g126_T m,g28_T m],FunOK Tryz.prog u:=AllF.mem ⟨g80_ok m,g125_ok m,g127_ok m,g126_ok m,g28_ok m,trivial⟩
def g61_L1_X (m:Nat):LT:=⟨2,[(2,.a (.bx 0 [.bool,.bool,(.nm 1 (.int .u32)),(.int .i64)])),(4,sI),(9,.a (.bx 2 [.bool,(.imm (.int .u32))])),(35,.a (.c (.nm 3 (.pr .bool (.pr (.pr .bool (.sl false (.int .u32))) (.int .i64)))))),(36,sI),(37,sI)],[(.exit 2,[(2,.a (.bx 0 [.bool,.bool,(.nm 1 (.int .u32)),(.int .i64)])),(4,sI),(9,.a (.bx 2 [.bool,(.imm (.int .u32))]))])],fun n (x:(Bool×Bool×List Int×Int×Unit)×Int×(Bool×List Int×Unit)×(List (Bool×(Bool×List Int)×Int))×Int×Int×Unit)=>g61_L1 m n x.1.1 x.1.2.1 x.1.2.2.1 x.1.2.2.2.1 x.2.1 x.2.2.1.1 x.2.2.1.2.1 x.2.2.2.1 x.2.2.2.2.1 x.2.2.2.2.2.1⟩
theorem g61_L1_ok {E:Entry} (hE:EOf Tryz.prog E 54 g61_H.pins) (m:Nat) (n:Nat):ql Tryz.prog E g61_B2 ((g61_L1_X m).at n):=
 lok hmix htt hE (g61_K m) (L:=[]) (g61_L1_X m) (l:=[]) kR (fun _ _=>trivial) (fun n x=>kR) (fun _=>kR) n
def g61_L0_X (m:Nat):LT:=⟨0,[(2,.a (.bx 0 [.bool,.bool,(.nm 1 (.int .u32)),(.int .i64)])),(3,.a (.c (.nm 2 (.pr .bool (.pr (.pr .bool (.sl false (.int .u32))) (.int .i64)))))),(4,sI),(12,.a (.c (.imm (.pr .bool (.pr (.pr .bool (.sl false (.int .u32))) (.int .i64)))))),(13,sI),(14,sI)],[(.ret,[(2,.a (.bx 0 [.bool,.bool,(.nm 1 (.int .u32)),(.int .i64)]))]),(.exit 0,[(2,.a (.bx 0 [.bool,.bool,(.nm 1 (.int .u32)),(.int .i64)])),(3,.a (.c (.nm 2 (.pr .bool (.pr (.pr .bool (.sl false (.int .u32))) (.int .i64)))))),(4,sI)])],fun n (x:(Bool×Bool×List Int×Int×Unit)×(List (Bool×(Bool×List Int)×Int))×Int×(List (Bool×(Bool×List Int)×Int))×Int×Int×Unit)=>g61_L0 m n x.1.1 x.1.2.1 x.1.2.2.1 x.1.2.2.2.1 x.2.1 x.2.2.1 x.2.2.2.1 x.2.2.2.2.1 x.2.2.2.2.2.1⟩
theorem g61_L0_ok {E:Entry} (hE:EOf Tryz.prog E 54 g61_H.pins) (m:Nat) (n:Nat):ql Tryz.prog E g61_B0 ((g61_L0_X m).at n):=
 lok hmix htt hE (g61_K m) (L:=[]) (g61_L0_X m) (l:=[]) kR (fun _ _=>trivial) (fun n x=>kR) (fun _=>kR) n
theorem g61_ok (m:Nat):FunOK Tryz.prog (g61_T m):=
 fok hmix htt (H:=g61_H) (g61_T m) Tryz.func61 kR (g61_K m) (L:=[(g61_L0_X m).at m,(g61_L1_X m).at m]) (l:=[(0,g61_B0),(2,g61_B2)]) kR (fun _ hE _ _=>⟨qi ⟨yb (g61_L0_ok hE m m),nb rfl,trivial⟩,qi ⟨nb rfl,yb (g61_L1_ok hE m m),trivial⟩,trivial⟩) (fun x=>kR)
def g122_H:Hints:=⟨[⟨[],[1,2]⟩,⟨[(2,1)],[1,2]⟩,⟨[],[2]⟩],[],[],[2],[],[[false,false,false,false]]⟩
def g122_T (m:Nat):FunT:=⟨122,[.a (.agg [.bool,.bool,(.imm (.int .u32)),(.int .i64)])],.a (.agg [.bool,.bool,(.imm (.int .u32)),(.int .i64)]),[sD],fun(x:(Bool×Bool×List Int×Int×Unit)×Unit)=>g122 m x.1.1 x.1.2.1 x.1.2.2.1 x.1.2.2.2.1⟩
theorem g122_ok (m:Nat):FunOK Tryz.prog (g122_T m):=
 fok hmix htt (H:=g122_H) (g122_T m) Tryz.func122 kR (AllF.mem (l:=[g80_T m]) ⟨g80_ok m,trivial⟩) (L:=[]) (l:=[]) kR (fun _ hE _ _=>trivial) (fun x=>kR)
def g77_H:Hints:=⟨[⟨[],[1]⟩,⟨[(2,1)],[1]⟩,⟨[],[2]⟩],[],[],[2],[],[[false]]⟩
def g77_T (m:Nat):FunT:=⟨77,[.a (.agg [.bool,.bool,(.imm (.int .u32)),(.int .i64)])],sI,[sD],fun(x:(Bool×Bool×List Int×Int×Unit)×Unit)=>g77 m x.1.1 x.1.2.1 x.1.2.2.1 x.1.2.2.2.1⟩
theorem g77_ok (m:Nat):FunOK Tryz.prog (g77_T m):=
 fok hmix htt (H:=g77_H) (g77_T m) Tryz.func77 kR (AllF.mem (l:=[g80_T m,g31_T m]) ⟨g80_ok m,g31_ok m,trivial⟩) (L:=[]) (l:=[]) kR (fun _ hE _ _=>trivial) (fun x=>kR)
def g171_H:Hints:=⟨[⟨[],[1,2]⟩,⟨[],[2]⟩],[],[],[2],[],[[false,false]]⟩
def g171_T (m:Nat):FunT:=⟨171,[.a (.agg [.bool,(.imm (.int .u32))])],.a (.agg [.bool,(.imm (.int .u32))]),[sD],fun(x:(Bool×List Int×Unit)×Unit)=>g171 m x.1.1 x.1.2.1⟩
theorem g171_ok (m:Nat):FunOK Tryz.prog (g171_T m):=
 fok hmix htt (H:=g171_H) (g171_T m) Tryz.func171 kR (AllF.mem (l:=[g142_T m,g134_T m]) ⟨g142_ok m,g134_ok m,trivial⟩) (L:=[]) (l:=[]) kR (fun _ hE _ _=>trivial) (fun x=>kR)
def g124_H:Hints:=⟨[⟨[],[1,2]⟩,⟨[],[2]⟩],[],[],[2],[],[[false,false,false,false,false]]⟩
def g124_T (m:Nat):FunT:=⟨124,[.a (.agg [.bool,.bool,(.imm (.int .u32)),(.int .i64)])],.a (.agg [.bool,.bool,(.imm (.int .u32)),(.int .i64),.bool]),[sD],fun(x:(Bool×Bool×List Int×Int×Unit)×Unit)=>g124 m x.1.1 x.1.2.1 x.1.2.2.1 x.1.2.2.2.1⟩
theorem g124_ok (m:Nat):FunOK Tryz.prog (g124_T m):=
 fok hmix htt (H:=g124_H) (g124_T m) Tryz.func124 kR (AllF.mem (l:=[g171_T m]) ⟨g171_ok m,trivial⟩) (L:=[]) (l:=[]) kR (fun _ hE _ _=>trivial) (fun x=>kR)
def g169_H:Hints:=⟨[⟨[],[1]⟩,⟨[],[2]⟩],[],[],[2],[],[[false]]⟩
def g169_T (m:Nat):FunT:=⟨169,[.a (.agg [.bool,.bool,(.imm (.int .u32)),(.int .i64),.bool])],sI,[sD],fun(x:(Bool×Bool×List Int×Int×Bool×Unit)×Unit)=>g169 m x.1.1 x.1.2.1 x.1.2.2.1 x.1.2.2.2.1 x.1.2.2.2.2.1⟩
theorem g169_ok (m:Nat):FunOK Tryz.prog (g169_T m):=
 fok hmix htt (H:=g169_H) (g169_T m) Tryz.func169 kR (AllF.mem (l:=[g140_T m]) ⟨g140_ok m,trivial⟩) (L:=[]) (l:=[]) kR (fun _ hE _ _=>trivial) (fun x=>kR)
def g202_H:Hints:=⟨[⟨[],[2,3,4]⟩,⟨[],[2,3,4]⟩,⟨[],[4]⟩],[],[],[4],[],[[false,false]]⟩
def g202_T (m:Nat):FunT:=⟨202,[.a (.agg [.bool,(.imm (.int .u32))]),.a (.agg [.bool,(.imm (.int .u32))])],.a (.agg [.bool,(.imm (.int .u32))]),[sD,sD],fun(x:(Bool×List Int×Unit)×(Bool×List Int×Unit)×Unit)=>g202 m x.1.1 x.1.2.1 x.2.1.1 x.2.1.2.1⟩
theorem g202_ok (m:Nat):FunOK Tryz.prog (g202_T m):=
 fok hmix htt (H:=g202_H) (g202_T m) Tryz.func202 kR (AllF.mem (l:=[g126_T m]) ⟨g126_ok m,trivial⟩) (L:=[]) (l:=[]) kR (fun _ hE _ _=>trivial) (fun x=>kR)
def g189_H:Hints:=⟨[⟨[],[2,3]⟩,⟨[],[2,3,5,6]⟩,⟨[],[2,3,5,6,11]⟩,⟨[],[4]⟩,⟨[(1,1)],[2,3,5,15]⟩,⟨[],[4]⟩,⟨[(0,1)],[4]⟩],[],[(0,[2,3,5])],[4],[],[[false]]⟩
def g189_T (m:Nat):FunT:=⟨189,[.a (.agg [.bool,(.imm (.int .u32))]),.a (.agg [.bool,(.imm (.int .u32))])],sI,[sD,sD],fun(x:(Bool×List Int×Unit)×(Bool×List Int×Unit)×Unit)=>g189 m x.1.1 x.1.2.1 x.2.1.1 x.2.1.2.1⟩
theorem g189_ok (m:Nat):FunOK Tryz.prog (g189_T m):=
 fok hmix htt (H:=g189_H) (g189_T m) Tryz.func189 kR (AllF.mem (l:=[g31_T m,g86_T m,g175_T m]) ⟨g31_ok m,g86_ok m,g175_ok m,trivial⟩) (L:=[]) (l:=[]) kR (fun _ hE _ _=>trivial) (fun x=>kR)
def g194_H:Hints:=⟨[⟨[],[1,2,4]⟩,⟨[],[1,2,4,7]⟩,⟨[(1,1)],[1,2,4,14]⟩,⟨[],[4,5,6]⟩,⟨[],[1,2,4]⟩,⟨[],[1,2,4,8]⟩,⟨[(2,1)],[2,4,5,8]⟩,⟨[(2,1)],[2,4,5,8,37]⟩,⟨[],[2,4,5,8]⟩,⟨[(1,1),(5,1)],[4,5,6]⟩],[],[],[4,5,6],[],[[false,false],[false],[false]]⟩
def g194_T (m:Nat):FunT:=⟨194,[.a (.agg [.bool,.bool,(.imm (.int .u32)),(.int .i64),.bool]),sI],.tup [(.agg [.bool,(.imm (.int .u32))]),(.c (.int .i64)),(.c .bool)],[sD,sD],fun(x:(Bool×Bool×List Int×Int×Bool×Unit)×Int×Unit)=>g194 m x.1.1 x.1.2.1 x.1.2.2.1 x.1.2.2.2.1 x.1.2.2.2.2.1 x.2.1⟩
theorem g194_ok (m:Nat):FunOK Tryz.prog (g194_T m):=
 fok hmix htt (H:=g194_H) (g194_T m) Tryz.func194 kR (AllF.mem (l:=[g140_T m,g141_T m,g127_T m,g202_T m,g82_T m,g189_T m,g31_T m]) ⟨g140_ok m,g141_ok m,g127_ok m,g202_ok m,g82_ok m,g189_ok m,g31_ok m,trivial⟩) (L:=[]) (l:=[]) kR (fun _ hE _ _=>trivial) (fun x=>kR)
def g172_H:Hints:=⟨[⟨[],[1,2,3,6]⟩,⟨[],[1,2,3,6,7,8,9]⟩,⟨[],[1,2,3,6,7,8,9,16]⟩,⟨[(3,1)],[2,3,6,7,8,9]⟩,⟨[(1,1),(6,1)],[2,3,6,7,8,9]⟩,⟨[],[2,3,6,7,8,9,10]⟩,⟨[(2,1),(5,1),(10,1)],[3,6,7,10]⟩,⟨[(0,1)],[2,3,6,7,8,10,49]⟩,⟨[],[2,3,6,7,8,10,51]⟩,⟨[],[3,6,7,10]⟩,⟨[],[2,3,6,7,8,10,56]⟩,⟨[],[3,6,7,10]⟩,⟨[(0,1)],[3,6,7,8,10,62]⟩,⟨[(0,1)],[3,6,7,65]⟩,⟨[],[3,6,7]⟩,⟨[],[6,7,70]⟩,⟨[],[6,7]⟩,⟨[],[6]⟩],[],[(0,[3,6,7,10])],[6],[],[[false,false]]⟩
def g172_T (m:Nat):FunT:=⟨172,[.a (.agg [.bool,.bool,(.imm (.int .u32)),(.int .i64),.bool]),sI,sI],.a (.agg [.bool,(.imm (.int .u32))]),[sD,sD,sD],fun(x:(Bool×Bool×List Int×Int×Bool×Unit)×Int×Int×Unit)=>g172 m x.1.1 x.1.2.1 x.1.2.2.1 x.1.2.2.2.1 x.1.2.2.2.2.1 x.2.1 x.2.2.1⟩
theorem g172_ok (m:Nat):FunOK Tryz.prog (g172_T m):=
 fok hmix htt (H:=g172_H) (g172_T m) Tryz.func172 kR (AllF.mem (l:=[g127_T m,g84_T m,g194_T m,g82_T m,g126_T m,g31_T m,g32_T m]) ⟨g127_ok m,g84_ok m,g194_ok m,g82_ok m,g126_ok m,g31_ok m,g32_ok m,trivial⟩) (L:=[]) (l:=[]) kR (fun _ hE _ _=>trivial) (fun x=>kR)
def g170_H:Hints:=⟨[⟨[],[1]⟩,⟨[],[1,4]⟩,⟨[],[1,4,13]⟩,⟨[],[2,3]⟩,⟨[],[1,4,5]⟩,⟨[(0,1)],[1,5,14,15,16]⟩,⟨[],[1,5,14,15,16,17]⟩,⟨[],[1,5,6,7,14,15,16]⟩,⟨[(0,1),(1,1),(3,1)],[1,5,14,15,16]⟩,⟨[(1,1)],[1,5,14,15,16]⟩,⟨[(2,1),(6,1)],[1,5,29]⟩,⟨[(0,1)],[2,3]⟩,⟨[(2,1),(6,1)],[5,45]⟩,⟨[(0,1)],[2,3]⟩,⟨[],[2,3]⟩],[(0,[1,5,14,15,16])],[(0,[1,5]),(1,[1,5,14,15,16]),(2,[])],[2,3],[],[[false],[false]]⟩
def g170_T (m:Nat):FunT:=⟨170,[.a (.agg [.bool,(.imm (.int .u32))])],.tup [(.c (.int .i64)),(.c .bool)],[sD],fun(x:(Bool×List Int×Unit)×Unit)=>g170 m x.1.1 x.1.2.1⟩
noncomputable def g170_C:Code:=codeOf Tryz.f170
noncomputable def g170_B0:Code:=qo g170_C 0 0
theorem g170_K (m:Nat): ∀u∈[g86_T m],FunOK Tryz.prog u:=AllF.mem ⟨g86_ok m,trivial⟩
def g170_L0_X (m:Nat):LT:=⟨0,[(1,.a (.bx 0 [.bool,(.imm (.int .u32))])),(5,sU),(14,.a (.c (.imm (.int .u32)))),(15,sI),(16,sI)],[(.exit 0,[(1,.a (.bx 0 [.bool,(.imm (.int .u32))])),(5,sU)])],fun n (x:(Bool×List Int×Unit)×Int×List Int×Int×Int×Unit)=>g170_L0 m n x.1.1 x.1.2.1 x.2.1 x.2.2.1 x.2.2.2.1 x.2.2.2.2.1⟩
theorem g170_L0_ok {E:Entry} (hE:EOf Tryz.prog E 59 g170_H.pins) (m:Nat) (n:Nat):ql Tryz.prog E g170_B0 ((g170_L0_X m).at n):=
 lok hmix htt hE (g170_K m) (L:=[]) (g170_L0_X m) (l:=[]) kR (fun _ _=>trivial) (fun n x=>kR) (fun _=>kR) n
theorem g170_ok (m:Nat):FunOK Tryz.prog (g170_T m):=
 fok hmix htt (H:=g170_H) (g170_T m) Tryz.func170 kR (g170_K m) (L:=[(g170_L0_X m).at m]) (l:=[(0,g170_B0)]) kR (fun _ hE _ _=>⟨qi ⟨yb (g170_L0_ok hE m m),trivial⟩,trivial⟩) (fun x=>kR)
def g173_H:Hints:=⟨[⟨[],[0,1]⟩,⟨[(0,1)],[0,5]⟩,⟨[(0,1)],[4]⟩,⟨[(0,1)],[4]⟩],[],[],[4],[],[[false]]⟩
def g173_T (m:Nat):FunT:=⟨173,[sU,sB],sU,[sD,sD],fun(x:Int×Bool×Unit)=>g173 m x.1 x.2.1⟩
theorem g173_ok (m:Nat):FunOK Tryz.prog (g173_T m):=
 fok hmix htt (H:=g173_H) (g173_T m) Tryz.func173 kR noF (L:=[]) (l:=[]) kR (fun _ hE _ _=>trivial) (fun x=>kR)
def g174_H:Hints:=⟨[⟨[],[0,1]⟩,⟨[(2,1),(5,1),(10,1),(13,1)],[0,21]⟩,⟨[(0,1)],[4]⟩,⟨[(0,1)],[4]⟩],[],[],[4],[],[[false]]⟩
def g174_T (m:Nat):FunT:=⟨174,[sB,sI],sU,[sD,sD],fun(x:Bool×Int×Unit)=>g174 m x.1 x.2.1⟩
theorem g174_ok (m:Nat):FunOK Tryz.prog (g174_T m):=
 fok hmix htt (H:=g174_H) (g174_T m) Tryz.func174 kR (AllF.mem (l:=[g173_T m]) ⟨g173_ok m,trivial⟩) (L:=[]) (l:=[]) kR (fun _ hE _ _=>trivial) (fun x=>kR)
def g123_H:Hints:=⟨[⟨[],[1,2]⟩,⟨[],[1,2,5]⟩,⟨[(6,1)],[1,2,5,6]⟩,⟨[(0,1)],[1,2,5,8]⟩,⟨[],[1,2,5,8,25]⟩,⟨[(0,1)],[1,2,5,8]⟩,⟨[],[1,2,5,8,29]⟩,⟨[(0,1)],[4]⟩,⟨[],[1,2,5,8,36]⟩,⟨[(2,1)],[4]⟩,⟨[(0,1),(4,1)],[4]⟩],[],[],[4],[],[[false]]⟩
def g123_T (m:Nat):FunT:=⟨123,[.a (.agg [.bool,.bool,(.imm (.int .u32)),(.int .i64),.bool]),sI],sU,[sD,sD],fun(x:(Bool×Bool×List Int×Int×Bool×Unit)×Int×Unit)=>g123 m x.1.1 x.1.2.1 x.1.2.2.1 x.1.2.2.2.1 x.1.2.2.2.2.1 x.2.1⟩
theorem g123_ok (m:Nat):FunOK Tryz.prog (g123_T m):=
 fok hmix htt (H:=g123_H) (g123_T m) Tryz.func123 kR (AllF.mem (l:=[g169_T m,g172_T m,g171_T m,g170_T m,g174_T m,g173_T m]) ⟨g169_ok m,g172_ok m,g171_ok m,g170_ok m,g174_ok m,g173_ok m,trivial⟩) (L:=[]) (l:=[]) kR (fun _ hE _ _=>trivial) (fun x=>kR)
def g60_H:Hints:=⟨[⟨[],[1,2]⟩,⟨[],[1,2]⟩,⟨[],[1,2,7]⟩,⟨[],[4]⟩,⟨[],[1,2,10]⟩,⟨[],[4]⟩,⟨[(2,1)],[4]⟩],[],[(0,[1,2])],[4],[],[[false]]⟩
def g60_T (m:Nat):FunT:=⟨60,[.a (.agg [.bool,.bool,(.imm (.int .u32)),(.int .i64)]),sI],sU,[sD,sD],fun(x:(Bool×Bool×List Int×Int×Unit)×Int×Unit)=>g60 m x.1.1 x.1.2.1 x.1.2.2.1 x.1.2.2.2.1 x.2.1⟩
theorem g60_ok (m:Nat):FunOK Tryz.prog (g60_T m):=
 fok hmix htt (H:=g60_H) (g60_T m) Tryz.func60 kR (AllF.mem (l:=[g122_T m,g77_T m,g124_T m,g123_T m]) ⟨g122_ok m,g77_ok m,g124_ok m,g123_ok m,trivial⟩) (L:=[]) (l:=[]) kR (fun _ hE _ _=>trivial) (fun x=>kR)
def g62_H:Hints:=⟨[⟨[],[0,1,2,6]⟩,⟨[(0,1)],[1,2,6,7]⟩,⟨[(0,1)],[1,6,7,18,19,20]⟩,⟨[],[1,6,7,18,19,20,21]⟩,⟨[],[1,6,7,9,18,19,20]⟩,⟨[(5,3),(11,3)],[1,6,7,9,18,19,20]⟩,⟨[],[1,6,7,18,19,20]⟩,⟨[(1,1)],[1,6,7,18,19,20]⟩,⟨[(0,1)],[6,7,48,49]⟩,⟨[],[6,7,48,49,50]⟩,⟨[],[6,7,10,48,49]⟩,⟨[],[6,7,48,49]⟩,⟨[(1,1)],[6,7,48,49]⟩,⟨[(0,1)],[6]⟩],[(0,[1,6,7,18,19,20]),(2,[6,7,48,49])],[(0,[1,6,7]),(1,[1,6,7,18,19,20]),(2,[6,7]),(3,[6,7,48,49])],[6],[],[[false,false,true,true,true]]⟩
def g62_T (m:Nat):FunT:=⟨62,[sI,sI,.a (.c (.imm (.pr (.int .i64) (.pr (.int .i64) (.int .u64)))))],.a (.agg [(.int .i64),(.int .i64),(.nm 0 (.int .i64)),(.nm 1 (.int .i64)),(.nm 2 (.int .u64))]),[sD,sD,sD],fun(x:Int×Int×(List (Int×Int×Int))×Unit)=>g62 m x.1 x.2.1 x.2.2.1⟩
noncomputable def g62_C:Code:=codeOf Tryz.f62
noncomputable def g62_B0:Code:=qo g62_C 0 0
noncomputable def g62_B2:Code:=qo g62_C 0 1
theorem g62_K (m:Nat): ∀u∈[g59_T m],FunOK Tryz.prog u:=AllF.mem ⟨g59_ok m,trivial⟩
def g62_L1_X (m:Nat):LT:=⟨2,[(6,.a (.bx 0 [(.int .i64),(.int .i64),(.nm 1 (.int .i64)),(.nm 2 (.int .i64)),(.nm 3 (.int .u64))])),(7,.a (.bx 4 [(.int .i64),(.int .i64),(.nm 5 (.int .i64)),(.nm 6 (.int .i64)),(.nm 7 (.int .u64))])),(48,sI),(49,sI)],[(.exit 2,[(6,.a (.bx 0 [(.int .i64),(.int .i64),(.nm 1 (.int .i64)),(.nm 2 (.int .i64)),(.nm 3 (.int .u64))])),(7,.a (.bx 4 [(.int .i64),(.int .i64),(.nm 5 (.int .i64)),(.nm 6 (.int .i64)),(.nm 7 (.int .u64))]))])],fun n (x:(Int×Int×List Int×List Int×List Int×Unit)×(Int×Int×List Int×List Int×List Int×Unit)×Int×Int×Unit)=>g62_L1 m n x.1.1 x.1.2.1 x.1.2.2.1 x.1.2.2.2.1 x.1.2.2.2.2.1 x.2.1.1 x.2.1.2.1 x.2.1.2.2.1 x.2.1.2.2.2.1 x.2.1.2.2.2.2.1 x.2.2.1 x.2.2.2.1⟩
theorem g62_L1_ok {E:Entry} (hE:EOf Tryz.prog E 67 g62_H.pins) (m:Nat) (n:Nat):ql Tryz.prog E g62_B2 ((g62_L1_X m).at n):=
 lok hmix htt hE (g62_K m) (L:=[]) (g62_L1_X m) (l:=[]) kR (fun _ _=>trivial) (fun n x=>kR) (fun _=>kR) n
def g62_L0_X (m:Nat):LT:=⟨0,[(1,sI),(6,.a (.bx 0 [(.int .i64),(.int .i64),(.nm 1 (.int .i64)),(.nm 2 (.int .i64)),(.nm 3 (.int .u64))])),(7,.a (.bx 4 [(.int .i64),(.int .i64),(.nm 5 (.int .i64)),(.nm 6 (.int .i64)),(.nm 7 (.int .u64))])),(18,.a (.c (.nm 8 (.pr (.int .i64) (.pr (.int .i64) (.int .u64)))))),(19,sI),(20,sI)],[(.exit 0,[(1,sI),(6,.a (.bx 0 [(.int .i64),(.int .i64),(.nm 1 (.int .i64)),(.nm 2 (.int .i64)),(.nm 3 (.int .u64))])),(7,.a (.bx 4 [(.int .i64),(.int .i64),(.nm 5 (.int .i64)),(.nm 6 (.int .i64)),(.nm 7 (.int .u64))]))])],fun n (x:Int×(Int×Int×List Int×List Int×List Int×Unit)×(Int×Int×List Int×List Int×List Int×Unit)×(List (Int×Int×Int))×Int×Int×Unit)=>g62_L0 m n x.1 x.2.1.1 x.2.1.2.1 x.2.1.2.2.1 x.2.1.2.2.2.1 x.2.1.2.2.2.2.1 x.2.2.1.1 x.2.2.1.2.1 x.2.2.1.2.2.1 x.2.2.1.2.2.2.1 x.2.2.1.2.2.2.2.1 x.2.2.2.1 x.2.2.2.2.1 x.2.2.2.2.2.1⟩
theorem g62_L0_ok {E:Entry} (hE:EOf Tryz.prog E 67 g62_H.pins) (m:Nat) (n:Nat):ql Tryz.prog E g62_B0 ((g62_L0_X m).at n):=
 lok hmix htt hE (g62_K m) (L:=[]) (g62_L0_X m) (l:=[]) kR (fun _ _=>trivial) (fun n x=>kR) (fun _=>kR) n
theorem g62_ok (m:Nat):FunOK Tryz.prog (g62_T m):=
 fok hmix htt (H:=g62_H) (g62_T m) Tryz.func62 kR (g62_K m) (L:=[(g62_L0_X m).at m,(g62_L1_X m).at m]) (l:=[(0,g62_B0),(2,g62_B2)]) kR (fun _ hE _ _=>⟨qi ⟨yb (g62_L0_ok hE m m),nb rfl,trivial⟩,qi ⟨nb rfl,yb (g62_L1_ok hE m m),trivial⟩,trivial⟩) (fun x=>kR)
def g11_H:Hints:=⟨[⟨[],[0,1,2,6]⟩,⟨[(3,1),(8,1)],[0,1,2,6,27]⟩,⟨[],[6,7]⟩,⟨[],[0,1,2,6,29,30,31]⟩,⟨[],[0,1,2,6,29,30,31,32]⟩,⟨[],[0,1,2,6,9,29,30,31]⟩,⟨[(6,1)],[0,1,2,6,29,30,31,48]⟩,⟨[],[6,7]⟩,⟨[(1,1)],[0,1,2,6,29,30,31]⟩,⟨[],[0,1,2,6,51,52,53]⟩,⟨[],[0,1,2,6,51,52,53,54]⟩,⟨[],[0,1,2,6,11,51,52,53]⟩,⟨[],[0,1,2,6,51,52,53,60]⟩,⟨[],[6,7]⟩,⟨[(1,1)],[0,1,2,6,51,52,53]⟩,⟨[(0,1),(2,2)],[0,1,2,6]⟩,⟨[],[0,1,2,6,12]⟩,⟨[],[0,1,2,6,12,67]⟩,⟨[],[0,1,2,6,12,13]⟩,⟨[],[0,1,2,6,12,13,14]⟩,⟨[(3,1),(12,1)],[0,1,2,6,12,13,14,91]⟩,⟨[(0,1),(11,2)],[0,1,2,6,12,13,14]⟩,⟨[(0,1)],[0,1,2,6,12,13]⟩,⟨[],[0,1,2,6,12,13,109]⟩,⟨[],[6,7]⟩,⟨[(0,1)],[0,1,2,6,12]⟩,⟨[(0,1),(1,1),(2,1)],[6,7]⟩],[(0,[0,1,2,6,29,30,31]),(2,[0,1,2,6,51,52,53]),(4,[0,1,2,6,12]),(6,[0,1,2,6,12,13,14])],[(0,[0,1,2,6]),(1,[0,1,2,6,29,30,31]),(2,[0,1,2,6]),(3,[0,1,2,6,51,52,53]),(4,[0,1,6,12]),(5,[0,1,2,6,12]),(6,[0,1,2,6,12,13,14]),(7,[0,1,2,6,12,13,14])],[6,7],[],[[false,false,true,true,true],[false]]⟩
def g11_T (m:Nat):FunT:=⟨11,[sI,sI,.a (.c (.imm (.pr (.int .i64) (.pr (.int .i64) (.int .u64)))))],.tup [(.agg [(.int .i64),(.int .i64),(.nm 0 (.int .i64)),(.nm 1 (.int .i64)),(.nm 2 (.int .u64))]),(.c (.int .i64))],[sD,sD,sD],fun(x:Int×Int×(List (Int×Int×Int))×Unit)=>g11 m x.1 x.2.1 x.2.2.1⟩
noncomputable def g11_C:Code:=codeOf Tryz.f11
noncomputable def g11_B0:Code:=qo g11_C 0 0
noncomputable def g11_B2:Code:=qo g11_C 0 1
noncomputable def g11_B4:Code:=qo g11_C 0 2
noncomputable def g11_B6:Code:=qo g11_B4 4 0
theorem g11_K (m:Nat): ∀u∈[g57_T m,g58_T m,g59_T m,g29_T m,g61_T m,g60_T m,g62_T m],FunOK Tryz.prog u:=AllF.mem ⟨g57_ok m,g58_ok m,g59_ok m,g29_ok m,g61_ok m,g60_ok m,g62_ok m,trivial⟩
def g11_L3_X (m:Nat):LT:=⟨6,[(0,sI),(1,sI),(2,.a (.c (.imm (.pr (.int .i64) (.pr (.int .i64) (.int .u64)))))),(6,.a (.bx 0 [(.int .i64),(.int .i64),(.nm 1 (.int .i64)),(.nm 2 (.int .i64)),(.nm 3 (.int .u64))])),(12,.a (.c (.nm 4 (.pr (.int .i64) (.pr (.int .i64) (.int .u64)))))),(13,.a (.bx 5 [(.int .i64),(.int .i64),(.int .u64)])),(14,.a (.c (.nm 6 (.pr .bool (.pr (.pr .bool (.sl false (.int .u32))) (.int .i64))))))],[(.exit 6,[(0,sI),(1,sI),(2,.a (.c (.imm (.pr (.int .i64) (.pr (.int .i64) (.int .u64)))))),(6,.a (.bx 0 [(.int .i64),(.int .i64),(.nm 1 (.int .i64)),(.nm 2 (.int .i64)),(.nm 3 (.int .u64))])),(12,.a (.c (.nm 4 (.pr (.int .i64) (.pr (.int .i64) (.int .u64)))))),(13,.a (.bx 5 [(.int .i64),(.int .i64),(.int .u64)])),(14,.a (.c (.nm 6 (.pr .bool (.pr (.pr .bool (.sl false (.int .u32))) (.int .i64))))))])],fun n (x:Int×Int×(List (Int×Int×Int))×(Int×Int×List Int×List Int×List Int×Unit)×(List (Int×Int×Int))×(Int×Int×Int×Unit)×(List (Bool×(Bool×List Int)×Int))×Unit)=>g11_L3 m n x.1 x.2.1 x.2.2.1 x.2.2.2.1.1 x.2.2.2.1.2.1 x.2.2.2.1.2.2.1 x.2.2.2.1.2.2.2.1 x.2.2.2.1.2.2.2.2.1 x.2.2.2.2.1 x.2.2.2.2.2.1.1 x.2.2.2.2.2.1.2.1 x.2.2.2.2.2.1.2.2.1 x.2.2.2.2.2.2.1⟩
theorem g11_L3_ok {E:Entry} (hE:EOf Tryz.prog E 119 g11_H.pins) (m:Nat) (n:Nat):ql Tryz.prog E g11_B6 ((g11_L3_X m).at n):=
 lok hmix htt hE (g11_K m) (L:=[]) (g11_L3_X m) (l:=[]) kR (fun _ _=>trivial) (fun n x=>kR) (fun _=>kR) n
def g11_L2_X (m:Nat):LT:=⟨4,[(0,sI),(1,sI),(2,.a (.c (.imm (.pr (.int .i64) (.pr (.int .i64) (.int .u64)))))),(6,.a (.bx 0 [(.int .i64),(.int .i64),(.nm 1 (.int .i64)),(.nm 2 (.int .i64)),(.nm 3 (.int .u64))])),(12,.a (.c (.nm 4 (.pr (.int .i64) (.pr (.int .i64) (.int .u64))))))],[(.ret,[(6,.a (.bx 0 [(.int .i64),(.int .i64),(.nm 1 (.int .i64)),(.nm 2 (.int .i64)),(.nm 3 (.int .u64))])),(7,sI)]),(.exit 4,[(0,sI),(1,sI),(6,.a (.bx 0 [(.int .i64),(.int .i64),(.nm 1 (.int .i64)),(.nm 2 (.int .i64)),(.nm 3 (.int .u64))])),(12,.a (.c (.nm 4 (.pr (.int .i64) (.pr (.int .i64) (.int .u64))))))])],fun n (x:Int×Int×(List (Int×Int×Int))×(Int×Int×List Int×List Int×List Int×Unit)×(List (Int×Int×Int))×Unit)=>g11_L2 m n x.1 x.2.1 x.2.2.1 x.2.2.2.1.1 x.2.2.2.1.2.1 x.2.2.2.1.2.2.1 x.2.2.2.1.2.2.2.1 x.2.2.2.1.2.2.2.2.1 x.2.2.2.2.1⟩
theorem g11_L2_ok {E:Entry} (hE:EOf Tryz.prog E 119 g11_H.pins) (m:Nat) (n:Nat):ql Tryz.prog E g11_B4 ((g11_L2_X m).at n):=
 lok hmix htt hE (g11_K m) (L:=[(g11_L3_X m).at m]) (g11_L2_X m) (l:=[(6,g11_B6)]) kR (fun _ _=>⟨qi ⟨yb (g11_L3_ok hE m m),trivial⟩,trivial⟩) (fun n x=>kR) (fun _=>kR) n
def g11_L1_X (m:Nat):LT:=⟨2,[(0,sI),(1,sI),(2,.a (.c (.imm (.pr (.int .i64) (.pr (.int .i64) (.int .u64)))))),(6,.a (.bx 0 [(.int .i64),(.int .i64),(.nm 1 (.int .i64)),(.nm 2 (.int .i64)),(.nm 3 (.int .u64))])),(51,.a (.c (.imm (.pr (.int .i64) (.pr (.int .i64) (.int .u64)))))),(52,sI),(53,sI)],[(.ret,[(6,.a (.bx 0 [(.int .i64),(.int .i64),(.nm 1 (.int .i64)),(.nm 2 (.int .i64)),(.nm 3 (.int .u64))])),(7,sI)]),(.exit 2,[(0,sI),(1,sI),(2,.a (.c (.imm (.pr (.int .i64) (.pr (.int .i64) (.int .u64)))))),(6,.a (.bx 0 [(.int .i64),(.int .i64),(.nm 1 (.int .i64)),(.nm 2 (.int .i64)),(.nm 3 (.int .u64))]))])],fun n (x:Int×Int×(List (Int×Int×Int))×(Int×Int×List Int×List Int×List Int×Unit)×(List (Int×Int×Int))×Int×Int×Unit)=>g11_L1 m n x.1 x.2.1 x.2.2.1 x.2.2.2.1.1 x.2.2.2.1.2.1 x.2.2.2.1.2.2.1 x.2.2.2.1.2.2.2.1 x.2.2.2.1.2.2.2.2.1 x.2.2.2.2.1 x.2.2.2.2.2.1 x.2.2.2.2.2.2.1⟩
theorem g11_L1_ok {E:Entry} (hE:EOf Tryz.prog E 119 g11_H.pins) (m:Nat) (n:Nat):ql Tryz.prog E g11_B2 ((g11_L1_X m).at n):=
 lok hmix htt hE (g11_K m) (L:=[]) (g11_L1_X m) (l:=[]) kR (fun _ _=>trivial) (fun n x=>kR) (fun _=>kR) n
def g11_L0_X (m:Nat):LT:=⟨0,[(0,sI),(1,sI),(2,.a (.c (.imm (.pr (.int .i64) (.pr (.int .i64) (.int .u64)))))),(6,.a (.bx 0 [(.int .i64),(.int .i64),(.nm 1 (.int .i64)),(.nm 2 (.int .i64)),(.nm 3 (.int .u64))])),(29,.a (.c (.imm (.pr (.int .i64) (.pr (.int .i64) (.int .u64)))))),(30,sI),(31,sI)],[(.ret,[(6,.a (.bx 0 [(.int .i64),(.int .i64),(.nm 1 (.int .i64)),(.nm 2 (.int .i64)),(.nm 3 (.int .u64))])),(7,sI)]),(.exit 0,[(0,sI),(1,sI),(2,.a (.c (.imm (.pr (.int .i64) (.pr (.int .i64) (.int .u64)))))),(6,.a (.bx 0 [(.int .i64),(.int .i64),(.nm 1 (.int .i64)),(.nm 2 (.int .i64)),(.nm 3 (.int .u64))]))])],fun n (x:Int×Int×(List (Int×Int×Int))×(Int×Int×List Int×List Int×List Int×Unit)×(List (Int×Int×Int))×Int×Int×Unit)=>g11_L0 m n x.1 x.2.1 x.2.2.1 x.2.2.2.1.1 x.2.2.2.1.2.1 x.2.2.2.1.2.2.1 x.2.2.2.1.2.2.2.1 x.2.2.2.1.2.2.2.2.1 x.2.2.2.2.1 x.2.2.2.2.2.1 x.2.2.2.2.2.2.1⟩
theorem g11_L0_ok {E:Entry} (hE:EOf Tryz.prog E 119 g11_H.pins) (m:Nat) (n:Nat):ql Tryz.prog E g11_B0 ((g11_L0_X m).at n):=
 lok hmix htt hE (g11_K m) (L:=[]) (g11_L0_X m) (l:=[]) kR (fun _ _=>trivial) (fun n x=>kR) (fun _=>kR) n
theorem g11_ok (m:Nat):FunOK Tryz.prog (g11_T m):=
 fok hmix htt (H:=g11_H) (g11_T m) Tryz.func11 kR (g11_K m) (L:=[(g11_L0_X m).at m,(g11_L1_X m).at m,(g11_L2_X m).at m]) (l:=[(0,g11_B0),(2,g11_B2),(4,g11_B4)]) kR (fun _ hE _ _=>⟨qi ⟨yb (g11_L0_ok hE m m),nb rfl,nb rfl,trivial⟩,qi ⟨nb rfl,yb (g11_L1_ok hE m m),nb rfl,trivial⟩,qi ⟨nb rfl,nb rfl,yb (g11_L2_ok hE m m),trivial⟩,trivial⟩) (fun x=>kR)
def g186_H:Hints:=⟨[⟨[],[0,1]⟩,⟨[(2,1),(7,1)],[4]⟩],[],[],[4],[],[[false]]⟩
def g186_T (m:Nat):FunT:=⟨186,[sI,sI],sB,[sD,sD],fun(x:Int×Int×Unit)=>g186 m x.1 x.2.1⟩
theorem g186_ok (m:Nat):FunOK Tryz.prog (g186_T m):=
 fok hmix htt (H:=g186_H) (g186_T m) Tryz.func186 kR (AllF.mem (l:=[g168_T m]) ⟨g168_ok m,trivial⟩) (L:=[]) (l:=[]) kR (fun _ hE _ _=>trivial) (fun x=>kR)
def g157_H:Hints:=⟨[⟨[],[0]⟩,⟨[],[0,3]⟩,⟨[],[0,3,8]⟩,⟨[(0,1)],[0,3]⟩,⟨[],[0,3,20]⟩,⟨[],[2]⟩,⟨[],[2]⟩],[(0,[0,3])],[(0,[]),(1,[0,3])],[2],[],[[false]]⟩
def g157_T (m:Nat):FunT:=⟨157,[sL],sB,[sD],fun(x:List Int×Unit)=>g157 m x.1⟩
noncomputable def g157_C:Code:=codeOf Tryz.f157
noncomputable def g157_B0:Code:=qo g157_C 0 0
theorem g157_K (m:Nat): ∀u∈[g186_T m],FunOK Tryz.prog u:=AllF.mem ⟨g186_ok m,trivial⟩
def g157_L0_X (m:Nat):LT:=⟨0,[(0,sL),(3,sI)],[(.ret,[(2,sB)]),(.exit 0,[])],fun n (x:List Int×Int×Unit)=>g157_L0 m n x.1 x.2.1⟩
theorem g157_L0_ok {E:Entry} (hE:EOf Tryz.prog E 21 g157_H.pins) (m:Nat) (n:Nat):ql Tryz.prog E g157_B0 ((g157_L0_X m).at n):=
 lok hmix htt hE (g157_K m) (L:=[]) (g157_L0_X m) (l:=[]) kR (fun _ _=>trivial) (fun n x=>kR) (fun _=>kR) n
theorem g157_ok (m:Nat):FunOK Tryz.prog (g157_T m):=
 fok hmix htt (H:=g157_H) (g157_T m) Tryz.func157 kR (g157_K m) (L:=[(g157_L0_X m).at m]) (l:=[(0,g157_B0)]) kR (fun _ hE _ _=>⟨qi ⟨yb (g157_L0_ok hE m m),trivial⟩,trivial⟩) (fun x=>kR)
def g102_H:Hints:=⟨[⟨[],[1]⟩,⟨[(7,1),(14,1),(20,1),(32,1)],[1,47]⟩,⟨[],[2]⟩,⟨[],[1,49,50]⟩,⟨[],[1,49,50,51]⟩,⟨[],[1,3,49,50]⟩,⟨[],[1,3,4,49,50]⟩,⟨[],[1,4,49,50,66,67,68]⟩,⟨[],[1,4,49,50,66,67,68,69]⟩,⟨[],[1,4,6,49,50,66,67,68]⟩,⟨[(1,1),(3,1)],[1,6,49,50,66,67,68,80]⟩,⟨[],[2]⟩,⟨[(0,1)],[1,4,49,50,66,67,68]⟩,⟨[(1,1)],[1,4,49,50,66,67,68]⟩,⟨[(1,1)],[1,49,50]⟩,⟨[],[2]⟩],[(0,[1,49,50]),(2,[1,4,49,50,66,67,68])],[(0,[]),(1,[1,49,50]),(2,[1,49,50]),(3,[1,4,49,50,66,67,68])],[2],[],[[false]]⟩
def g102_T (m:Nat):FunT:=⟨102,[.a (.agg [(.int .i64),(.int .i64),(.imm (.int .i64)),(.imm (.int .i64)),(.imm (.int .u64))])],sB,[sD],fun(x:(Int×Int×List Int×List Int×List Int×Unit)×Unit)=>g102 m x.1.1 x.1.2.1 x.1.2.2.1 x.1.2.2.2.1 x.1.2.2.2.2.1⟩
noncomputable def g102_C:Code:=codeOf Tryz.f102
noncomputable def g102_B0:Code:=qo g102_C 0 0
noncomputable def g102_B2:Code:=qo g102_B0 0 0
theorem g102_K (m:Nat): ∀u∈[g157_T m],FunOK Tryz.prog u:=AllF.mem ⟨g157_ok m,trivial⟩
def g102_L1_X (m:Nat):LT:=⟨2,[(1,.a (.bx 0 [(.int .i64),(.int .i64),(.imm (.int .i64)),(.imm (.int .i64)),(.imm (.int .u64))])),(4,sI),(49,sI),(50,sI),(66,sL),(67,sI),(68,sI)],[(.ret,[(2,sB)]),(.exit 2,[(1,.a (.bx 0 [(.int .i64),(.int .i64),(.imm (.int .i64)),(.imm (.int .i64)),(.imm (.int .u64))])),(49,sI),(50,sI)])],fun n (x:(Int×Int×List Int×List Int×List Int×Unit)×Int×Int×Int×List Int×Int×Int×Unit)=>g102_L1 m n x.1.1 x.1.2.1 x.1.2.2.1 x.1.2.2.2.1 x.1.2.2.2.2.1 x.2.1 x.2.2.1 x.2.2.2.1 x.2.2.2.2.1 x.2.2.2.2.2.1 x.2.2.2.2.2.2.1⟩
theorem g102_L1_ok {E:Entry} (hE:EOf Tryz.prog E 84 g102_H.pins) (m:Nat) (n:Nat):ql Tryz.prog E g102_B2 ((g102_L1_X m).at n):=
 lok hmix htt hE (g102_K m) (L:=[]) (g102_L1_X m) (l:=[]) kR (fun _ _=>trivial) (fun n x=>kR) (fun _=>kR) n
def g102_L0_X (m:Nat):LT:=⟨0,[(1,.a (.bx 0 [(.int .i64),(.int .i64),(.imm (.int .i64)),(.imm (.int .i64)),(.imm (.int .u64))])),(49,sI),(50,sI)],[(.ret,[(2,sB)]),(.exit 0,[])],fun n (x:(Int×Int×List Int×List Int×List Int×Unit)×Int×Int×Unit)=>g102_L0 m n x.1.1 x.1.2.1 x.1.2.2.1 x.1.2.2.2.1 x.1.2.2.2.2.1 x.2.1 x.2.2.1⟩
theorem g102_L0_ok {E:Entry} (hE:EOf Tryz.prog E 84 g102_H.pins) (m:Nat) (n:Nat):ql Tryz.prog E g102_B0 ((g102_L0_X m).at n):=
 lok hmix htt hE (g102_K m) (L:=[(g102_L1_X m).at m]) (g102_L0_X m) (l:=[(2,g102_B2)]) kR (fun _ _=>⟨qi ⟨yb (g102_L1_ok hE m m),trivial⟩,trivial⟩) (fun n x=>kR) (fun _=>kR) n
theorem g102_ok (m:Nat):FunOK Tryz.prog (g102_T m):=
 fok hmix htt (H:=g102_H) (g102_T m) Tryz.func102 kR (g102_K m) (L:=[(g102_L0_X m).at m]) (l:=[(0,g102_B0)]) kR (fun _ hE _ _=>⟨qi ⟨yb (g102_L0_ok hE m m),trivial⟩,trivial⟩) (fun x=>kR)
def g104_H:Hints:=⟨[⟨[],[0]⟩,⟨[(0,1)],[2]⟩],[],[],[2],[],[[false]]⟩
def g104_T (m:Nat):FunT:=⟨104,[sU],sB,[sD],fun(x:Int×Unit)=>g104 m x.1⟩
theorem g104_ok (m:Nat):FunOK Tryz.prog (g104_T m):=
 fok hmix htt (H:=g104_H) (g104_T m) Tryz.func104 kR (AllF.mem (l:=[g58_T m]) ⟨g58_ok m,trivial⟩) (L:=[]) (l:=[]) kR (fun _ hE _ _=>trivial) (fun x=>kR)
def g158_H:Hints:=⟨[⟨[],[0,1]⟩,⟨[],[0,1,7,8]⟩,⟨[],[0,1,7,8,9]⟩,⟨[],[0,1,5,7,8]⟩,⟨[],[0,1,5,7,8,16]⟩,⟨[(0,1)],[4]⟩,⟨[(1,1)],[0,1,7,8]⟩,⟨[],[4]⟩],[(0,[0,1,7,8])],[(0,[]),(1,[0,1,7,8])],[4],[],[[false]]⟩
def g158_T (m:Nat):FunT:=⟨158,[.a (.c (.imm (.int .u64))),.a (.c (.fn 104))],sI,[sD,sD],fun(x:List Int×Unit×Unit)=>g158 m x.1⟩
noncomputable def g158_C:Code:=codeOf Tryz.f158
noncomputable def g158_B0:Code:=qo g158_C 0 0
theorem g158_K (m:Nat): ∀u∈[g104_T m],FunOK Tryz.prog u:=AllF.mem ⟨g104_ok m,trivial⟩
def g158_L0_X (m:Nat):LT:=⟨0,[(0,.a (.c (.imm (.int .u64)))),(1,.a (.c (.fn 104))),(7,sI),(8,sI)],[(.ret,[(4,sI)]),(.exit 0,[])],fun n (x:List Int×Unit×Int×Int×Unit)=>g158_L0 m n x.1 x.2.2.1 x.2.2.2.1⟩
theorem g158_L0_ok {E:Entry} (hE:EOf Tryz.prog E 19 g158_H.pins) (m:Nat) (n:Nat):ql Tryz.prog E g158_B0 ((g158_L0_X m).at n):=
 lok hmix htt hE (g158_K m) (L:=[]) (g158_L0_X m) (l:=[]) kR (fun _ _=>trivial) (fun n x=>kR) (fun _=>kR) n
theorem g158_ok (m:Nat):FunOK Tryz.prog (g158_T m):=
 fok hmix htt (H:=g158_H) (g158_T m) Tryz.func158 kR (g158_K m) (L:=[(g158_L0_X m).at m]) (l:=[(0,g158_B0)]) kR (fun _ hE _ _=>⟨qi ⟨yb (g158_L0_ok hE m m),trivial⟩,trivial⟩) (fun x=>kR)
def g103_H:Hints:=⟨[⟨[],[0,1]⟩,⟨[(0,1),(1,1)],[4]⟩],[],[],[4],[],[[false]]⟩
def g103_T (m:Nat):FunT:=⟨103,[.a (.c (.imm (.int .u64))),.a (.c (.fn 104))],sB,[sD,sD],fun(x:List Int×Unit×Unit)=>g103 m x.1⟩
theorem g103_ok (m:Nat):FunOK Tryz.prog (g103_T m):=
 fok hmix htt (H:=g103_H) (g103_T m) Tryz.func103 kR (AllF.mem (l:=[g158_T m]) ⟨g158_ok m,trivial⟩) (L:=[]) (l:=[]) kR (fun _ hE _ _=>trivial) (fun x=>kR)
def g44_H:Hints:=⟨[⟨[],[1]⟩,⟨[(4,1),(10,1)],[1,3]⟩,⟨[],[2]⟩,⟨[],[1,20]⟩,⟨[],[2]⟩,⟨[],[24]⟩,⟨[],[2]⟩,⟨[],[2]⟩],[],[(0,[])],[2],[],[[false]]⟩
def g44_T (m:Nat):FunT:=⟨44,[.a (.agg [(.int .i64),(.int .i64),(.imm (.int .i64)),(.imm (.int .i64)),(.imm (.int .u64))])],sI,[sD],fun(x:(Int×Int×List Int×List Int×List Int×Unit)×Unit)=>g44 m x.1.1 x.1.2.1 x.1.2.2.1 x.1.2.2.2.1 x.1.2.2.2.2.1⟩
theorem g44_ok (m:Nat):FunOK Tryz.prog (g44_T m):=
 fok hmix htt (H:=g44_H) (g44_T m) Tryz.func44 kR (AllF.mem (l:=[g57_T m,g102_T m,g103_T m]) ⟨g57_ok m,g102_ok m,g103_ok m,trivial⟩) (L:=[]) (l:=[]) kR (fun _ hE _ _=>trivial) (fun x=>kR)
def g73_H:Hints:=⟨[⟨[],[1]⟩,⟨[],[1,3]⟩,⟨[],[1,3,7,8]⟩,⟨[],[1,3,7,8,9]⟩,⟨[],[1,3,4,7,8]⟩,⟨[],[1,3,4,5,7,8]⟩,⟨[],[1,3,4,5,7,8,23]⟩,⟨[(0,1)],[1,3,4,5,7,8]⟩,⟨[(0,1)],[1,3,4,5,7,8]⟩,⟨[(1,1)],[1,3,7,8]⟩,⟨[(0,1)],[2]⟩],[(0,[1,3,7,8]),(2,[1,3,4,5,7,8])],[(0,[3]),(1,[1,3,7,8]),(2,[1,3,7,8]),(3,[1,3,4,5,7,8])],[2],[],[[true]]⟩
def g73_T (m:Nat):FunT:=⟨73,[.a (.agg [(.int .i64),(.int .i64),(.imm (.int .i64)),(.imm (.int .i64)),(.imm (.int .u64))])],.a (.c (.nm 0 (.pr (.int .i64) (.pr (.int .i64) (.int .u64))))),[sD],fun(x:(Int×Int×List Int×List Int×List Int×Unit)×Unit)=>g73 m x.1.1 x.1.2.1 x.1.2.2.1 x.1.2.2.2.1 x.1.2.2.2.2.1⟩
noncomputable def g73_C:Code:=codeOf Tryz.f73
noncomputable def g73_B0:Code:=qo g73_C 0 0
noncomputable def g73_B2:Code:=qo g73_B0 0 0
def g73_L1_X (m:Nat):LT:=⟨2,[(1,.a (.bx 0 [(.int .i64),(.int .i64),(.imm (.int .i64)),(.imm (.int .i64)),(.imm (.int .u64))])),(3,.a (.c (.nm 1 (.pr (.int .i64) (.pr (.int .i64) (.int .u64)))))),(4,sI),(5,sI),(7,sI),(8,sI)],[(.exit 2,[(1,.a (.bx 0 [(.int .i64),(.int .i64),(.imm (.int .i64)),(.imm (.int .i64)),(.imm (.int .u64))])),(3,.a (.c (.nm 1 (.pr (.int .i64) (.pr (.int .i64) (.int .u64)))))),(7,sI),(8,sI)])],fun n (x:(Int×Int×List Int×List Int×List Int×Unit)×(List (Int×Int×Int))×Int×Int×Int×Int×Unit)=>g73_L1 m n x.1.1 x.1.2.1 x.1.2.2.1 x.1.2.2.2.1 x.1.2.2.2.2.1 x.2.1 x.2.2.1 x.2.2.2.1 x.2.2.2.2.1 x.2.2.2.2.2.1⟩
theorem g73_L1_ok {E:Entry} (hE:EOf Tryz.prog E 43 g73_H.pins) (m:Nat) (n:Nat):ql Tryz.prog E g73_B2 ((g73_L1_X m).at n):=
 lok hmix htt hE noF (L:=[]) (g73_L1_X m) (l:=[]) kR (fun _ _=>trivial) (fun n x=>kR) (fun _=>kR) n
def g73_L0_X (m:Nat):LT:=⟨0,[(1,.a (.bx 0 [(.int .i64),(.int .i64),(.imm (.int .i64)),(.imm (.int .i64)),(.imm (.int .u64))])),(3,.a (.c (.nm 1 (.pr (.int .i64) (.pr (.int .i64) (.int .u64)))))),(7,sI),(8,sI)],[(.exit 0,[(3,.a (.c (.nm 0 (.pr (.int .i64) (.pr (.int .i64) (.int .u64))))))])],fun n (x:(Int×Int×List Int×List Int×List Int×Unit)×(List (Int×Int×Int))×Int×Int×Unit)=>g73_L0 m n x.1.1 x.1.2.1 x.1.2.2.1 x.1.2.2.2.1 x.1.2.2.2.2.1 x.2.1 x.2.2.1 x.2.2.2.1⟩
theorem g73_L0_ok {E:Entry} (hE:EOf Tryz.prog E 43 g73_H.pins) (m:Nat) (n:Nat):ql Tryz.prog E g73_B0 ((g73_L0_X m).at n):=
 lok hmix htt hE noF (L:=[(g73_L1_X m).at m]) (g73_L0_X m) (l:=[(2,g73_B2)]) kR (fun _ _=>⟨qi ⟨yb (g73_L1_ok hE m m),trivial⟩,trivial⟩) (fun n x=>kR) (fun _=>kR) n
theorem g73_ok (m:Nat):FunOK Tryz.prog (g73_T m):=
 fok hmix htt (H:=g73_H) (g73_T m) Tryz.func73 kR noF (L:=[(g73_L0_X m).at m]) (l:=[(0,g73_B0)]) kR (fun _ hE _ _=>⟨qi ⟨yb (g73_L0_ok hE m m),trivial⟩,trivial⟩) (fun x=>kR)
def g67_H:Hints:=⟨[⟨[],[1]⟩,⟨[],[2,3]⟩],[],[],[2,3],[],[[false],[false]]⟩
def g67_T (m:Nat):FunT:=⟨67,[.a (.agg [(.int .i64),(.int .i64),(.int .u64)])],.tup [(.c (.int .i64)),(.c (.int .i64))],[sD],fun(x:(Int×Int×Int×Unit)×Unit)=>g67 m x.1.1 x.1.2.1 x.1.2.2.1⟩
theorem g67_ok (m:Nat):FunOK Tryz.prog (g67_T m):=
 fok hmix htt (H:=g67_H) (g67_T m) Tryz.func67 kR noF (L:=[]) (l:=[]) kR (fun _ hE _ _=>trivial) (fun x=>kR)
def g180_H:Hints:=⟨[⟨[],[2,3,4,5]⟩,⟨[(2,1)],[3,4,5,6]⟩,⟨[(2,1)],[4,5,6,7]⟩,⟨[(2,1),(3,1),(4,1)],[4,5,6]⟩],[],[],[4,5,6],[],[[false,false,false,false],[false,false,false,false],[false]]⟩
def g180_T (m:Nat):FunT:=⟨180,[.a (.agg [.bool,.bool,(.imm (.int .u32)),(.int .i64)]),.a (.agg [.bool,.bool,(.imm (.int .u32)),(.int .i64)])],.tup [(.agg [.bool,.bool,(.imm (.int .u32)),(.int .i64)]),(.agg [.bool,.bool,(.imm (.int .u32)),(.int .i64)]),(.c .bool)],[sD,sD],fun(x:(Bool×Bool×List Int×Int×Unit)×(Bool×Bool×List Int×Int×Unit)×Unit)=>g180 m x.1.1 x.1.2.1 x.1.2.2.1 x.1.2.2.2.1 x.2.1.1 x.2.1.2.1 x.2.1.2.2.1 x.2.1.2.2.2.1⟩
theorem g180_ok (m:Nat):FunOK Tryz.prog (g180_T m):=
 fok hmix htt (H:=g180_H) (g180_T m) Tryz.func180 kR (AllF.mem (l:=[g80_T m]) ⟨g80_ok m,trivial⟩) (L:=[]) (l:=[]) kR (fun _ hE _ _=>trivial) (fun x=>kR)
def g198_H:Hints:=⟨[⟨[],[0,1]⟩,⟨[(3,1)],[0,1,19]⟩,⟨[],[4]⟩,⟨[],[0,1,5]⟩,⟨[(0,1)],[1,5,26,27,28]⟩,⟨[],[1,5,26,27,28,29]⟩,⟨[],[1,5,6,7,26,27,28]⟩,⟨[],[1,5,6,7,8,26,27,28]⟩,⟨[],[1,5,6,7,8,26,27,28,33,34,35]⟩,⟨[],[1,5,6,7,8,26,27,28,33,34,35,36]⟩,⟨[],[1,5,6,7,8,9,10,26,27,28,33,34,35]⟩,⟨[(2,1),(13,1)],[1,5,6,7,9,11,26,27,28,33,34,35]⟩,⟨[(2,1)],[1,5,6,7,11,26,27,28,33,34,35]⟩,⟨[(0,1)],[1,5,6,7,8,26,27,28,33,34,35]⟩,⟨[(1,1)],[1,5,6,7,8,26,27,28,33,34,35]⟩,⟨[(1,1),(5,1)],[1,5,26,27,28]⟩,⟨[(1,1)],[1,5,26,27,28]⟩,⟨[(0,1)],[4]⟩],[(0,[1,5,26,27,28]),(2,[1,5,6,7,8,26,27,28,33,34,35])],[(0,[5]),(1,[1,5,26,27,28]),(2,[1,5,6,8,26,27,28]),(3,[1,5,6,7,8,26,27,28,33,34,35])],[4],[],[[false]]⟩
def g198_T (m:Nat):FunT:=⟨198,[.a (.c (.imm (.int .u32))),.a (.c (.imm (.int .u32)))],.a (.c (.imm (.int .u32))),[sD,sD],fun(x:List Int×List Int×Unit)=>g198 m x.1 x.2.1⟩
noncomputable def g198_C:Code:=codeOf Tryz.f198
noncomputable def g198_B0:Code:=qo g198_C 0 0
noncomputable def g198_B2:Code:=qo g198_B0 0 0
theorem g198_K (m:Nat): ∀u∈[g86_T m],FunOK Tryz.prog u:=AllF.mem ⟨g86_ok m,trivial⟩
def g198_L1_X (m:Nat):LT:=⟨2,[(1,.a (.c (.imm (.int .u32)))),(5,.a (.c (.nm 0 (.int .u32)))),(6,sI),(7,.a (.c (.int .u32))),(8,sU),(26,.a (.c (.imm (.int .u32)))),(27,sI),(28,sI),(33,.a (.c (.imm (.int .u32)))),(34,sI),(35,sI)],[(.exit 2,[(1,.a (.c (.imm (.int .u32)))),(5,.a (.c (.nm 0 (.int .u32)))),(6,sI),(8,sU),(26,.a (.c (.imm (.int .u32)))),(27,sI),(28,sI)])],fun n (x:List Int×List Int×Int×Int×Int×List Int×Int×Int×List Int×Int×Int×Unit)=>g198_L1 m n x.1 x.2.1 x.2.2.1 x.2.2.2.1 x.2.2.2.2.1 x.2.2.2.2.2.1 x.2.2.2.2.2.2.1 x.2.2.2.2.2.2.2.1 x.2.2.2.2.2.2.2.2.1 x.2.2.2.2.2.2.2.2.2.1 x.2.2.2.2.2.2.2.2.2.2.1⟩
theorem g198_L1_ok {E:Entry} (hE:EOf Tryz.prog E 77 g198_H.pins) (m:Nat) (n:Nat):ql Tryz.prog E g198_B2 ((g198_L1_X m).at n):=
 lok hmix htt hE (g198_K m) (L:=[]) (g198_L1_X m) (l:=[]) kR (fun _ _=>trivial) (fun n x=>kR) (fun _=>kR) n
def g198_L0_X (m:Nat):LT:=⟨0,[(1,.a (.c (.imm (.int .u32)))),(5,.a (.c (.nm 0 (.int .u32)))),(26,.a (.c (.imm (.int .u32)))),(27,sI),(28,sI)],[(.exit 0,[(5,.a (.c (.nm 0 (.int .u32))))])],fun n (x:List Int×List Int×List Int×Int×Int×Unit)=>g198_L0 m n x.1 x.2.1 x.2.2.1 x.2.2.2.1 x.2.2.2.2.1⟩
theorem g198_L0_ok {E:Entry} (hE:EOf Tryz.prog E 77 g198_H.pins) (m:Nat) (n:Nat):ql Tryz.prog E g198_B0 ((g198_L0_X m).at n):=
 lok hmix htt hE (g198_K m) (L:=[(g198_L1_X m).at m]) (g198_L0_X m) (l:=[(2,g198_B2)]) kR (fun _ _=>⟨qi ⟨yb (g198_L1_ok hE m m),trivial⟩,trivial⟩) (fun n x=>kR) (fun _=>kR) n
theorem g198_ok (m:Nat):FunOK Tryz.prog (g198_T m):=
 fok hmix htt (H:=g198_H) (g198_T m) Tryz.func198 kR (g198_K m) (L:=[(g198_L0_X m).at m]) (l:=[(0,g198_B0)]) kR (fun _ hE _ _=>⟨qi ⟨yb (g198_L0_ok hE m m),trivial⟩,trivial⟩) (fun x=>kR)
def g181_H:Hints:=⟨[⟨[],[2,3,4]⟩,⟨[],[4]⟩],[],[],[4],[],[[false,false]]⟩
def g181_T (m:Nat):FunT:=⟨181,[.a (.agg [.bool,(.imm (.int .u32))]),.a (.agg [.bool,(.imm (.int .u32))])],.a (.agg [.bool,(.imm (.int .u32))]),[sD,sD],fun(x:(Bool×List Int×Unit)×(Bool×List Int×Unit)×Unit)=>g181 m x.1.1 x.1.2.1 x.2.1.1 x.2.1.2.1⟩
theorem g181_ok (m:Nat):FunOK Tryz.prog (g181_T m):=
 fok hmix htt (H:=g181_H) (g181_T m) Tryz.func181 kR (AllF.mem (l:=[g86_T m,g198_T m,g134_T m]) ⟨g86_ok m,g198_ok m,g134_ok m,trivial⟩) (L:=[]) (l:=[]) kR (fun _ hE _ _=>trivial) (fun x=>kR)
def g132_H:Hints:=⟨[⟨[],[2,3,4]⟩,⟨[(3,1)],[2,3,4,5]⟩,⟨[(0,1)],[2,3,4,14]⟩,⟨[],[4]⟩,⟨[],[4]⟩],[],[],[4],[],[[false,false,false,false]]⟩
def g132_T (m:Nat):FunT:=⟨132,[.a (.agg [.bool,.bool,(.imm (.int .u32)),(.int .i64)]),.a (.agg [.bool,.bool,(.imm (.int .u32)),(.int .i64)])],.a (.agg [.bool,.bool,(.imm (.int .u32)),(.int .i64)]),[sD,sD],fun(x:(Bool×Bool×List Int×Int×Unit)×(Bool×Bool×List Int×Int×Unit)×Unit)=>g132 m x.1.1 x.1.2.1 x.1.2.2.1 x.1.2.2.2.1 x.2.1.1 x.2.1.2.1 x.2.1.2.2.1 x.2.1.2.2.2.1⟩
theorem g132_ok (m:Nat):FunOK Tryz.prog (g132_T m):=
 fok hmix htt (H:=g132_H) (g132_T m) Tryz.func132 kR (AllF.mem (l:=[g180_T m,g125_T m,g181_T m,g28_T m]) ⟨g180_ok m,g125_ok m,g181_ok m,g28_ok m,trivial⟩) (L:=[]) (l:=[]) kR (fun _ hE _ _=>trivial) (fun x=>kR)
def g66_H:Hints:=⟨[⟨[],[1,2,3,4,5]⟩,⟨[],[1,2,3,4,5,12]⟩,⟨[],[1,2,3,4,5,12,27]⟩,⟨[(0,1)],[10,11]⟩,⟨[(2,1)],[1,2,4,5,31]⟩,⟨[],[10,11]⟩,⟨[],[1,2,4,5,13]⟩,⟨[(0,1)],[2,4,5,13,36,37,38]⟩,⟨[],[2,4,5,13,36,37,38,39]⟩,⟨[],[2,4,5,13,15,36,37,38]⟩,⟨[],[2,4,5,13,15,36,37,38,44]⟩,⟨[],[10,11]⟩,⟨[(0,1),(1,1)],[2,4,5,13,36,37,38]⟩,⟨[(1,1)],[2,4,5,13,36,37,38]⟩,⟨[(0,1),(1,4)],[4,5,13,16]⟩,⟨[],[4,13,16,54,55,56]⟩,⟨[],[4,13,16,54,55,56,57]⟩,⟨[],[4,13,16,18,54,55,56]⟩,⟨[(3,1)],[4,13,16,18,19,20,54,55,56]⟩,⟨[(5,4),(10,1),(17,4)],[4,13,16,54,55,56]⟩,⟨[(1,1)],[4,13,16,54,55,56]⟩,⟨[],[16,21]⟩,⟨[(0,2)],[21,84,85,86]⟩,⟨[],[21,84,85,86,87]⟩,⟨[],[21,23,84,85,86]⟩,⟨[(0,1)],[21,24,84,85,86]⟩,⟨[],[21,24,84,85,86,95]⟩,⟨[],[10,11]⟩,⟨[(0,1),(1,1)],[21,84,85,86]⟩,⟨[(1,1)],[21,84,85,86]⟩,⟨[(0,1)],[10,11]⟩],[(1,[2,4,5,13,36,37,38]),(3,[4,13,16,54,55,56]),(5,[21,84,85,86])],[(0,[1,2,4,5]),(1,[2,4,5,13]),(2,[2,4,5,13,36,37,38]),(3,[16]),(4,[4,13,16,54,55,56]),(5,[21]),(6,[21,84,85,86])],[10,11],[],[[true],[false]]⟩
def g66_T (m:Nat):FunT:=⟨66,[.a (.agg [(.int .i64),(.int .i64),(.imm (.int .i64)),(.imm (.int .i64)),(.imm (.int .u64))]),.a (.c (.imm (.int .u64))),sI,sI,.a (.c (.fn 67))],.tup [(.c (.nm 0 (.int .u64))),(.c (.int .i64))],[sD,sD,sD,sD,sD],fun(x:(Int×Int×List Int×List Int×List Int×Unit)×List Int×Int×Int×Unit×Unit)=>g66 m x.1.1 x.1.2.1 x.1.2.2.1 x.1.2.2.2.1 x.1.2.2.2.2.1 x.2.1 x.2.2.1 x.2.2.2.1⟩
noncomputable def g66_C:Code:=codeOf Tryz.f66
noncomputable def g66_B1:Code:=qo g66_C 0 0
noncomputable def g66_B3:Code:=qo g66_C 0 1
noncomputable def g66_B5:Code:=qo g66_C 0 2
theorem g66_K (m:Nat): ∀u∈[g44_T m,g58_T m,g29_T m,g73_T m,g67_T m,g132_T m,g61_T m,g60_T m],FunOK Tryz.prog u:=AllF.mem ⟨g44_ok m,g58_ok m,g29_ok m,g73_ok m,g67_ok m,g132_ok m,g61_ok m,g60_ok m,trivial⟩
def g66_L2_X (m:Nat):LT:=⟨5,[(21,.a (.c (.nm 0 (.int .u64)))),(84,.a (.c (.imm (.sl false (.pr .bool (.pr (.pr .bool (.sl false (.int .u32))) (.int .i64))))))),(85,sI),(86,sI)],[(.ret,[(10,.a (.c (.nm 0 (.int .u64)))),(11,sI)]),(.exit 5,[(21,.a (.c (.nm 0 (.int .u64))))])],fun n (x:List Int×(List (List (Bool×(Bool×List Int)×Int)))×Int×Int×Unit)=>g66_L2 m n x.1 x.2.1 x.2.2.1 x.2.2.2.1⟩
theorem g66_L2_ok {E:Entry} (hE:EOf Tryz.prog E 102 g66_H.pins) (m:Nat) (n:Nat):ql Tryz.prog E g66_B5 ((g66_L2_X m).at n):=
 lok hmix htt hE (g66_K m) (L:=[]) (g66_L2_X m) (l:=[]) kR (fun _ _=>trivial) (fun n x=>kR) (fun _=>kR) n
def g66_L1_X (m:Nat):LT:=⟨3,[(4,.a (.c (.fn 67))),(13,.a (.c (.nm 0 (.pr .bool (.pr (.pr .bool (.sl false (.int .u32))) (.int .i64)))))),(16,.a (.c (.dp 1 (.pr .bool (.pr (.pr .bool (.sl false (.int .u32))) (.int .i64)))))),(54,.a (.c (.nm 2 (.pr (.int .i64) (.pr (.int .i64) (.int .u64)))))),(55,sI),(56,sI)],[(.exit 3,[(16,.a (.c (.dp 0 (.pr .bool (.pr (.pr .bool (.sl false (.int .u32))) (.int .i64))))))])],fun n (x:Unit×(List (Bool×(Bool×List Int)×Int))×(List (List (Bool×(Bool×List Int)×Int)))×(List (Int×Int×Int))×Int×Int×Unit)=>g66_L1 m n x.2.1 x.2.2.1 x.2.2.2.1 x.2.2.2.2.1 x.2.2.2.2.2.1⟩
theorem g66_L1_ok {E:Entry} (hE:EOf Tryz.prog E 102 g66_H.pins) (m:Nat) (n:Nat):ql Tryz.prog E g66_B3 ((g66_L1_X m).at n):=
 lok hmix htt hE (g66_K m) (L:=[]) (g66_L1_X m) (l:=[]) kR (fun _ _=>trivial) (fun n x=>kR) (fun _=>kR) n
def g66_L0_X (m:Nat):LT:=⟨1,[(2,sI),(4,.a (.c (.fn 67))),(5,.a (.bx 0 [(.int .i64),(.int .i64),(.imm (.int .i64)),(.imm (.int .i64)),(.imm (.int .u64))])),(13,.a (.c (.nm 1 (.pr .bool (.pr (.pr .bool (.sl false (.int .u32))) (.int .i64)))))),(36,.a (.c (.imm (.int .u64)))),(37,sI),(38,sI)],[(.ret,[(10,.a (.c (.nm 0 (.int .u64)))),(11,sI)]),(.exit 1,[(2,sI),(4,.a (.c (.fn 67))),(5,.a (.bx 0 [(.int .i64),(.int .i64),(.imm (.int .i64)),(.imm (.int .i64)),(.imm (.int .u64))])),(13,.a (.c (.nm 1 (.pr .bool (.pr (.pr .bool (.sl false (.int .u32))) (.int .i64))))))])],fun n (x:Int×Unit×(Int×Int×List Int×List Int×List Int×Unit)×(List (Bool×(Bool×List Int)×Int))×List Int×Int×Int×Unit)=>g66_L0 m n x.1 x.2.2.1.1 x.2.2.1.2.1 x.2.2.1.2.2.1 x.2.2.1.2.2.2.1 x.2.2.1.2.2.2.2.1 x.2.2.2.1 x.2.2.2.2.1 x.2.2.2.2.2.1 x.2.2.2.2.2.2.1⟩
theorem g66_L0_ok {E:Entry} (hE:EOf Tryz.prog E 102 g66_H.pins) (m:Nat) (n:Nat):ql Tryz.prog E g66_B1 ((g66_L0_X m).at n):=
 lok hmix htt hE (g66_K m) (L:=[]) (g66_L0_X m) (l:=[]) kR (fun _ _=>trivial) (fun n x=>kR) (fun _=>kR) n
theorem g66_ok (m:Nat):FunOK Tryz.prog (g66_T m):=
 fok hmix htt (H:=g66_H) (g66_T m) Tryz.func66 kR (g66_K m) (L:=[(g66_L0_X m).at m,(g66_L1_X m).at m,(g66_L2_X m).at m]) (l:=[(1,g66_B1),(3,g66_B3),(5,g66_B5)]) kR (fun _ hE _ _=>⟨qi ⟨yb (g66_L0_ok hE m m),nb rfl,nb rfl,trivial⟩,qi ⟨nb rfl,yb (g66_L1_ok hE m m),nb rfl,trivial⟩,qi ⟨nb rfl,nb rfl,yb (g66_L2_ok hE m m),trivial⟩,trivial⟩) (fun x=>kR)
def g15_H:Hints:=⟨[⟨[],[1,2]⟩,⟨[(1,1)],[4,5]⟩],[],[],[4,5],[],[[true],[false]]⟩
def g15_T (m:Nat):FunT:=⟨15,[.a (.agg [(.int .i64),(.int .i64),(.imm (.int .i64)),(.imm (.int .i64)),(.imm (.int .u64))]),.a (.c (.imm (.int .u64)))],.tup [(.c (.nm 0 (.int .u64))),(.c (.int .i64))],[sD,sD],fun(x:(Int×Int×List Int×List Int×List Int×Unit)×List Int×Unit)=>g15 m x.1.1 x.1.2.1 x.1.2.2.1 x.1.2.2.2.1 x.1.2.2.2.2.1 x.2.1⟩
theorem g15_ok (m:Nat):FunOK Tryz.prog (g15_T m):=
 fok hmix htt (H:=g15_H) (g15_T m) Tryz.func15 kR (AllF.mem (l:=[g66_T m]) ⟨g66_ok m,trivial⟩) (L:=[]) (l:=[]) kR (fun _ hE _ _=>trivial) (fun x=>kR)
def g56_H:Hints:=⟨[⟨[],[0,1]⟩,⟨[],[0,1,10]⟩,⟨[],[4]⟩,⟨[],[0,1,5]⟩,⟨[],[0,1,5,14]⟩,⟨[(0,1)],[0,1,5]⟩,⟨[],[0,1,5,25]⟩,⟨[],[4]⟩,⟨[],[4]⟩],[(0,[0,1,5])],[(0,[]),(1,[0,1,5])],[4],[],[[false]]⟩
def g56_T (m:Nat):FunT:=⟨56,[sL,sL],sB,[sD,sD],fun(x:List Int×List Int×Unit)=>g56 m x.1 x.2.1⟩
noncomputable def g56_C:Code:=codeOf Tryz.f56
noncomputable def g56_B0:Code:=qo g56_C 0 0
def g56_L0_X (m:Nat):LT:=⟨0,[(0,sL),(1,sL),(5,sI)],[(.ret,[(4,sB)]),(.exit 0,[])],fun n (x:List Int×List Int×Int×Unit)=>g56_L0 m n x.1 x.2.1 x.2.2.1⟩
theorem g56_L0_ok {E:Entry} (hE:EOf Tryz.prog E 26 g56_H.pins) (m:Nat) (n:Nat):ql Tryz.prog E g56_B0 ((g56_L0_X m).at n):=
 lok hmix htt hE noF (L:=[]) (g56_L0_X m) (l:=[]) kR (fun _ _=>trivial) (fun n x=>kR) (fun _=>kR) n
theorem g56_ok (m:Nat):FunOK Tryz.prog (g56_T m):=
 fok hmix htt (H:=g56_H) (g56_T m) Tryz.func56 kR noF (L:=[(g56_L0_X m).at m]) (l:=[(0,g56_B0)]) kR (fun _ hE _ _=>⟨qi ⟨yb (g56_L0_ok hE m m),trivial⟩,trivial⟩) (fun x=>kR)
def sparselaw09_awake_H:Hints:=⟨[⟨[],[]⟩,⟨[(5,1)],[1,2]⟩,⟨[(3,1)],[1,2,3,4]⟩,⟨[(0,1),(2,1),(3,1),(6,1),(12,1),(18,1),(23,1),(29,1)],[0]⟩],[],[],[0],[],[[false]]⟩
abbrev sparselaw09_awake_A:List Sh:=[]
abbrev sparselaw09_awake_S:Sh:= sB
abbrev sparselaw09_awake_U:List Sh:=[]
def sparselaw09_awake_R (m:Nat):Qq sparselaw09_awake_A→Option (sparselaw09_awake_S.Val×Qq sparselaw09_awake_U):=fun(x:Unit)=>sparselaw09_awake m
def sparselaw09_awake_T (m:Nat):FunT:=⟨10,sparselaw09_awake_A,sparselaw09_awake_S,sparselaw09_awake_U,sparselaw09_awake_R m⟩
theorem sparselaw09_awake_ok (m:Nat):FunOK Tryz.prog (sparselaw09_awake_T m):=
 fok hmix htt (H:=sparselaw09_awake_H) (sparselaw09_awake_T m) Tryz.func10 kR (AllF.mem (l:=[g11_T m,g15_T m,g56_T m,g44_T m]) ⟨g11_ok m,g15_ok m,g56_ok m,g44_ok m,trivial⟩) (L:=[]) (l:=[]) kR (fun _ hE _ _=>trivial) (fun x=>kR)
def g98_H:Hints:=⟨[⟨[],[0]⟩,⟨[],[0,3]⟩,⟨[],[0,3,4]⟩,⟨[],[0,3,4,8]⟩,⟨[(0,1)],[0,3,4]⟩,⟨[(0,1)],[0,3,4]⟩,⟨[(0,1)],[2]⟩],[(0,[0,3,4])],[(0,[3]),(1,[0,3,4])],[2],[],[[true]]⟩
def g98_T (m:Nat):FunT:=⟨98,[sL],.a (.c (.nm 0 (.int .i64))),[sD],fun(x:List Int×Unit)=>g98 m x.1⟩
noncomputable def g98_C:Code:=codeOf Tryz.f98
noncomputable def g98_B0:Code:=qo g98_C 0 0
def g98_L0_X (m:Nat):LT:=⟨0,[(0,sL),(3,.a (.c (.nm 0 (.int .i64)))),(4,sI)],[(.exit 0,[(3,.a (.c (.nm 0 (.int .i64))))])],fun n (x:List Int×List Int×Int×Unit)=>g98_L0 m n x.1 x.2.1 x.2.2.1⟩
theorem g98_L0_ok {E:Entry} (hE:EOf Tryz.prog E 19 g98_H.pins) (m:Nat) (n:Nat):ql Tryz.prog E g98_B0 ((g98_L0_X m).at n):=
 lok hmix htt hE noF (L:=[]) (g98_L0_X m) (l:=[]) kR (fun _ _=>trivial) (fun n x=>kR) (fun _=>kR) n
theorem g98_ok (m:Nat):FunOK Tryz.prog (g98_T m):=
 fok hmix htt (H:=g98_H) (g98_T m) Tryz.func98 kR noF (L:=[(g98_L0_X m).at m]) (l:=[(0,g98_B0)]) kR (fun _ hE _ _=>⟨qi ⟨yb (g98_L0_ok hE m m),trivial⟩,trivial⟩) (fun x=>kR)
def g99_H:Hints:=⟨[⟨[],[0]⟩,⟨[],[0,3]⟩,⟨[],[0,3,4]⟩,⟨[],[0,3,4,8]⟩,⟨[(0,1)],[0,3,4]⟩,⟨[(0,1)],[0,3,4]⟩,⟨[(0,1)],[2]⟩],[(0,[0,3,4])],[(0,[3]),(1,[0,3,4])],[2],[],[[true]]⟩
def g99_T (m:Nat):FunT:=⟨99,[.a (.c (.imm (.int .u64)))],.a (.c (.nm 0 (.int .u64))),[sD],fun(x:List Int×Unit)=>g99 m x.1⟩
noncomputable def g99_C:Code:=codeOf Tryz.f99
noncomputable def g99_B0:Code:=qo g99_C 0 0
def g99_L0_X (m:Nat):LT:=⟨0,[(0,.a (.c (.imm (.int .u64)))),(3,.a (.c (.nm 0 (.int .u64)))),(4,sI)],[(.exit 0,[(3,.a (.c (.nm 0 (.int .u64))))])],fun n (x:List Int×List Int×Int×Unit)=>g99_L0 m n x.1 x.2.1 x.2.2.1⟩
theorem g99_L0_ok {E:Entry} (hE:EOf Tryz.prog E 19 g99_H.pins) (m:Nat) (n:Nat):ql Tryz.prog E g99_B0 ((g99_L0_X m).at n):=
 lok hmix htt hE noF (L:=[]) (g99_L0_X m) (l:=[]) kR (fun _ _=>trivial) (fun n x=>kR) (fun _=>kR) n
theorem g99_ok (m:Nat):FunOK Tryz.prog (g99_T m):=
 fok hmix htt (H:=g99_H) (g99_T m) Tryz.func99 kR noF (L:=[(g99_L0_X m).at m]) (l:=[(0,g99_B0)]) kR (fun _ hE _ _=>⟨qi ⟨yb (g99_L0_ok hE m m),trivial⟩,trivial⟩) (fun x=>kR)
def g40_H:Hints:=⟨[⟨[],[1,2]⟩,⟨[],[2]⟩],[],[],[2],[],[[false,false,true,true,true]]⟩
def g40_T (m:Nat):FunT:=⟨40,[.a (.agg [(.int .i64),(.int .i64),(.imm (.int .i64)),(.imm (.int .i64)),(.imm (.int .u64))])],.a (.agg [(.int .i64),(.int .i64),(.nm 0 (.int .i64)),(.nm 1 (.int .i64)),(.nm 2 (.int .u64))]),[sD],fun(x:(Int×Int×List Int×List Int×List Int×Unit)×Unit)=>g40 m x.1.1 x.1.2.1 x.1.2.2.1 x.1.2.2.2.1 x.1.2.2.2.2.1⟩
theorem g40_ok (m:Nat):FunOK Tryz.prog (g40_T m):=
 fok hmix htt (H:=g40_H) (g40_T m) Tryz.func40 kR (AllF.mem (l:=[g98_T m,g99_T m]) ⟨g98_ok m,g99_ok m,trivial⟩) (L:=[]) (l:=[]) kR (fun _ hE _ _=>trivial) (fun x=>kR)
def g41_H:Hints:=⟨[⟨[],[1]⟩,⟨[],[1,4]⟩,⟨[],[1,4,12]⟩,⟨[(0,1)],[2,3]⟩,⟨[(2,4)],[1,5]⟩,⟨[],[1,5,18,19]⟩,⟨[],[1,5,18,19,20]⟩,⟨[],[1,5,6,18,19]⟩,⟨[(1,1),(6,4)],[1,5,18,19]⟩,⟨[(1,1)],[1,5,18,19]⟩,⟨[],[5,30,31,32]⟩,⟨[],[5,30,31,32,33]⟩,⟨[],[5,8,30,31,32]⟩,⟨[],[5,30,31,32]⟩,⟨[(1,1)],[5,30,31,32]⟩,⟨[(0,1)],[2,3]⟩],[(0,[1,5,18,19]),(2,[5,30,31,32])],[(0,[1,5]),(1,[1,5,18,19]),(2,[5]),(3,[5,30,31,32])],[2,3],[],[[false],[false]]⟩
def g41_T (m:Nat):FunT:=⟨41,[.a (.agg [(.int .i64),(.int .i64),(.imm (.int .i64)),(.imm (.int .i64)),(.imm (.int .u64))])],.tup [(.c (.imm (.sl false (.int .u64)))),(.c (.int .i64))],[sD],fun(x:(Int×Int×List Int×List Int×List Int×Unit)×Unit)=>g41 m x.1.1 x.1.2.1 x.1.2.2.1 x.1.2.2.2.1 x.1.2.2.2.2.1⟩
noncomputable def g41_C:Code:=codeOf Tryz.f41
noncomputable def g41_B0:Code:=qo g41_C 0 0
noncomputable def g41_B2:Code:=qo g41_C 0 1
theorem g41_K (m:Nat): ∀u∈[g44_T m,g73_T m],FunOK Tryz.prog u:=AllF.mem ⟨g44_ok m,g73_ok m,trivial⟩
def g41_L1_X (m:Nat):LT:=⟨2,[(5,.a (.c (.dp 0 (.int .u64)))),(30,.a (.c (.nm 1 (.pr (.int .i64) (.pr (.int .i64) (.int .u64)))))),(31,sI),(32,sI)],[(.exit 2,[(5,.a (.c (.dp 0 (.int .u64))))])],fun n (x:List (List Int)×(List (Int×Int×Int))×Int×Int×Unit)=>g41_L1 m n x.1 x.2.1 x.2.2.1 x.2.2.2.1⟩
theorem g41_L1_ok {E:Entry} (hE:EOf Tryz.prog E 48 g41_H.pins) (m:Nat) (n:Nat):ql Tryz.prog E g41_B2 ((g41_L1_X m).at n):=
 lok hmix htt hE (g41_K m) (L:=[]) (g41_L1_X m) (l:=[]) kR (fun _ _=>trivial) (fun n x=>kR) (fun _=>kR) n
def g41_L0_X (m:Nat):LT:=⟨0,[(1,.a (.bx 0 [(.int .i64),(.int .i64),(.imm (.int .i64)),(.imm (.int .i64)),(.imm (.int .u64))])),(5,.a (.c (.dp 1 (.int .u64)))),(18,sI),(19,sI)],[(.exit 0,[(1,.a (.bx 0 [(.int .i64),(.int .i64),(.imm (.int .i64)),(.imm (.int .i64)),(.imm (.int .u64))])),(5,.a (.c (.dp 1 (.int .u64))))])],fun n (x:(Int×Int×List Int×List Int×List Int×Unit)×List (List Int)×Int×Int×Unit)=>g41_L0 m n x.1.1 x.1.2.1 x.1.2.2.1 x.1.2.2.2.1 x.1.2.2.2.2.1 x.2.1 x.2.2.1 x.2.2.2.1⟩
theorem g41_L0_ok {E:Entry} (hE:EOf Tryz.prog E 48 g41_H.pins) (m:Nat) (n:Nat):ql Tryz.prog E g41_B0 ((g41_L0_X m).at n):=
 lok hmix htt hE (g41_K m) (L:=[]) (g41_L0_X m) (l:=[]) kR (fun _ _=>trivial) (fun n x=>kR) (fun _=>kR) n
theorem g41_ok (m:Nat):FunOK Tryz.prog (g41_T m):=
 fok hmix htt (H:=g41_H) (g41_T m) Tryz.func41 kR (g41_K m) (L:=[(g41_L0_X m).at m,(g41_L1_X m).at m]) (l:=[(0,g41_B0),(2,g41_B2)]) kR (fun _ hE _ _=>⟨qi ⟨yb (g41_L0_ok hE m m),nb rfl,trivial⟩,qi ⟨nb rfl,yb (g41_L1_ok hE m m),trivial⟩,trivial⟩) (fun x=>kR)
def g63_H:Hints:=⟨[⟨[],[0]⟩,⟨[(0,1)],[2]⟩],[],[],[2],[],[[false]]⟩
def g63_T (m:Nat):FunT:=⟨63,[sU],sB,[sD],fun(x:Int×Unit)=>g63 m x.1⟩
theorem g63_ok (m:Nat):FunOK Tryz.prog (g63_T m):=
 fok hmix htt (H:=g63_H) (g63_T m) Tryz.func63 kR noF (L:=[]) (l:=[]) kR (fun _ hE _ _=>trivial) (fun x=>kR)
def g68_H:Hints:=⟨[⟨[],[0]⟩,⟨[],[0,3]⟩,⟨[],[0,3,7]⟩,⟨[(0,1)],[0,3]⟩,⟨[],[0,3,15]⟩,⟨[],[2]⟩,⟨[],[2]⟩],[(0,[0,3])],[(0,[]),(1,[0,3])],[2],[],[[false]]⟩
def g68_T (m:Nat):FunT:=⟨68,[.a (.c (.imm (.int .u64)))],sB,[sD],fun(x:List Int×Unit)=>g68 m x.1⟩
noncomputable def g68_C:Code:=codeOf Tryz.f68
noncomputable def g68_B0:Code:=qo g68_C 0 0
theorem g68_K (m:Nat): ∀u∈[g63_T m],FunOK Tryz.prog u:=AllF.mem ⟨g63_ok m,trivial⟩
def g68_L0_X (m:Nat):LT:=⟨0,[(0,.a (.c (.imm (.int .u64)))),(3,sI)],[(.ret,[(2,sB)]),(.exit 0,[])],fun n (x:List Int×Int×Unit)=>g68_L0 m n x.1 x.2.1⟩
theorem g68_L0_ok {E:Entry} (hE:EOf Tryz.prog E 16 g68_H.pins) (m:Nat) (n:Nat):ql Tryz.prog E g68_B0 ((g68_L0_X m).at n):=
 lok hmix htt hE (g68_K m) (L:=[]) (g68_L0_X m) (l:=[]) kR (fun _ _=>trivial) (fun n x=>kR) (fun _=>kR) n
theorem g68_ok (m:Nat):FunOK Tryz.prog (g68_T m):=
 fok hmix htt (H:=g68_H) (g68_T m) Tryz.func68 kR (g68_K m) (L:=[(g68_L0_X m).at m]) (l:=[(0,g68_B0)]) kR (fun _ hE _ _=>⟨qi ⟨yb (g68_L0_ok hE m m),trivial⟩,trivial⟩) (fun x=>kR)
end Go.Vs.F
