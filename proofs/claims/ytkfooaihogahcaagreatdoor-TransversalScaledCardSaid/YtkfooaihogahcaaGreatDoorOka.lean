/-The plain functions are what the code does (by program:gen.py). -/
import Derived.Test.YtkfooaihogahcaaGreatDoorFn
import Derived.Test.YtkfooaihogahcaaGreatDoorVc
import Derived.Test.YtkfooaihogahcaaGreatDoorProg
import Derived.KernelRfl
set_option linter.unusedVariables false
set_option maxRecDepth 100000
namespace Go.Vs.F
open Go.Proofs
theorem kR{p:Prop}(h:p:=by kernel_rfl):p:=h
abbrev sD:Sh:=.a (.c .dead)
abbrev sI:Sh:=.a (.c (.int .i64))
abbrev sL:Sh:=.a (.c (.imm (.int .i64)))
abbrev sB:Sh:=.a (.c .bool)
abbrev sU:Sh:=.a (.c (.int .u64))
def tt:TT:=[none,none,none,some ⟨(.int .i64),[.int .i64]⟩,some ⟨.bool,[.bool]⟩,some ⟨(.int .u8),[.int .u8]⟩,none,none,none,some ⟨.string,[.other]⟩,none,none,none,none,none,none,none,none,none,none,none,none,some ⟨(.slice 3 (.int .i64)),[.nil (.int .i64)]⟩,none,none,some ⟨(.slice 39 (.int .u64)),[.nil (.int .u64)]⟩,none,some ⟨(.struct [(0,1),(1,1),(2,1),(3,1),(4,1)]),[.int .i64,.int .i64,.nil (.int .i64),.nil (.int .i64),.nil (.int .u64)]⟩,none,none,none,none,none,none,some ⟨(.struct [(0,1),(1,1),(2,1)]),[.nil (.int .i64),.nil (.int .i64),.nil (.int .i64)]⟩,none,none,none,some ⟨(.int .u64),[.int .u64]⟩,some ⟨(.int .u64),[.int .u64]⟩,none,none,none,none,none,none,none,none,none,none,none,none,none,some ⟨(.int .u64),[.int .u64]⟩,some ⟨(.slice 57 (.pr (.int .i64) (.pr (.int .i64) (.int .u64)))),[.nil (.pr (.int .i64) (.pr (.int .i64) (.int .u64)))]⟩,none,none,some ⟨(.struct [(0,1),(1,1),(2,1)]),[.int .i64,.int .i64,.int .u64]⟩,none,none,none,none,none,none,some ⟨(.slice 141 (.int .u32)),[.nil (.int .u32)]⟩,none,some ⟨(.struct [(0,1),(1,1)]),[.bool,.nil (.int .u32)]⟩,none,some ⟨(.struct [(0,1),(1,2),(3,1)]),[.bool,.bool,.nil (.int .u32),.int .i64]⟩,none,none,none,none,none,some ⟨(.slice 112 (.sl false (.pr (.int .i64) (.int .i64)))),[.nil (.sl false (.pr (.int .i64) (.int .i64)))]⟩,none,none,none,none,some ⟨(.struct [(0,1),(1,1),(2,1),(3,1),(4,1)]),[.nil (.sl false (.pr (.int .i64) (.int .i64))),.nil (.int .i64),.nil (.int .i64),.nil (.int .i64),.nil (.int .i64)]⟩,none,none,none,none,none,none,none,none,none,none,none,none,none,none,none,none,none,none,none,none,none,none,none,none,none,none,none,none,none,none,none,none,some ⟨(.slice 114 (.pr (.int .i64) (.int .i64))),[.nil (.pr (.int .i64) (.int .i64))]⟩,none,some ⟨(.struct [(0,1),(1,1)]),[.int .i64,.int .i64]⟩,none,none,some ⟨(.slice 22 (.sl false (.int .i64))),[.nil (.sl false (.int .i64))]⟩,some ⟨(.slice 4 .bool),[.nil .bool]⟩,none,none,none,none,none,none,none,none,none,none,none,none,some ⟨(.struct [(0,1),(1,2),(3,1),(4,1)]),[.bool,.bool,.nil (.int .u32),.int .i64,.bool]⟩,none,none,none,none,none,none,none,none,none,some ⟨(.int .u32),[.int .u32]⟩,none,none,none,none,none,none,none,none,none,none,none,none,none,none,none,none,none,none,none,none,none,none,none,none,none,none,none,none,none,none,none,none,some ⟨(.tab 0 .u8 [0,1,28,2,29,14,24,3,30,22,20,15,25,17,4,8,31,27,13,23,21,19,16,7,26,12,18,6,11,5,10,9]),[.other,.other,.other,.other,.other,.other,.other,.other,.other,.other,.other,.other,.other,.other,.other,.other,.other,.other,.other,.other,.other,.other,.other,.other,.other,.other,.other,.other,.other,.other,.other,.other]⟩]
theorem htt:TTok Tryz.prog tt:=qgj kR
theorem hmix:Tryz.prog.follows .mixedOrders=true:=kR
def g68_H:Hints:=⟨[⟨[],[0,1,2]⟩,⟨[(1,1),(3,1),(5,1)],[6]⟩],[],[],[6],[],[[false]]⟩
def g68_T (m:Nat):FunT:=⟨68,[sI,sI,sI],sB,[sD,sD,sD],fun(x:Int×Int×Int×Unit)=>g68 m x.1 x.2.1 x.2.2.1⟩
theorem g68_ok (m:Nat):FunOK Tryz.prog (g68_T m):=
 fok hmix htt (H:=g68_H) (g68_T m) Tryz.func68 kR noF (L:=[]) (l:=[]) kR (fun _ hE _ _=>trivial) (fun x=>kR)
def g163_H:Hints:=⟨[⟨[],[0]⟩,⟨[],[2]⟩],[],[],[2],[],[[false]]⟩
def g163_T (m:Nat):FunT:=⟨163,[sI],sB,[sD],fun(x:Int×Unit)=>g163 m x.1⟩
theorem g163_ok (m:Nat):FunOK Tryz.prog (g163_T m):=
 fok hmix htt (H:=g163_H) (g163_T m) Tryz.func163 kR noF (L:=[]) (l:=[]) kR (fun _ hE _ _=>trivial) (fun x=>kR)
def g150_H:Hints:=⟨[⟨[],[0,1]⟩,⟨[(2,1),(7,1)],[4]⟩],[],[],[4],[],[[false]]⟩
def g150_T (m:Nat):FunT:=⟨150,[sI,sI],sB,[sD,sD],fun(x:Int×Int×Unit)=>g150 m x.1 x.2.1⟩
theorem g150_ok (m:Nat):FunOK Tryz.prog (g150_T m):=
 fok hmix htt (H:=g150_H) (g150_T m) Tryz.func150 kR (AllF.mem (l:=[g163_T m]) ⟨g163_ok m,trivial⟩) (L:=[]) (l:=[]) kR (fun _ hE _ _=>trivial) (fun x=>kR)
def g121_H:Hints:=⟨[⟨[],[0]⟩,⟨[],[0,3]⟩,⟨[],[0,3,8]⟩,⟨[(0,1)],[0,3]⟩,⟨[],[0,3,20]⟩,⟨[],[2]⟩,⟨[],[2]⟩],[(0,[0,3])],[(0,[]),(1,[0,3])],[2],[],[[false]]⟩
def g121_T (m:Nat):FunT:=⟨121,[sL],sB,[sD],fun(x:List Int×Unit)=>g121 m x.1⟩
noncomputable def g121_C:Code:=codeOf Tryz.f121
noncomputable def g121_B0:Code:=qm g121_C 0 0
theorem g121_K (m:Nat): ∀u∈[g150_T m],FunOK Tryz.prog u:=AllF.mem ⟨g150_ok m,trivial⟩
def g121_L0_X (m:Nat):LT:=⟨0,[(0,sL),(3,sI)],[(.ret,[(2,sB)]),(.exit 0,[])],fun n (x:List Int×Int×Unit)=>g121_L0 m n x.1 x.2.1⟩
theorem g121_L0_ok {E:Entry} (hE:EOf Tryz.prog E 21 g121_H.pins) (m:Nat) (n:Nat):ql Tryz.prog E g121_B0 ((g121_L0_X m).at n):=
 lok hmix htt hE (g121_K m) (L:=[]) (g121_L0_X m) (l:=[]) kR (fun _ _=>trivial) (fun n x=>kR) (fun _=>kR) n
theorem g121_ok (m:Nat):FunOK Tryz.prog (g121_T m):=
 fok hmix htt (H:=g121_H) (g121_T m) Tryz.func121 kR (g121_K m) (L:=[(g121_L0_X m).at m]) (l:=[(0,g121_B0)]) kR (fun _ hE _ _=>⟨qg ⟨yb (g121_L0_ok hE m m),trivial⟩,trivial⟩) (fun x=>kR)
def g73_H:Hints:=⟨[⟨[],[1]⟩,⟨[(7,1),(14,1),(20,1),(32,1)],[1,47]⟩,⟨[],[2]⟩,⟨[],[1,49,50]⟩,⟨[],[1,49,50,51]⟩,⟨[],[1,3,49,50]⟩,⟨[],[1,3,4,49,50]⟩,⟨[],[1,4,49,50,66,67,68]⟩,⟨[],[1,4,49,50,66,67,68,69]⟩,⟨[],[1,4,6,49,50,66,67,68]⟩,⟨[(1,1),(3,1)],[1,6,49,50,66,67,68,80]⟩,⟨[],[2]⟩,⟨[(0,1)],[1,4,49,50,66,67,68]⟩,⟨[(1,1)],[1,4,49,50,66,67,68]⟩,⟨[(1,1)],[1,49,50]⟩,⟨[],[2]⟩],[(0,[1,49,50]),(2,[1,4,49,50,66,67,68])],[(0,[]),(1,[1,49,50]),(2,[1,49,50]),(3,[1,4,49,50,66,67,68])],[2],[],[[false]]⟩
def g73_T (m:Nat):FunT:=⟨73,[.a (.agg [(.int .i64),(.int .i64),(.imm (.int .i64)),(.imm (.int .i64)),(.imm (.int .u64))])],sB,[sD],fun(x:(Int×Int×List Int×List Int×List Int×Unit)×Unit)=>g73 m x.1.1 x.1.2.1 x.1.2.2.1 x.1.2.2.2.1 x.1.2.2.2.2.1⟩
noncomputable def g73_C:Code:=codeOf Tryz.f73
noncomputable def g73_B0:Code:=qm g73_C 0 0
noncomputable def g73_B2:Code:=qm g73_B0 0 0
theorem g73_K (m:Nat): ∀u∈[g121_T m],FunOK Tryz.prog u:=AllF.mem ⟨g121_ok m,trivial⟩
def g73_L1_X (m:Nat):LT:=⟨2,[(1,.a (.bx 0 [(.int .i64),(.int .i64),(.imm (.int .i64)),(.imm (.int .i64)),(.imm (.int .u64))])),(4,sI),(49,sI),(50,sI),(66,sL),(67,sI),(68,sI)],[(.ret,[(2,sB)]),(.exit 2,[(1,.a (.bx 0 [(.int .i64),(.int .i64),(.imm (.int .i64)),(.imm (.int .i64)),(.imm (.int .u64))])),(49,sI),(50,sI)])],fun n (x:(Int×Int×List Int×List Int×List Int×Unit)×Int×Int×Int×List Int×Int×Int×Unit)=>g73_L1 m n x.1.1 x.1.2.1 x.1.2.2.1 x.1.2.2.2.1 x.1.2.2.2.2.1 x.2.1 x.2.2.1 x.2.2.2.1 x.2.2.2.2.1 x.2.2.2.2.2.1 x.2.2.2.2.2.2.1⟩
theorem g73_L1_ok {E:Entry} (hE:EOf Tryz.prog E 84 g73_H.pins) (m:Nat) (n:Nat):ql Tryz.prog E g73_B2 ((g73_L1_X m).at n):=
 lok hmix htt hE (g73_K m) (L:=[]) (g73_L1_X m) (l:=[]) kR (fun _ _=>trivial) (fun n x=>kR) (fun _=>kR) n
def g73_L0_X (m:Nat):LT:=⟨0,[(1,.a (.bx 0 [(.int .i64),(.int .i64),(.imm (.int .i64)),(.imm (.int .i64)),(.imm (.int .u64))])),(49,sI),(50,sI)],[(.ret,[(2,sB)]),(.exit 0,[])],fun n (x:(Int×Int×List Int×List Int×List Int×Unit)×Int×Int×Unit)=>g73_L0 m n x.1.1 x.1.2.1 x.1.2.2.1 x.1.2.2.2.1 x.1.2.2.2.2.1 x.2.1 x.2.2.1⟩
theorem g73_L0_ok {E:Entry} (hE:EOf Tryz.prog E 84 g73_H.pins) (m:Nat) (n:Nat):ql Tryz.prog E g73_B0 ((g73_L0_X m).at n):=
 lok hmix htt hE (g73_K m) (L:=[(g73_L1_X m).at m]) (g73_L0_X m) (l:=[(2,g73_B2)]) kR (fun _ _=>⟨qg ⟨yb (g73_L1_ok hE m m),trivial⟩,trivial⟩) (fun n x=>kR) (fun _=>kR) n
theorem g73_ok (m:Nat):FunOK Tryz.prog (g73_T m):=
 fok hmix htt (H:=g73_H) (g73_T m) Tryz.func73 kR (g73_K m) (L:=[(g73_L0_X m).at m]) (l:=[(0,g73_B0)]) kR (fun _ hE _ _=>⟨qg ⟨yb (g73_L0_ok hE m m),trivial⟩,trivial⟩) (fun x=>kR)
def g77_H:Hints:=⟨[⟨[],[0]⟩,⟨[],[2,3]⟩],[],[],[2,3],[],[[false],[false]]⟩
def g77_T (m:Nat):FunT:=⟨77,[sU],.tup [(.c (.int .i64)),(.c (.int .u64))],[sD],fun(x:Int×Unit)=>g77 m x.1⟩
theorem g77_ok (m:Nat):FunOK Tryz.prog (g77_T m):=
 fok hmix htt (H:=g77_H) (g77_T m) Tryz.func77 kR noF (L:=[]) (l:=[]) kR (fun _ hE _ _=>trivial) (fun x=>kR)
def g76_H:Hints:=⟨[⟨[],[0]⟩,⟨[(0,1),(2,1)],[3]⟩,⟨[(0,1)],[2]⟩],[],[],[2],[],[[false]]⟩
def g76_T (m:Nat):FunT:=⟨76,[sU],sB,[sD],fun(x:Int×Unit)=>g76 m x.1⟩
theorem g76_ok (m:Nat):FunOK Tryz.prog (g76_T m):=
 fok hmix htt (H:=g76_H) (g76_T m) Tryz.func76 kR (AllF.mem (l:=[g77_T m]) ⟨g77_ok m,trivial⟩) (L:=[]) (l:=[]) kR (fun _ hE _ _=>trivial) (fun x=>kR)
def g75_H:Hints:=⟨[⟨[],[0]⟩,⟨[(0,1)],[2]⟩],[],[],[2],[],[[false]]⟩
def g75_T (m:Nat):FunT:=⟨75,[sU],sB,[sD],fun(x:Int×Unit)=>g75 m x.1⟩
theorem g75_ok (m:Nat):FunOK Tryz.prog (g75_T m):=
 fok hmix htt (H:=g75_H) (g75_T m) Tryz.func75 kR (AllF.mem (l:=[g76_T m]) ⟨g76_ok m,trivial⟩) (L:=[]) (l:=[]) kR (fun _ hE _ _=>trivial) (fun x=>kR)
def g122_H:Hints:=⟨[⟨[],[0,1]⟩,⟨[],[0,1,7,8]⟩,⟨[],[0,1,7,8,9]⟩,⟨[],[0,1,5,7,8]⟩,⟨[],[0,1,5,7,8,16]⟩,⟨[(0,1)],[4]⟩,⟨[(1,1)],[0,1,7,8]⟩,⟨[],[4]⟩],[(0,[0,1,7,8])],[(0,[]),(1,[0,1,7,8])],[4],[],[[false]]⟩
def g122_T (m:Nat):FunT:=⟨122,[.a (.c (.imm (.int .u64))),.a (.c (.fn 75))],sI,[sD,sD],fun(x:List Int×Unit×Unit)=>g122 m x.1⟩
noncomputable def g122_C:Code:=codeOf Tryz.f122
noncomputable def g122_B0:Code:=qm g122_C 0 0
theorem g122_K (m:Nat): ∀u∈[g75_T m],FunOK Tryz.prog u:=AllF.mem ⟨g75_ok m,trivial⟩
def g122_L0_X (m:Nat):LT:=⟨0,[(0,.a (.c (.imm (.int .u64)))),(1,.a (.c (.fn 75))),(7,sI),(8,sI)],[(.ret,[(4,sI)]),(.exit 0,[])],fun n (x:List Int×Unit×Int×Int×Unit)=>g122_L0 m n x.1 x.2.2.1 x.2.2.2.1⟩
theorem g122_L0_ok {E:Entry} (hE:EOf Tryz.prog E 19 g122_H.pins) (m:Nat) (n:Nat):ql Tryz.prog E g122_B0 ((g122_L0_X m).at n):=
 lok hmix htt hE (g122_K m) (L:=[]) (g122_L0_X m) (l:=[]) kR (fun _ _=>trivial) (fun n x=>kR) (fun _=>kR) n
theorem g122_ok (m:Nat):FunOK Tryz.prog (g122_T m):=
 fok hmix htt (H:=g122_H) (g122_T m) Tryz.func122 kR (g122_K m) (L:=[(g122_L0_X m).at m]) (l:=[(0,g122_B0)]) kR (fun _ hE _ _=>⟨qg ⟨yb (g122_L0_ok hE m m),trivial⟩,trivial⟩) (fun x=>kR)
def g74_H:Hints:=⟨[⟨[],[0,1]⟩,⟨[(0,1),(1,1)],[4]⟩],[],[],[4],[],[[false]]⟩
def g74_T (m:Nat):FunT:=⟨74,[.a (.c (.imm (.int .u64))),.a (.c (.fn 75))],sB,[sD,sD],fun(x:List Int×Unit×Unit)=>g74 m x.1⟩
theorem g74_ok (m:Nat):FunOK Tryz.prog (g74_T m):=
 fok hmix htt (H:=g74_H) (g74_T m) Tryz.func74 kR (AllF.mem (l:=[g122_T m]) ⟨g122_ok m,trivial⟩) (L:=[]) (l:=[]) kR (fun _ hE _ _=>trivial) (fun x=>kR)
def g29_H:Hints:=⟨[⟨[],[1]⟩,⟨[(4,1),(10,1)],[1,3]⟩,⟨[],[2]⟩,⟨[],[1,20]⟩,⟨[],[2]⟩,⟨[],[24]⟩,⟨[],[2]⟩,⟨[],[2]⟩],[],[(0,[])],[2],[],[[false]]⟩
def g29_T (m:Nat):FunT:=⟨29,[.a (.agg [(.int .i64),(.int .i64),(.imm (.int .i64)),(.imm (.int .i64)),(.imm (.int .u64))])],sI,[sD],fun(x:(Int×Int×List Int×List Int×List Int×Unit)×Unit)=>g29 m x.1.1 x.1.2.1 x.1.2.2.1 x.1.2.2.2.1 x.1.2.2.2.2.1⟩
theorem g29_ok (m:Nat):FunOK Tryz.prog (g29_T m):=
 fok hmix htt (H:=g29_H) (g29_T m) Tryz.func29 kR (AllF.mem (l:=[g68_T m,g73_T m,g74_T m]) ⟨g68_ok m,g73_ok m,g74_ok m,trivial⟩) (L:=[]) (l:=[]) kR (fun _ hE _ _=>trivial) (fun x=>kR)
def g37_H:Hints:=⟨[⟨[],[1]⟩,⟨[],[1,3]⟩,⟨[(2,1)],[3,14]⟩,⟨[],[2]⟩,⟨[(0,1)],[2]⟩],[],[],[2],[],[[false]]⟩
def g37_T (m:Nat):FunT:=⟨37,[.a (.agg [(.int .i64),(.int .i64),(.imm (.int .i64)),(.imm (.int .i64)),(.imm (.int .u64))])],sI,[sD],fun(x:(Int×Int×List Int×List Int×List Int×Unit)×Unit)=>g37 m x.1.1 x.1.2.1 x.1.2.2.1 x.1.2.2.2.1 x.1.2.2.2.2.1⟩
theorem g37_ok (m:Nat):FunOK Tryz.prog (g37_T m):=
 fok hmix htt (H:=g37_H) (g37_T m) Tryz.func37 kR (AllF.mem (l:=[g29_T m]) ⟨g29_ok m,trivial⟩) (L:=[]) (l:=[]) kR (fun _ hE _ _=>trivial) (fun x=>kR)
def g30_H:Hints:=⟨[⟨[],[1]⟩,⟨[],[1,3]⟩,⟨[],[1,3,7,8]⟩,⟨[],[1,3,7,8,9]⟩,⟨[],[1,3,4,7,8]⟩,⟨[],[1,3,4,5,7,8]⟩,⟨[],[1,3,4,5,7,8,23]⟩,⟨[(0,1)],[1,3,4,5,7,8]⟩,⟨[(0,1)],[1,3,4,5,7,8]⟩,⟨[(1,1)],[1,3,7,8]⟩,⟨[(0,1)],[2]⟩],[(0,[1,3,7,8]),(2,[1,3,4,5,7,8])],[(0,[3]),(1,[1,3,7,8]),(2,[1,3,7,8]),(3,[1,3,4,5,7,8])],[2],[],[[true]]⟩
def g30_T (m:Nat):FunT:=⟨30,[.a (.agg [(.int .i64),(.int .i64),(.imm (.int .i64)),(.imm (.int .i64)),(.imm (.int .u64))])],.a (.c (.nm 0 (.pr (.int .i64) (.pr (.int .i64) (.int .u64))))),[sD],fun(x:(Int×Int×List Int×List Int×List Int×Unit)×Unit)=>g30 m x.1.1 x.1.2.1 x.1.2.2.1 x.1.2.2.2.1 x.1.2.2.2.2.1⟩
noncomputable def g30_C:Code:=codeOf Tryz.f30
noncomputable def g30_B0:Code:=qm g30_C 0 0
noncomputable def g30_B2:Code:=qm g30_B0 0 0
def g30_L1_X (m:Nat):LT:=⟨2,[(1,.a (.bx 0 [(.int .i64),(.int .i64),(.imm (.int .i64)),(.imm (.int .i64)),(.imm (.int .u64))])),(3,.a (.c (.nm 1 (.pr (.int .i64) (.pr (.int .i64) (.int .u64)))))),(4,sI),(5,sI),(7,sI),(8,sI)],[(.exit 2,[(1,.a (.bx 0 [(.int .i64),(.int .i64),(.imm (.int .i64)),(.imm (.int .i64)),(.imm (.int .u64))])),(3,.a (.c (.nm 1 (.pr (.int .i64) (.pr (.int .i64) (.int .u64)))))),(7,sI),(8,sI)])],fun n (x:(Int×Int×List Int×List Int×List Int×Unit)×(List (Int×Int×Int))×Int×Int×Int×Int×Unit)=>g30_L1 m n x.1.1 x.1.2.1 x.1.2.2.1 x.1.2.2.2.1 x.1.2.2.2.2.1 x.2.1 x.2.2.1 x.2.2.2.1 x.2.2.2.2.1 x.2.2.2.2.2.1⟩
theorem g30_L1_ok {E:Entry} (hE:EOf Tryz.prog E 43 g30_H.pins) (m:Nat) (n:Nat):ql Tryz.prog E g30_B2 ((g30_L1_X m).at n):=
 lok hmix htt hE noF (L:=[]) (g30_L1_X m) (l:=[]) kR (fun _ _=>trivial) (fun n x=>kR) (fun _=>kR) n
def g30_L0_X (m:Nat):LT:=⟨0,[(1,.a (.bx 0 [(.int .i64),(.int .i64),(.imm (.int .i64)),(.imm (.int .i64)),(.imm (.int .u64))])),(3,.a (.c (.nm 1 (.pr (.int .i64) (.pr (.int .i64) (.int .u64)))))),(7,sI),(8,sI)],[(.exit 0,[(3,.a (.c (.nm 0 (.pr (.int .i64) (.pr (.int .i64) (.int .u64))))))])],fun n (x:(Int×Int×List Int×List Int×List Int×Unit)×(List (Int×Int×Int))×Int×Int×Unit)=>g30_L0 m n x.1.1 x.1.2.1 x.1.2.2.1 x.1.2.2.2.1 x.1.2.2.2.2.1 x.2.1 x.2.2.1 x.2.2.2.1⟩
theorem g30_L0_ok {E:Entry} (hE:EOf Tryz.prog E 43 g30_H.pins) (m:Nat) (n:Nat):ql Tryz.prog E g30_B0 ((g30_L0_X m).at n):=
 lok hmix htt hE noF (L:=[(g30_L1_X m).at m]) (g30_L0_X m) (l:=[(2,g30_B2)]) kR (fun _ _=>⟨qg ⟨yb (g30_L1_ok hE m m),trivial⟩,trivial⟩) (fun n x=>kR) (fun _=>kR) n
theorem g30_ok (m:Nat):FunOK Tryz.prog (g30_T m):=
 fok hmix htt (H:=g30_H) (g30_T m) Tryz.func30 kR noF (L:=[(g30_L0_X m).at m]) (l:=[(0,g30_B0)]) kR (fun _ hE _ _=>⟨qg ⟨yb (g30_L0_ok hE m m),trivial⟩,trivial⟩) (fun x=>kR)
def g87_H:Hints:=⟨[⟨[],[1]⟩,⟨[],[1,5]⟩,⟨[],[2]⟩,⟨[],[2]⟩],[],[],[2],[],[[true]]⟩
def g87_T (m:Nat):FunT:=⟨87,[.a (.agg [(.int .i64),(.int .i64),(.imm (.int .i64)),(.imm (.int .i64)),(.imm (.int .u64))])],.a (.c (.nm 0 (.pr (.int .i64) (.pr (.int .i64) (.int .u64))))),[sD],fun(x:(Int×Int×List Int×List Int×List Int×Unit)×Unit)=>g87 m x.1.1 x.1.2.1 x.1.2.2.1 x.1.2.2.2.1 x.1.2.2.2.2.1⟩
theorem g87_ok (m:Nat):FunOK Tryz.prog (g87_T m):=
 fok hmix htt (H:=g87_H) (g87_T m) Tryz.func87 kR (AllF.mem (l:=[g29_T m,g30_T m]) ⟨g29_ok m,g30_ok m,trivial⟩) (L:=[]) (l:=[]) kR (fun _ hE _ _=>trivial) (fun x=>kR)
def g139_H:Hints:=⟨[⟨[],[0]⟩,⟨[],[0,3]⟩,⟨[(2,1)],[0,3,15]⟩,⟨[(0,1)],[0,3]⟩,⟨[(0,1),(1,1)],[2]⟩],[(0,[0,3])],[(0,[0,3]),(1,[0,3])],[2],[],[[false]]⟩
def g139_T (m:Nat):FunT:=⟨139,[.a (.c (.imm (.int .u32)))],.a (.c (.imm (.int .u32))),[sD],fun(x:List Int×Unit)=>g139 m x.1⟩
noncomputable def g139_C:Code:=codeOf Tryz.f139
noncomputable def g139_B0:Code:=qm g139_C 0 0
def g139_L0_X (m:Nat):LT:=⟨0,[(0,.a (.c (.imm (.int .u32)))),(3,sI)],[(.exit 0,[(0,.a (.c (.imm (.int .u32)))),(3,sI)])],fun n (x:List Int×Int×Unit)=>g139_L0 m n x.1 x.2.1⟩
theorem g139_L0_ok {E:Entry} (hE:EOf Tryz.prog E 21 g139_H.pins) (m:Nat) (n:Nat):ql Tryz.prog E g139_B0 ((g139_L0_X m).at n):=
 lok hmix htt hE noF (L:=[]) (g139_L0_X m) (l:=[]) kR (fun _ _=>trivial) (fun n x=>kR) (fun _=>kR) n
theorem g139_ok (m:Nat):FunOK Tryz.prog (g139_T m):=
 fok hmix htt (H:=g139_H) (g139_T m) Tryz.func139 kR noF (L:=[(g139_L0_X m).at m]) (l:=[(0,g139_B0)]) kR (fun _ hE _ _=>⟨qg ⟨yb (g139_L0_ok hE m m),trivial⟩,trivial⟩) (fun x=>kR)
def g127_H:Hints:=⟨[⟨[],[0,1,4]⟩,⟨[(0,1)],[0,1,4]⟩,⟨[],[0,1,4,9]⟩,⟨[],[4]⟩,⟨[(0,1),(1,1)],[4]⟩],[],[],[4],[],[[false,false]]⟩
def g127_T (m:Nat):FunT:=⟨127,[sB,.a (.c (.imm (.int .u32)))],.a (.agg [.bool,(.imm (.int .u32))]),[sD,sD],fun(x:Bool×List Int×Unit)=>g127 m x.1 x.2.1⟩
theorem g127_ok (m:Nat):FunOK Tryz.prog (g127_T m):=
 fok hmix htt (H:=g127_H) (g127_T m) Tryz.func127 kR (AllF.mem (l:=[g139_T m]) ⟨g139_ok m,trivial⟩) (L:=[]) (l:=[]) kR (fun _ hE _ _=>trivial) (fun x=>kR)
def g81_H:Hints:=⟨[⟨[],[0,2]⟩,⟨[],[0,2,3]⟩,⟨[],[0,2,3,7]⟩,⟨[(0,1)],[0,2,3]⟩,⟨[(0,1)],[2]⟩],[],[],[2],[],[[false,false]]⟩
def g81_T (m:Nat):FunT:=⟨81,[sI],.a (.agg [.bool,(.imm (.int .u32))]),[sD],fun(x:Int×Unit)=>g81 m x.1⟩
theorem g81_ok (m:Nat):FunOK Tryz.prog (g81_T m):=
 fok hmix htt (H:=g81_H) (g81_T m) Tryz.func81 kR (AllF.mem (l:=[g127_T m]) ⟨g127_ok m,trivial⟩) (L:=[]) (l:=[]) kR (fun _ hE _ _=>trivial) (fun x=>kR)
def g82_H:Hints:=⟨[⟨[],[0]⟩,⟨[(0,1)],[2]⟩],[],[],[2],[],[[false]]⟩
def g82_T (m:Nat):FunT:=⟨82,[sU],sB,[sD],fun(x:Int×Unit)=>g82 m x.1⟩
theorem g82_ok (m:Nat):FunOK Tryz.prog (g82_T m):=
 fok hmix htt (H:=g82_H) (g82_T m) Tryz.func82 kR noF (L:=[]) (l:=[]) kR (fun _ hE _ _=>trivial) (fun x=>kR)
def g128_H:Hints:={regs:=[⟨[],[0]⟩,⟨[],[0]⟩,⟨[],[2]⟩,⟨[],[2]⟩],heads:=[],exits:=[],rets:=[2],pins:=[],spec:=[[true]]}
abbrev g128_A:List Sh:=[.a (.c (.imm (.int .u32)))]
abbrev g128_S:Sh:= .a (.c (.nm 0 (.int .u32)))
abbrev g128_U:List Sh:=[sD]
def g128_R (m:Nat):Qp g128_A→Option (g128_S.Val×Qp g128_U):=fun(x:List Int×Unit)=>g128 m x.1
def g128_T (m:Nat):FunT:=⟨128,g128_A,g128_S,g128_U,g128_R m⟩
noncomputable def g128_C:Code:=codeOf Tryz.f128
theorem g128_ok (m:Nat):FunOK Tryz.prog (g128_T m):=
 qg4 hmix htt (H:=g128_H) (fn:=Tryz.f128) (f:=128) (t:=(.int .u32)) (ty:=64) (e:=141) (ty2:=64) (k:=1) (cells:=[.nil (.int .u32)]) (A:=pA g128_C) (X:=pX (pB (pA (pB g128_C)))) (Y:=pB (pB g128_C)) (o0:=pO 0 (pA (pA (pB g128_C)))) (o1:=pO 1 (pA (pA (pB g128_C)))) Tryz.func128 kR kR kR kR kR kR kR kR kR (of_decide_eq_true kR) rfl kR kR kR (fun xs=>[(0,.sl .imm (.int .u32) xs)]) (fun xs=>[(2,.sl (.nm 0) (.int .u32) xs)]) (fun xs=>kR) (fun _=>rfl) (fun _=>rfl) (fun _=>rfl) kR (fun xs=>kR) (fun xs=>kR)
def g83_H:Hints:=⟨[⟨[],[1,2]⟩,⟨[],[2]⟩],[],[],[2],[],[[false,false]]⟩
def g83_T (m:Nat):FunT:=⟨83,[.a (.agg [.bool,(.imm (.int .u32))])],.a (.agg [.bool,(.imm (.int .u32))]),[sD],fun(x:(Bool×List Int×Unit)×Unit)=>g83 m x.1.1 x.1.2.1⟩
theorem g83_ok (m:Nat):FunOK Tryz.prog (g83_T m):=
 fok hmix htt (H:=g83_H) (g83_T m) Tryz.func83 kR (AllF.mem (l:=[g128_T m,g127_T m]) ⟨g128_ok m,g127_ok m,trivial⟩) (L:=[]) (l:=[]) kR (fun _ hE _ _=>trivial) (fun x=>kR)
def g79_H:Hints:=⟨[⟨[],[0]⟩,⟨[],[0]⟩],[],[],[0],[],[[false,false,true,false]]⟩
def g79_T (m:Nat):FunT:=⟨79,[],.a (.agg [.bool,.bool,(.nm 0 (.int .u32)),(.int .i64)]),[],fun(x:Unit)=>g79 m⟩
theorem g79_ok (m:Nat):FunOK Tryz.prog (g79_T m):=
 fok hmix htt (H:=g79_H) (g79_T m) Tryz.func79 kR noF (L:=[]) (l:=[]) kR (fun _ hE _ _=>trivial) (fun x=>kR)
def g123_H:Hints:=⟨[⟨[],[1,2]⟩,⟨[],[2]⟩],[],[],[2],[],[[false,false]]⟩
def g123_T (m:Nat):FunT:=⟨123,[.a (.agg [.bool,(.imm (.int .u32))])],.a (.agg [.bool,(.imm (.int .u32))]),[sD],fun(x:(Bool×List Int×Unit)×Unit)=>g123 m x.1.1 x.1.2.1⟩
theorem g123_ok (m:Nat):FunOK Tryz.prog (g123_T m):=
 fok hmix htt (H:=g123_H) (g123_T m) Tryz.func123 kR (AllF.mem (l:=[g128_T m,g127_T m]) ⟨g128_ok m,g127_ok m,trivial⟩) (L:=[]) (l:=[]) kR (fun _ hE _ _=>trivial) (fun x=>kR)
def g97_H:Hints:=⟨[⟨[],[1]⟩,⟨[],[1,3]⟩,⟨[],[2]⟩,⟨[],[9]⟩,⟨[],[2]⟩,⟨[],[2]⟩],[],[(0,[])],[2],[],[[false]]⟩
def g97_T (m:Nat):FunT:=⟨97,[.a (.agg [.bool,(.imm (.int .u32))])],sI,[sD],fun(x:(Bool×List Int×Unit)×Unit)=>g97 m x.1.1 x.1.2.1⟩
theorem g97_ok (m:Nat):FunOK Tryz.prog (g97_T m):=
 fok hmix htt (H:=g97_H) (g97_T m) Tryz.func97 kR (AllF.mem (l:=[g139_T m]) ⟨g139_ok m,trivial⟩) (L:=[]) (l:=[]) kR (fun _ hE _ _=>trivial) (fun x=>kR)
def g159_H:Hints:=⟨[⟨[],[0]⟩,⟨[],[0,4]⟩,⟨[],[2]⟩,⟨[],[2]⟩],[],[],[2],[],[[false]]⟩
def g159_T (m:Nat):FunT:=⟨159,[.a (.c (.int .u32))],sI,[sD],fun(x:Int×Unit)=>g159 m x.1⟩
theorem g159_ok (m:Nat):FunOK Tryz.prog (g159_T m):=
 fok hmix htt (H:=g159_H) (g159_T m) Tryz.func159 kR noF (L:=[]) (l:=[]) kR (fun _ hE _ _=>trivial) (fun x=>kR)
def g124_H:Hints:=⟨[⟨[],[1]⟩,⟨[],[6,7,8]⟩,⟨[],[6,7,8,9]⟩,⟨[],[3,4,6,7,8]⟩,⟨[],[3,4,6,7,8,14]⟩,⟨[(0,1),(2,1)],[2]⟩,⟨[(1,1)],[6,7,8]⟩,⟨[],[2]⟩],[(0,[6,7,8])],[(0,[]),(1,[6,7,8])],[2],[],[[false]]⟩
def g124_T (m:Nat):FunT:=⟨124,[.a (.agg [.bool,(.imm (.int .u32))])],sI,[sD],fun(x:(Bool×List Int×Unit)×Unit)=>g124 m x.1.1 x.1.2.1⟩
noncomputable def g124_C:Code:=codeOf Tryz.f124
noncomputable def g124_B0:Code:=qm g124_C 0 0
theorem g124_K (m:Nat): ∀u∈[g159_T m],FunOK Tryz.prog u:=AllF.mem ⟨g159_ok m,trivial⟩
def g124_L0_X (m:Nat):LT:=⟨0,[(6,.a (.c (.imm (.int .u32)))),(7,sI),(8,sI)],[(.ret,[(2,sI)]),(.exit 0,[])],fun n (x:List Int×Int×Int×Unit)=>g124_L0 m n x.1 x.2.1 x.2.2.1⟩
theorem g124_L0_ok {E:Entry} (hE:EOf Tryz.prog E 21 g124_H.pins) (m:Nat) (n:Nat):ql Tryz.prog E g124_B0 ((g124_L0_X m).at n):=
 lok hmix htt hE (g124_K m) (L:=[]) (g124_L0_X m) (l:=[]) kR (fun _ _=>trivial) (fun n x=>kR) (fun _=>kR) n
theorem g124_ok (m:Nat):FunOK Tryz.prog (g124_T m):=
 fok hmix htt (H:=g124_H) (g124_T m) Tryz.func124 kR (g124_K m) (L:=[(g124_L0_X m).at m]) (l:=[(0,g124_B0)]) kR (fun _ hE _ _=>⟨qg ⟨yb (g124_L0_ok hE m m),trivial⟩,trivial⟩) (fun x=>kR)
def g168_H:Hints:=⟨[⟨[],[0,2]⟩,⟨[],[0,2,4]⟩,⟨[(0,1)],[0]⟩,⟨[],[0,2]⟩,⟨[],[0,2,8]⟩,⟨[(0,1)],[0,2]⟩,⟨[(0,1)],[0,2]⟩,⟨[(0,1),(1,1)],[2]⟩],[],[],[2],[],[[false]]⟩
def g168_T (m:Nat):FunT:=⟨168,[.a (.c (.int .u32))],sI,[sD],fun(x:Int×Unit)=>g168 m x.1⟩
theorem g168_ok (m:Nat):FunOK Tryz.prog (g168_T m):=
 fok hmix htt (H:=g168_H) (g168_T m) Tryz.func168 kR noF (L:=[]) (l:=[]) kR (fun _ hE _ _=>trivial) (fun x=>kR)
def g160_H:Hints:=⟨[⟨[],[0]⟩,⟨[],[0,5]⟩,⟨[],[2]⟩,⟨[],[2]⟩],[],[],[2],[],[[false]]⟩
def g160_T (m:Nat):FunT:=⟨160,[.a (.c (.imm (.int .u32)))],sI,[sD],fun(x:List Int×Unit)=>g160 m x.1⟩
theorem g160_ok (m:Nat):FunOK Tryz.prog (g160_T m):=
 fok hmix htt (H:=g160_H) (g160_T m) Tryz.func160 kR (AllF.mem (l:=[g168_T m]) ⟨g168_ok m,trivial⟩) (L:=[]) (l:=[]) kR (fun _ hE _ _=>trivial) (fun x=>kR)
def g125_H:Hints:=⟨[⟨[],[1]⟩,⟨[],[2]⟩],[],[],[2],[],[[false]]⟩
def g125_T (m:Nat):FunT:=⟨125,[.a (.agg [.bool,(.imm (.int .u32))])],sI,[sD],fun(x:(Bool×List Int×Unit)×Unit)=>g125 m x.1.1 x.1.2.1⟩
theorem g125_ok (m:Nat):FunOK Tryz.prog (g125_T m):=
 fok hmix htt (H:=g125_H) (g125_T m) Tryz.func125 kR (AllF.mem (l:=[g139_T m,g160_T m]) ⟨g139_ok m,g160_ok m,trivial⟩) (L:=[]) (l:=[]) kR (fun _ hE _ _=>trivial) (fun x=>kR)
def g173_H:Hints:=⟨[⟨[],[0,1]⟩,⟨[],[0,1,13]⟩,⟨[],[4]⟩,⟨[],[0,5,6]⟩,⟨[],[0,5,6,7]⟩,⟨[(0,1)],[5,6,7,25,26,27]⟩,⟨[],[5,6,7,25,26,27,28]⟩,⟨[],[5,6,7,8,9,25,26,27]⟩,⟨[(0,1)],[5,6,7,8,10,25,26,27]⟩,⟨[],[5,6,7,8,10,25,26,27]⟩,⟨[(2,1),(5,1)],[5,6,7,25,26,27]⟩,⟨[(1,1)],[5,6,7,25,26,27]⟩,⟨[(0,1)],[4]⟩],[(0,[5,6,7,25,26,27])],[(0,[7]),(1,[5,6,7,25,26,27])],[4],[],[[false]]⟩
def g173_T (m:Nat):FunT:=⟨173,[.a (.c (.imm (.int .u32))),sI],.a (.c (.imm (.int .u32))),[sD,sD],fun(x:List Int×Int×Unit)=>g173 m x.1 x.2.1⟩
noncomputable def g173_C:Code:=codeOf Tryz.f173
noncomputable def g173_B0:Code:=qm g173_C 0 0
theorem g173_K (m:Nat): ∀u∈[g139_T m],FunOK Tryz.prog u:=AllF.mem ⟨g139_ok m,trivial⟩
def g173_L0_X (m:Nat):LT:=⟨0,[(5,sI),(6,sU),(7,.a (.c (.nm 0 (.int .u32)))),(25,.a (.c (.imm (.int .u32)))),(26,sI),(27,sI)],[(.exit 0,[(7,.a (.c (.nm 0 (.int .u32))))])],fun n (x:Int×Int×List Int×List Int×Int×Int×Unit)=>g173_L0 m n x.1 x.2.1 x.2.2.1 x.2.2.2.1 x.2.2.2.2.1 x.2.2.2.2.2.1⟩
theorem g173_L0_ok {E:Entry} (hE:EOf Tryz.prog E 59 g173_H.pins) (m:Nat) (n:Nat):ql Tryz.prog E g173_B0 ((g173_L0_X m).at n):=
 lok hmix htt hE (g173_K m) (L:=[]) (g173_L0_X m) (l:=[]) kR (fun _ _=>trivial) (fun n x=>kR) (fun _=>kR) n
theorem g173_ok (m:Nat):FunOK Tryz.prog (g173_T m):=
 fok hmix htt (H:=g173_H) (g173_T m) Tryz.func173 kR (g173_K m) (L:=[(g173_L0_X m).at m]) (l:=[(0,g173_B0)]) kR (fun _ hE _ _=>⟨qg ⟨yb (g173_L0_ok hE m m),trivial⟩,trivial⟩) (fun x=>kR)
def g182_H:Hints:=⟨[⟨[],[0]⟩,⟨[(0,1)],[2]⟩],[],[],[2],[],[[false]]⟩
def g182_T (m:Nat):FunT:=⟨182,[.a (.c (.int .u32))],sB,[sD],fun(x:Int×Unit)=>g182 m x.1⟩
theorem g182_ok (m:Nat):FunOK Tryz.prog (g182_T m):=
 fok hmix htt (H:=g182_H) (g182_T m) Tryz.func182 kR noF (L:=[]) (l:=[]) kR (fun _ hE _ _=>trivial) (fun x=>kR)
def g184_H:Hints:=⟨[⟨[],[0,1]⟩,⟨[],[0,1,7,8]⟩,⟨[],[0,1,7,8,9]⟩,⟨[],[0,1,5,7,8]⟩,⟨[],[0,1,5,7,8,16]⟩,⟨[(0,1)],[4]⟩,⟨[(1,1)],[0,1,7,8]⟩,⟨[],[4]⟩],[(0,[0,1,7,8])],[(0,[]),(1,[0,1,7,8])],[4],[],[[false]]⟩
def g184_T (m:Nat):FunT:=⟨184,[.a (.c (.imm (.int .u32))),.a (.c (.fn 182))],sI,[sD,sD],fun(x:List Int×Unit×Unit)=>g184 m x.1⟩
noncomputable def g184_C:Code:=codeOf Tryz.f184
noncomputable def g184_B0:Code:=qm g184_C 0 0
theorem g184_K (m:Nat): ∀u∈[g182_T m],FunOK Tryz.prog u:=AllF.mem ⟨g182_ok m,trivial⟩
def g184_L0_X (m:Nat):LT:=⟨0,[(0,.a (.c (.imm (.int .u32)))),(1,.a (.c (.fn 182))),(7,sI),(8,sI)],[(.ret,[(4,sI)]),(.exit 0,[])],fun n (x:List Int×Unit×Int×Int×Unit)=>g184_L0 m n x.1 x.2.2.1 x.2.2.2.1⟩
theorem g184_L0_ok {E:Entry} (hE:EOf Tryz.prog E 19 g184_H.pins) (m:Nat) (n:Nat):ql Tryz.prog E g184_B0 ((g184_L0_X m).at n):=
 lok hmix htt hE (g184_K m) (L:=[]) (g184_L0_X m) (l:=[]) kR (fun _ _=>trivial) (fun n x=>kR) (fun _=>kR) n
theorem g184_ok (m:Nat):FunOK Tryz.prog (g184_T m):=
 fok hmix htt (H:=g184_H) (g184_T m) Tryz.func184 kR (g184_K m) (L:=[(g184_L0_X m).at m]) (l:=[(0,g184_B0)]) kR (fun _ hE _ _=>⟨qg ⟨yb (g184_L0_ok hE m m),trivial⟩,trivial⟩) (fun x=>kR)
def g181_H:Hints:=⟨[⟨[],[0,1]⟩,⟨[(0,1),(1,1)],[4]⟩],[],[],[4],[],[[false]]⟩
def g181_T (m:Nat):FunT:=⟨181,[.a (.c (.imm (.int .u32))),.a (.c (.fn 182))],sB,[sD,sD],fun(x:List Int×Unit×Unit)=>g181 m x.1⟩
theorem g181_ok (m:Nat):FunOK Tryz.prog (g181_T m):=
 fok hmix htt (H:=g181_H) (g181_T m) Tryz.func181 kR (AllF.mem (l:=[g184_T m]) ⟨g184_ok m,trivial⟩) (L:=[]) (l:=[]) kR (fun _ hE _ _=>trivial) (fun x=>kR)
def g174_H:Hints:=⟨[⟨[],[0,1]⟩,⟨[],[0,6,7]⟩,⟨[],[0,6,7,20]⟩,⟨[(0,1)],[4,5]⟩,⟨[(4,1)],[0,6,7,8]⟩,⟨[],[0,6,7,8,9]⟩,⟨[],[0,6,7,8,9,45,46]⟩,⟨[],[0,6,7,8,9,45,46,47]⟩,⟨[],[0,6,7,8,9,10,45,46]⟩,⟨[],[0,6,7,8,9,10,11,45,46]⟩,⟨[],[0,6,7,8,9,10,11,45,46,62]⟩,⟨[(0,1)],[0,6,7,8,9,10,11,45,46]⟩,⟨[(1,1),(2,1)],[0,6,7,8,9,45,46]⟩,⟨[(1,1)],[0,6,7,8,9,45,46]⟩,⟨[(0,1),(2,1)],[4,5]⟩],[(0,[0,6,7,8,9,45,46])],[(0,[8,9]),(1,[0,6,7,8,9,45,46])],[4,5],[],[[false],[false]]⟩
def g174_T (m:Nat):FunT:=⟨174,[.a (.c (.imm (.int .u32))),sI],.tup [(.c (.imm (.int .u32))),(.c .bool)],[sD,sD],fun(x:List Int×Int×Unit)=>g174 m x.1 x.2.1⟩
noncomputable def g174_C:Code:=codeOf Tryz.f174
noncomputable def g174_B0:Code:=qm g174_C 0 0
theorem g174_K (m:Nat): ∀u∈[g181_T m,g139_T m],FunOK Tryz.prog u:=AllF.mem ⟨g181_ok m,g139_ok m,trivial⟩
def g174_L0_X (m:Nat):LT:=⟨0,[(0,.a (.c (.imm (.int .u32)))),(6,sI),(7,sU),(8,sB),(9,.a (.c (.nm 0 (.int .u32)))),(45,sI),(46,sI)],[(.exit 0,[(8,sB),(9,.a (.c (.nm 0 (.int .u32))))])],fun n (x:List Int×Int×Int×Bool×List Int×Int×Int×Unit)=>g174_L0 m n x.1 x.2.1 x.2.2.1 x.2.2.2.1 x.2.2.2.2.1 x.2.2.2.2.2.1 x.2.2.2.2.2.2.1⟩
theorem g174_L0_ok {E:Entry} (hE:EOf Tryz.prog E 86 g174_H.pins) (m:Nat) (n:Nat):ql Tryz.prog E g174_B0 ((g174_L0_X m).at n):=
 lok hmix htt hE (g174_K m) (L:=[]) (g174_L0_X m) (l:=[]) kR (fun _ _=>trivial) (fun n x=>kR) (fun _=>kR) n
theorem g174_ok (m:Nat):FunOK Tryz.prog (g174_T m):=
 fok hmix htt (H:=g174_H) (g174_T m) Tryz.func174 kR (g174_K m) (L:=[(g174_L0_X m).at m]) (l:=[(0,g174_B0)]) kR (fun _ hE _ _=>⟨qg ⟨yb (g174_L0_ok hE m m),trivial⟩,trivial⟩) (fun x=>kR)
def g175_H:Hints:=⟨[⟨[],[0,1]⟩,⟨[],[0,1,14]⟩,⟨[(0,1),(1,1)],[0,1]⟩,⟨[],[0,1,5]⟩,⟨[],[0,1,5,6]⟩,⟨[(0,1)],[1,5,6,21,22,23]⟩,⟨[],[1,5,6,21,22,23,24]⟩,⟨[],[1,5,6,7,8,21,22,23]⟩,⟨[(0,1),(2,1)],[1,5,7,9,21,22,23]⟩,⟨[],[1,5,7,9,21,22,23,35]⟩,⟨[(0,1),(2,1)],[1,5,9,21,22,23]⟩,⟨[(0,1)],[1,5,9,21,22,23]⟩,⟨[(0,1)],[1,5,6,21,22,23]⟩,⟨[(1,1)],[1,5,6,21,22,23]⟩,⟨[(0,1),(1,1)],[4]⟩],[(0,[1,5,6,21,22,23])],[(0,[5,6]),(1,[1,5,6,21,22,23])],[4],[],[[false]]⟩
def g175_T (m:Nat):FunT:=⟨175,[.a (.c (.imm (.int .u32))),.a (.c (.imm (.int .u32)))],.a (.c (.imm (.int .u32))),[sD,sD],fun(x:List Int×List Int×Unit)=>g175 m x.1 x.2.1⟩
noncomputable def g175_C:Code:=codeOf Tryz.f175
noncomputable def g175_B0:Code:=qm g175_C 0 0
theorem g175_K (m:Nat): ∀u∈[g139_T m],FunOK Tryz.prog u:=AllF.mem ⟨g139_ok m,trivial⟩
def g175_L0_X (m:Nat):LT:=⟨0,[(1,.a (.c (.imm (.int .u32)))),(5,.a (.c (.nm 0 (.int .u32)))),(6,sU),(21,.a (.c (.imm (.int .u32)))),(22,sI),(23,sI)],[(.exit 0,[(5,.a (.c (.nm 0 (.int .u32)))),(6,sU)])],fun n (x:List Int×List Int×Int×List Int×Int×Int×Unit)=>g175_L0 m n x.1 x.2.1 x.2.2.1 x.2.2.2.1 x.2.2.2.2.1 x.2.2.2.2.2.1⟩
theorem g175_L0_ok {E:Entry} (hE:EOf Tryz.prog E 58 g175_H.pins) (m:Nat) (n:Nat):ql Tryz.prog E g175_B0 ((g175_L0_X m).at n):=
 lok hmix htt hE (g175_K m) (L:=[]) (g175_L0_X m) (l:=[]) kR (fun _ _=>trivial) (fun n x=>kR) (fun _=>kR) n
theorem g175_ok (m:Nat):FunOK Tryz.prog (g175_T m):=
 fok hmix htt (H:=g175_H) (g175_T m) Tryz.func175 kR (g175_K m) (L:=[(g175_L0_X m).at m]) (l:=[(0,g175_B0)]) kR (fun _ hE _ _=>⟨qg ⟨yb (g175_L0_ok hE m m),trivial⟩,trivial⟩) (fun x=>kR)
def g161_H:Hints:=⟨[⟨[],[1,2,4]⟩,⟨[(2,1)],[1,2,4,14]⟩,⟨[],[4,5]⟩,⟨[],[1,2,4,6]⟩,⟨[],[1,2,4,6,20]⟩,⟨[(2,1),(3,1)],[4,5]⟩,⟨[(0,1),(1,1),(4,1)],[2,4,7,8]⟩,⟨[(2,1),(3,1)],[2,4,7,38]⟩,⟨[(0,1)],[2,4,7]⟩,⟨[(2,1)],[4,5]⟩],[],[],[4,5],[],[[false,false],[false]]⟩
def g161_T (m:Nat):FunT:=⟨161,[.a (.agg [.bool,(.imm (.int .u32))]),sI],.tup [(.agg [.bool,(.imm (.int .u32))]),(.c (.int .i64))],[sD,sD],fun(x:(Bool×List Int×Unit)×Int×Unit)=>g161 m x.1.1 x.1.2.1 x.2.1⟩
theorem g161_ok (m:Nat):FunOK Tryz.prog (g161_T m):=
 fok hmix htt (H:=g161_H) (g161_T m) Tryz.func161 kR (AllF.mem (l:=[g139_T m,g173_T m,g127_T m,g174_T m,g175_T m]) ⟨g139_ok m,g173_ok m,g127_ok m,g174_ok m,g175_ok m,trivial⟩) (L:=[]) (l:=[]) kR (fun _ hE _ _=>trivial) (fun x=>kR)
def g126_H:Hints:=⟨[⟨[],[1,2,4]⟩,⟨[],[1,2,4,6]⟩,⟨[(2,1)],[1,2,4]⟩,⟨[(0,1)],[1,2,4]⟩,⟨[(1,1),(4,1)],[2,4]⟩,⟨[],[4]⟩],[(0,[1,2,4])],[(0,[1,2,4]),(1,[1,2,4])],[4],[],[[false,false]]⟩
def g126_T (m:Nat):FunT:=⟨126,[.a (.agg [.bool,(.imm (.int .u32))]),sI],.a (.agg [.bool,(.imm (.int .u32))]),[sD,sD],fun(x:(Bool×List Int×Unit)×Int×Unit)=>g126 m x.1.1 x.1.2.1 x.2.1⟩
noncomputable def g126_C:Code:=codeOf Tryz.f126
noncomputable def g126_B0:Code:=qm g126_C 0 0
theorem g126_K (m:Nat): ∀u∈[g161_T m],FunOK Tryz.prog u:=AllF.mem ⟨g161_ok m,trivial⟩
def g126_L0_X (m:Nat):LT:=⟨0,[(1,sI),(2,.a (.bx 0 [.bool,(.imm (.int .u32))])),(4,.a (.bx 1 [.bool,(.nm 2 (.int .u32))]))],[(.exit 0,[(1,sI),(2,.a (.bx 0 [.bool,(.imm (.int .u32))])),(4,.a (.bx 1 [.bool,(.nm 2 (.int .u32))]))])],fun n (x:Int×(Bool×List Int×Unit)×(Bool×List Int×Unit)×Unit)=>g126_L0 m n x.1 x.2.1.1 x.2.1.2.1 x.2.2.1.1 x.2.2.1.2.1⟩
theorem g126_L0_ok {E:Entry} (hE:EOf Tryz.prog E 22 g126_H.pins) (m:Nat) (n:Nat):ql Tryz.prog E g126_B0 ((g126_L0_X m).at n):=
 lok hmix htt hE (g126_K m) (L:=[]) (g126_L0_X m) (l:=[]) kR (fun _ _=>trivial) (fun n x=>kR) (fun _=>kR) n
theorem g126_ok (m:Nat):FunOK Tryz.prog (g126_T m):=
 fok hmix htt (H:=g126_H) (g126_T m) Tryz.func126 kR (g126_K m) (L:=[(g126_L0_X m).at m]) (l:=[(0,g126_B0)]) kR (fun _ hE _ _=>⟨qg ⟨yb (g126_L0_ok hE m m),trivial⟩,trivial⟩) (fun x=>kR)
def g78_H:Hints:=⟨[⟨[],[1,2]⟩,⟨[],[1,2,7]⟩,⟨[],[2,3]⟩,⟨[],[1,2,4]⟩,⟨[],[1,2,4,14]⟩,⟨[],[2,3]⟩,⟨[],[1,2,4,5]⟩,⟨[(6,1)],[1,2,4,5,30]⟩,⟨[],[2,3]⟩,⟨[],[2,3]⟩],[],[],[2,3],[],[[false,false,false,false],[false]]⟩
def g78_T (m:Nat):FunT:=⟨78,[.a (.agg [.bool,.bool,(.imm (.int .u32)),(.int .i64)])],.tup [(.agg [.bool,.bool,(.imm (.int .u32)),(.int .i64)]),(.c .bool)],[sD],fun(x:(Bool×Bool×List Int×Int×Unit)×Unit)=>g78 m x.1.1 x.1.2.1 x.1.2.2.1 x.1.2.2.2.1⟩
theorem g78_ok (m:Nat):FunOK Tryz.prog (g78_T m):=
 fok hmix htt (H:=g78_H) (g78_T m) Tryz.func78 kR (AllF.mem (l:=[g79_T m,g123_T m,g97_T m,g124_T m,g125_T m,g126_T m]) ⟨g79_ok m,g123_ok m,g97_ok m,g124_ok m,g125_ok m,g126_ok m,trivial⟩) (L:=[]) (l:=[]) kR (fun _ hE _ _=>trivial) (fun x=>kR)
def g80_H:Hints:=⟨[⟨[],[1,2,4]⟩,⟨[(1,1),(4,1)],[4,5]⟩,⟨[],[4]⟩],[],[],[4],[],[[false,false,false,false]]⟩
def g80_T (m:Nat):FunT:=⟨80,[.a (.agg [.bool,(.imm (.int .u32))]),sI],.a (.agg [.bool,.bool,(.imm (.int .u32)),(.int .i64)]),[sD,sD],fun(x:(Bool×List Int×Unit)×Int×Unit)=>g80 m x.1.1 x.1.2.1 x.2.1⟩
theorem g80_ok (m:Nat):FunOK Tryz.prog (g80_T m):=
 fok hmix htt (H:=g80_H) (g80_T m) Tryz.func80 kR (AllF.mem (l:=[g78_T m]) ⟨g78_ok m,trivial⟩) (L:=[]) (l:=[]) kR (fun _ hE _ _=>trivial) (fun x=>kR)
def g34_H:Hints:=⟨[⟨[],[0,2]⟩,⟨[(2,1)],[0,2,3,4]⟩,⟨[],[0,2,3,4,11]⟩,⟨[(0,1)],[0,2,3,4]⟩,⟨[(0,1)],[0,2,3,4]⟩,⟨[],[0,2,3,4,11,16]⟩,⟨[],[2]⟩,⟨[],[0,2,3,4,19]⟩,⟨[],[0,2,3,4]⟩,⟨[(0,1)],[0,2,3,5]⟩,⟨[(0,1)],[2,3,5,25]⟩,⟨[],[2,3,5]⟩,⟨[(1,1)],[2]⟩],[],[(0,[0,2,3,4])],[2],[],[[false,false,false,false]]⟩
def g34_T (m:Nat):FunT:=⟨34,[sU],.a (.agg [.bool,.bool,(.imm (.int .u32)),(.int .i64)]),[sD],fun(x:Int×Unit)=>g34 m x.1⟩
theorem g34_ok (m:Nat):FunOK Tryz.prog (g34_T m):=
 fok hmix htt (H:=g34_H) (g34_T m) Tryz.func34 kR (AllF.mem (l:=[g77_T m,g81_T m,g82_T m,g83_T m,g80_T m]) ⟨g77_ok m,g81_ok m,g82_ok m,g83_ok m,g80_ok m,trivial⟩) (L:=[]) (l:=[]) kR (fun _ hE _ _=>trivial) (fun x=>kR)
def g136_H:Hints:=⟨[⟨[],[1]⟩,⟨[(2,1)],[1,4]⟩,⟨[(0,1),(2,1)],[1,17]⟩,⟨[],[2,3]⟩,⟨[],[2,3]⟩],[],[],[2,3],[],[[false],[false]]⟩
def g136_T (m:Nat):FunT:=⟨136,[.a (.agg [.bool,.bool,(.imm (.int .u32)),(.int .i64)])],.tup [(.c (.int .i64)),(.c .bool)],[sD],fun(x:(Bool×Bool×List Int×Int×Unit)×Unit)=>g136 m x.1.1 x.1.2.1 x.1.2.2.1 x.1.2.2.2.1⟩
theorem g136_ok (m:Nat):FunOK Tryz.prog (g136_T m):=
 fok hmix htt (H:=g136_H) (g136_T m) Tryz.func136 kR (AllF.mem (l:=[g78_T m,g97_T m,g125_T m]) ⟨g78_ok m,g97_ok m,g125_ok m,trivial⟩) (L:=[]) (l:=[]) kR (fun _ hE _ _=>trivial) (fun x=>kR)
def g88_H:Hints:=⟨[⟨[],[0]⟩,⟨[(0,1)],[2,3]⟩],[],[],[2,3],[],[[false],[false]]⟩
def g88_T (m:Nat):FunT:=⟨88,[sU],.tup [(.c (.int .i64)),(.c .bool)],[sD],fun(x:Int×Unit)=>g88 m x.1⟩
theorem g88_ok (m:Nat):FunOK Tryz.prog (g88_T m):=
 fok hmix htt (H:=g88_H) (g88_T m) Tryz.func88 kR (AllF.mem (l:=[g34_T m,g136_T m]) ⟨g34_ok m,g136_ok m,trivial⟩) (L:=[]) (l:=[]) kR (fun _ hE _ _=>trivial) (fun x=>kR)
def g39_H:Hints:=⟨[⟨[],[1]⟩,⟨[(2,4)],[1,3]⟩,⟨[],[3,12,13,14]⟩,⟨[],[3,12,13,14,15]⟩,⟨[],[3,5,12,13,14]⟩,⟨[(3,1)],[3,5,6,7,12,13,14]⟩,⟨[(0,1)],[3,5,6,12,13,14,24]⟩,⟨[(7,4),(10,1),(15,4)],[3,12,13,14]⟩,⟨[(1,1)],[3,12,13,14]⟩,⟨[(0,1)],[2]⟩],[(0,[3,12,13,14])],[(0,[3]),(1,[3,12,13,14])],[2],[],[[false]]⟩
def g39_T (m:Nat):FunT:=⟨39,[.a (.agg [(.int .i64),(.int .i64),(.imm (.int .i64)),(.imm (.int .i64)),(.imm (.int .u64))])],.a (.c (.imm (.sl false (.pr (.int .i64) (.int .i64))))),[sD],fun(x:(Int×Int×List Int×List Int×List Int×Unit)×Unit)=>g39 m x.1.1 x.1.2.1 x.1.2.2.1 x.1.2.2.2.1 x.1.2.2.2.2.1⟩
noncomputable def g39_C:Code:=codeOf Tryz.f39
noncomputable def g39_B0:Code:=qm g39_C 0 0
theorem g39_K (m:Nat): ∀u∈[g87_T m,g88_T m],FunOK Tryz.prog u:=AllF.mem ⟨g87_ok m,g88_ok m,trivial⟩
def g39_L0_X (m:Nat):LT:=⟨0,[(3,.a (.c (.dp 0 (.pr (.int .i64) (.int .i64))))),(12,.a (.c (.nm 1 (.pr (.int .i64) (.pr (.int .i64) (.int .u64)))))),(13,sI),(14,sI)],[(.exit 0,[(3,.a (.c (.dp 0 (.pr (.int .i64) (.int .i64)))))])],fun n (x:(List (List (Int×Int)))×(List (Int×Int×Int))×Int×Int×Unit)=>g39_L0 m n x.1 x.2.1 x.2.2.1 x.2.2.2.1⟩
theorem g39_L0_ok {E:Entry} (hE:EOf Tryz.prog E 42 g39_H.pins) (m:Nat) (n:Nat):ql Tryz.prog E g39_B0 ((g39_L0_X m).at n):=
 lok hmix htt hE (g39_K m) (L:=[]) (g39_L0_X m) (l:=[]) kR (fun _ _=>trivial) (fun n x=>kR) (fun _=>kR) n
theorem g39_ok (m:Nat):FunOK Tryz.prog (g39_T m):=
 fok hmix htt (H:=g39_H) (g39_T m) Tryz.func39 kR (g39_K m) (L:=[(g39_L0_X m).at m]) (l:=[(0,g39_B0)]) kR (fun _ hE _ _=>⟨qg ⟨yb (g39_L0_ok hE m m),trivial⟩,trivial⟩) (fun x=>kR)
def g85_H:Hints:=⟨[⟨[],[0,1]⟩,⟨[(0,1)],[1,5]⟩,⟨[],[1,5,10,11]⟩,⟨[],[1,5,10,11,12]⟩,⟨[],[1,5,6,10,11]⟩,⟨[(1,1)],[1,5,10,11]⟩,⟨[(1,1)],[1,5,10,11]⟩,⟨[(0,1)],[4]⟩],[(0,[1,5,10,11])],[(0,[5]),(1,[1,5,10,11])],[4],[],[[true]]⟩
def g85_T (m:Nat):FunT:=⟨85,[sI,sI],.a (.c (.nm 0 (.int .i64))),[sD,sD],fun(x:Int×Int×Unit)=>g85 m x.1 x.2.1⟩
noncomputable def g85_C:Code:=codeOf Tryz.f85
noncomputable def g85_B0:Code:=qm g85_C 0 0
def g85_L0_X (m:Nat):LT:=⟨0,[(1,sI),(5,.a (.c (.nm 0 (.int .i64)))),(10,sI),(11,sI)],[(.exit 0,[(5,.a (.c (.nm 0 (.int .i64))))])],fun n (x:Int×List Int×Int×Int×Unit)=>g85_L0 m n x.1 x.2.1 x.2.2.1 x.2.2.2.1⟩
theorem g85_L0_ok {E:Entry} (hE:EOf Tryz.prog E 20 g85_H.pins) (m:Nat) (n:Nat):ql Tryz.prog E g85_B0 ((g85_L0_X m).at n):=
 lok hmix htt hE noF (L:=[]) (g85_L0_X m) (l:=[]) kR (fun _ _=>trivial) (fun n x=>kR) (fun _=>kR) n
theorem g85_ok (m:Nat):FunOK Tryz.prog (g85_T m):=
 fok hmix htt (H:=g85_H) (g85_T m) Tryz.func85 kR noF (L:=[(g85_L0_X m).at m]) (l:=[(0,g85_B0)]) kR (fun _ hE _ _=>⟨qg ⟨yb (g85_L0_ok hE m m),trivial⟩,trivial⟩) (fun x=>kR)
def g134_H:Hints:=⟨[⟨[(4,1)],[0,2,3,4]⟩,⟨[(0,1)],[0,2,4,23,24,25]⟩,⟨[],[0,2,4,23,24,25,26]⟩,⟨[],[0,2,4,10,11,23,24,25]⟩,⟨[(0,1)],[0,2,4,10,23,24,25,30]⟩,⟨[],[0,2,4,10,23,24,25]⟩,⟨[],[0,2,4,10,12,23,24,25]⟩,⟨[],[0,2,4,10,12,23,24,25,54]⟩,⟨[(4,1),(9,1)],[0,2,4,23,24,25]⟩,⟨[(1,1)],[0,2,4,23,24,25]⟩],[(0,[0,2,4,23,24,25])],[(0,[0]),(1,[0,2,4,23,24,25])],[0],[0],[]⟩
def g134_T (m:Nat):FunT:=⟨134,[.a (.bx 0 [(.imm (.sl false (.pr (.int .i64) (.int .i64)))),(.nm 1 (.int .i64)),(.nm 2 (.int .i64)),(.nm 3 (.int .i64)),(.nm 4 (.int .i64))]),sI,sL,.a (.c (.imm .bool)),sI],.tup [],[.a (.bx 0 [(.imm (.sl false (.pr (.int .i64) (.int .i64)))),(.nm 1 (.int .i64)),(.nm 2 (.int .i64)),(.nm 3 (.int .i64)),(.nm 4 (.int .i64))]),sD,sD,sD,sD],fun(x:((List (List (Int×Int)))×List Int×List Int×List Int×List Int×Unit)×Int×List Int×List Bool×Int×Unit)=>g134 m x.1.1 x.1.2.1 x.1.2.2.1 x.1.2.2.2.1 x.1.2.2.2.2.1 x.2.1 x.2.2.1 x.2.2.2.1 x.2.2.2.2.1⟩
noncomputable def g134_C:Code:=codeOf Tryz.f134
noncomputable def g134_B0:Code:=qm g134_C 0 0
def g134_L0_X (m:Nat):LT:=⟨0,[(0,.a (.bx 0 [(.imm (.sl false (.pr (.int .i64) (.int .i64)))),(.nm 1 (.int .i64)),(.nm 2 (.int .i64)),(.nm 3 (.int .i64)),(.nm 4 (.int .i64))])),(2,sL),(4,sI),(23,.a (.c (.imm .bool))),(24,sI),(25,sI)],[(.exit 0,[(0,.a (.bx 0 [(.imm (.sl false (.pr (.int .i64) (.int .i64)))),(.nm 1 (.int .i64)),(.nm 2 (.int .i64)),(.nm 3 (.int .i64)),(.nm 4 (.int .i64))]))])],fun n (x:((List (List (Int×Int)))×List Int×List Int×List Int×List Int×Unit)×List Int×Int×List Bool×Int×Int×Unit)=>g134_L0 m n x.1.1 x.1.2.1 x.1.2.2.1 x.1.2.2.2.1 x.1.2.2.2.2.1 x.2.1 x.2.2.1 x.2.2.2.1 x.2.2.2.2.1 x.2.2.2.2.2.1⟩
theorem g134_L0_ok {E:Entry} (hE:EOf Tryz.prog E 71 g134_H.pins) (m:Nat) (n:Nat):ql Tryz.prog E g134_B0 ((g134_L0_X m).at n):=
 lok hmix htt hE noF (L:=[]) (g134_L0_X m) (l:=[]) kR (fun _ _=>trivial) (fun n x=>kR) (fun _=>kR) n
theorem g134_ok (m:Nat):FunOK Tryz.prog (g134_T m):=
 fok hmix htt (H:=g134_H) (g134_T m) Tryz.func134 kR noF (L:=[(g134_L0_X m).at m]) (l:=[(0,g134_B0)]) kR (fun _ hE _ _=>⟨qg ⟨yb (g134_L0_ok hE m m),trivial⟩,trivial⟩) (fun x=>kR)
def g135_H:Hints:=⟨[⟨[],[0,1,2,3,8]⟩,⟨[],[0,1,2,3,8,9]⟩,⟨[],[0,1,3,8,9]⟩,⟨[(0,1)],[0,1,3,9,37]⟩,⟨[(0,1)],[0,1,2,3]⟩],[(0,[0,1,2,3])],[(0,[0]),(1,[0,1,2,3])],[0],[0],[]⟩
def g135_T (m:Nat):FunT:=⟨135,[.a (.bx 0 [(.imm (.sl false (.pr (.int .i64) (.int .i64)))),(.nm 1 (.int .i64)),(.nm 2 (.int .i64)),(.nm 3 (.int .i64)),(.nm 4 (.int .i64))]),sI,sI,sL],.tup [],[.a (.bx 0 [(.imm (.sl false (.pr (.int .i64) (.int .i64)))),(.nm 1 (.int .i64)),(.nm 2 (.int .i64)),(.nm 3 (.int .i64)),(.nm 4 (.int .i64))]),sD,sD,sD],fun(x:((List (List (Int×Int)))×List Int×List Int×List Int×List Int×Unit)×Int×Int×List Int×Unit)=>g135 m x.1.1 x.1.2.1 x.1.2.2.1 x.1.2.2.2.1 x.1.2.2.2.2.1 x.2.1 x.2.2.1 x.2.2.2.1⟩
noncomputable def g135_C:Code:=codeOf Tryz.f135
noncomputable def g135_B0:Code:=qm g135_C 0 0
def g135_L0_X (m:Nat):LT:=⟨0,[(0,.a (.bx 0 [(.imm (.sl false (.pr (.int .i64) (.int .i64)))),(.nm 1 (.int .i64)),(.nm 2 (.int .i64)),(.nm 3 (.int .i64)),(.nm 4 (.int .i64))])),(1,sI),(2,sI),(3,sL)],[(.ret,[(0,.a (.bx 0 [(.imm (.sl false (.pr (.int .i64) (.int .i64)))),(.nm 1 (.int .i64)),(.nm 2 (.int .i64)),(.nm 3 (.int .i64)),(.nm 4 (.int .i64))]))])],fun n (x:((List (List (Int×Int)))×List Int×List Int×List Int×List Int×Unit)×Int×Int×List Int×Unit)=>g135_L0 m n x.1.1 x.1.2.1 x.1.2.2.1 x.1.2.2.2.1 x.1.2.2.2.2.1 x.2.1 x.2.2.1 x.2.2.2.1⟩
theorem g135_L0_ok {E:Entry} (hE:EOf Tryz.prog E 39 g135_H.pins) (m:Nat) (n:Nat):ql Tryz.prog E g135_B0 ((g135_L0_X m).at n):=
 lok hmix htt hE noF (L:=[]) (g135_L0_X m) (l:=[]) kR (fun _ _=>trivial) (fun n x=>kR) (fun _=>kR) n
theorem g135_ok (m:Nat):FunOK Tryz.prog (g135_T m):=
 fok hmix htt (H:=g135_H) (g135_T m) Tryz.func135 kR noF (L:=[(g135_L0_X m).at m]) (l:=[(0,g135_B0)]) kR (fun _ hE _ _=>⟨qg ⟨yb (g135_L0_ok hE m m),trivial⟩,trivial⟩) (fun x=>kR)
def g86_H:Hints:=⟨[⟨[],[0,1]⟩,⟨[],[0,1,5]⟩,⟨[],[0,1,5,6,7]⟩,⟨[],[0,1,5,6,7,8]⟩,⟨[],[0,1,5,6,7,8,9,10]⟩,⟨[],[0,1,5,6,7,8,9,10,34,35,36]⟩,⟨[],[0,1,5,6,7,8,9,10,34,35,36,37]⟩,⟨[],[0,1,5,6,7,8,9,10,12,34,35,36]⟩,⟨[],[0,1,5,6,7,8,9,10,12,13,34,35,36]⟩,⟨[(6,1)],[0,1,5,6,7,8,9,10,12,13,34,35,36,75]⟩,⟨[(6,1)],[0,1,5,6,7,8,9,10,34,35,36]⟩,⟨[(1,1)],[0,1,5,6,7,8,9,10,34,35,36]⟩,⟨[],[0,1,5,6,7,8,14]⟩,⟨[],[0,1,5,6,7,8,14,87,88]⟩,⟨[],[0,1,5,6,7,8,14,87,88,89]⟩,⟨[],[0,1,5,6,7,8,14,15,87,88]⟩,⟨[(5,1),(12,1),(15,1)],[0,1,5,6,7,8,14,15,87,88,117]⟩,⟨[(0,1)],[0,1,5,6,7,8,14,87,88]⟩,⟨[(1,1)],[0,1,5,6,7,8,14,87,88]⟩,⟨[],[0,1,5,6,7,8,14,121]⟩,⟨[],[0,4]⟩,⟨[],[0,1,5,6,7,8,10,14]⟩,⟨[],[0,1,5,6,7,8,10,14,136]⟩,⟨[(2,1),(3,1),(4,1)],[0,1,7,14]⟩,⟨[(1,1),(2,1),(3,1)],[0]⟩,⟨[],[0,4]⟩,⟨[(4,1)],[0,1,5,6,7,8,9,10]⟩],[(0,[0,1,5,6,7,8,9,10]),(2,[0,1,5,6,7,8,9,10,34,35,36]),(4,[0,1,5,6,7,8,14,87,88])],[(0,[0,4]),(1,[0,1,5,6,7,8,9,10]),(2,[0,1,5,6,7,8]),(3,[0,1,5,6,7,8,9,10,34,35,36]),(4,[0,1,5,6,7,8,14]),(5,[0,1,5,6,7,8,14,87,88])],[0,4],[0],[[false]]⟩
def g86_T (m:Nat):FunT:=⟨86,[.a (.bx 0 [(.imm (.sl false (.pr (.int .i64) (.int .i64)))),(.nm 1 (.int .i64)),(.nm 2 (.int .i64)),(.nm 3 (.int .i64)),(.nm 4 (.int .i64))]),sI],sB,[.a (.bx 0 [(.imm (.sl false (.pr (.int .i64) (.int .i64)))),(.nm 1 (.int .i64)),(.nm 2 (.int .i64)),(.nm 3 (.int .i64)),(.nm 4 (.int .i64))]),sD],fun(x:((List (List (Int×Int)))×List Int×List Int×List Int×List Int×Unit)×Int×Unit)=>g86 m x.1.1 x.1.2.1 x.1.2.2.1 x.1.2.2.2.1 x.1.2.2.2.2.1 x.2.1⟩
noncomputable def g86_C:Code:=codeOf Tryz.f86
noncomputable def g86_B0:Code:=qm g86_C 0 0
noncomputable def g86_B2:Code:=qm g86_B0 0 0
noncomputable def g86_B4:Code:=qm g86_B0 0 1
theorem g86_K (m:Nat): ∀u∈[g85_T m,g134_T m,g135_T m],FunOK Tryz.prog u:=AllF.mem ⟨g85_ok m,g134_ok m,g135_ok m,trivial⟩
def g86_L2_X (m:Nat):LT:=⟨4,[(0,.a (.bx 0 [(.imm (.sl false (.pr (.int .i64) (.int .i64)))),(.nm 1 (.int .i64)),(.nm 2 (.int .i64)),(.nm 3 (.int .i64)),(.nm 4 (.int .i64))])),(1,sI),(5,sI),(6,.a (.c (.nm 5 (.int .i64)))),(7,.a (.c (.nm 6 (.int .i64)))),(8,.a (.c (.nm 7 .bool))),(14,sI),(87,sI),(88,sI)],[(.exit 4,[(0,.a (.bx 0 [(.imm (.sl false (.pr (.int .i64) (.int .i64)))),(.nm 1 (.int .i64)),(.nm 2 (.int .i64)),(.nm 3 (.int .i64)),(.nm 4 (.int .i64))])),(1,sI),(5,sI),(6,.a (.c (.nm 5 (.int .i64)))),(7,.a (.c (.nm 6 (.int .i64)))),(8,.a (.c (.nm 7 .bool))),(14,sI)])],fun n (x:((List (List (Int×Int)))×List Int×List Int×List Int×List Int×Unit)×Int×Int×List Int×List Int×List Bool×Int×Int×Int×Unit)=>g86_L2 m n x.1.1 x.1.2.1 x.1.2.2.1 x.1.2.2.2.1 x.1.2.2.2.2.1 x.2.1 x.2.2.1 x.2.2.2.1 x.2.2.2.2.1 x.2.2.2.2.2.1 x.2.2.2.2.2.2.1 x.2.2.2.2.2.2.2.1 x.2.2.2.2.2.2.2.2.1⟩
theorem g86_L2_ok {E:Entry} (hE:EOf Tryz.prog E 155 g86_H.pins) (m:Nat) (n:Nat):ql Tryz.prog E g86_B4 ((g86_L2_X m).at n):=
 lok hmix htt hE (g86_K m) (L:=[]) (g86_L2_X m) (l:=[]) kR (fun _ _=>trivial) (fun n x=>kR) (fun _=>kR) n
def g86_L1_X (m:Nat):LT:=⟨2,[(0,.a (.bx 0 [(.imm (.sl false (.pr (.int .i64) (.int .i64)))),(.nm 1 (.int .i64)),(.nm 2 (.int .i64)),(.nm 3 (.int .i64)),(.nm 4 (.int .i64))])),(1,sI),(5,sI),(6,.a (.c (.nm 5 (.int .i64)))),(7,.a (.c (.nm 6 (.int .i64)))),(8,.a (.c (.nm 7 .bool))),(9,sI),(10,sI),(34,.a (.c (.imm (.pr (.int .i64) (.int .i64))))),(35,sI),(36,sI)],[(.exit 2,[(0,.a (.bx 0 [(.imm (.sl false (.pr (.int .i64) (.int .i64)))),(.nm 1 (.int .i64)),(.nm 2 (.int .i64)),(.nm 3 (.int .i64)),(.nm 4 (.int .i64))])),(1,sI),(5,sI),(6,.a (.c (.nm 5 (.int .i64)))),(7,.a (.c (.nm 6 (.int .i64)))),(8,.a (.c (.nm 7 .bool)))])],fun n (x:((List (List (Int×Int)))×List Int×List Int×List Int×List Int×Unit)×Int×Int×List Int×List Int×List Bool×Int×Int×(List (Int×Int))×Int×Int×Unit)=>g86_L1 m n x.1.1 x.1.2.1 x.1.2.2.1 x.1.2.2.2.1 x.1.2.2.2.2.1 x.2.1 x.2.2.1 x.2.2.2.1 x.2.2.2.2.1 x.2.2.2.2.2.1 x.2.2.2.2.2.2.1 x.2.2.2.2.2.2.2.1 x.2.2.2.2.2.2.2.2.1 x.2.2.2.2.2.2.2.2.2.1 x.2.2.2.2.2.2.2.2.2.2.1⟩
theorem g86_L1_ok {E:Entry} (hE:EOf Tryz.prog E 155 g86_H.pins) (m:Nat) (n:Nat):ql Tryz.prog E g86_B2 ((g86_L1_X m).at n):=
 lok hmix htt hE (g86_K m) (L:=[]) (g86_L1_X m) (l:=[]) kR (fun _ _=>trivial) (fun n x=>kR) (fun _=>kR) n
def g86_L0_X (m:Nat):LT:=⟨0,[(0,.a (.bx 0 [(.imm (.sl false (.pr (.int .i64) (.int .i64)))),(.nm 1 (.int .i64)),(.nm 2 (.int .i64)),(.nm 3 (.int .i64)),(.nm 4 (.int .i64))])),(1,sI),(5,sI),(6,.a (.c (.nm 5 (.int .i64)))),(7,.a (.c (.nm 6 (.int .i64)))),(8,.a (.c (.nm 7 .bool))),(9,sI),(10,sI)],[(.ret,[(0,.a (.bx 0 [(.imm (.sl false (.pr (.int .i64) (.int .i64)))),(.nm 1 (.int .i64)),(.nm 2 (.int .i64)),(.nm 3 (.int .i64)),(.nm 4 (.int .i64))])),(4,sB)])],fun n (x:((List (List (Int×Int)))×List Int×List Int×List Int×List Int×Unit)×Int×Int×List Int×List Int×List Bool×Int×Int×Unit)=>g86_L0 m n x.1.1 x.1.2.1 x.1.2.2.1 x.1.2.2.2.1 x.1.2.2.2.2.1 x.2.1 x.2.2.1 x.2.2.2.1 x.2.2.2.2.1 x.2.2.2.2.2.1 x.2.2.2.2.2.2.1 x.2.2.2.2.2.2.2.1⟩
theorem g86_L0_ok {E:Entry} (hE:EOf Tryz.prog E 155 g86_H.pins) (m:Nat) (n:Nat):ql Tryz.prog E g86_B0 ((g86_L0_X m).at n):=
 lok hmix htt hE (g86_K m) (L:=[(g86_L1_X m).at m,(g86_L2_X m).at m]) (g86_L0_X m) (l:=[(2,g86_B2),(4,g86_B4)]) kR (fun _ _=>⟨qg ⟨yb (g86_L1_ok hE m m),nb rfl,trivial⟩,qg ⟨nb rfl,yb (g86_L2_ok hE m m),trivial⟩,trivial⟩) (fun n x=>kR) (fun _=>kR) n
theorem g86_ok (m:Nat):FunOK Tryz.prog (g86_T m):=
 fok hmix htt (H:=g86_H) (g86_T m) Tryz.func86 kR (g86_K m) (L:=[(g86_L0_X m).at m]) (l:=[(0,g86_B0)]) kR (fun _ hE _ _=>⟨qg ⟨yb (g86_L0_ok hE m m),trivial⟩,trivial⟩) (fun x=>kR)
def g38_H:Hints:=⟨[⟨[],[0]⟩,⟨[],[0,4]⟩,⟨[],[0,4,5]⟩,⟨[(0,1)],[4,5,24,25,26]⟩,⟨[],[4,5,24,25,26,27]⟩,⟨[],[4,5,6,7,24,25,26]⟩,⟨[],[4,5,6,7,24,25,26,33]⟩,⟨[],[2,3]⟩,⟨[],[4,5,6,7,24,25,26]⟩,⟨[(0,1)],[4,5,6,24,25,26,44,45,46]⟩,⟨[],[4,5,6,24,25,26,44,45,46,47]⟩,⟨[],[4,5,6,9,24,25,26,44,45,46]⟩,⟨[],[4,5,6,24,25,26,44,45,46]⟩,⟨[(1,1)],[4,5,6,24,25,26,44,45,46]⟩,⟨[(1,1)],[4,5,24,25,26]⟩,⟨[(0,1)],[5,68,69]⟩,⟨[],[5,68,69,70]⟩,⟨[],[5,10,68,69]⟩,⟨[(1,1)],[5,68,69,75]⟩,⟨[],[2,3]⟩,⟨[(1,1)],[5,68,69]⟩,⟨[(0,1)],[2,3]⟩],[(0,[4,5,24,25,26]),(2,[4,5,6,24,25,26,44,45,46]),(4,[5,68,69])],[(0,[4,5]),(1,[4,5,24,25,26]),(2,[4,5,24,25,26]),(3,[4,5,6,24,25,26,44,45,46]),(4,[5]),(5,[5,68,69])],[2,3],[],[[false,true,true,true,true],[false]]⟩
def g38_T (m:Nat):FunT:=⟨38,[.a (.c (.imm (.sl false (.pr (.int .i64) (.int .i64)))))],.altT [(.c .nilp),(.c (.bconst false))] [(.bx 0 [(.imm (.sl false (.pr (.int .i64) (.int .i64)))),(.nm 1 (.int .i64)),(.nm 2 (.int .i64)),(.nm 3 (.int .i64)),(.nm 4 (.int .i64))]),(.c (.bconst true))],[sD],fun(x:(List (List (Int×Int)))×Unit)=>g38 m x.1⟩
noncomputable def g38_C:Code:=codeOf Tryz.f38
noncomputable def g38_B0:Code:=qm g38_C 0 0
noncomputable def g38_B2:Code:=qm g38_B0 0 0
noncomputable def g38_B4:Code:=qm g38_C 0 1
theorem g38_K (m:Nat): ∀u∈[g85_T m,g86_T m],FunOK Tryz.prog u:=AllF.mem ⟨g85_ok m,g86_ok m,trivial⟩
def g38_L2_X (m:Nat):LT:=⟨4,[(5,.a (.bx 0 [(.imm (.sl false (.pr (.int .i64) (.int .i64)))),(.nm 1 (.int .i64)),(.nm 2 (.int .i64)),(.nm 3 (.int .i64)),(.nm 4 (.int .i64))])),(68,sI),(69,sI)],[(.ret,[(2,.a (.c .nilp)),(3,.a (.c (.bconst false)))]),(.exit 4,[(5,.a (.bx 0 [(.imm (.sl false (.pr (.int .i64) (.int .i64)))),(.nm 1 (.int .i64)),(.nm 2 (.int .i64)),(.nm 3 (.int .i64)),(.nm 4 (.int .i64))]))])],fun n (x:((List (List (Int×Int)))×List Int×List Int×List Int×List Int×Unit)×Int×Int×Unit)=>g38_L2 m n x.1.1 x.1.2.1 x.1.2.2.1 x.1.2.2.2.1 x.1.2.2.2.2.1 x.2.1 x.2.2.1⟩
theorem g38_L2_ok {E:Entry} (hE:EOf Tryz.prog E 78 g38_H.pins) (m:Nat) (n:Nat):ql Tryz.prog E g38_B4 ((g38_L2_X m).at n):=
 lok hmix htt hE (g38_K m) (L:=[]) (g38_L2_X m) (l:=[]) kR (fun _ _=>trivial) (fun n x=>kR) (fun _=>kR) n
def g38_L1_X (m:Nat):LT:=⟨2,[(4,sI),(5,.a (.bx 0 [(.imm (.sl false (.pr (.int .i64) (.int .i64)))),(.nm 1 (.int .i64)),(.nm 2 (.int .i64)),(.nm 3 (.int .i64)),(.nm 4 (.int .i64))])),(6,sI),(24,.a (.c (.imm (.sl false (.pr (.int .i64) (.int .i64)))))),(25,sI),(26,sI),(44,.a (.c (.imm (.pr (.int .i64) (.int .i64))))),(45,sI),(46,sI)],[(.exit 2,[(4,sI),(5,.a (.bx 0 [(.imm (.sl false (.pr (.int .i64) (.int .i64)))),(.nm 1 (.int .i64)),(.nm 2 (.int .i64)),(.nm 3 (.int .i64)),(.nm 4 (.int .i64))])),(24,.a (.c (.imm (.sl false (.pr (.int .i64) (.int .i64)))))),(25,sI),(26,sI)])],fun n (x:Int×((List (List (Int×Int)))×List Int×List Int×List Int×List Int×Unit)×Int×(List (List (Int×Int)))×Int×Int×(List (Int×Int))×Int×Int×Unit)=>g38_L1 m n x.1 x.2.1.1 x.2.1.2.1 x.2.1.2.2.1 x.2.1.2.2.2.1 x.2.1.2.2.2.2.1 x.2.2.1 x.2.2.2.1 x.2.2.2.2.1 x.2.2.2.2.2.1 x.2.2.2.2.2.2.1 x.2.2.2.2.2.2.2.1 x.2.2.2.2.2.2.2.2.1⟩
theorem g38_L1_ok {E:Entry} (hE:EOf Tryz.prog E 78 g38_H.pins) (m:Nat) (n:Nat):ql Tryz.prog E g38_B2 ((g38_L1_X m).at n):=
 lok hmix htt hE (g38_K m) (L:=[]) (g38_L1_X m) (l:=[]) kR (fun _ _=>trivial) (fun n x=>kR) (fun _=>kR) n
def g38_L0_X (m:Nat):LT:=⟨0,[(4,sI),(5,.a (.bx 0 [(.imm (.sl false (.pr (.int .i64) (.int .i64)))),(.nm 1 (.int .i64)),(.nm 2 (.int .i64)),(.nm 3 (.int .i64)),(.nm 4 (.int .i64))])),(24,.a (.c (.imm (.sl false (.pr (.int .i64) (.int .i64)))))),(25,sI),(26,sI)],[(.ret,[(2,.a (.c .nilp)),(3,.a (.c (.bconst false)))]),(.exit 0,[(4,sI),(5,.a (.bx 0 [(.imm (.sl false (.pr (.int .i64) (.int .i64)))),(.nm 1 (.int .i64)),(.nm 2 (.int .i64)),(.nm 3 (.int .i64)),(.nm 4 (.int .i64))]))])],fun n (x:Int×((List (List (Int×Int)))×List Int×List Int×List Int×List Int×Unit)×(List (List (Int×Int)))×Int×Int×Unit)=>g38_L0 m n x.1 x.2.1.1 x.2.1.2.1 x.2.1.2.2.1 x.2.1.2.2.2.1 x.2.1.2.2.2.2.1 x.2.2.1 x.2.2.2.1 x.2.2.2.2.1⟩
theorem g38_L0_ok {E:Entry} (hE:EOf Tryz.prog E 78 g38_H.pins) (m:Nat) (n:Nat):ql Tryz.prog E g38_B0 ((g38_L0_X m).at n):=
 lok hmix htt hE (g38_K m) (L:=[(g38_L1_X m).at m]) (g38_L0_X m) (l:=[(2,g38_B2)]) kR (fun _ _=>⟨qg ⟨yb (g38_L1_ok hE m m),trivial⟩,trivial⟩) (fun n x=>kR) (fun _=>kR) n
theorem g38_ok (m:Nat):FunOK Tryz.prog (g38_T m):=
 fok hmix htt (H:=g38_H) (g38_T m) Tryz.func38 kR (g38_K m) (L:=[(g38_L0_X m).at m,(g38_L2_X m).at m]) (l:=[(0,g38_B0),(4,g38_B4)]) kR (fun _ hE _ _=>⟨qg ⟨yb (g38_L0_ok hE m m),nb rfl,trivial⟩,qg ⟨nb rfl,yb (g38_L2_ok hE m m),trivial⟩,trivial⟩) (fun x=>kR)
def g89_H:Hints:=⟨[⟨[],[0,1,2,3,4,5]⟩,⟨[],[0,1,2,3,4,5,18,19,20]⟩,⟨[],[0,1,2,3,4,5,18,19,20,21]⟩,⟨[],[0,1,2,3,4,5,14,18,19,20]⟩,⟨[],[0,1,2,3,4,5,14,18,19,20,27]⟩,⟨[(3,1)],[0,1,2,3,4,5,14,18,19,20,41]⟩,⟨[],[0,1,2,3,4,5,14,18,19,20]⟩,⟨[(3,1),(16,16)],[0,1,2,3,4,5,14,18,19,20,62]⟩,⟨[],[0,5]⟩,⟨[],[0,5,12]⟩,⟨[(1,1)],[0,1,2,3,4,5,18,19,20]⟩,⟨[],[0,5,12]⟩],[(0,[0,1,2,3,4,5,18,19,20])],[(0,[0,5]),(1,[0,1,2,3,4,5,18,19,20])],[0,5,12],[0,5],[[false]]⟩
def g89_T (m:Nat):FunT:=⟨89,[.a (.bx 0 [(.imm (.sl false (.pr (.int .i64) (.int .i64)))),(.nm 1 (.int .i64)),(.nm 2 (.int .i64)),(.nm 3 (.int .i64)),(.nm 4 (.int .i64))]),.a (.c (.imm (.sl false (.int .i64)))),sI,sI,sI,.a (.c (.nm 5 .bool))],sB,[.a (.bx 0 [(.imm (.sl false (.pr (.int .i64) (.int .i64)))),(.nm 1 (.int .i64)),(.nm 2 (.int .i64)),(.nm 3 (.int .i64)),(.nm 4 (.int .i64))]),sD,sD,sD,sD,.a (.c (.nm 5 .bool))],fun(x:((List (List (Int×Int)))×List Int×List Int×List Int×List Int×Unit)×List (List Int)×Int×Int×Int×List Bool×Unit)=>g89 m x.1.1 x.1.2.1 x.1.2.2.1 x.1.2.2.2.1 x.1.2.2.2.2.1 x.2.1 x.2.2.1 x.2.2.2.1 x.2.2.2.2.1 x.2.2.2.2.2.1⟩
noncomputable def g89_C:Code:=codeOf Tryz.f89
noncomputable def g89_B0:Code:=qm g89_C 0 0
theorem g89_K (m:Nat) (hself:FunOK Tryz.prog (g89_T m)): ∀u∈[g89_T m],FunOK Tryz.prog u:=AllF.mem ⟨hself,trivial⟩
def g89_L0_X (m:Nat):LT:=⟨0,[(0,.a (.bx 0 [(.imm (.sl false (.pr (.int .i64) (.int .i64)))),(.nm 1 (.int .i64)),(.nm 2 (.int .i64)),(.nm 3 (.int .i64)),(.nm 4 (.int .i64))])),(1,.a (.c (.imm (.sl false (.int .i64))))),(2,sI),(3,sI),(4,sI),(5,.a (.c (.nm 5 .bool))),(18,sL),(19,sI),(20,sI)],[(.ret,[(0,.a (.bx 0 [(.imm (.sl false (.pr (.int .i64) (.int .i64)))),(.nm 1 (.int .i64)),(.nm 2 (.int .i64)),(.nm 3 (.int .i64)),(.nm 4 (.int .i64))])),(5,.a (.c (.nm 5 .bool))),(12,sB)]),(.exit 0,[(0,.a (.bx 0 [(.imm (.sl false (.pr (.int .i64) (.int .i64)))),(.nm 1 (.int .i64)),(.nm 2 (.int .i64)),(.nm 3 (.int .i64)),(.nm 4 (.int .i64))])),(5,.a (.c (.nm 5 .bool)))])],fun n (x:((List (List (Int×Int)))×List Int×List Int×List Int×List Int×Unit)×List (List Int)×Int×Int×Int×List Bool×List Int×Int×Int×Unit)=>g89_L0 (fun a0 a1 a2 a3 a4 a5 a6 a7 a8 a9=>g89 m a0 a1 a2 a3 a4 a5 a6 a7 a8 a9) m n x.1.1 x.1.2.1 x.1.2.2.1 x.1.2.2.2.1 x.1.2.2.2.2.1 x.2.1 x.2.2.1 x.2.2.2.1 x.2.2.2.2.1 x.2.2.2.2.2.1 x.2.2.2.2.2.2.1 x.2.2.2.2.2.2.2.1 x.2.2.2.2.2.2.2.2.1⟩
theorem g89_L0_ok {E:Entry} (hE:EOf Tryz.prog E 78 g89_H.pins) (m:Nat) (hself:FunOK Tryz.prog (g89_T m)) (n:Nat):ql Tryz.prog E g89_B0 ((g89_L0_X m).at n):=
 lok hmix htt hE (g89_K m hself) (L:=[]) (g89_L0_X m) (l:=[]) kR (fun _ _=>trivial) (fun n x=>kR) (fun _=>kR) n
theorem g89_ok: ∀m:Nat,FunOK Tryz.prog (g89_T m)
 |0=>fun _ _ h=>by cases h
 |m+1=>by
  have hself:=g89_ok m
  exact fok hmix htt (H:=g89_H) (g89_T (m+1)) Tryz.func89 kR (g89_K m hself) (L:=[(g89_L0_X m).at m]) (l:=[(0,g89_B0)]) kR (fun _ hE _ _=>⟨qg ⟨yb (g89_L0_ok hE m hself m),trivial⟩,trivial⟩) (fun x=>kR)
def g40_H:Hints:=⟨[⟨[(5,4)],[0,2]⟩,⟨[],[0,2,21,22,23]⟩,⟨[],[0,2,21,22,23,24]⟩,⟨[],[0,2,3,4,21,22,23]⟩,⟨[(0,1)],[0,2,3,21,22,23,28,29,30]⟩,⟨[],[0,2,3,21,22,23,28,29,30,31]⟩,⟨[],[0,2,3,6,21,22,23,28,29,30]⟩,⟨[],[0,2,3,6,21,22,23,28,29,30,52]⟩,⟨[(5,4),(11,4)],[0,2,3,21,22,23,28,29,30]⟩,⟨[(1,1)],[0,2,3,21,22,23,28,29,30]⟩,⟨[(1,1)],[0,2,21,22,23]⟩,⟨[(0,2)],[0,2,67,68]⟩,⟨[],[0,2,67,68,69]⟩,⟨[],[0,2,7,67,68]⟩,⟨[(0,2)],[0,2,7,67,68,74,75,76]⟩,⟨[],[0,2,7,67,68,74,75,76,77]⟩,⟨[],[0,2,7,9,67,68,74,75,76]⟩,⟨[],[0,2,7,9,67,68,74,75,76,88]⟩,⟨[],[0,2,7,9,10,67,68,74,75,76]⟩,⟨[],[0,2,7,9,10,67,68,74,75,76,98]⟩,⟨[],[0,2,7,9,10,11,67,68,74,75,76]⟩,⟨[],[0,2,7,9,10,11,67,68,74,75,76]⟩,⟨[(1,2),(2,1),(11,1),(12,16)],[0,2,7,9,67,68,74,75,76,117]⟩,⟨[],[0,2,67,68]⟩,⟨[(1,1)],[0,2,7,67,68,74,75,76]⟩,⟨[(1,1)],[0,2,67,68]⟩],[(0,[0,2,21,22,23]),(2,[0,2,3,21,22,23,28,29,30]),(4,[0,2,67,68]),(6,[0,2,7,67,68,74,75,76])],[(0,[0,2]),(1,[0,2,21,22,23]),(2,[0,2,21,22,23]),(3,[0,2,3,21,22,23,28,29,30]),(4,[0]),(5,[0,2,67,68]),(6,[0,2,67,68]),(7,[0,2,7,67,68,74,75,76])],[0],[0],[]⟩
def g40_T (m:Nat):FunT:=⟨40,[.a (.bx 0 [(.imm (.sl false (.pr (.int .i64) (.int .i64)))),(.nm 1 (.int .i64)),(.nm 2 (.int .i64)),(.nm 3 (.int .i64)),(.nm 4 (.int .i64))])],.tup [],[.a (.bx 0 [(.imm (.sl false (.pr (.int .i64) (.int .i64)))),(.nm 1 (.int .i64)),(.nm 2 (.int .i64)),(.nm 3 (.int .i64)),(.nm 4 (.int .i64))])],fun(x:((List (List (Int×Int)))×List Int×List Int×List Int×List Int×Unit)×Unit)=>g40 m x.1.1 x.1.2.1 x.1.2.2.1 x.1.2.2.2.1 x.1.2.2.2.2.1⟩
noncomputable def g40_C:Code:=codeOf Tryz.f40
noncomputable def g40_B0:Code:=qm g40_C 0 0
noncomputable def g40_B2:Code:=qm g40_B0 0 0
noncomputable def g40_B4:Code:=qm g40_C 0 1
noncomputable def g40_B6:Code:=qm g40_B4 4 0
theorem g40_K (m:Nat): ∀u∈[g89_T m],FunOK Tryz.prog u:=AllF.mem ⟨g89_ok m,trivial⟩
def g40_L3_X (m:Nat):LT:=⟨6,[(0,.a (.bx 0 [(.imm (.sl false (.pr (.int .i64) (.int .i64)))),(.nm 1 (.int .i64)),(.nm 2 (.int .i64)),(.nm 3 (.int .i64)),(.nm 4 (.int .i64))])),(2,.a (.c (.imm (.sl false (.int .i64))))),(7,sI),(67,sI),(68,sI),(74,sL),(75,sI),(76,sI)],[(.exit 6,[(0,.a (.bx 0 [(.imm (.sl false (.pr (.int .i64) (.int .i64)))),(.nm 1 (.int .i64)),(.nm 2 (.int .i64)),(.nm 3 (.int .i64)),(.nm 4 (.int .i64))])),(2,.a (.c (.imm (.sl false (.int .i64))))),(67,sI),(68,sI)])],fun n (x:((List (List (Int×Int)))×List Int×List Int×List Int×List Int×Unit)×List (List Int)×Int×Int×Int×List Int×Int×Int×Unit)=>g40_L3 m n x.1.1 x.1.2.1 x.1.2.2.1 x.1.2.2.2.1 x.1.2.2.2.2.1 x.2.1 x.2.2.1 x.2.2.2.1 x.2.2.2.2.1 x.2.2.2.2.2.1 x.2.2.2.2.2.2.1 x.2.2.2.2.2.2.2.1⟩
theorem g40_L3_ok {E:Entry} (hE:EOf Tryz.prog E 134 g40_H.pins) (m:Nat) (n:Nat):ql Tryz.prog E g40_B6 ((g40_L3_X m).at n):=
 lok hmix htt hE (g40_K m) (L:=[]) (g40_L3_X m) (l:=[]) kR (fun _ _=>trivial) (fun n x=>kR) (fun _=>kR) n
def g40_L2_X (m:Nat):LT:=⟨4,[(0,.a (.bx 0 [(.imm (.sl false (.pr (.int .i64) (.int .i64)))),(.nm 1 (.int .i64)),(.nm 2 (.int .i64)),(.nm 3 (.int .i64)),(.nm 4 (.int .i64))])),(2,.a (.c (.imm (.sl false (.int .i64))))),(67,sI),(68,sI)],[(.exit 4,[(0,.a (.bx 0 [(.imm (.sl false (.pr (.int .i64) (.int .i64)))),(.nm 1 (.int .i64)),(.nm 2 (.int .i64)),(.nm 3 (.int .i64)),(.nm 4 (.int .i64))]))])],fun n (x:((List (List (Int×Int)))×List Int×List Int×List Int×List Int×Unit)×List (List Int)×Int×Int×Unit)=>g40_L2 m n x.1.1 x.1.2.1 x.1.2.2.1 x.1.2.2.2.1 x.1.2.2.2.2.1 x.2.1 x.2.2.1 x.2.2.2.1⟩
theorem g40_L2_ok {E:Entry} (hE:EOf Tryz.prog E 134 g40_H.pins) (m:Nat) (n:Nat):ql Tryz.prog E g40_B4 ((g40_L2_X m).at n):=
 lok hmix htt hE (g40_K m) (L:=[(g40_L3_X m).at m]) (g40_L2_X m) (l:=[(6,g40_B6)]) kR (fun _ _=>⟨qg ⟨yb (g40_L3_ok hE m m),trivial⟩,trivial⟩) (fun n x=>kR) (fun _=>kR) n
def g40_L1_X (m:Nat):LT:=⟨2,[(0,.a (.bx 0 [(.imm (.sl false (.pr (.int .i64) (.int .i64)))),(.nm 1 (.int .i64)),(.nm 2 (.int .i64)),(.nm 3 (.int .i64)),(.nm 4 (.int .i64))])),(2,.a (.c (.dp 5 (.int .i64)))),(3,sI),(21,.a (.c (.imm (.sl false (.pr (.int .i64) (.int .i64)))))),(22,sI),(23,sI),(28,.a (.c (.imm (.pr (.int .i64) (.int .i64))))),(29,sI),(30,sI)],[(.exit 2,[(0,.a (.bx 0 [(.imm (.sl false (.pr (.int .i64) (.int .i64)))),(.nm 1 (.int .i64)),(.nm 2 (.int .i64)),(.nm 3 (.int .i64)),(.nm 4 (.int .i64))])),(2,.a (.c (.dp 5 (.int .i64)))),(21,.a (.c (.imm (.sl false (.pr (.int .i64) (.int .i64)))))),(22,sI),(23,sI)])],fun n (x:((List (List (Int×Int)))×List Int×List Int×List Int×List Int×Unit)×List (List Int)×Int×(List (List (Int×Int)))×Int×Int×(List (Int×Int))×Int×Int×Unit)=>g40_L1 m n x.1.1 x.1.2.1 x.1.2.2.1 x.1.2.2.2.1 x.1.2.2.2.2.1 x.2.1 x.2.2.1 x.2.2.2.1 x.2.2.2.2.1 x.2.2.2.2.2.1 x.2.2.2.2.2.2.1 x.2.2.2.2.2.2.2.1 x.2.2.2.2.2.2.2.2.1⟩
theorem g40_L1_ok {E:Entry} (hE:EOf Tryz.prog E 134 g40_H.pins) (m:Nat) (n:Nat):ql Tryz.prog E g40_B2 ((g40_L1_X m).at n):=
 lok hmix htt hE (g40_K m) (L:=[]) (g40_L1_X m) (l:=[]) kR (fun _ _=>trivial) (fun n x=>kR) (fun _=>kR) n
def g40_L0_X (m:Nat):LT:=⟨0,[(0,.a (.bx 0 [(.imm (.sl false (.pr (.int .i64) (.int .i64)))),(.nm 1 (.int .i64)),(.nm 2 (.int .i64)),(.nm 3 (.int .i64)),(.nm 4 (.int .i64))])),(2,.a (.c (.dp 5 (.int .i64)))),(21,.a (.c (.imm (.sl false (.pr (.int .i64) (.int .i64)))))),(22,sI),(23,sI)],[(.exit 0,[(0,.a (.bx 0 [(.imm (.sl false (.pr (.int .i64) (.int .i64)))),(.nm 1 (.int .i64)),(.nm 2 (.int .i64)),(.nm 3 (.int .i64)),(.nm 4 (.int .i64))])),(2,.a (.c (.dp 5 (.int .i64))))])],fun n (x:((List (List (Int×Int)))×List Int×List Int×List Int×List Int×Unit)×List (List Int)×(List (List (Int×Int)))×Int×Int×Unit)=>g40_L0 m n x.1.1 x.1.2.1 x.1.2.2.1 x.1.2.2.2.1 x.1.2.2.2.2.1 x.2.1 x.2.2.1 x.2.2.2.1 x.2.2.2.2.1⟩
theorem g40_L0_ok {E:Entry} (hE:EOf Tryz.prog E 134 g40_H.pins) (m:Nat) (n:Nat):ql Tryz.prog E g40_B0 ((g40_L0_X m).at n):=
 lok hmix htt hE (g40_K m) (L:=[(g40_L1_X m).at m]) (g40_L0_X m) (l:=[(2,g40_B2)]) kR (fun _ _=>⟨qg ⟨yb (g40_L1_ok hE m m),trivial⟩,trivial⟩) (fun n x=>kR) (fun _=>kR) n
theorem g40_ok (m:Nat):FunOK Tryz.prog (g40_T m):=
 fok hmix htt (H:=g40_H) (g40_T m) Tryz.func40 kR (g40_K m) (L:=[(g40_L0_X m).at m,(g40_L2_X m).at m]) (l:=[(0,g40_B0),(4,g40_B4)]) kR (fun _ hE _ _=>⟨qg ⟨yb (g40_L0_ok hE m m),nb rfl,trivial⟩,qg ⟨nb rfl,yb (g40_L2_ok hE m m),trivial⟩,trivial⟩) (fun x=>kR)
def g41_H:Hints:=⟨[⟨[],[0]⟩,⟨[],[0,4]⟩,⟨[],[0,2,3,4]⟩,⟨[(0,1)],[0,2,3,5]⟩,⟨[],[0,2,3,5,33,34,35]⟩,⟨[],[0,2,3,5,33,34,35,36]⟩,⟨[],[0,2,3,5,6,7,33,34,35]⟩,⟨[(0,1)],[0,2,3,5,6,33,34,35,40,41,42]⟩,⟨[],[0,2,3,5,6,33,34,35,40,41,42,43]⟩,⟨[],[0,2,3,5,6,9,33,34,35,40,41,42]⟩,⟨[],[0,2,3,5,6,9,33,34,35,40,41,42,55]⟩,⟨[],[0,2,3,5,6,33,34,35,40,41,42]⟩,⟨[(1,1)],[0,2,3,5,6,33,34,35,40,41,42]⟩,⟨[(1,1)],[0,2,3,5,33,34,35]⟩,⟨[],[0,2,3,5,10]⟩,⟨[(0,1)],[0,2,3,5,63]⟩,⟨[],[0,2,3,5,10]⟩,⟨[],[0,2,3,5,10,67,68,69]⟩,⟨[],[0,2,3,5,10,67,68,69,70]⟩,⟨[],[0,2,3,5,10,11,12,67,68,69]⟩,⟨[(0,1)],[0,2,3,5,10,11,67,68,69,74,75,76]⟩,⟨[],[0,2,3,5,10,11,67,68,69,74,75,76,77]⟩,⟨[],[0,2,3,5,10,11,14,67,68,69,74,75,76]⟩,⟨[],[0,2,3,5,10,11,14,15,67,68,69,74,75,76]⟩,⟨[],[0,2,3,5,10,11,16,67,68,69,74,75,76]⟩,⟨[],[0,2,3,5,10,11,16,67,68,69,74,75,76,105]⟩,⟨[(2,1)],[0,2,3,5,10,11,67,68,69,74,75,76]⟩,⟨[(1,1)],[0,2,3,5,10,11,67,68,69,74,75,76]⟩,⟨[(1,1)],[0,2,3,5,10,67,68,69]⟩,⟨[],[0,2,3,5,115,116,117]⟩,⟨[],[0,2,3,5,115,116,117,118]⟩,⟨[],[0,2,3,5,17,18,115,116,117]⟩,⟨[(1,1)],[0,2,3,5,115,116,117]⟩,⟨[(1,1)],[0,2,3,5,115,116,117]⟩,⟨[(0,1),(1,1)],[0,2,3]⟩],[(0,[0,2,3,5,33,34,35]),(2,[0,2,3,5,6,33,34,35,40,41,42]),(4,[0,2,3,5,10]),(6,[0,2,3,5,10,67,68,69]),(8,[0,2,3,5,10,11,67,68,69,74,75,76]),(10,[0,2,3,5,115,116,117])],[(0,[0,2,3,5]),(1,[0,2,3,5,33,34,35]),(2,[0,2,3,5,33,34,35]),(3,[0,2,3,5,6,33,34,35,40,41,42]),(4,[0,2,3,5]),(5,[0,2,3,5,10]),(6,[0,2,3,5,10]),(7,[0,2,3,5,10,67,68,69]),(8,[0,2,3,5,10,67,68,69]),(9,[0,2,3,5,10,11,67,68,69,74,75,76]),(10,[0,2,3]),(11,[0,2,3,5,115,116,117])],[0,2,3],[0],[[true],[true]]⟩
def g41_T (m:Nat):FunT:=⟨41,[.a (.bx 0 [(.imm (.sl false (.pr (.int .i64) (.int .i64)))),(.nm 1 (.int .i64)),(.nm 2 (.int .i64)),(.nm 3 (.int .i64)),(.nm 4 (.int .i64))])],.tup [(.c (.nm 0 (.int .i64))),(.c (.nm 1 (.int .i64)))],[.a (.bx 2 [(.imm (.sl false (.pr (.int .i64) (.int .i64)))),(.nm 3 (.int .i64)),(.nm 4 (.int .i64)),(.nm 5 (.int .i64)),(.nm 6 (.int .i64))])],fun(x:((List (List (Int×Int)))×List Int×List Int×List Int×List Int×Unit)×Unit)=>g41 m x.1.1 x.1.2.1 x.1.2.2.1 x.1.2.2.2.1 x.1.2.2.2.2.1⟩
noncomputable def g41_C:Code:=codeOf Tryz.f41
noncomputable def g41_B0:Code:=qm g41_C 0 0
noncomputable def g41_B2:Code:=qm g41_B0 0 0
noncomputable def g41_B4:Code:=qm g41_C 0 1
noncomputable def g41_B6:Code:=qm g41_B4 4 0
noncomputable def g41_B8:Code:=qm g41_B6 6 0
noncomputable def g41_B10:Code:=qm g41_C 0 2
theorem g41_K (m:Nat): ∀u∈[g85_T m],FunOK Tryz.prog u:=AllF.mem ⟨g85_ok m,trivial⟩
def g41_L5_X (m:Nat):LT:=⟨10,[(0,.a (.bx 0 [(.imm (.sl false (.pr (.int .i64) (.int .i64)))),(.nm 1 (.int .i64)),(.nm 2 (.int .i64)),(.nm 3 (.int .i64)),(.nm 4 (.int .i64))])),(2,.a (.c (.nm 5 (.int .i64)))),(3,.a (.c (.nm 6 (.int .i64)))),(5,.a (.c (.nm 7 (.int .i64)))),(115,.a (.c (.ref 0 3 1))),(116,sI),(117,sI)],[(.exit 10,[(0,.a (.bx 0 [(.imm (.sl false (.pr (.int .i64) (.int .i64)))),(.nm 1 (.int .i64)),(.nm 2 (.int .i64)),(.nm 3 (.int .i64)),(.nm 4 (.int .i64))])),(2,.a (.c (.nm 5 (.int .i64)))),(3,.a (.c (.nm 6 (.int .i64))))])],fun n (x:((List (List (Int×Int)))×List Int×List Int×List Int×List Int×Unit)×List Int×List Int×List Int×Unit×Int×Int×Unit)=>g41_L5 m n x.1.1 x.1.2.1 x.1.2.2.1 x.1.2.2.2.1 x.1.2.2.2.2.1 x.2.1 x.2.2.1 x.2.2.2.1 x.2.2.2.2.2.1 x.2.2.2.2.2.2.1⟩
theorem g41_L5_ok {E:Entry} (hE:EOf Tryz.prog E 137 g41_H.pins) (m:Nat) (n:Nat):ql Tryz.prog E g41_B10 ((g41_L5_X m).at n):=
 lok hmix htt hE (g41_K m) (L:=[]) (g41_L5_X m) (l:=[]) kR (fun _ _=>trivial) (fun n x=>kR) (fun _=>kR) n
def g41_L4_X (m:Nat):LT:=⟨8,[(0,.a (.bx 0 [(.imm (.sl false (.pr (.int .i64) (.int .i64)))),(.nm 1 (.int .i64)),(.nm 2 (.int .i64)),(.nm 3 (.int .i64)),(.nm 4 (.int .i64))])),(2,.a (.c (.nm 5 (.int .i64)))),(3,.a (.c (.nm 6 (.int .i64)))),(5,.a (.c (.nm 7 (.int .i64)))),(10,sB),(11,sI),(67,.a (.c (.imm (.sl false (.pr (.int .i64) (.int .i64)))))),(68,sI),(69,sI),(74,.a (.c (.imm (.pr (.int .i64) (.int .i64))))),(75,sI),(76,sI)],[(.exit 8,[(0,.a (.bx 0 [(.imm (.sl false (.pr (.int .i64) (.int .i64)))),(.nm 1 (.int .i64)),(.nm 2 (.int .i64)),(.nm 3 (.int .i64)),(.nm 4 (.int .i64))])),(2,.a (.c (.nm 5 (.int .i64)))),(3,.a (.c (.nm 6 (.int .i64)))),(5,.a (.c (.nm 7 (.int .i64)))),(10,sB),(67,.a (.c (.imm (.sl false (.pr (.int .i64) (.int .i64)))))),(68,sI),(69,sI)])],fun n (x:((List (List (Int×Int)))×List Int×List Int×List Int×List Int×Unit)×List Int×List Int×List Int×Bool×Int×(List (List (Int×Int)))×Int×Int×(List (Int×Int))×Int×Int×Unit)=>g41_L4 m n x.1.1 x.1.2.1 x.1.2.2.1 x.1.2.2.2.1 x.1.2.2.2.2.1 x.2.1 x.2.2.1 x.2.2.2.1 x.2.2.2.2.1 x.2.2.2.2.2.1 x.2.2.2.2.2.2.1 x.2.2.2.2.2.2.2.1 x.2.2.2.2.2.2.2.2.1 x.2.2.2.2.2.2.2.2.2.1 x.2.2.2.2.2.2.2.2.2.2.1 x.2.2.2.2.2.2.2.2.2.2.2.1⟩
theorem g41_L4_ok {E:Entry} (hE:EOf Tryz.prog E 137 g41_H.pins) (m:Nat) (n:Nat):ql Tryz.prog E g41_B8 ((g41_L4_X m).at n):=
 lok hmix htt hE (g41_K m) (L:=[]) (g41_L4_X m) (l:=[]) kR (fun _ _=>trivial) (fun n x=>kR) (fun _=>kR) n
def g41_L3_X (m:Nat):LT:=⟨6,[(0,.a (.bx 0 [(.imm (.sl false (.pr (.int .i64) (.int .i64)))),(.nm 1 (.int .i64)),(.nm 2 (.int .i64)),(.nm 3 (.int .i64)),(.nm 4 (.int .i64))])),(2,.a (.c (.nm 5 (.int .i64)))),(3,.a (.c (.nm 6 (.int .i64)))),(5,.a (.c (.nm 7 (.int .i64)))),(10,sB),(67,.a (.c (.imm (.sl false (.pr (.int .i64) (.int .i64)))))),(68,sI),(69,sI)],[(.exit 6,[(0,.a (.bx 0 [(.imm (.sl false (.pr (.int .i64) (.int .i64)))),(.nm 1 (.int .i64)),(.nm 2 (.int .i64)),(.nm 3 (.int .i64)),(.nm 4 (.int .i64))])),(2,.a (.c (.nm 5 (.int .i64)))),(3,.a (.c (.nm 6 (.int .i64)))),(5,.a (.c (.nm 7 (.int .i64)))),(10,sB)])],fun n (x:((List (List (Int×Int)))×List Int×List Int×List Int×List Int×Unit)×List Int×List Int×List Int×Bool×(List (List (Int×Int)))×Int×Int×Unit)=>g41_L3 m n x.1.1 x.1.2.1 x.1.2.2.1 x.1.2.2.2.1 x.1.2.2.2.2.1 x.2.1 x.2.2.1 x.2.2.2.1 x.2.2.2.2.1 x.2.2.2.2.2.1 x.2.2.2.2.2.2.1 x.2.2.2.2.2.2.2.1⟩
theorem g41_L3_ok {E:Entry} (hE:EOf Tryz.prog E 137 g41_H.pins) (m:Nat) (n:Nat):ql Tryz.prog E g41_B6 ((g41_L3_X m).at n):=
 lok hmix htt hE (g41_K m) (L:=[(g41_L4_X m).at m]) (g41_L3_X m) (l:=[(8,g41_B8)]) kR (fun _ _=>⟨qg ⟨yb (g41_L4_ok hE m m),trivial⟩,trivial⟩) (fun n x=>kR) (fun _=>kR) n
def g41_L2_X (m:Nat):LT:=⟨4,[(0,.a (.bx 0 [(.imm (.sl false (.pr (.int .i64) (.int .i64)))),(.nm 1 (.int .i64)),(.nm 2 (.int .i64)),(.nm 3 (.int .i64)),(.nm 4 (.int .i64))])),(2,.a (.c (.nm 5 (.int .i64)))),(3,.a (.c (.nm 6 (.int .i64)))),(5,.a (.c (.nm 7 (.int .i64)))),(10,sB)],[(.exit 4,[(0,.a (.bx 0 [(.imm (.sl false (.pr (.int .i64) (.int .i64)))),(.nm 1 (.int .i64)),(.nm 2 (.int .i64)),(.nm 3 (.int .i64)),(.nm 4 (.int .i64))])),(2,.a (.c (.nm 5 (.int .i64)))),(3,.a (.c (.nm 6 (.int .i64)))),(5,.a (.c (.nm 7 (.int .i64))))])],fun n (x:((List (List (Int×Int)))×List Int×List Int×List Int×List Int×Unit)×List Int×List Int×List Int×Bool×Unit)=>g41_L2 m n x.1.1 x.1.2.1 x.1.2.2.1 x.1.2.2.2.1 x.1.2.2.2.2.1 x.2.1 x.2.2.1 x.2.2.2.1 x.2.2.2.2.1⟩
theorem g41_L2_ok {E:Entry} (hE:EOf Tryz.prog E 137 g41_H.pins) (m:Nat) (n:Nat):ql Tryz.prog E g41_B4 ((g41_L2_X m).at n):=
 lok hmix htt hE (g41_K m) (L:=[(g41_L3_X m).at m]) (g41_L2_X m) (l:=[(6,g41_B6)]) kR (fun _ _=>⟨qg ⟨yb (g41_L3_ok hE m m),trivial⟩,trivial⟩) (fun n x=>kR) (fun _=>kR) n
def g41_L1_X (m:Nat):LT:=⟨2,[(0,.a (.bx 0 [(.imm (.sl false (.pr (.int .i64) (.int .i64)))),(.nm 1 (.int .i64)),(.nm 2 (.int .i64)),(.nm 3 (.int .i64)),(.nm 4 (.int .i64))])),(2,.a (.c (.nm 5 (.int .i64)))),(3,.a (.c (.nm 6 (.int .i64)))),(5,.a (.c (.nm 7 (.int .i64)))),(6,sI),(33,.a (.c (.imm (.sl false (.pr (.int .i64) (.int .i64)))))),(34,sI),(35,sI),(40,.a (.c (.imm (.pr (.int .i64) (.int .i64))))),(41,sI),(42,sI)],[(.exit 2,[(0,.a (.bx 0 [(.imm (.sl false (.pr (.int .i64) (.int .i64)))),(.nm 1 (.int .i64)),(.nm 2 (.int .i64)),(.nm 3 (.int .i64)),(.nm 4 (.int .i64))])),(2,.a (.c (.nm 5 (.int .i64)))),(3,.a (.c (.nm 6 (.int .i64)))),(5,.a (.c (.nm 7 (.int .i64)))),(33,.a (.c (.imm (.sl false (.pr (.int .i64) (.int .i64)))))),(34,sI),(35,sI)])],fun n (x:((List (List (Int×Int)))×List Int×List Int×List Int×List Int×Unit)×List Int×List Int×List Int×Int×(List (List (Int×Int)))×Int×Int×(List (Int×Int))×Int×Int×Unit)=>g41_L1 m n x.1.1 x.1.2.1 x.1.2.2.1 x.1.2.2.2.1 x.1.2.2.2.2.1 x.2.1 x.2.2.1 x.2.2.2.1 x.2.2.2.2.1 x.2.2.2.2.2.1 x.2.2.2.2.2.2.1 x.2.2.2.2.2.2.2.1 x.2.2.2.2.2.2.2.2.1 x.2.2.2.2.2.2.2.2.2.1 x.2.2.2.2.2.2.2.2.2.2.1⟩
theorem g41_L1_ok {E:Entry} (hE:EOf Tryz.prog E 137 g41_H.pins) (m:Nat) (n:Nat):ql Tryz.prog E g41_B2 ((g41_L1_X m).at n):=
 lok hmix htt hE (g41_K m) (L:=[]) (g41_L1_X m) (l:=[]) kR (fun _ _=>trivial) (fun n x=>kR) (fun _=>kR) n
def g41_L0_X (m:Nat):LT:=⟨0,[(0,.a (.bx 0 [(.imm (.sl false (.pr (.int .i64) (.int .i64)))),(.nm 1 (.int .i64)),(.nm 2 (.int .i64)),(.nm 3 (.int .i64)),(.nm 4 (.int .i64))])),(2,.a (.c (.nm 5 (.int .i64)))),(3,.a (.c (.nm 6 (.int .i64)))),(5,.a (.c (.nm 7 (.int .i64)))),(33,.a (.c (.imm (.sl false (.pr (.int .i64) (.int .i64)))))),(34,sI),(35,sI)],[(.exit 0,[(0,.a (.bx 0 [(.imm (.sl false (.pr (.int .i64) (.int .i64)))),(.nm 1 (.int .i64)),(.nm 2 (.int .i64)),(.nm 3 (.int .i64)),(.nm 4 (.int .i64))])),(2,.a (.c (.nm 5 (.int .i64)))),(3,.a (.c (.nm 6 (.int .i64)))),(5,.a (.c (.nm 7 (.int .i64))))])],fun n (x:((List (List (Int×Int)))×List Int×List Int×List Int×List Int×Unit)×List Int×List Int×List Int×(List (List (Int×Int)))×Int×Int×Unit)=>g41_L0 m n x.1.1 x.1.2.1 x.1.2.2.1 x.1.2.2.2.1 x.1.2.2.2.2.1 x.2.1 x.2.2.1 x.2.2.2.1 x.2.2.2.2.1 x.2.2.2.2.2.1 x.2.2.2.2.2.2.1⟩
theorem g41_L0_ok {E:Entry} (hE:EOf Tryz.prog E 137 g41_H.pins) (m:Nat) (n:Nat):ql Tryz.prog E g41_B0 ((g41_L0_X m).at n):=
 lok hmix htt hE (g41_K m) (L:=[(g41_L1_X m).at m]) (g41_L0_X m) (l:=[(2,g41_B2)]) kR (fun _ _=>⟨qg ⟨yb (g41_L1_ok hE m m),trivial⟩,trivial⟩) (fun n x=>kR) (fun _=>kR) n
theorem g41_ok (m:Nat):FunOK Tryz.prog (g41_T m):=
 fok hmix htt (H:=g41_H) (g41_T m) Tryz.func41 kR (g41_K m) (L:=[(g41_L0_X m).at m,(g41_L2_X m).at m,(g41_L5_X m).at m]) (l:=[(0,g41_B0),(4,g41_B4),(10,g41_B10)]) kR (fun _ hE _ _=>⟨qg ⟨yb (g41_L0_ok hE m m),nb rfl,nb rfl,trivial⟩,qg ⟨nb rfl,yb (g41_L2_ok hE m m),nb rfl,trivial⟩,qg ⟨nb rfl,nb rfl,yb (g41_L5_ok hE m m),trivial⟩,trivial⟩) (fun x=>kR)
def g12_H:Hints:=⟨[⟨[],[1,2]⟩,⟨[],[1,2,4]⟩,⟨[],[1,2,4,12]⟩,⟨[(1,1)],[2,3]⟩,⟨[(3,1)],[2,5,6]⟩,⟨[(0,1)],[2,5,22]⟩,⟨[],[2,3]⟩,⟨[],[2,5]⟩,⟨[(2,1)],[2,5,7,8]⟩,⟨[(0,1),(3,1),(4,1),(5,1)],[2,3]⟩],[],[],[2,3],[],[[true,true,true],[false]]⟩
def g12_T (m:Nat):FunT:=⟨12,[.a (.agg [(.int .i64),(.int .i64),(.imm (.int .i64)),(.imm (.int .i64)),(.imm (.int .u64))])],.tup [(.agg [(.nm 0 (.int .i64)),(.nm 1 (.int .i64)),(.nm 2 (.int .i64))]),(.c (.int .i64))],[sD],fun(x:(Int×Int×List Int×List Int×List Int×Unit)×Unit)=>g12 m x.1.1 x.1.2.1 x.1.2.2.1 x.1.2.2.2.1 x.1.2.2.2.2.1⟩
theorem g12_ok (m:Nat):FunOK Tryz.prog (g12_T m):=
 fok hmix htt (H:=g12_H) (g12_T m) Tryz.func12 kR (AllF.mem (l:=[g37_T m,g39_T m,g38_T m,g40_T m,g41_T m]) ⟨g37_ok m,g39_ok m,g38_ok m,g40_ok m,g41_ok m,trivial⟩) (L:=[]) (l:=[]) kR (fun _ hE _ _=>trivial) (fun x=>kR)
def g15_H:Hints:=⟨[⟨[],[0,1]⟩,⟨[],[0,1,10]⟩,⟨[],[4]⟩,⟨[],[0,1,5]⟩,⟨[],[0,1,5,14]⟩,⟨[(0,1)],[0,1,5]⟩,⟨[],[0,1,5,25]⟩,⟨[],[4]⟩,⟨[],[4]⟩],[(0,[0,1,5])],[(0,[]),(1,[0,1,5])],[4],[],[[false]]⟩
def g15_T (m:Nat):FunT:=⟨15,[sL,sL],sB,[sD,sD],fun(x:List Int×List Int×Unit)=>g15 m x.1 x.2.1⟩
noncomputable def g15_C:Code:=codeOf Tryz.f15
noncomputable def g15_B0:Code:=qm g15_C 0 0
def g15_L0_X (m:Nat):LT:=⟨0,[(0,sL),(1,sL),(5,sI)],[(.ret,[(4,sB)]),(.exit 0,[])],fun n (x:List Int×List Int×Int×Unit)=>g15_L0 m n x.1 x.2.1 x.2.2.1⟩
theorem g15_L0_ok {E:Entry} (hE:EOf Tryz.prog E 26 g15_H.pins) (m:Nat) (n:Nat):ql Tryz.prog E g15_B0 ((g15_L0_X m).at n):=
 lok hmix htt hE noF (L:=[]) (g15_L0_X m) (l:=[]) kR (fun _ _=>trivial) (fun n x=>kR) (fun _=>kR) n
theorem g15_ok (m:Nat):FunOK Tryz.prog (g15_T m):=
 fok hmix htt (H:=g15_H) (g15_T m) Tryz.func15 kR noF (L:=[(g15_L0_X m).at m]) (l:=[(0,g15_B0)]) kR (fun _ hE _ _=>⟨qg ⟨yb (g15_L0_ok hE m m),trivial⟩,trivial⟩) (fun x=>kR)
def g61_H:Hints:=⟨[⟨[],[0,1]⟩,⟨[],[0,1,5]⟩,⟨[(0,1)],[0,5,14,15,16]⟩,⟨[],[0,5,14,15,16,17]⟩,⟨[],[0,5,6,7,14,15,16]⟩,⟨[],[0,5,6,7,8,14,15,16]⟩,⟨[(1,1)],[0,5,7,8,14,15,16,24,25,26]⟩,⟨[],[0,5,7,8,14,15,16,24,25,26,27]⟩,⟨[],[0,5,7,8,10,14,15,16,24,25,26]⟩,⟨[(0,1),(1,1)],[0,5,7,8,14,15,16,24,25,26]⟩,⟨[(1,1)],[0,5,7,8,14,15,16,24,25,26]⟩,⟨[(0,1),(2,1)],[0,5,7,14,15,16,45]⟩,⟨[],[4]⟩,⟨[(1,1)],[0,5,14,15,16]⟩,⟨[(1,1)],[0,5,14,15,16]⟩,⟨[],[4]⟩],[(0,[0,5,14,15,16]),(2,[0,5,7,8,14,15,16,24,25,26])],[(0,[]),(1,[0,5,14,15,16]),(2,[0,5,7,8,14,15,16]),(3,[0,5,7,8,14,15,16,24,25,26])],[4],[],[[false]]⟩
def g61_T (m:Nat):FunT:=⟨61,[.a (.c (.imm (.sl false (.pr (.int .i64) (.int .i64))))),sL],sB,[sD,sD],fun(x:(List (List (Int×Int)))×List Int×Unit)=>g61 m x.1 x.2.1⟩
noncomputable def g61_C:Code:=codeOf Tryz.f61
noncomputable def g61_B0:Code:=qm g61_C 0 0
noncomputable def g61_B2:Code:=qm g61_B0 0 0
def g61_L1_X (m:Nat):LT:=⟨2,[(0,.a (.c (.imm (.sl false (.pr (.int .i64) (.int .i64)))))),(5,.a (.c (.nm 0 .bool))),(7,sI),(8,sB),(14,sL),(15,sI),(16,sI),(24,.a (.c (.imm (.pr (.int .i64) (.int .i64))))),(25,sI),(26,sI)],[(.exit 2,[(0,.a (.c (.imm (.sl false (.pr (.int .i64) (.int .i64)))))),(5,.a (.c (.nm 0 .bool))),(7,sI),(8,sB),(14,sL),(15,sI),(16,sI)])],fun n (x:(List (List (Int×Int)))×List Bool×Int×Bool×List Int×Int×Int×(List (Int×Int))×Int×Int×Unit)=>g61_L1 m n x.1 x.2.1 x.2.2.1 x.2.2.2.1 x.2.2.2.2.1 x.2.2.2.2.2.1 x.2.2.2.2.2.2.1 x.2.2.2.2.2.2.2.1 x.2.2.2.2.2.2.2.2.1 x.2.2.2.2.2.2.2.2.2.1⟩
theorem g61_L1_ok {E:Entry} (hE:EOf Tryz.prog E 50 g61_H.pins) (m:Nat) (n:Nat):ql Tryz.prog E g61_B2 ((g61_L1_X m).at n):=
 lok hmix htt hE noF (L:=[]) (g61_L1_X m) (l:=[]) kR (fun _ _=>trivial) (fun n x=>kR) (fun _=>kR) n
def g61_L0_X (m:Nat):LT:=⟨0,[(0,.a (.c (.imm (.sl false (.pr (.int .i64) (.int .i64)))))),(5,.a (.c (.nm 0 .bool))),(14,sL),(15,sI),(16,sI)],[(.ret,[(4,sB)]),(.exit 0,[])],fun n (x:(List (List (Int×Int)))×List Bool×List Int×Int×Int×Unit)=>g61_L0 m n x.1 x.2.1 x.2.2.1 x.2.2.2.1 x.2.2.2.2.1⟩
theorem g61_L0_ok {E:Entry} (hE:EOf Tryz.prog E 50 g61_H.pins) (m:Nat) (n:Nat):ql Tryz.prog E g61_B0 ((g61_L0_X m).at n):=
 lok hmix htt hE noF (L:=[(g61_L1_X m).at m]) (g61_L0_X m) (l:=[(2,g61_B2)]) kR (fun _ _=>⟨qg ⟨yb (g61_L1_ok hE m m),trivial⟩,trivial⟩) (fun n x=>kR) (fun _=>kR) n
theorem g61_ok (m:Nat):FunOK Tryz.prog (g61_T m):=
 fok hmix htt (H:=g61_H) (g61_T m) Tryz.func61 kR noF (L:=[(g61_L0_X m).at m]) (l:=[(0,g61_B0)]) kR (fun _ hE _ _=>⟨qg ⟨yb (g61_L0_ok hE m m),trivial⟩,trivial⟩) (fun x=>kR)
def g51_H:Hints:=⟨[⟨[],[0,1]⟩,⟨[],[0,1,5]⟩,⟨[(2,1),(6,1)],[0,1,5,9]⟩,⟨[],[4]⟩,⟨[(0,1),(2,1),(3,1),(6,1)],[5,20]⟩,⟨[],[4]⟩,⟨[(0,1)],[4]⟩],[],[(0,[5])],[4],[],[[false]]⟩
def g51_T (m:Nat):FunT:=⟨51,[sI,sI],sI,[sD,sD],fun(x:Int×Int×Unit)=>g51 m x.1 x.2.1⟩
theorem g51_ok (m:Nat):FunOK Tryz.prog (g51_T m):=
 fok hmix htt (H:=g51_H) (g51_T m) Tryz.func51 kR noF (L:=[]) (l:=[]) kR (fun _ hE _ _=>trivial) (fun x=>kR)
def g62_H:Hints:=⟨[⟨[],[0,3]⟩,⟨[(0,1)],[3,10,11,12]⟩,⟨[],[3,10,11,12,13]⟩,⟨[],[3,5,6,10,11,12]⟩,⟨[(0,1)],[3,5,10,11,12,17,18,19]⟩,⟨[],[3,5,10,11,12,17,18,19,20]⟩,⟨[],[3,5,8,10,11,12,17,18,19]⟩,⟨[],[3,5,8,9,10,11,12,17,18,19]⟩,⟨[(4,1),(9,1)],[3,5,10,11,12,17,18,19,54]⟩,⟨[],[4]⟩,⟨[(1,1)],[3,5,10,11,12,17,18,19]⟩,⟨[(1,1)],[3,10,11,12]⟩,⟨[],[4]⟩],[(0,[3,10,11,12]),(2,[3,5,10,11,12,17,18,19])],[(0,[]),(1,[3,10,11,12]),(2,[3,10,11,12]),(3,[3,5,10,11,12,17,18,19])],[4],[],[[false]]⟩
def g62_T (m:Nat):FunT:=⟨62,[.a (.c (.imm (.sl false (.pr (.int .i64) (.int .i64))))),.a (.agg [(.imm (.int .i64)),(.imm (.int .i64)),(.imm (.int .i64))])],sB,[sD,sD],fun(x:(List (List (Int×Int)))×(List Int×List Int×List Int×Unit)×Unit)=>g62 m x.1 x.2.1.1 x.2.1.2.1 x.2.1.2.2.1⟩
noncomputable def g62_C:Code:=codeOf Tryz.f62
noncomputable def g62_B0:Code:=qm g62_C 0 0
noncomputable def g62_B2:Code:=qm g62_B0 0 0
theorem g62_K (m:Nat): ∀u∈[g51_T m],FunOK Tryz.prog u:=AllF.mem ⟨g51_ok m,trivial⟩
def g62_L1_X (m:Nat):LT:=⟨2,[(3,.a (.bx 0 [(.imm (.int .i64)),(.imm (.int .i64)),(.imm (.int .i64))])),(5,sI),(10,.a (.c (.imm (.sl false (.pr (.int .i64) (.int .i64)))))),(11,sI),(12,sI),(17,.a (.c (.imm (.pr (.int .i64) (.int .i64))))),(18,sI),(19,sI)],[(.ret,[(4,sB)]),(.exit 2,[(3,.a (.bx 0 [(.imm (.int .i64)),(.imm (.int .i64)),(.imm (.int .i64))])),(10,.a (.c (.imm (.sl false (.pr (.int .i64) (.int .i64)))))),(11,sI),(12,sI)])],fun n (x:(List Int×List Int×List Int×Unit)×Int×(List (List (Int×Int)))×Int×Int×(List (Int×Int))×Int×Int×Unit)=>g62_L1 m n x.1.1 x.1.2.1 x.1.2.2.1 x.2.1 x.2.2.1 x.2.2.2.1 x.2.2.2.2.1 x.2.2.2.2.2.1 x.2.2.2.2.2.2.1 x.2.2.2.2.2.2.2.1⟩
theorem g62_L1_ok {E:Entry} (hE:EOf Tryz.prog E 57 g62_H.pins) (m:Nat) (n:Nat):ql Tryz.prog E g62_B2 ((g62_L1_X m).at n):=
 lok hmix htt hE (g62_K m) (L:=[]) (g62_L1_X m) (l:=[]) kR (fun _ _=>trivial) (fun n x=>kR) (fun _=>kR) n
def g62_L0_X (m:Nat):LT:=⟨0,[(3,.a (.bx 0 [(.imm (.int .i64)),(.imm (.int .i64)),(.imm (.int .i64))])),(10,.a (.c (.imm (.sl false (.pr (.int .i64) (.int .i64)))))),(11,sI),(12,sI)],[(.ret,[(4,sB)]),(.exit 0,[])],fun n (x:(List Int×List Int×List Int×Unit)×(List (List (Int×Int)))×Int×Int×Unit)=>g62_L0 m n x.1.1 x.1.2.1 x.1.2.2.1 x.2.1 x.2.2.1 x.2.2.2.1⟩
theorem g62_L0_ok {E:Entry} (hE:EOf Tryz.prog E 57 g62_H.pins) (m:Nat) (n:Nat):ql Tryz.prog E g62_B0 ((g62_L0_X m).at n):=
 lok hmix htt hE (g62_K m) (L:=[(g62_L1_X m).at m]) (g62_L0_X m) (l:=[(2,g62_B2)]) kR (fun _ _=>⟨qg ⟨yb (g62_L1_ok hE m m),trivial⟩,trivial⟩) (fun n x=>kR) (fun _=>kR) n
theorem g62_ok (m:Nat):FunOK Tryz.prog (g62_T m):=
 fok hmix htt (H:=g62_H) (g62_T m) Tryz.func62 kR (g62_K m) (L:=[(g62_L0_X m).at m]) (l:=[(0,g62_B0)]) kR (fun _ hE _ _=>⟨qg ⟨yb (g62_L0_ok hE m m),trivial⟩,trivial⟩) (fun x=>kR)
def g21_H:Hints:=⟨[⟨[],[2,3]⟩,⟨[],[2,3,5]⟩,⟨[],[2,3,5,9]⟩,⟨[(0,1)],[4]⟩,⟨[(6,1),(14,1)],[2,3,13]⟩,⟨[],[4]⟩,⟨[],[3,6]⟩,⟨[],[3,6,38]⟩,⟨[],[4]⟩,⟨[(0,1)],[44]⟩,⟨[],[4]⟩,⟨[],[4]⟩],[],[(0,[2,3]),(1,[])],[4],[],[[false]]⟩
def g21_T (m:Nat):FunT:=⟨21,[.a (.agg [(.int .i64),(.int .i64),(.imm (.int .i64)),(.imm (.int .i64)),(.imm (.int .u64))]),.a (.agg [(.imm (.int .i64)),(.imm (.int .i64)),(.imm (.int .i64))])],sI,[sD,sD],fun(x:(Int×Int×List Int×List Int×List Int×Unit)×(List Int×List Int×List Int×Unit)×Unit)=>g21 m x.1.1 x.1.2.1 x.1.2.2.1 x.1.2.2.2.1 x.1.2.2.2.2.1 x.2.1.1 x.2.1.2.1 x.2.1.2.2.1⟩
theorem g21_ok (m:Nat):FunOK Tryz.prog (g21_T m):=
 fok hmix htt (H:=g21_H) (g21_T m) Tryz.func21 kR (AllF.mem (l:=[g37_T m,g39_T m,g61_T m,g62_T m]) ⟨g37_ok m,g39_ok m,g61_ok m,g62_ok m,trivial⟩) (L:=[]) (l:=[]) kR (fun _ hE _ _=>trivial) (fun x=>kR)
def sparselaw14_awake_H:Hints:=⟨[⟨[],[]⟩,⟨[],[1]⟩,⟨[(2,1)],[1,2,3]⟩,⟨[(0,1),(2,1),(8,1),(14,1),(20,1)],[0]⟩],[],[],[0],[],[[false]]⟩
abbrev sparselaw14_awake_A:List Sh:=[]
abbrev sparselaw14_awake_S:Sh:= sB
abbrev sparselaw14_awake_U:List Sh:=[]
def sparselaw14_awake_R (m:Nat):Qp sparselaw14_awake_A→Option (sparselaw14_awake_S.Val×Qp sparselaw14_awake_U):=fun(x:Unit)=>sparselaw14_awake m
def sparselaw14_awake_T (m:Nat):FunT:=⟨7,sparselaw14_awake_A,sparselaw14_awake_S,sparselaw14_awake_U,sparselaw14_awake_R m⟩
theorem sparselaw14_awake_ok (m:Nat):FunOK Tryz.prog (sparselaw14_awake_T m):=
 fok hmix htt (H:=sparselaw14_awake_H) (sparselaw14_awake_T m) Tryz.func7 kR (AllF.mem (l:=[g12_T m,g15_T m,g21_T m]) ⟨g12_ok m,g15_ok m,g21_ok m,trivial⟩) (L:=[]) (l:=[]) kR (fun _ hE _ _=>trivial) (fun x=>kR)
def g8_H:Hints:=⟨[⟨[],[0,1]⟩,⟨[(0,1),(2,1)],[4]⟩],[],[],[4],[],[[false]]⟩
def g8_T (m:Nat):FunT:=⟨8,[sI,sI],sI,[sD,sD],fun(x:Int×Int×Unit)=>g8 m x.1 x.2.1⟩
theorem g8_ok (m:Nat):FunOK Tryz.prog (g8_T m):=
 fok hmix htt (H:=g8_H) (g8_T m) Tryz.func8 kR noF (L:=[]) (l:=[]) kR (fun _ hE _ _=>trivial) (fun x=>kR)
def g10_H:Hints:=⟨[⟨[],[0,1]⟩,⟨[],[0,1,8]⟩,⟨[(0,1),(1,1)],[4]⟩,⟨[],[4]⟩],[],[],[4],[],[[false]]⟩
def g10_T (m:Nat):FunT:=⟨10,[sL,sI],sI,[sD,sD],fun(x:List Int×Int×Unit)=>g10 m x.1 x.2.1⟩
theorem g10_ok (m:Nat):FunOK Tryz.prog (g10_T m):=
 fok hmix htt (H:=g10_H) (g10_T m) Tryz.func10 kR noF (L:=[]) (l:=[]) kR (fun _ hE _ _=>trivial) (fun x=>kR)
def g104_H:Hints:=⟨[⟨[],[0]⟩,⟨[],[0,3]⟩,⟨[(2,1)],[0,3,17]⟩,⟨[(0,1)],[0,3]⟩,⟨[],[0,3,4]⟩,⟨[],[0,3,4,5]⟩,⟨[],[0,3,4,5,22]⟩,⟨[(0,1)],[0,3,4,5]⟩,⟨[(0,1)],[0,3,4,5]⟩,⟨[(0,1)],[2]⟩],[(0,[0,3]),(2,[0,3,4,5])],[(0,[0,3]),(1,[0,3]),(2,[4]),(3,[0,3,4,5])],[2],[],[[true]]⟩
def g104_T (m:Nat):FunT:=⟨104,[.a (.c (.imm (.int .u32)))],.a (.c (.nm 0 (.int .u32))),[sD],fun(x:List Int×Unit)=>g104 m x.1⟩
noncomputable def g104_C:Code:=codeOf Tryz.f104
noncomputable def g104_B0:Code:=qm g104_C 0 0
noncomputable def g104_B2:Code:=qm g104_C 0 1
def g104_L1_X (m:Nat):LT:=⟨2,[(0,.a (.c (.imm (.int .u32)))),(3,sI),(4,.a (.c (.nm 0 (.int .u32)))),(5,sI)],[(.exit 2,[(4,.a (.c (.nm 0 (.int .u32))))])],fun n (x:List Int×Int×List Int×Int×Unit)=>g104_L1 m n x.1 x.2.1 x.2.2.1 x.2.2.2.1⟩
theorem g104_L1_ok {E:Entry} (hE:EOf Tryz.prog E 33 g104_H.pins) (m:Nat) (n:Nat):ql Tryz.prog E g104_B2 ((g104_L1_X m).at n):=
 lok hmix htt hE noF (L:=[]) (g104_L1_X m) (l:=[]) kR (fun _ _=>trivial) (fun n x=>kR) (fun _=>kR) n
def g104_L0_X (m:Nat):LT:=⟨0,[(0,.a (.c (.imm (.int .u32)))),(3,sI)],[(.exit 0,[(0,.a (.c (.imm (.int .u32)))),(3,sI)])],fun n (x:List Int×Int×Unit)=>g104_L0 m n x.1 x.2.1⟩
theorem g104_L0_ok {E:Entry} (hE:EOf Tryz.prog E 33 g104_H.pins) (m:Nat) (n:Nat):ql Tryz.prog E g104_B0 ((g104_L0_X m).at n):=
 lok hmix htt hE noF (L:=[]) (g104_L0_X m) (l:=[]) kR (fun _ _=>trivial) (fun n x=>kR) (fun _=>kR) n
theorem g104_ok (m:Nat):FunOK Tryz.prog (g104_T m):=
 fok hmix htt (H:=g104_H) (g104_T m) Tryz.func104 kR noF (L:=[(g104_L0_X m).at m,(g104_L1_X m).at m]) (l:=[(0,g104_B0),(2,g104_B2)]) kR (fun _ hE _ _=>⟨qg ⟨yb (g104_L0_ok hE m m),nb rfl,trivial⟩,qg ⟨nb rfl,yb (g104_L1_ok hE m m),trivial⟩,trivial⟩) (fun x=>kR)
def g105_H:Hints:=⟨[⟨[],[0,1,4]⟩,⟨[(0,1)],[0,1,4]⟩,⟨[(0,1),(1,1),(6,1)],[4]⟩],[],[],[4],[],[[false,true]]⟩
def g105_T (m:Nat):FunT:=⟨105,[sB,.a (.c (.imm (.int .u32)))],.a (.agg [.bool,(.nm 0 (.int .u32))]),[sD,sD],fun(x:Bool×List Int×Unit)=>g105 m x.1 x.2.1⟩
theorem g105_ok (m:Nat):FunOK Tryz.prog (g105_T m):=
 fok hmix htt (H:=g105_H) (g105_T m) Tryz.func105 kR (AllF.mem (l:=[g104_T m]) ⟨g104_ok m,trivial⟩) (L:=[]) (l:=[]) kR (fun _ hE _ _=>trivial) (fun x=>kR)
def g57_H:Hints:=⟨[⟨[],[0,2]⟩,⟨[],[0,2,3]⟩,⟨[],[0,2,3,7]⟩,⟨[],[0,2,3]⟩,⟨[(0,1)],[2]⟩],[],[],[2],[],[[false,true]]⟩
def g57_T (m:Nat):FunT:=⟨57,[sI],.a (.agg [.bool,(.nm 0 (.int .u32))]),[sD],fun(x:Int×Unit)=>g57 m x.1⟩
theorem g57_ok (m:Nat):FunOK Tryz.prog (g57_T m):=
 fok hmix htt (H:=g57_H) (g57_T m) Tryz.func57 kR (AllF.mem (l:=[g105_T m]) ⟨g105_ok m,trivial⟩) (L:=[]) (l:=[]) kR (fun _ hE _ _=>trivial) (fun x=>kR)
def g109_H:Hints:=⟨[⟨[],[1,2]⟩,⟨[],[2]⟩],[],[],[2],[],[[false,true]]⟩
def g109_T (m:Nat):FunT:=⟨109,[.a (.agg [.bool,(.imm (.int .u32))])],.a (.agg [.bool,(.nm 0 (.int .u32))]),[sD],fun(x:(Bool×List Int×Unit)×Unit)=>g109 m x.1.1 x.1.2.1⟩
theorem g109_ok (m:Nat):FunOK Tryz.prog (g109_T m):=
 fok hmix htt (H:=g109_H) (g109_T m) Tryz.func109 kR (AllF.mem (l:=[g105_T m]) ⟨g105_ok m,trivial⟩) (L:=[]) (l:=[]) kR (fun _ hE _ _=>trivial) (fun x=>kR)
def g119_H:Hints:=⟨[⟨[],[0]⟩,⟨[],[0]⟩],[],[],[0],[],[[false,false,true,false]]⟩
def g119_T (m:Nat):FunT:=⟨119,[],.a (.agg [.bool,.bool,(.nm 0 (.int .u32)),(.int .i64)]),[],fun(x:Unit)=>g119 m⟩
theorem g119_ok (m:Nat):FunOK Tryz.prog (g119_T m):=
 fok hmix htt (H:=g119_H) (g119_T m) Tryz.func119 kR noF (L:=[]) (l:=[]) kR (fun _ hE _ _=>trivial) (fun x=>kR)
def g157_H:Hints:=⟨[⟨[],[1]⟩,⟨[],[3]⟩,⟨[],[3,4]⟩,⟨[],[3,4,11]⟩,⟨[(0,1)],[3,4]⟩,⟨[],[3,4,18]⟩,⟨[(2,1)],[2]⟩,⟨[],[2]⟩],[(0,[3,4])],[(0,[]),(1,[3,4])],[2],[],[[false]]⟩
def g157_T (m:Nat):FunT:=⟨157,[.a (.agg [.bool,(.imm (.int .u32))])],sI,[sD],fun(x:(Bool×List Int×Unit)×Unit)=>g157 m x.1.1 x.1.2.1⟩
noncomputable def g157_C:Code:=codeOf Tryz.f157
noncomputable def g157_B0:Code:=qm g157_C 0 0
theorem g157_K (m:Nat): ∀u∈[g104_T m,g159_T m],FunOK Tryz.prog u:=AllF.mem ⟨g104_ok m,g159_ok m,trivial⟩
def g157_L0_X (m:Nat):LT:=⟨0,[(3,.a (.c (.nm 0 (.int .u32)))),(4,sI)],[(.ret,[(2,sI)]),(.exit 0,[])],fun n (x:List Int×Int×Unit)=>g157_L0 m n x.1 x.2.1⟩
theorem g157_L0_ok {E:Entry} (hE:EOf Tryz.prog E 27 g157_H.pins) (m:Nat) (n:Nat):ql Tryz.prog E g157_B0 ((g157_L0_X m).at n):=
 lok hmix htt hE (g157_K m) (L:=[]) (g157_L0_X m) (l:=[]) kR (fun _ _=>trivial) (fun n x=>kR) (fun _=>kR) n
theorem g157_ok (m:Nat):FunOK Tryz.prog (g157_T m):=
 fok hmix htt (H:=g157_H) (g157_T m) Tryz.func157 kR (g157_K m) (L:=[(g157_L0_X m).at m]) (l:=[(0,g157_B0)]) kR (fun _ hE _ _=>⟨qg ⟨yb (g157_L0_ok hE m m),trivial⟩,trivial⟩) (fun x=>kR)
def g118_H:Hints:=⟨[⟨[],[1,2]⟩,⟨[],[2]⟩],[],[],[2],[],[[false,true]]⟩
def g118_T (m:Nat):FunT:=⟨118,[.a (.agg [.bool,(.imm (.int .u32))])],.a (.agg [.bool,(.nm 0 (.int .u32))]),[sD],fun(x:(Bool×List Int×Unit)×Unit)=>g118 m x.1.1 x.1.2.1⟩
theorem g118_ok (m:Nat):FunOK Tryz.prog (g118_T m):=
 fok hmix htt (H:=g118_H) (g118_T m) Tryz.func118 kR (AllF.mem (l:=[g105_T m]) ⟨g105_ok m,trivial⟩) (L:=[]) (l:=[]) kR (fun _ hE _ _=>trivial) (fun x=>kR)
def g171_H:Hints:=⟨[⟨[],[0,1]⟩,⟨[],[0,1,5]⟩,⟨[],[0,1,5,6]⟩,⟨[],[0,1,5,6,7]⟩,⟨[],[0,1,5,6,7,14]⟩,⟨[(0,1)],[0,1,5,6,7]⟩,⟨[(0,1)],[0,1,5,6,7]⟩,⟨[(0,1)],[0,1,5,6,7]⟩,⟨[(0,1)],[0,1,5,6,7]⟩,⟨[(0,1),(1,1)],[4]⟩],[(0,[0,1,5,6,7])],[(0,[5,6]),(1,[0,1,5,6,7])],[4],[],[[true]]⟩
def g171_T (m:Nat):FunT:=⟨171,[.a (.c (.imm (.int .u32))),sI],.a (.c (.nm 0 (.int .u32))),[sD,sD],fun(x:List Int×Int×Unit)=>g171 m x.1 x.2.1⟩
noncomputable def g171_C:Code:=codeOf Tryz.f171
noncomputable def g171_B0:Code:=qm g171_C 0 0
def g171_L0_X (m:Nat):LT:=⟨0,[(0,.a (.c (.imm (.int .u32)))),(1,sI),(5,.a (.c (.nm 0 (.int .u32)))),(6,sU),(7,sI)],[(.exit 0,[(5,.a (.c (.nm 0 (.int .u32)))),(6,sU)])],fun n (x:List Int×Int×List Int×Int×Int×Unit)=>g171_L0 m n x.1 x.2.1 x.2.2.1 x.2.2.2.1 x.2.2.2.2.1⟩
theorem g171_L0_ok {E:Entry} (hE:EOf Tryz.prog E 39 g171_H.pins) (m:Nat) (n:Nat):ql Tryz.prog E g171_B0 ((g171_L0_X m).at n):=
 lok hmix htt hE noF (L:=[]) (g171_L0_X m) (l:=[]) kR (fun _ _=>trivial) (fun n x=>kR) (fun _=>kR) n
theorem g171_ok (m:Nat):FunOK Tryz.prog (g171_T m):=
 fok hmix htt (H:=g171_H) (g171_T m) Tryz.func171 kR noF (L:=[(g171_L0_X m).at m]) (l:=[(0,g171_B0)]) kR (fun _ hE _ _=>⟨qg ⟨yb (g171_L0_ok hE m m),trivial⟩,trivial⟩) (fun x=>kR)
def g172_H:Hints:=⟨[⟨[],[0,1]⟩,⟨[],[0,1,6]⟩,⟨[],[0,1,6,7]⟩,⟨[(4,1)],[0,1,6,7,21]⟩,⟨[(0,1)],[0,1,6,7]⟩,⟨[(0,1),(1,1)],[0,1,6,7]⟩,⟨[],[0,1,6,8]⟩,⟨[],[0,1,6,8,9]⟩,⟨[],[0,1,6,8,9,10]⟩,⟨[],[0,1,6,8,9,10,39]⟩,⟨[(0,1)],[0,1,6,8,9,10]⟩,⟨[],[0,1,6,8,9,10,11]⟩,⟨[],[0,1,6,8,9,10,11,51]⟩,⟨[(0,1)],[0,1,6,8,9,10,11]⟩,⟨[(4,1)],[0,1,6,8,9,10,11,75]⟩,⟨[],[0,1,6,8,9,10,11]⟩,⟨[(0,1),(1,1)],[0,1,6,8,9,10]⟩,⟨[(0,1),(1,1)],[4,5]⟩],[(0,[0,1,6,7]),(2,[0,1,6,8,9,10])],[(0,[0,1,6]),(1,[0,1,6,7]),(2,[6,8]),(3,[0,1,6,8,9,10])],[4,5],[],[[true],[false]]⟩
def g172_T (m:Nat):FunT:=⟨172,[.a (.c (.imm (.int .u32))),sI],.tup [(.c (.nm 0 (.int .u32))),(.c .bool)],[sD,sD],fun(x:List Int×Int×Unit)=>g172 m x.1 x.2.1⟩
noncomputable def g172_C:Code:=codeOf Tryz.f172
noncomputable def g172_B0:Code:=qm g172_C 0 0
noncomputable def g172_B2:Code:=qm g172_C 0 1
def g172_L1_X (m:Nat):LT:=⟨2,[(0,.a (.c (.imm (.int .u32)))),(1,sI),(6,sB),(8,.a (.c (.nm 0 (.int .u32)))),(9,sI),(10,sI)],[(.exit 2,[(6,sB),(8,.a (.c (.nm 0 (.int .u32))))])],fun n (x:List Int×Int×Bool×List Int×Int×Int×Unit)=>g172_L1 m n x.1 x.2.1 x.2.2.1 x.2.2.2.1 x.2.2.2.2.1 x.2.2.2.2.2.1⟩
theorem g172_L1_ok {E:Entry} (hE:EOf Tryz.prog E 85 g172_H.pins) (m:Nat) (n:Nat):ql Tryz.prog E g172_B2 ((g172_L1_X m).at n):=
 lok hmix htt hE noF (L:=[]) (g172_L1_X m) (l:=[]) kR (fun _ _=>trivial) (fun n x=>kR) (fun _=>kR) n
def g172_L0_X (m:Nat):LT:=⟨0,[(0,.a (.c (.imm (.int .u32)))),(1,sI),(6,sB),(7,sI)],[(.exit 0,[(0,.a (.c (.imm (.int .u32)))),(1,sI),(6,sB)])],fun n (x:List Int×Int×Bool×Int×Unit)=>g172_L0 m n x.1 x.2.1 x.2.2.1 x.2.2.2.1⟩
theorem g172_L0_ok {E:Entry} (hE:EOf Tryz.prog E 85 g172_H.pins) (m:Nat) (n:Nat):ql Tryz.prog E g172_B0 ((g172_L0_X m).at n):=
 lok hmix htt hE noF (L:=[]) (g172_L0_X m) (l:=[]) kR (fun _ _=>trivial) (fun n x=>kR) (fun _=>kR) n
theorem g172_ok (m:Nat):FunOK Tryz.prog (g172_T m):=
 fok hmix htt (H:=g172_H) (g172_T m) Tryz.func172 kR noF (L:=[(g172_L0_X m).at m,(g172_L1_X m).at m]) (l:=[(0,g172_B0),(2,g172_B2)]) kR (fun _ hE _ _=>⟨qg ⟨yb (g172_L0_ok hE m m),nb rfl,trivial⟩,qg ⟨nb rfl,yb (g172_L1_ok hE m m),trivial⟩,trivial⟩) (fun x=>kR)
def g59_H:Hints:=⟨[⟨[],[1,2]⟩,⟨[],[2]⟩],[],[],[2],[],[[false,true]]⟩
def g59_T (m:Nat):FunT:=⟨59,[.a (.agg [.bool,(.imm (.int .u32))])],.a (.agg [.bool,(.nm 0 (.int .u32))]),[sD],fun(x:(Bool×List Int×Unit)×Unit)=>g59 m x.1.1 x.1.2.1⟩
theorem g59_ok (m:Nat):FunOK Tryz.prog (g59_T m):=
 fok hmix htt (H:=g59_H) (g59_T m) Tryz.func59 kR (AllF.mem (l:=[g105_T m]) ⟨g105_ok m,trivial⟩) (L:=[]) (l:=[]) kR (fun _ hE _ _=>trivial) (fun x=>kR)
def g106_H:Hints:=⟨[⟨[],[0,1]⟩,⟨[],[0,1,5]⟩,⟨[],[0,1,5,6]⟩,⟨[],[0,1,5,6,7]⟩,⟨[],[0,1,5,6,7,14]⟩,⟨[(0,1)],[0,1,5,6,7]⟩,⟨[],[0,1,5,6,7,20]⟩,⟨[(0,1)],[0,1,5,6,7]⟩,⟨[],[0,1,5,6,7,31]⟩,⟨[(0,1)],[0,1,5,6,7]⟩,⟨[(0,1)],[0,1,5,6,7]⟩,⟨[(0,1)],[0,1,5,6,7]⟩,⟨[(0,1),(1,1)],[4]⟩],[(0,[0,1,5,6,7])],[(0,[5,6]),(1,[0,1,5,6,7])],[4],[],[[true]]⟩
def g106_T (m:Nat):FunT:=⟨106,[.a (.c (.imm (.int .u32))),.a (.c (.imm (.int .u32)))],.a (.c (.nm 0 (.int .u32))),[sD,sD],fun(x:List Int×List Int×Unit)=>g106 m x.1 x.2.1⟩
noncomputable def g106_C:Code:=codeOf Tryz.f106
noncomputable def g106_B0:Code:=qm g106_C 0 0
def g106_L0_X (m:Nat):LT:=⟨0,[(0,.a (.c (.imm (.int .u32)))),(1,.a (.c (.imm (.int .u32)))),(5,.a (.c (.nm 0 (.int .u32)))),(6,sU),(7,sI)],[(.exit 0,[(5,.a (.c (.nm 0 (.int .u32)))),(6,sU)])],fun n (x:List Int×List Int×List Int×Int×Int×Unit)=>g106_L0 m n x.1 x.2.1 x.2.2.1 x.2.2.2.1 x.2.2.2.2.1⟩
theorem g106_L0_ok {E:Entry} (hE:EOf Tryz.prog E 51 g106_H.pins) (m:Nat) (n:Nat):ql Tryz.prog E g106_B0 ((g106_L0_X m).at n):=
 lok hmix htt hE noF (L:=[]) (g106_L0_X m) (l:=[]) kR (fun _ _=>trivial) (fun n x=>kR) (fun _=>kR) n
theorem g106_ok (m:Nat):FunOK Tryz.prog (g106_T m):=
 fok hmix htt (H:=g106_H) (g106_T m) Tryz.func106 kR noF (L:=[(g106_L0_X m).at m]) (l:=[(0,g106_B0)]) kR (fun _ hE _ _=>⟨qg ⟨yb (g106_L0_ok hE m m),trivial⟩,trivial⟩) (fun x=>kR)
def g107_H:Hints:=⟨[⟨[],[0,1]⟩,⟨[],[0,1,10]⟩,⟨[(0,1),(2,1)],[15]⟩,⟨[],[4]⟩,⟨[],[4]⟩,⟨[],[0,1,5]⟩,⟨[],[0,1,5,20]⟩,⟨[(0,1)],[0,1,5]⟩,⟨[],[0,1,5,31]⟩,⟨[(0,1),(4,1)],[40]⟩,⟨[],[4]⟩,⟨[],[4]⟩,⟨[],[4]⟩],[(0,[0,1,5])],[(0,[]),(1,[0,1,5])],[4],[],[[false]]⟩
def g107_T (m:Nat):FunT:=⟨107,[.a (.c (.imm (.int .u32))),.a (.c (.imm (.int .u32)))],sI,[sD,sD],fun(x:List Int×List Int×Unit)=>g107 m x.1 x.2.1⟩
noncomputable def g107_C:Code:=codeOf Tryz.f107
noncomputable def g107_B0:Code:=qm g107_C 0 0
def g107_L0_X (m:Nat):LT:=⟨0,[(0,.a (.c (.imm (.int .u32)))),(1,.a (.c (.imm (.int .u32)))),(5,sI)],[(.ret,[(4,sI)]),(.exit 0,[])],fun n (x:List Int×List Int×Int×Unit)=>g107_L0 m n x.1 x.2.1 x.2.2.1⟩
theorem g107_L0_ok {E:Entry} (hE:EOf Tryz.prog E 41 g107_H.pins) (m:Nat) (n:Nat):ql Tryz.prog E g107_B0 ((g107_L0_X m).at n):=
 lok hmix htt hE noF (L:=[]) (g107_L0_X m) (l:=[]) kR (fun _ _=>trivial) (fun n x=>kR) (fun _=>kR) n
theorem g107_ok (m:Nat):FunOK Tryz.prog (g107_T m):=
 fok hmix htt (H:=g107_H) (g107_T m) Tryz.func107 kR noF (L:=[(g107_L0_X m).at m]) (l:=[(0,g107_B0)]) kR (fun _ hE _ _=>⟨qg ⟨yb (g107_L0_ok hE m m),trivial⟩,trivial⟩) (fun x=>kR)
def g108_H:Hints:=⟨[⟨[],[0,1]⟩,⟨[],[0,1,5]⟩,⟨[],[0,1,5,6]⟩,⟨[],[0,1,5,6,7]⟩,⟨[],[0,1,5,6,7,12]⟩,⟨[(0,1)],[0,1,5,6,7]⟩,⟨[(5,1)],[0,1,5,7,8]⟩,⟨[],[0,1,5,7,8,25]⟩,⟨[(0,1)],[0,1,5,7,8]⟩,⟨[(0,1)],[0,1,5,7,8]⟩,⟨[(0,1)],[0,1,5,6,7]⟩,⟨[(0,1)],[4]⟩],[(0,[0,1,5,6,7])],[(0,[5]),(1,[0,1,5,6,7])],[4],[],[[true]]⟩
def g108_T (m:Nat):FunT:=⟨108,[.a (.c (.imm (.int .u32))),.a (.c (.imm (.int .u32)))],.a (.c (.nm 0 (.int .u32))),[sD,sD],fun(x:List Int×List Int×Unit)=>g108 m x.1 x.2.1⟩
noncomputable def g108_C:Code:=codeOf Tryz.f108
noncomputable def g108_B0:Code:=qm g108_C 0 0
def g108_L0_X (m:Nat):LT:=⟨0,[(0,.a (.c (.imm (.int .u32)))),(1,.a (.c (.imm (.int .u32)))),(5,.a (.c (.nm 0 (.int .u32)))),(6,sU),(7,sI)],[(.exit 0,[(5,.a (.c (.nm 0 (.int .u32))))])],fun n (x:List Int×List Int×List Int×Int×Int×Unit)=>g108_L0 m n x.1 x.2.1 x.2.2.1 x.2.2.2.1 x.2.2.2.2.1⟩
theorem g108_L0_ok {E:Entry} (hE:EOf Tryz.prog E 41 g108_H.pins) (m:Nat) (n:Nat):ql Tryz.prog E g108_B0 ((g108_L0_X m).at n):=
 lok hmix htt hE noF (L:=[]) (g108_L0_X m) (l:=[]) kR (fun _ _=>trivial) (fun n x=>kR) (fun _=>kR) n
theorem g108_ok (m:Nat):FunOK Tryz.prog (g108_T m):=
 fok hmix htt (H:=g108_H) (g108_T m) Tryz.func108 kR noF (L:=[(g108_L0_X m).at m]) (l:=[(0,g108_B0)]) kR (fun _ hE _ _=>⟨qg ⟨yb (g108_L0_ok hE m m),trivial⟩,trivial⟩) (fun x=>kR)
def g56_H:Hints:=⟨[⟨[],[2,3,4]⟩,⟨[],[2,3,4,5,6]⟩,⟨[],[2,3,4,5,6,17]⟩,⟨[(2,1),(3,1)],[4]⟩,⟨[],[2,3,4,5,6,27]⟩,⟨[(2,1),(3,1)],[4]⟩,⟨[(2,1),(3,1)],[4]⟩],[],[],[4],[],[[false,true]]⟩
def g56_T (m:Nat):FunT:=⟨56,[.a (.agg [.bool,(.imm (.int .u32))]),.a (.agg [.bool,(.imm (.int .u32))])],.a (.agg [.bool,(.nm 0 (.int .u32))]),[sD,sD],fun(x:(Bool×List Int×Unit)×(Bool×List Int×Unit)×Unit)=>g56 m x.1.1 x.1.2.1 x.2.1.1 x.2.1.2.1⟩
theorem g56_ok (m:Nat):FunOK Tryz.prog (g56_T m):=
 fok hmix htt (H:=g56_H) (g56_T m) Tryz.func56 kR (AllF.mem (l:=[g104_T m,g106_T m,g105_T m,g107_T m,g108_T m]) ⟨g104_ok m,g106_ok m,g105_ok m,g107_ok m,g108_ok m,trivial⟩) (L:=[]) (l:=[]) kR (fun _ hE _ _=>trivial) (fun x=>kR)
def g114_H:Hints:=⟨[⟨[],[2,3,4]⟩,⟨[],[4]⟩],[],[],[4],[],[[false,true]]⟩
def g114_T (m:Nat):FunT:=⟨114,[.a (.agg [.bool,(.imm (.int .u32))]),.a (.agg [.bool,(.imm (.int .u32))])],.a (.agg [.bool,(.nm 0 (.int .u32))]),[sD,sD],fun(x:(Bool×List Int×Unit)×(Bool×List Int×Unit)×Unit)=>g114 m x.1.1 x.1.2.1 x.2.1.1 x.2.1.2.1⟩
theorem g114_ok (m:Nat):FunOK Tryz.prog (g114_T m):=
 fok hmix htt (H:=g114_H) (g114_T m) Tryz.func114 kR (AllF.mem (l:=[g59_T m,g56_T m]) ⟨g59_ok m,g56_ok m,trivial⟩) (L:=[]) (l:=[]) kR (fun _ hE _ _=>trivial) (fun x=>kR)
def g155_H:Hints:=⟨[⟨[],[1,2,4]⟩,⟨[],[1,2,4]⟩,⟨[],[1,2,4,11]⟩,⟨[(4,1)],[4]⟩,⟨[(2,1),(5,1)],[2,4,5,6]⟩,⟨[(2,1)],[2,4,6,7]⟩,⟨[(2,1),(3,1)],[4,7,35]⟩,⟨[],[4,7]⟩,⟨[(0,1)],[4]⟩],[],[],[4],[],[[false,true]]⟩
def g155_T (m:Nat):FunT:=⟨155,[.a (.agg [.bool,(.imm (.int .u32))]),sI],.a (.agg [.bool,(.nm 0 (.int .u32))]),[sD,sD],fun(x:(Bool×List Int×Unit)×Int×Unit)=>g155 m x.1.1 x.1.2.1 x.2.1⟩
theorem g155_ok (m:Nat):FunOK Tryz.prog (g155_T m):=
 fok hmix htt (H:=g155_H) (g155_T m) Tryz.func155 kR (AllF.mem (l:=[g109_T m,g171_T m,g105_T m,g172_T m,g57_T m,g114_T m]) ⟨g109_ok m,g171_ok m,g105_ok m,g172_ok m,g57_ok m,g114_ok m,trivial⟩) (L:=[]) (l:=[]) kR (fun _ hE _ _=>trivial) (fun x=>kR)
def g158_H:Hints:=⟨[⟨[(1,2)],[1,2,4]⟩,⟨[],[1,2,4,6]⟩,⟨[(2,2)],[1,2,4]⟩,⟨[(0,1)],[1,2,4]⟩,⟨[(1,1)],[4]⟩],[(0,[1,2,4])],[(0,[1,2,4]),(1,[1,2,4])],[4],[],[[false,true]]⟩
def g158_T (m:Nat):FunT:=⟨158,[.a (.agg [.bool,(.imm (.int .u32))]),sI],.a (.agg [.bool,(.nm 0 (.int .u32))]),[sD,sD],fun(x:(Bool×List Int×Unit)×Int×Unit)=>g158 m x.1.1 x.1.2.1 x.2.1⟩
noncomputable def g158_C:Code:=codeOf Tryz.f158
noncomputable def g158_B0:Code:=qm g158_C 0 0
theorem g158_K (m:Nat): ∀u∈[g155_T m],FunOK Tryz.prog u:=AllF.mem ⟨g155_ok m,trivial⟩
def g158_L0_X (m:Nat):LT:=⟨0,[(1,sI),(2,.a (.bx 0 [.bool,(.imm (.int .u32))])),(4,.a (.bx 1 [.bool,(.imm (.int .u32))]))],[(.exit 0,[(1,sI),(2,.a (.bx 0 [.bool,(.imm (.int .u32))])),(4,.a (.bx 1 [.bool,(.imm (.int .u32))]))])],fun n (x:Int×(Bool×List Int×Unit)×(Bool×List Int×Unit)×Unit)=>g158_L0 m n x.1 x.2.1.1 x.2.1.2.1 x.2.2.1.1 x.2.2.1.2.1⟩
theorem g158_L0_ok {E:Entry} (hE:EOf Tryz.prog E 15 g158_H.pins) (m:Nat) (n:Nat):ql Tryz.prog E g158_B0 ((g158_L0_X m).at n):=
 lok hmix htt hE (g158_K m) (L:=[]) (g158_L0_X m) (l:=[]) kR (fun _ _=>trivial) (fun n x=>kR) (fun _=>kR) n
theorem g158_ok (m:Nat):FunOK Tryz.prog (g158_T m):=
 fok hmix htt (H:=g158_H) (g158_T m) Tryz.func158 kR (g158_K m) (L:=[(g158_L0_X m).at m]) (l:=[(0,g158_B0)]) kR (fun _ hE _ _=>⟨qg ⟨yb (g158_L0_ok hE m m),trivial⟩,trivial⟩) (fun x=>kR)
def g152_H:Hints:=⟨[⟨[],[1]⟩,⟨[],[3]⟩,⟨[],[3,9]⟩,⟨[],[2]⟩,⟨[],[2]⟩],[],[],[2],[],[[false]]⟩
def g152_T (m:Nat):FunT:=⟨152,[.a (.agg [.bool,(.imm (.int .u32))])],sI,[sD],fun(x:(Bool×List Int×Unit)×Unit)=>g152 m x.1.1 x.1.2.1⟩
theorem g152_ok (m:Nat):FunOK Tryz.prog (g152_T m):=
 fok hmix htt (H:=g152_H) (g152_T m) Tryz.func152 kR (AllF.mem (l:=[g104_T m,g168_T m]) ⟨g104_ok m,g168_ok m,trivial⟩) (L:=[]) (l:=[]) kR (fun _ hE _ _=>trivial) (fun x=>kR)
def g120_H:Hints:=⟨[⟨[],[1,2,4]⟩,⟨[],[1,2,4,5]⟩,⟨[],[1,2,4,5,13]⟩,⟨[],[4]⟩,⟨[],[1,2,4,5,16]⟩,⟨[],[4]⟩,⟨[],[1,2,4,5,6]⟩,⟨[(0,1)],[2,4,5,6,7]⟩,⟨[],[2,4,5,6,7]⟩,⟨[(1,1)],[2,4,5,7]⟩,⟨[(2,1)],[2,4,5,7,36]⟩,⟨[],[4]⟩,⟨[],[4,5,7]⟩,⟨[(0,1),(1,1)],[4]⟩],[],[],[4],[],[[false,false,true,false]]⟩
def g120_T (m:Nat):FunT:=⟨120,[.a (.agg [.bool,(.imm (.int .u32))]),sI],.a (.agg [.bool,.bool,(.nm 0 (.int .u32)),(.int .i64)]),[sD,sD],fun(x:(Bool×List Int×Unit)×Int×Unit)=>g120 m x.1.1 x.1.2.1 x.2.1⟩
theorem g120_ok (m:Nat):FunOK Tryz.prog (g120_T m):=
 fok hmix htt (H:=g120_H) (g120_T m) Tryz.func120 kR (AllF.mem (l:=[g109_T m,g119_T m,g157_T m,g118_T m,g158_T m,g152_T m]) ⟨g109_ok m,g119_ok m,g157_ok m,g118_ok m,g158_ok m,g152_ok m,trivial⟩) (L:=[]) (l:=[]) kR (fun _ hE _ _=>trivial) (fun x=>kR)
def g72_H:Hints:=⟨[⟨[],[0,2]⟩,⟨[(0,1)],[2]⟩],[],[],[2],[],[[false,false,true,false]]⟩
def g72_T (m:Nat):FunT:=⟨72,[sI],.a (.agg [.bool,.bool,(.nm 0 (.int .u32)),(.int .i64)]),[sD],fun(x:Int×Unit)=>g72 m x.1⟩
theorem g72_ok (m:Nat):FunOK Tryz.prog (g72_T m):=
 fok hmix htt (H:=g72_H) (g72_T m) Tryz.func72 kR (AllF.mem (l:=[g57_T m,g120_T m]) ⟨g57_ok m,g120_ok m,trivial⟩) (L:=[]) (l:=[]) kR (fun _ hE _ _=>trivial) (fun x=>kR)
def g116_H:Hints:=⟨[⟨[],[1,2]⟩,⟨[],[1,2,4]⟩,⟨[],[2]⟩,⟨[],[2]⟩],[],[],[2],[],[[false,false,true,false]]⟩
def g116_T (m:Nat):FunT:=⟨116,[.a (.agg [.bool,.bool,(.imm (.int .u32)),(.int .i64)])],.a (.agg [.bool,.bool,(.nm 0 (.int .u32)),(.int .i64)]),[sD],fun(x:(Bool×Bool×List Int×Int×Unit)×Unit)=>g116 m x.1.1 x.1.2.1 x.1.2.2.1 x.1.2.2.2.1⟩
theorem g116_ok (m:Nat):FunOK Tryz.prog (g116_T m):=
 fok hmix htt (H:=g116_H) (g116_T m) Tryz.func116 kR (AllF.mem (l:=[g119_T m,g120_T m]) ⟨g119_ok m,g120_ok m,trivial⟩) (L:=[]) (l:=[]) kR (fun _ hE _ _=>trivial) (fun x=>kR)
def g113_H:Hints:=⟨[⟨[],[1]⟩,⟨[],[1]⟩,⟨[],[1,5]⟩,⟨[],[2]⟩,⟨[],[10]⟩,⟨[],[2]⟩,⟨[],[2]⟩],[],[(0,[])],[2],[],[[false]]⟩
def g113_T (m:Nat):FunT:=⟨113,[.a (.agg [.bool,(.imm (.int .u32))])],sI,[sD],fun(x:(Bool×List Int×Unit)×Unit)=>g113 m x.1.1 x.1.2.1⟩
theorem g113_ok (m:Nat):FunOK Tryz.prog (g113_T m):=
 fok hmix htt (H:=g113_H) (g113_T m) Tryz.func113 kR (AllF.mem (l:=[g109_T m]) ⟨g109_ok m,trivial⟩) (L:=[]) (l:=[]) kR (fun _ hE _ _=>trivial) (fun x=>kR)
def g71_H:Hints:=⟨[⟨[],[1,2,4]⟩,⟨[],[1,2,4]⟩,⟨[(2,1)],[1,2,4,14]⟩,⟨[(0,1)],[4]⟩,⟨[(2,1)],[1,2,4,21]⟩,⟨[],[4]⟩,⟨[(4,1)],[4]⟩],[],[],[4],[],[[false,false,true,false]]⟩
def g71_T (m:Nat):FunT:=⟨71,[.a (.agg [.bool,.bool,(.imm (.int .u32)),(.int .i64)]),sI],.a (.agg [.bool,.bool,(.nm 0 (.int .u32)),(.int .i64)]),[sD,sD],fun(x:(Bool×Bool×List Int×Int×Unit)×Int×Unit)=>g71 m x.1.1 x.1.2.1 x.1.2.2.1 x.1.2.2.2.1 x.2.1⟩
theorem g71_ok (m:Nat):FunOK Tryz.prog (g71_T m):=
 fok hmix htt (H:=g71_H) (g71_T m) Tryz.func71 kR (AllF.mem (l:=[g116_T m,g113_T m,g119_T m,g120_T m]) ⟨g116_ok m,g113_ok m,g119_ok m,g120_ok m,trivial⟩) (L:=[]) (l:=[]) kR (fun _ hE _ _=>trivial) (fun x=>kR)
def g156_H:Hints:=⟨[⟨[],[0,1]⟩,⟨[(0,1)],[1,5]⟩,⟨[(0,1)],[4]⟩,⟨[(0,1)],[4]⟩],[],[],[4],[],[[false]]⟩
def g156_T (m:Nat):FunT:=⟨156,[sB,sU],sU,[sD,sD],fun(x:Bool×Int×Unit)=>g156 m x.1 x.2.1⟩
theorem g156_ok (m:Nat):FunOK Tryz.prog (g156_T m):=
 fok hmix htt (H:=g156_H) (g156_T m) Tryz.func156 kR noF (L:=[]) (l:=[]) kR (fun _ hE _ _=>trivial) (fun x=>kR)
end Go.Vs.F
