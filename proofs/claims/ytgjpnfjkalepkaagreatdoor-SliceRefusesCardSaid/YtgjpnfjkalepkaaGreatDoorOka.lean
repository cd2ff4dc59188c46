/-The plain functions are what the code does (by program:gen.py). -/
import Derived.Test.YtgjpnfjkalepkaaGreatDoorFn
import Derived.Test.YtgjpnfjkalepkaaGreatDoorVc
import Derived.Test.YtgjpnfjkalepkaaGreatDoorProg
import Derived.KernelRfl
set_option linter.unusedVariables false
set_option maxRecDepth 100000
namespace Go.Vs.F
open Go.Proofs
open Tryz
section
theorem kR{p:Prop}(h:p:=by kernel_rfl):p:=h
abbrev sD:Sh:=.a (.c .dead)
abbrev sI:Sh:=.a (.c (.int .i64))
abbrev sL:Sh:=.a (.c (.imm (.int .i64)))
abbrev sB:Sh:=.a (.c .bool)
abbrev sU:Sh:=.a (.c (.int .u64))
abbrev EO(E:Entry)(N:Nat)(H:Hints):=EOf prog E N H.pins
abbrev LO:=LoopOK prog
abbrev FO:=FunOK prog
abbrev FL(l:List FunT):=∀u∈l,FO u
abbrev sN(k:Nat):Sh:=.a (.c (.nm k (.int .i64)))
abbrev sX(k:Nat)(l:List ShC):Sh:=.a (.bx k l)
abbrev iI:ShC:=.int .i64
abbrev iU:ShC:=.int .u64
abbrev iL:ShC:=.imm (.int .i64)
abbrev iM(k:Nat):ShC:=.nm k (.int .i64)
def J(l:List Nat):Hint:=⟨[],l⟩
def J'(m:List (Nat×Nat))(l:List Nat):Hint:=⟨m,l⟩
def tt:TT:=[none,none,none,some ⟨(.int .i64),[.int .i64]⟩,some ⟨.bool,[.bool]⟩,some ⟨(.int .u8),[.int .u8]⟩,none,none,none,some ⟨.string,[.other]⟩,none,none,none,none,none,none,none,none,none,none,none,none,some ⟨(.slice 23 (.int .u64)),[.nil (.int .u64)]⟩,some ⟨(.int .u64),[.int .u64]⟩,some ⟨(.slice 3 (.int .i64)),[.nil (.int .i64)]⟩,some ⟨(.slice 29 (.int .u64)),[.nil (.int .u64)]⟩,none,some ⟨(.struct [(0,1),(1,1),(2,1),(3,1),(4,1)]),[.int .i64,.int .i64,.nil (.int .i64),.nil (.int .i64),.nil (.int .u64)]⟩,none,some ⟨(.int .u64),[.int .u64]⟩,none,none,some ⟨(.slice 40 (.pr (.int .u64) (.pr (.int .u64) (.int .i64)))),[.nil (.pr (.int .u64) (.pr (.int .u64) (.int .i64)))]⟩,none,none,none,none,none,none,none,some ⟨(.struct [(0,1),(1,1),(2,1)]),[.int .u64,.int .u64,.int .i64]⟩,none,none,none,none,none,none,none,none,none,none,none,none,none,none,none,none,none,none,none,none,none,none,none,none,none,none,none,none,none,some ⟨(.int .u64),[.int .u64]⟩,none,none,none,none,none,some ⟨(.slice 94 (.sl false (.pr .bool (.pr (.pr .bool (.sl false (.int .u32))) (.int .i64))))),[.nil (.sl false (.pr .bool (.pr (.pr .bool (.sl false (.int .u32))) (.int .i64))))]⟩,none,none,none,some ⟨(.slice 124 (.int .u32)),[.nil (.int .u32)]⟩,none,some ⟨(.struct [(0,1),(1,1)]),[.bool,.nil (.int .u32)]⟩,none,some ⟨(.struct [(0,1),(1,2),(3,1)]),[.bool,.bool,.nil (.int .u32),.int .i64]⟩,none,none,some ⟨(.struct [(0,1),(1,1),(2,1)]),[.int .i64,.int .i64,.int .i64]⟩,none,none,none,none,some ⟨(.slice 121 (.sl false (.pr .bool (.sl false (.int .u32))))),[.nil (.sl false (.pr .bool (.sl false (.int .u32))))]⟩,none,some ⟨(.slice 84 (.pr .bool (.pr (.pr .bool (.sl false (.int .u32))) (.int .i64)))),[.nil (.pr .bool (.pr (.pr .bool (.sl false (.int .u32))) (.int .i64)))]⟩,none,none,none,none,none,none,none,none,none,none,none,none,none,none,none,none,none,some ⟨(.slice 118 (.sl false (.pr (.pr .bool (.sl false (.int .u32))) (.pr .bool (.sl false (.int .u32)))))),[.nil (.sl false (.pr (.pr .bool (.sl false (.int .u32))) (.pr .bool (.sl false (.int .u32)))))]⟩,none,none,none,none,some ⟨(.struct [(0,2),(2,2)]),[.bool,.nil (.int .u32),.bool,.nil (.int .u32)]⟩,some ⟨(.slice 117 (.pr (.pr .bool (.sl false (.int .u32))) (.pr .bool (.sl false (.int .u32))))),[.nil (.pr (.pr .bool (.sl false (.int .u32))) (.pr .bool (.sl false (.int .u32))))]⟩,none,none,some ⟨(.slice 82 (.pr .bool (.sl false (.int .u32)))),[.nil (.pr .bool (.sl false (.int .u32)))]⟩,none,none,some ⟨(.int .u32),[.int .u32]⟩,none,none,none,none,none,none,none,none,none,none,none,none,none,none,none,none,none,none,none,none,none,none,none,none,none,none,none,none,none,none,none,none,none,none,none,none,none,none,none,none,some ⟨(.tab 0 .u8 [0,1,28,2,29,14,24,3,30,22,20,15,25,17,4,8,31,27,13,23,21,19,16,7,26,12,18,6,11,5,10,9]),[.other,.other,.other,.other,.other,.other,.other,.other,.other,.other,.other,.other,.other,.other,.other,.other,.other,.other,.other,.other,.other,.other,.other,.other,.other,.other,.other,.other,.other,.other,.other,.other]⟩]
theorem htt:TTok prog tt:=qgq kR
theorem hmix:prog.follows .mixedOrders=true:=kR
theorem lk{N:Nat}{H:Hints}{E:Entry}(hE:EO E N H){D:List FunT}(hD:FL D){B:Code}(t:LT)(n:Nat)(hl:q1r B t.blk=[]:=by kernel_rfl)(hr:∀n x,qe4 (mkC (outVal t.outs) D) (mkLp (outVal t.outs) []) tt N H B t.blk (t.ins.enc x) (Kl (t.run n))=t.run (n+1) x:=by intro n x;kernel_rfl)(h0:∀x,t.run 0 x=none:=by intro x;kernel_rfl):LO E B (t.at n):=lok hmix htt hE hD (L:=[]) t (l:=[]) hl (fun _ _=>trivial) hr h0 n
theorem fk(H:Hints)(t:FunT){fn:Func}(hf:prog.funcs[t.f]? =some fn){D:List FunT}(hD:FL D)(hb:okB fn=true:=by kernel_rfl)(hl:q1r (codeOf fn) 0=[]:=by kernel_rfl)(hr: ∀x,fnK (mkC (t.res.Val×Qw t.outs) D) (mkLp (t.res.Val×Qw t.outs) []) tt H fn (encS t.args x) (Kd t.res t.outs)=t.run x:=by intro x;kernel_rfl):FO t:=fok hmix htt (H:=H) t hf hb hD (L:=[]) (l:=[]) hl (fun _ hE _ _=>trivial) hr
theorem f1'(H:Hints)(t:FunT){fn:Func}(hf:prog.funcs[t.f]? =some fn){D:List FunT}(hD:FL D){X:LT}{m:Nat}{B:Code}(h:∀E:Entry,EO E fn.ntmps H->LO E B (X.at m))(hb:okB fn=true:=by kernel_rfl)(hl:q1r (codeOf fn) 0=[(X.blk,B)]:=by kernel_rfl)(hr: ∀x,fnK (mkC (t.res.Val×Qw t.outs) D) (mkLp (t.res.Val×Qw t.outs) [X.at m]) tt H fn (encS t.args x) (Kd t.res t.outs)=t.run x:=by intro x;kernel_rfl)(hk:qs3 [] [X.at m]=true:=by kernel_rfl):FO t:=fok hmix htt (H:=H) t hf hb hD (L:=[X.at m]) (l:=[(X.blk,B)]) hl (fun E hE _ _=>⟨qj ⟨yb (h E hE),trivial⟩,trivial⟩) hr hk
variable (m:Nat)
def g18H:Hints:=⟨[J [0,1],J' [(0,1),(2,1)] [4]],[],[],[4],[],[[false]]⟩
def g18T:FunT:=⟨18,[sI,sI],sI,[sD,sD],fun x=>g18 m x.1 x.2.1⟩
theorem g18ok:FO (g18T m):=fk g18H (g18T m) func18 noF
def g53H:Hints:=⟨[J [0,1],J [0,1,5],J [0,1,5,12],J' [(0,1),(2,1)] [5],J [5],J [4]],[],[],[4],[],[[false]]⟩
def g53T:FunT:=⟨53,[.a (.c (.imm (.int .u64))),sI],sU,[sD,sD],fun x=>g53 m x.1 x.2.1⟩
theorem g53ok:FO (g53T m):=fk g53H (g53T m) func53 (AllF.mem (l:=[g18T m]) ⟨g18ok m,trivial⟩)
def g32H:Hints:=⟨[J [0],J' [(0,1)] [2]],[],[],[2],[],[[false]]⟩
def g32T:FunT:=⟨32,[sU],sB,[sD],fun x=>g32 m x.1⟩
theorem g32ok:FO (g32T m):=fk g32H (g32T m) func32 noF
def g135H:Hints:=⟨[J [0],J [0,3],J' [(2,1)] [0,3,17],J' [(0,1)] [0,3],J [0,3,4],J [0,3,4,5],J [0,3,4,5,22],J' [(0,1)] [0,3,4,5],J' [(0,1)] [0,3,4,5],J' [(0,1)] [2]],[(0,[0,3]),(2,[0,3,4,5])],[(0,[0,3]),(1,[0,3]),(2,[4]),(3,[0,3,4,5])],[2],[],[[true]]⟩
def g135T:FunT:=⟨135,[.a (.c (.imm (.int .u32)))],.a (.c (.nm 0 (.int .u32))),[sD],fun x=>g135 m x.1⟩
noncomputable def g135C:Code:=codeOf f135
noncomputable def g135B0:Code:=qx g135C 0 0
noncomputable def g135B2:Code:=qx g135C 0 1
def g135L1X:LT:=⟨2,[(0,.a (.c (.imm (.int .u32)))),(3,sI),(4,.a (.c (.nm 0 (.int .u32)))),(5,sI)],[(.exit 2,[(4,.a (.c (.nm 0 (.int .u32))))])],fun n x=>g135L1 m n x.1 x.2.1 x.2.2.1 x.2.2.2.1⟩
theorem g135L1ok {E} (hE:EO E 33 g135H) (n):LO E g135B2 ((g135L1X m).at n):=lk hE noF (g135L1X m) n
def g135L0X:LT:=⟨0,[(0,.a (.c (.imm (.int .u32)))),(3,sI)],[(.exit 0,[(0,.a (.c (.imm (.int .u32)))),(3,sI)])],fun n x=>g135L0 m n x.1 x.2.1⟩
theorem g135L0ok {E} (hE:EO E 33 g135H) (n):LO E g135B0 ((g135L0X m).at n):=lk hE noF (g135L0X m) n
theorem g135ok:FO (g135T m):=
 fok hmix htt (H:=g135H) (g135T m) func135 kR noF (L:=[(g135L0X m).at m,(g135L1X m).at m]) (l:=[(0,g135B0),(2,g135B2)]) kR (fun _ hE _ _=>⟨qj ⟨yb (g135L0ok m hE m),nb rfl,trivial⟩,qj ⟨nb rfl,yb (g135L1ok m hE m),trivial⟩,trivial⟩) (fun x=>kR)
def g109H:Hints:=⟨[J [0,1,4],J' [(0,1)] [0,1,4],J' [(0,1),(1,1),(6,1)] [4]],[],[],[4],[],[[false,false]]⟩
def g109T:FunT:=⟨109,[sB,.a (.c (.imm (.int .u32)))],.a (.agg [.bool,(.imm (.int .u32))]),[sD,sD],fun x=>g109 m x.1 x.2.1⟩
theorem g109ok:FO (g109T m):=fk g109H (g109T m) func109 (AllF.mem (l:=[g135T m]) ⟨g135ok m,trivial⟩)
def g84H:Hints:=⟨[J [0,2],J [0,2,3],J [0,2,3,7],J [0,2,3],J' [(0,1)] [2]],[],[],[2],[],[[false,false]]⟩
def g84T:FunT:=⟨84,[sI],.a (.agg [.bool,(.imm (.int .u32))]),[sD],fun x=>g84 m x.1⟩
theorem g84ok:FO (g84T m):=fk g84H (g84T m) func84 (AllF.mem (l:=[g109T m]) ⟨g109ok m,trivial⟩)
def g103H:Hints:=⟨[J [1,2],J [2]],[],[],[2],[],[[false,false]]⟩
def g103T:FunT:=⟨103,[.a (.agg [.bool,(.imm (.int .u32))])],.a (.agg [.bool,(.imm (.int .u32))]),[sD],fun x=>g103 m x.1.1 x.1.2.1⟩
theorem g103ok:FO (g103T m):=fk g103H (g103T m) func103 (AllF.mem (l:=[g109T m]) ⟨g109ok m,trivial⟩)
def g97H:Hints:=⟨[J [0],J [0]],[],[],[0],[],[[false,false,true,false]]⟩
def g97T:FunT:=⟨97,[],.a (.agg [.bool,.bool,(.nm 0 (.int .u32)),(.int .i64)]),[],fun x=>g97 m⟩
theorem g97ok:FO (g97T m):=fk g97H (g97T m) func97 noF
def g139H:Hints:=⟨[J [0],J [0,4],J [2],J [2]],[],[],[2],[],[[false]]⟩
def g139T:FunT:=⟨139,[.a (.c (.int .u32))],sI,[sD],fun x=>g139 m x.1⟩
theorem g139ok:FO (g139T m):=fk g139H (g139T m) func139 noF
def g110H:Hints:=⟨[J [1],J [3],J [3,4],J [3,4,11],J' [(0,1)] [3,4],J [3,4,18],J' [(2,1)] [2],J [2]],[(0,[3,4])],[(0,[]),(1,[3,4])],[2],[],[[false]]⟩
def g110T:FunT:=⟨110,[.a (.agg [.bool,(.imm (.int .u32))])],sI,[sD],fun x=>g110 m x.1.1 x.1.2.1⟩
noncomputable def g110C:Code:=codeOf f110
noncomputable def g110B0:Code:=qx g110C 0 0
theorem g110K:FL [g135T m,g139T m]:=AllF.mem ⟨g135ok m,g139ok m,trivial⟩
def g110L0X:LT:=⟨0,[(3,.a (.c (.nm 0 (.int .u32)))),(4,sI)],[(.ret,[(2,sI)]),(.exit 0,[])],fun n x=>g110L0 m n x.1 x.2.1⟩
theorem g110L0ok {E} (hE:EO E 27 g110H) (n):LO E g110B0 ((g110L0X m).at n):=lk hE (g110K m) (g110L0X m) n
theorem g110ok:FO (g110T m):=f1' g110H (g110T m) func110 (g110K m) fun _ h=>g110L0ok m h m
def g82H:Hints:=⟨[J [1,2],J [2]],[],[],[2],[],[[false,false]]⟩
def g82T:FunT:=⟨82,[.a (.agg [.bool,(.imm (.int .u32))])],.a (.agg [.bool,(.imm (.int .u32))]),[sD],fun x=>g82 m x.1.1 x.1.2.1⟩
theorem g82ok:FO (g82T m):=fk g82H (g82T m) func82 (AllF.mem (l:=[g109T m]) ⟨g109ok m,trivial⟩)
def g129H:Hints:=⟨[J [0,1],J [0,1,5],J [0,1,5,6],J [0,1,5,6,7],J [0,1,5,6,7,14],J' [(0,1)] [0,1,5,6,7],J' [(0,1)] [0,1,5,6,7],J' [(0,1)] [0,1,5,6,7],J' [(0,1)] [0,1,5,6,7],J' [(0,1),(1,1)] [4]],[(0,[0,1,5,6,7])],[(0,[5,6]),(1,[0,1,5,6,7])],[4],[],[[true]]⟩
def g129T:FunT:=⟨129,[.a (.c (.imm (.int .u32))),sI],.a (.c (.nm 0 (.int .u32))),[sD,sD],fun x=>g129 m x.1 x.2.1⟩
noncomputable def g129C:Code:=codeOf f129
noncomputable def g129B0:Code:=qx g129C 0 0
def g129L0X:LT:=⟨0,[(0,.a (.c (.imm (.int .u32)))),(1,sI),(5,.a (.c (.nm 0 (.int .u32)))),(6,sU),(7,sI)],[(.exit 0,[(5,.a (.c (.nm 0 (.int .u32)))),(6,sU)])],fun n x=>g129L0 m n x.1 x.2.1 x.2.2.1 x.2.2.2.1 x.2.2.2.2.1⟩
theorem g129L0ok {E} (hE:EO E 39 g129H) (n):LO E g129B0 ((g129L0X m).at n):=lk hE noF (g129L0X m) n
theorem g129ok:FO (g129T m):=f1' g129H (g129T m) func129 noF fun _ h=>g129L0ok m h m
def g130H:Hints:=⟨[J [0,1],J [0,1,6],J [0,1,6,7],J' [(4,1)] [0,1,6,7,21],J' [(0,1)] [0,1,6,7],J' [(0,1),(1,1)] [0,1,6,7],J [0,1,6,8],J [0,1,6,8,9],J [0,1,6,8,9,10],J [0,1,6,8,9,10,39],J' [(0,1)] [0,1,6,8,9,10],J [0,1,6,8,9,10,11],J [0,1,6,8,9,10,11,51],J' [(0,1)] [0,1,6,8,9,10,11],J' [(4,1)] [0,1,6,8,9,10,11,75],J [0,1,6,8,9,10,11],J' [(0,1),(1,1)] [0,1,6,8,9,10],J' [(0,1),(1,1)] [4,5]],[(0,[0,1,6,7]),(2,[0,1,6,8,9,10])],[(0,[0,1,6]),(1,[0,1,6,7]),(2,[6,8]),(3,[0,1,6,8,9,10])],[4,5],[],[[true],[false]]⟩
def g130T:FunT:=⟨130,[.a (.c (.imm (.int .u32))),sI],.tup [(.c (.nm 0 (.int .u32))),(.c .bool)],[sD,sD],fun x=>g130 m x.1 x.2.1⟩
noncomputable def g130C:Code:=codeOf f130
noncomputable def g130B0:Code:=qx g130C 0 0
noncomputable def g130B2:Code:=qx g130C 0 1
def g130L1X:LT:=⟨2,[(0,.a (.c (.imm (.int .u32)))),(1,sI),(6,sB),(8,.a (.c (.nm 0 (.int .u32)))),(9,sI),(10,sI)],[(.exit 2,[(6,sB),(8,.a (.c (.nm 0 (.int .u32))))])],fun n x=>g130L1 m n x.1 x.2.1 x.2.2.1 x.2.2.2.1 x.2.2.2.2.1 x.2.2.2.2.2.1⟩
theorem g130L1ok {E} (hE:EO E 85 g130H) (n):LO E g130B2 ((g130L1X m).at n):=lk hE noF (g130L1X m) n
def g130L0X:LT:=⟨0,[(0,.a (.c (.imm (.int .u32)))),(1,sI),(6,sB),(7,sI)],[(.exit 0,[(0,.a (.c (.imm (.int .u32)))),(1,sI),(6,sB)])],fun n x=>g130L0 m n x.1 x.2.1 x.2.2.1 x.2.2.2.1⟩
theorem g130L0ok {E} (hE:EO E 85 g130H) (n):LO E g130B0 ((g130L0X m).at n):=lk hE noF (g130L0X m) n
theorem g130ok:FO (g130T m):=
 fok hmix htt (H:=g130H) (g130T m) func130 kR noF (L:=[(g130L0X m).at m,(g130L1X m).at m]) (l:=[(0,g130B0),(2,g130B2)]) kR (fun _ hE _ _=>⟨qj ⟨yb (g130L0ok m hE m),nb rfl,trivial⟩,qj ⟨nb rfl,yb (g130L1ok m hE m),trivial⟩,trivial⟩) (fun x=>kR)
def g133H:Hints:=⟨[J [1,2],J [2]],[],[],[2],[],[[false,false]]⟩
def g133T:FunT:=⟨133,[.a (.agg [.bool,(.imm (.int .u32))])],.a (.agg [.bool,(.imm (.int .u32))]),[sD],fun x=>g133 m x.1.1 x.1.2.1⟩
theorem g133ok:FO (g133T m):=fk g133H (g133T m) func133 (AllF.mem (l:=[g109T m]) ⟨g109ok m,trivial⟩)
def g160H:Hints:=⟨[J [0,1],J [0,1,5],J [0,1,5,6],J [0,1,5,6,7],J [0,1,5,6,7,14],J' [(0,1)] [0,1,5,6,7],J [0,1,5,6,7,20],J' [(0,1)] [0,1,5,6,7],J [0,1,5,6,7,31],J' [(0,1)] [0,1,5,6,7],J' [(0,1)] [0,1,5,6,7],J' [(0,1)] [0,1,5,6,7],J' [(0,1),(1,1)] [4]],[(0,[0,1,5,6,7])],[(0,[5,6]),(1,[0,1,5,6,7])],[4],[],[[true]]⟩
def g160T:FunT:=⟨160,[.a (.c (.imm (.int .u32))),.a (.c (.imm (.int .u32)))],.a (.c (.nm 0 (.int .u32))),[sD,sD],fun x=>g160 m x.1 x.2.1⟩
noncomputable def g160C:Code:=codeOf f160
noncomputable def g160B0:Code:=qx g160C 0 0
def g160L0X:LT:=⟨0,[(0,.a (.c (.imm (.int .u32)))),(1,.a (.c (.imm (.int .u32)))),(5,.a (.c (.nm 0 (.int .u32)))),(6,sU),(7,sI)],[(.exit 0,[(5,.a (.c (.nm 0 (.int .u32)))),(6,sU)])],fun n x=>g160L0 m n x.1 x.2.1 x.2.2.1 x.2.2.2.1 x.2.2.2.2.1⟩
theorem g160L0ok {E} (hE:EO E 51 g160H) (n):LO E g160B0 ((g160L0X m).at n):=lk hE noF (g160L0X m) n
theorem g160ok:FO (g160T m):=f1' g160H (g160T m) func160 noF fun _ h=>g160L0ok m h m
def g161H:Hints:=⟨[J [0,1],J [0,1,10],J' [(0,1),(2,1)] [15],J [4],J [4],J [0,1,5],J [0,1,5,20],J' [(0,1)] [0,1,5],J [0,1,5,31],J' [(0,1),(4,1)] [40],J [4],J [4],J [4]],[(0,[0,1,5])],[(0,[]),(1,[0,1,5])],[4],[],[[false]]⟩
def g161T:FunT:=⟨161,[.a (.c (.imm (.int .u32))),.a (.c (.imm (.int .u32)))],sI,[sD,sD],fun x=>g161 m x.1 x.2.1⟩
noncomputable def g161C:Code:=codeOf f161
noncomputable def g161B0:Code:=qx g161C 0 0
def g161L0X:LT:=⟨0,[(0,.a (.c (.imm (.int .u32)))),(1,.a (.c (.imm (.int .u32)))),(5,sI)],[(.ret,[(4,sI)]),(.exit 0,[])],fun n x=>g161L0 m n x.1 x.2.1 x.2.2.1⟩
theorem g161L0ok {E} (hE:EO E 41 g161H) (n):LO E g161B0 ((g161L0X m).at n):=lk hE noF (g161L0X m) n
theorem g161ok:FO (g161T m):=f1' g161H (g161T m) func161 noF fun _ h=>g161L0ok m h m
def g162H:Hints:=⟨[J [0,1],J [0,1,5],J [0,1,5,6],J [0,1,5,6,7],J [0,1,5,6,7,12],J' [(0,1)] [0,1,5,6,7],J' [(5,1)] [0,1,5,7,8],J [0,1,5,7,8,25],J' [(0,1)] [0,1,5,7,8],J' [(0,1)] [0,1,5,7,8],J' [(0,1)] [0,1,5,6,7],J' [(0,1)] [4]],[(0,[0,1,5,6,7])],[(0,[5]),(1,[0,1,5,6,7])],[4],[],[[true]]⟩
def g162T:FunT:=⟨162,[.a (.c (.imm (.int .u32))),.a (.c (.imm (.int .u32)))],.a (.c (.nm 0 (.int .u32))),[sD,sD],fun x=>g162 m x.1 x.2.1⟩
noncomputable def g162C:Code:=codeOf f162
noncomputable def g162B0:Code:=qx g162C 0 0
def g162L0X:LT:=⟨0,[(0,.a (.c (.imm (.int .u32)))),(1,.a (.c (.imm (.int .u32)))),(5,.a (.c (.nm 0 (.int .u32)))),(6,sU),(7,sI)],[(.exit 0,[(5,.a (.c (.nm 0 (.int .u32))))])],fun n x=>g162L0 m n x.1 x.2.1 x.2.2.1 x.2.2.2.1 x.2.2.2.2.1⟩
theorem g162L0ok {E} (hE:EO E 41 g162H) (n):LO E g162B0 ((g162L0X m).at n):=lk hE noF (g162L0X m) n
theorem g162ok:FO (g162T m):=f1' g162H (g162T m) func162 noF fun _ h=>g162L0ok m h m
def g132H:Hints:=⟨[J [2,3,4],J [2,3,4,5,6],J [2,3,4,5,6,17],J' [(2,1),(3,1)] [4],J [2,3,4,5,6,27],J' [(2,1),(3,1)] [4],J' [(2,1),(3,1)] [4]],[],[],[4],[],[[false,false]]⟩
def g132T:FunT:=⟨132,[.a (.agg [.bool,(.imm (.int .u32))]),.a (.agg [.bool,(.imm (.int .u32))])],.a (.agg [.bool,(.imm (.int .u32))]),[sD,sD],fun x=>g132 m x.1.1 x.1.2.1 x.2.1.1 x.2.1.2.1⟩
theorem g132ok:FO (g132T m):=fk g132H (g132T m) func132 (AllF.mem (l:=[g135T m,g160T m,g109T m,g161T m,g162T m]) ⟨g135ok m,g160ok m,g109ok m,g161ok m,g162ok m,trivial⟩)
def g128H:Hints:=⟨[J [2,3,4],J [4]],[],[],[4],[],[[false,false]]⟩
def g128T:FunT:=⟨128,[.a (.agg [.bool,(.imm (.int .u32))]),.a (.agg [.bool,(.imm (.int .u32))])],.a (.agg [.bool,(.imm (.int .u32))]),[sD,sD],fun x=>g128 m x.1.1 x.1.2.1 x.2.1.1 x.2.1.2.1⟩
theorem g128ok:FO (g128T m):=fk g128H (g128T m) func128 (AllF.mem (l:=[g133T m,g132T m]) ⟨g133ok m,g132ok m,trivial⟩)
def g96H:Hints:=⟨[J [1,2,4],J [1,2,4],J [1,2,4,11],J' [(4,1)] [4],J' [(2,1),(5,1)] [2,4,5,6],J' [(2,1)] [2,4,6,7],J' [(2,1),(3,1)] [4,7,35],J [4,7],J [4]],[],[],[4],[],[[false,false]]⟩
def g96T:FunT:=⟨96,[.a (.agg [.bool,(.imm (.int .u32))]),sI],.a (.agg [.bool,(.imm (.int .u32))]),[sD,sD],fun x=>g96 m x.1.1 x.1.2.1 x.2.1⟩
theorem g96ok:FO (g96T m):=fk g96H (g96T m) func96 (AllF.mem (l:=[g103T m,g129T m,g109T m,g130T m,g84T m,g128T m]) ⟨g103ok m,g129ok m,g109ok m,g130ok m,g84ok m,g128ok m,trivial⟩)
def g111H:Hints:=⟨[J [1,2,4],J [1,2,4,6],J [1,2,4],J' [(0,1)] [1,2,4],J' [(1,1)] [4]],[(0,[1,2,4])],[(0,[1,2,4]),(1,[1,2,4])],[4],[],[[false,false]]⟩
def g111T:FunT:=⟨111,[.a (.agg [.bool,(.imm (.int .u32))]),sI],.a (.agg [.bool,(.imm (.int .u32))]),[sD,sD],fun x=>g111 m x.1.1 x.1.2.1 x.2.1⟩
noncomputable def g111C:Code:=codeOf f111
noncomputable def g111B0:Code:=qx g111C 0 0
theorem g111K:FL [g96T m]:=AllF.mem ⟨g96ok m,trivial⟩
def g111L0X:LT:=⟨0,[(1,sI),(2,sX 0 [.bool,.imm (.int .u32)]),(4,sX 1 [.bool,.nm 2 (.int .u32)])],[(.exit 0,[(1,sI),(2,sX 0 [.bool,.imm (.int .u32)]),(4,sX 1 [.bool,.nm 2 (.int .u32)])])],fun n x=>g111L0 m n x.1 x.2.1.1 x.2.1.2.1 x.2.2.1.1 x.2.2.1.2.1⟩
theorem g111L0ok {E} (hE:EO E 15 g111H) (n):LO E g111B0 ((g111L0X m).at n):=lk hE (g111K m) (g111L0X m) n
theorem g111ok:FO (g111T m):=f1' g111H (g111T m) func111 (g111K m) fun _ h=>g111L0ok m h m
def g136H:Hints:=⟨[J [0,2],J [0,2,4],J' [(0,1)] [0],J [0,2],J [0,2,8],J' [(0,1)] [0,2],J' [(0,1)] [0,2],J' [(0,1),(1,1)] [2]],[],[],[2],[],[[false]]⟩
def g136T:FunT:=⟨136,[.a (.c (.int .u32))],sI,[sD],fun x=>g136 m x.1⟩
theorem g136ok:FO (g136T m):=fk g136H (g136T m) func136 noF
def g104H:Hints:=⟨[J [1],J [3],J [3,9],J [2],J [2]],[],[],[2],[],[[false]]⟩
def g104T:FunT:=⟨104,[.a (.agg [.bool,(.imm (.int .u32))])],sI,[sD],fun x=>g104 m x.1.1 x.1.2.1⟩
theorem g104ok:FO (g104T m):=fk g104H (g104T m) func104 (AllF.mem (l:=[g135T m,g136T m]) ⟨g135ok m,g136ok m,trivial⟩)
def g83H:Hints:=⟨[J [1,2,4],J [1,2,4,5],J [1,2,4,5,13],J [4],J [1,2,4,5,16],J [4],J [1,2,4,5,6],J' [(0,1)] [2,4,5,6,7],J [2,4,5,6,7],J' [(1,1)] [2,4,5,7],J' [(2,1)] [2,4,5,7,36],J [4],J [4,5,7],J' [(1,1)] [4]],[],[],[4],[],[[false,false,false,false]]⟩
def g83T:FunT:=⟨83,[.a (.agg [.bool,(.imm (.int .u32))]),sI],.a (.agg [.bool,.bool,(.imm (.int .u32)),(.int .i64)]),[sD,sD],fun x=>g83 m x.1.1 x.1.2.1 x.2.1⟩
theorem g83ok:FO (g83T m):=fk g83H (g83T m) func83 (AllF.mem (l:=[g103T m,g97T m,g110T m,g82T m,g111T m,g104T m]) ⟨g103ok m,g97ok m,g110ok m,g82ok m,g111ok m,g104ok m,trivial⟩)
def g59H:Hints:=⟨[J [0,2],J' [(0,1)] [2]],[],[],[2],[],[[false,false,false,false]]⟩
def g59T:FunT:=⟨59,[sI],.a (.agg [.bool,.bool,(.imm (.int .u32)),(.int .i64)]),[sD],fun x=>g59 m x.1⟩
theorem g59ok:FO (g59T m):=fk g59H (g59T m) func59 (AllF.mem (l:=[g84T m,g83T m]) ⟨g84ok m,g83ok m,trivial⟩)
def g79H:Hints:=⟨[J [1,2],J [1,2,4],J [2],J [2]],[],[],[2],[],[[false,false,false,false]]⟩
def g79T:FunT:=⟨79,[.a (.agg [.bool,.bool,(.imm (.int .u32)),(.int .i64)])],.a (.agg [.bool,.bool,(.imm (.int .u32)),(.int .i64)]),[sD],fun x=>g79 m x.1.1 x.1.2.1 x.1.2.2.1 x.1.2.2.2.1⟩
theorem g79ok:FO (g79T m):=fk g79H (g79T m) func79 (AllF.mem (l:=[g97T m,g83T m]) ⟨g97ok m,g83ok m,trivial⟩)
def g80H:Hints:=⟨[J [1],J [1],J [1,5],J [2],J [10],J [2],J [2]],[],[(0,[])],[2],[],[[false]]⟩
def g80T:FunT:=⟨80,[.a (.agg [.bool,(.imm (.int .u32))])],sI,[sD],fun x=>g80 m x.1.1 x.1.2.1⟩
theorem g80ok:FO (g80T m):=fk g80H (g80T m) func80 (AllF.mem (l:=[g103T m]) ⟨g103ok m,trivial⟩)
def g108H:Hints:=⟨[J [0,1],J' [(0,1)] [1,5],J' [(0,1)] [4],J' [(0,1)] [4]],[],[],[4],[],[[false]]⟩
def g108T:FunT:=⟨108,[sB,sU],sU,[sD,sD],fun x=>g108 m x.1 x.2.1⟩
theorem g108ok:FO (g108T m):=fk g108H (g108T m) func108 noF
def g105H:Hints:=⟨[J [0,1],J' [(2,1),(5,1),(10,1),(13,1)] [0,21],J' [(0,1)] [4],J' [(0,1)] [4]],[],[],[4],[],[[false]]⟩
def g105T:FunT:=⟨105,[sB,sI],sU,[sD,sD],fun x=>g105 m x.1 x.2.1⟩
theorem g105ok:FO (g105T m):=fk g105H (g105T m) func105 (AllF.mem (l:=[g108T m]) ⟨g108ok m,trivial⟩)
def g137H:Hints:=⟨[J [1,2],J' [(3,1),(5,1)] [6],J' [(0,1)] [4]],[],[],[4],[],[[false]]⟩
def g137T:FunT:=⟨137,[.a (.agg [.bool,(.imm (.int .u32))]),sI],sB,[sD,sD],fun x=>g137 m x.1.1 x.1.2.1 x.2.1⟩
theorem g137ok:FO (g137T m):=fk g137H (g137T m) func137 (AllF.mem (l:=[g135T m,g130T m]) ⟨g135ok m,g130ok m,trivial⟩)
def g138H:Hints:=⟨[J [0,1,2,3],J' [(0,1)] [0,1,2,9],J [0,1,2,9,10],J' [(0,1)] [8],J [0,1,2,9,13],J' [(0,1)] [8],J [1,2,17],J [8],J' [(2,1),(5,1),(6,1)] [8]],[],[(0,[1,2])],[8],[],[[false]]⟩
def g138T:FunT:=⟨138,[sB,sI,sB,sI],sB,[sD,sD,sD,sD],fun x=>g138 m x.1 x.2.1 x.2.2.1 x.2.2.2.1⟩
theorem g138ok:FO (g138T m):=fk g138H (g138T m) func138 noF
def g106H:Hints:=⟨[J [0,2,3,4,6,10],J [0,2,3,4,6,10,11],J [0,2,3,4,6,10,11,12],J' [(0,1),(2,1)] [0,2,3,4,6,10,11,27],J [10],J [0,2,3,4,6,10,11,13],J [0,2,3,4,6,10,11,13,30],J [0,2,3,4,6,10,11,13,14],J' [(3,1)] [0,2,3,4,6,10,11,13,42],J [0,2,3,4,6,10,11,13],J' [(0,1),(1,1),(3,1)] [0,4,10,11,13,49],J [0,4,10,11,13],J' [(3,1)] [0,4,10,11,13,15],J' [(0,1),(1,1),(2,1),(3,1)] [10,11,62],J [10,11],J [10]],[],[],[10],[],[[false,false]]⟩
def g106T:FunT:=⟨106,[sB,.a (.agg [.bool,(.imm (.int .u32))]),sI,sB,sI],.a (.agg [.bool,(.imm (.int .u32))]),[sD,sD,sD,sD,sD],fun x=>g106 m x.1 x.2.1.1 x.2.1.2.1 x.2.2.1 x.2.2.2.1 x.2.2.2.2.1⟩
theorem g106ok:FO (g106T m):=fk g106H (g106T m) func106 (AllF.mem (l:=[g111T m,g137T m,g110T m,g80T m,g138T m,g84T m,g132T m]) ⟨g111ok m,g137ok m,g110ok m,g80ok m,g138ok m,g84ok m,g132ok m,trivial⟩)
def g107H:Hints:=⟨[J [1],J [1],J [1,11],J [2,3],J [1,4],J [1,4,5],J [1,4,5,16],J' [(0,1)] [1,4,5],J' [(0,1)] [1,4,5],J [4,31],J [4,33],J [2,3],J' [(0,1)] [2,3],J [4,40],J [2,3],J' [(0,1)] [2,3]],[(0,[1,4,5])],[(0,[1,4]),(1,[1,4,5])],[2,3],[],[[false],[false]]⟩
def g107T:FunT:=⟨107,[.a (.agg [.bool,(.imm (.int .u32))])],.tup [(.c (.int .i64)),(.c .bool)],[sD],fun x=>g107 m x.1.1 x.1.2.1⟩
noncomputable def g107C:Code:=codeOf f107
noncomputable def g107B0:Code:=qx g107C 0 0
theorem g107K:FL [g103T m]:=AllF.mem ⟨g103ok m,trivial⟩
def g107L0X:LT:=⟨0,[(1,sX 0 [.bool,.imm (.int .u32)]),(4,sU),(5,sI)],[(.exit 0,[(1,sX 0 [.bool,.imm (.int .u32)]),(4,sU)])],fun n x=>g107L0 m n x.1.1 x.1.2.1 x.2.1 x.2.2.1⟩
theorem g107L0ok {E} (hE:EO E 43 g107H) (n):LO E g107B0 ((g107L0X m).at n):=lk hE (g107K m) (g107L0X m) n
theorem g107ok:FO (g107T m):=f1' g107H (g107T m) func107 (g107K m) fun _ h=>g107L0ok m h m
def g81H:Hints:=⟨[J [0,2,3,4,6],J [0,2,3,4,6,11],J [0,2,3,4,6,11,22],J' [(0,1),(1,1)] [10],J' [(0,1)] [0,2,3,4,6,12],J [0,2,3,4,6,12,13],J [0,2,3,4,6,12,13,31],J' [(3,1),(5,1)] [0,4,12,13],J' [(1,1)] [0,4,12,13],J' [(2,1)] [0,4,12,14],J [0,4,12,14,51],J [0,4,12,14],J' [(0,1)] [0,4,12,14],J' [(2,1)] [0,4,12,14,54],J' [(0,1),(1,1)] [10],J [0,12,14,65],J' [(0,1),(1,1),(5,1)] [10],J' [(0,1),(1,1)] [10]],[],[(0,[0,14])],[10],[],[[false]]⟩
def g81T:FunT:=⟨81,[sB,.a (.agg [.bool,(.imm (.int .u32))]),sI,sB,sI],sU,[sD,sD,sD,sD,sD],fun x=>g81 m x.1 x.2.1.1 x.2.1.2.1 x.2.2.1 x.2.2.2.1 x.2.2.2.2.1⟩
theorem g81ok:FO (g81T m):=fk g81H (g81T m) func81 (AllF.mem (l:=[g104T m,g105T m,g106T m,g107T m,g108T m,g96T m]) ⟨g104ok m,g105ok m,g106ok m,g107ok m,g108ok m,g96ok m,trivial⟩)
def g58H:Hints:=⟨[J [1,2],J [1,2],J [1,2,8],J [4],J [1,2,12],J [4],J' [(8,1)] [4]],[],[],[4],[],[[false]]⟩
def g58T:FunT:=⟨58,[.a (.agg [.bool,.bool,(.imm (.int .u32)),(.int .i64)]),sI],sU,[sD,sD],fun x=>g58 m x.1.1 x.1.2.1 x.1.2.2.1 x.1.2.2.2.1 x.2.1⟩
theorem g58ok:FO (g58T m):=fk g58H (g58T m) func58 (AllF.mem (l:=[g79T m,g80T m,g82T m,g81T m]) ⟨g79ok m,g80ok m,g82ok m,g81ok m,trivial⟩)
def g40H:Hints:=⟨[J [0,1],J' [(0,1),(2,1)] [4]],[],[],[4],[],[[false]]⟩
def g40T:FunT:=⟨40,[sI,sI],sU,[sD,sD],fun x=>g40 m x.1 x.2.1⟩
theorem g40ok:FO (g40T m):=fk g40H (g40T m) func40 (AllF.mem (l:=[g59T m,g58T m]) ⟨g59ok m,g58ok m,trivial⟩)
def g45H:Hints:=⟨[J [0],J' [(0,1)] [2]],[],[],[2],[],[[false]]⟩
def g45T:FunT:=⟨45,[sU],sU,[sD],fun x=>g45 m x.1⟩
theorem g45ok:FO (g45T m):=fk g45H (g45T m) func45 (AllF.mem (l:=[g40T m]) ⟨g40ok m,trivial⟩)
def g19H:Hints:=⟨[J [0,1],J' [(0,1)] [0,7],J [0,7,8],J [4],J [0,7,18],J [4],J [0,28],J' [(0,1)] [5],J [5,33],J [4],J' [(0,1)] [4],J' [(0,1)] [4]],[],[(0,[0])],[4],[],[[false]]⟩
def g19T:FunT:=⟨19,[sU,sI],sU,[sD,sD],fun x=>g19 m x.1 x.2.1⟩
theorem g19ok:FO (g19T m):=fk g19H (g19T m) func19 (AllF.mem (l:=[g18T m,g32T m,g45T m]) ⟨g18ok m,g32ok m,g45ok m,trivial⟩)
def g30H:Hints:=⟨[J [0,1,2,3,8],J [0,1,2,3,8,9],J [0,1,2,3,8,9,10],J [0,1,2,3,8,9,10,19],J' [(0,1)] [0,1,2,3,8,9,10],J [0,1,2,3,8,9,10,11],J [0,1,2,3,8,9,10,11,24],J' [(0,1)] [0,1,2,3,8,9,10,11],J [0,1,2,3,8,9,10,11,12],J [0,1,2,3,8,9,10,11,12,38],J' [(1,1)] [0,1,2,3,8,9,10,11,12],J' [(2,1),(6,3)] [0,1,2,3,8,9,10,11],J' [(1,1)] [0,1,2,3,8,9,10],J' [(0,1)] [8]],[(0,[0,1,2,3,8,9,10]),(2,[0,1,2,3,8,9,10,11])],[(0,[8,9]),(1,[0,1,2,3,8,9,10]),(2,[0,1,2,3,8,9,10]),(3,[0,1,2,3,8,9,10,11])],[8],[],[[false,false,true,true,true]]⟩
def g30T:FunT:=⟨30,[.a (.c (.imm (.int .u64))),sI,sI,sI],.a (.agg [(.int .i64),(.int .i64),(.nm 0 (.int .i64)),(.nm 1 (.int .i64)),(.nm 2 (.int .u64))]),[sD,sD,sD,sD],fun x=>g30 m x.1 x.2.1 x.2.2.1 x.2.2.2.1⟩
noncomputable def g30C:Code:=codeOf f30
noncomputable def g30B0:Code:=qx g30C 0 0
noncomputable def g30B2:Code:=qx g30B0 0 0
theorem g30K:FL [g53T m,g19T m]:=AllF.mem ⟨g53ok m,g19ok m,trivial⟩
def g30L1X:LT:=⟨2,[(0,.a (.c (.imm (.int .u64)))),(1,sI),(2,sI),(3,sI),(8,sX 0 [iI,iI,iM 1,iM 2,.nm 3 (.int .u64)]),(9,sX 4 [iI,iI,iM 5,iM 6,.nm 7 (.int .u64)]),(10,sI),(11,sI)],[(.exit 2,[(0,.a (.c (.imm (.int .u64)))),(1,sI),(2,sI),(3,sI),(8,sX 0 [iI,iI,iM 1,iM 2,.nm 3 (.int .u64)]),(9,sX 4 [iI,iI,iM 5,iM 6,.nm 7 (.int .u64)]),(10,sI)])],fun n x=>g30L1 m n x.1 x.2.1 x.2.2.1 x.2.2.2.1 x.2.2.2.2.1.1 x.2.2.2.2.1.2.1 x.2.2.2.2.1.2.2.1 x.2.2.2.2.1.2.2.2.1 x.2.2.2.2.1.2.2.2.2.1 x.2.2.2.2.2.1.1 x.2.2.2.2.2.1.2.1 x.2.2.2.2.2.1.2.2.1 x.2.2.2.2.2.1.2.2.2.1 x.2.2.2.2.2.1.2.2.2.2.1 x.2.2.2.2.2.2.1 x.2.2.2.2.2.2.2.1⟩
theorem g30L1ok {E} (hE:EO E 62 g30H) (n):LO E g30B2 ((g30L1X m).at n):=lk hE (g30K m) (g30L1X m) n
def g30L0X:LT:=⟨0,[(0,.a (.c (.imm (.int .u64)))),(1,sI),(2,sI),(3,sI),(8,sX 0 [iI,iI,iM 1,iM 2,.nm 3 (.int .u64)]),(9,sX 4 [iI,iI,iM 5,iM 6,.nm 7 (.int .u64)]),(10,sI)],[(.exit 0,[(8,sX 0 [iI,iI,iM 1,iM 2,.nm 3 (.int .u64)]),(9,sX 4 [iI,iI,iM 5,iM 6,.nm 7 (.int .u64)])])],fun n x=>g30L0 m n x.1 x.2.1 x.2.2.1 x.2.2.2.1 x.2.2.2.2.1.1 x.2.2.2.2.1.2.1 x.2.2.2.2.1.2.2.1 x.2.2.2.2.1.2.2.2.1 x.2.2.2.2.1.2.2.2.2.1 x.2.2.2.2.2.1.1 x.2.2.2.2.2.1.2.1 x.2.2.2.2.2.1.2.2.1 x.2.2.2.2.2.1.2.2.2.1 x.2.2.2.2.2.1.2.2.2.2.1 x.2.2.2.2.2.2.1⟩
theorem g30L0ok {E} (hE:EO E 62 g30H) (n):LO E g30B0 ((g30L0X m).at n):=
 lok hmix htt hE (g30K m) (L:=[(g30L1X m).at m]) (g30L0X m) (l:=[(2,g30B2)]) kR (fun _ _=>⟨qj ⟨yb (g30L1ok m hE m),trivial⟩,trivial⟩) (fun n x=>kR) (fun _=>kR) n
theorem g30ok:FO (g30T m):=f1' g30H (g30T m) func30 (g30K m) fun _ h=>g30L0ok m h m
def g49H:Hints:=⟨[J [0],J [3,4],J' [(2,1)] [3,4,10],J [2],J [3,4,17],J [2],J' [(0,1),(2,1),(3,1)] [20],J [2],J [2]],[],[(0,[])],[2],[],[[false]]⟩
def g49T:FunT:=⟨49,[sU],sI,[sD],fun x=>g49 m x.1⟩
theorem g49ok:FO (g49T m):=fk g49H (g49T m) func49 noF
def g65H:Hints:=⟨[J [0],J' [(0,1)] [2]],[],[],[2],[],[[false]]⟩
def g65T:FunT:=⟨65,[sU],sB,[sD],fun x=>g65 m x.1⟩
theorem g65ok:FO (g65T m):=fk g65H (g65T m) func65 noF
def g72H:Hints:=⟨[J [0,1,2],J' [(1,1),(3,1),(5,1)] [6]],[],[],[6],[],[[false]]⟩
def g72T:FunT:=⟨72,[sI,sI,sI],sB,[sD,sD,sD],fun x=>g72 m x.1 x.2.1 x.2.2.1⟩
theorem g72ok:FO (g72T m):=fk g72H (g72T m) func72 noF
def g163H:Hints:=⟨[J [0],J [2]],[],[],[2],[],[[false]]⟩
def g163T:FunT:=⟨163,[sI],sB,[sD],fun x=>g163 m x.1⟩
theorem g163ok:FO (g163T m):=fk g163H (g163T m) func163 noF
def g134H:Hints:=⟨[J [0,1],J' [(2,1),(7,1)] [4]],[],[],[4],[],[[false]]⟩
def g134T:FunT:=⟨134,[sI,sI],sB,[sD,sD],fun x=>g134 m x.1 x.2.1⟩
theorem g134ok:FO (g134T m):=fk g134H (g134T m) func134 (AllF.mem (l:=[g163T m]) ⟨g163ok m,trivial⟩)
def g100H:Hints:=⟨[J [0],J [0,3],J [0,3,8],J' [(0,1)] [0,3],J [0,3,20],J [2],J [2]],[(0,[0,3])],[(0,[]),(1,[0,3])],[2],[],[[false]]⟩
def g100T:FunT:=⟨100,[sL],sB,[sD],fun x=>g100 m x.1⟩
noncomputable def g100C:Code:=codeOf f100
noncomputable def g100B0:Code:=qx g100C 0 0
theorem g100K:FL [g134T m]:=AllF.mem ⟨g134ok m,trivial⟩
def g100L0X:LT:=⟨0,[(0,sL),(3,sI)],[(.ret,[(2,sB)]),(.exit 0,[])],fun n x=>g100L0 m n x.1 x.2.1⟩
theorem g100L0ok {E} (hE:EO E 21 g100H) (n):LO E g100B0 ((g100L0X m).at n):=lk hE (g100K m) (g100L0X m) n
theorem g100ok:FO (g100T m):=f1' g100H (g100T m) func100 (g100K m) fun _ h=>g100L0ok m h m
def g73H:Hints:=⟨[J [1],J' [(7,1),(14,1),(20,1),(32,1)] [1,47],J [2],J [1,49,50],J [1,49,50,51],J [1,3,49,50],J [1,3,4,49,50],J [1,4,49,50,66,67,68],J [1,4,49,50,66,67,68,69],J [1,4,6,49,50,66,67,68],J' [(1,1),(3,1)] [1,6,49,50,66,67,68,80],J [2],J' [(0,1)] [1,4,49,50,66,67,68],J' [(1,1)] [1,4,49,50,66,67,68],J' [(1,1)] [1,49,50],J [2]],[(0,[1,49,50]),(2,[1,4,49,50,66,67,68])],[(0,[]),(1,[1,49,50]),(2,[1,49,50]),(3,[1,4,49,50,66,67,68])],[2],[],[[false]]⟩
def g73T:FunT:=⟨73,[.a (.agg [(.int .i64),(.int .i64),(.imm (.int .i64)),(.imm (.int .i64)),(.imm (.int .u64))])],sB,[sD],fun x=>g73 m x.1.1 x.1.2.1 x.1.2.2.1 x.1.2.2.2.1 x.1.2.2.2.2.1⟩
noncomputable def g73C:Code:=codeOf f73
noncomputable def g73B0:Code:=qx g73C 0 0
noncomputable def g73B2:Code:=qx g73B0 0 0
theorem g73K:FL [g100T m]:=AllF.mem ⟨g100ok m,trivial⟩
def g73L1X:LT:=⟨2,[(1,sX 0 [iI,iI,iL,iL,.imm (.int .u64)]),(4,sI),(49,sI),(50,sI),(66,sL),(67,sI),(68,sI)],[(.ret,[(2,sB)]),(.exit 2,[(1,sX 0 [iI,iI,iL,iL,.imm (.int .u64)]),(49,sI),(50,sI)])],fun n x=>g73L1 m n x.1.1 x.1.2.1 x.1.2.2.1 x.1.2.2.2.1 x.1.2.2.2.2.1 x.2.1 x.2.2.1 x.2.2.2.1 x.2.2.2.2.1 x.2.2.2.2.2.1 x.2.2.2.2.2.2.1⟩
theorem g73L1ok {E} (hE:EO E 84 g73H) (n):LO E g73B2 ((g73L1X m).at n):=lk hE (g73K m) (g73L1X m) n
def g73L0X:LT:=⟨0,[(1,sX 0 [iI,iI,iL,iL,.imm (.int .u64)]),(49,sI),(50,sI)],[(.ret,[(2,sB)]),(.exit 0,[])],fun n x=>g73L0 m n x.1.1 x.1.2.1 x.1.2.2.1 x.1.2.2.2.1 x.1.2.2.2.2.1 x.2.1 x.2.2.1⟩
theorem g73L0ok {E} (hE:EO E 84 g73H) (n):LO E g73B0 ((g73L0X m).at n):=
 lok hmix htt hE (g73K m) (L:=[(g73L1X m).at m]) (g73L0X m) (l:=[(2,g73B2)]) kR (fun _ _=>⟨qj ⟨yb (g73L1ok m hE m),trivial⟩,trivial⟩) (fun n x=>kR) (fun _=>kR) n
theorem g73ok:FO (g73T m):=f1' g73H (g73T m) func73 (g73K m) fun _ h=>g73L0ok m h m
def g102H:Hints:=⟨[J [0],J [2,3]],[],[],[2,3],[],[[false],[false]]⟩
def g102T:FunT:=⟨102,[sU],.tup [(.c (.int .i64)),(.c (.int .u64))],[sD],fun x=>g102 m x.1⟩
theorem g102ok:FO (g102T m):=fk g102H (g102T m) func102 noF
def g76H:Hints:=⟨[J [0],J' [(0,1),(2,1)] [3],J' [(0,1)] [2]],[],[],[2],[],[[false]]⟩
def g76T:FunT:=⟨76,[sU],sB,[sD],fun x=>g76 m x.1⟩
theorem g76ok:FO (g76T m):=fk g76H (g76T m) func76 (AllF.mem (l:=[g102T m]) ⟨g102ok m,trivial⟩)
def g75H:Hints:=⟨[J [0],J' [(0,1)] [2]],[],[],[2],[],[[false]]⟩
def g75T:FunT:=⟨75,[sU],sB,[sD],fun x=>g75 m x.1⟩
theorem g75ok:FO (g75T m):=fk g75H (g75T m) func75 (AllF.mem (l:=[g76T m]) ⟨g76ok m,trivial⟩)
def g101H:Hints:=⟨[J [0,1],J [0,1,7,8],J [0,1,7,8,9],J [0,1,5,7,8],J [0,1,5,7,8,16],J' [(0,1)] [4],J' [(1,1)] [0,1,7,8],J [4]],[(0,[0,1,7,8])],[(0,[]),(1,[0,1,7,8])],[4],[],[[false]]⟩
def g101T:FunT:=⟨101,[.a (.c (.imm (.int .u64))),.a (.c (.fn 75))],sI,[sD,sD],fun x=>g101 m x.1⟩
noncomputable def g101C:Code:=codeOf f101
noncomputable def g101B0:Code:=qx g101C 0 0
theorem g101K:FL [g75T m]:=AllF.mem ⟨g75ok m,trivial⟩
def g101L0X:LT:=⟨0,[(0,.a (.c (.imm (.int .u64)))),(1,.a (.c (.fn 75))),(7,sI),(8,sI)],[(.ret,[(4,sI)]),(.exit 0,[])],fun n x=>g101L0 m n x.1 x.2.2.1 x.2.2.2.1⟩
theorem g101L0ok {E} (hE:EO E 19 g101H) (n):LO E g101B0 ((g101L0X m).at n):=lk hE (g101K m) (g101L0X m) n
theorem g101ok:FO (g101T m):=f1' g101H (g101T m) func101 (g101K m) fun _ h=>g101L0ok m h m
def g74H:Hints:=⟨[J [0,1],J' [(0,1),(1,1)] [4]],[],[],[4],[],[[false]]⟩
def g74T:FunT:=⟨74,[.a (.c (.imm (.int .u64))),.a (.c (.fn 75))],sB,[sD,sD],fun x=>g74 m x.1⟩
theorem g74ok:FO (g74T m):=fk g74H (g74T m) func74 (AllF.mem (l:=[g101T m]) ⟨g101ok m,trivial⟩)
def g56H:Hints:=⟨[J [1],J' [(4,1),(10,1)] [1,3],J [2],J [1,20],J [2],J [24],J [2],J [2]],[],[(0,[])],[2],[],[[false]]⟩
def g56T:FunT:=⟨56,[.a (.agg [(.int .i64),(.int .i64),(.imm (.int .i64)),(.imm (.int .i64)),(.imm (.int .u64))])],sI,[sD],fun x=>g56 m x.1.1 x.1.2.1 x.1.2.2.1 x.1.2.2.2.1 x.1.2.2.2.2.1⟩
theorem g56ok:FO (g56T m):=fk g56H (g56T m) func56 (AllF.mem (l:=[g72T m,g73T m,g74T m]) ⟨g72ok m,g73ok m,g74ok m,trivial⟩)
def g33H:Hints:=⟨[J [1],J [1,3],J [1,3,7],J' [(0,1)] [2],J [1,9],J [2],J [15],J [2],J [2]],[],[(0,[])],[2],[],[[false]]⟩
def g33T:FunT:=⟨33,[.a (.agg [(.int .i64),(.int .i64),(.imm (.int .i64)),(.imm (.int .i64)),(.imm (.int .u64))])],sI,[sD],fun x=>g33 m x.1.1 x.1.2.1 x.1.2.2.1 x.1.2.2.2.1 x.1.2.2.2.2.1⟩
theorem g33ok:FO (g33T m):=fk g33H (g33T m) func33 (AllF.mem (l:=[g56T m]) ⟨g56ok m,trivial⟩)
def g77H:Hints:=⟨[J [0],J' [(0,1),(2,1)] [3,4],J' [(2,1)] [3,4,10],J [2],J [3,4,17],J [2],J' [(0,1),(2,1),(3,1)] [20],J [2],J [2]],[],[(0,[])],[2],[],[[false]]⟩
def g77T:FunT:=⟨77,[sU],sI,[sD],fun x=>g77 m x.1⟩
theorem g77ok:FO (g77T m):=fk g77H (g77T m) func77 (AllF.mem (l:=[g102T m]) ⟨g102ok m,trivial⟩)
def g89H:Hints:=⟨[J [0],J' [(0,1)] [5,6,7],J [5,6,7,8],J [4,5,6,7],J' [(0,1)] [5,6,7,13],J [2],J' [(1,1)] [5,6,7],J [2]],[(0,[5,6,7])],[(0,[]),(1,[5,6,7])],[2],[],[[false]]⟩
def g89T:FunT:=⟨89,[.a (.c (.imm (.int .u64)))],sB,[sD],fun x=>g89 m x.1⟩
noncomputable def g89C:Code:=codeOf f89
noncomputable def g89B0:Code:=qx g89C 0 0
theorem g89K:FL [g77T m]:=AllF.mem ⟨g77ok m,trivial⟩
def g89L0X:LT:=⟨0,[(5,.a (.c (.imm (.int .u64)))),(6,sI),(7,sI)],[(.ret,[(2,sB)]),(.exit 0,[])],fun n x=>g89L0 m n x.1 x.2.1 x.2.2.1⟩
theorem g89L0ok {E} (hE:EO E 15 g89H) (n):LO E g89B0 ((g89L0X m).at n):=lk hE (g89K m) (g89L0X m) n
theorem g89ok:FO (g89T m):=f1' g89H (g89T m) func89 (g89K m) fun _ h=>g89L0ok m h m
def g78H:Hints:=⟨[J [0],J [0,5],J [2],J' [(0,1)] [2]],[],[],[2],[],[[false]]⟩
def g78T:FunT:=⟨78,[sU],sU,[sD],fun x=>g78 m x.1⟩
theorem g78ok:FO (g78T m):=fk g78H (g78T m) func78 (AllF.mem (l:=[g89T m]) ⟨g89ok m,trivial⟩)
def g57H:Hints:=⟨[J [0],J [0,7],J [2,3],J [0,4],J [4,14],J' [(0,1)] [4],J' [(0,1)] [2,3]],[],[],[2,3],[],[[false],[false]]⟩
def g57T:FunT:=⟨57,[sU],.tup [(.c (.int .i64)),(.c .bool)],[sD],fun x=>g57 m x.1⟩
theorem g57ok:FO (g57T m):=fk g57H (g57T m) func57 (AllF.mem (l:=[g77T m,g78T m]) ⟨g77ok m,g78ok m,trivial⟩)
def g34H:Hints:=⟨[J [0,1],J' [(0,1),(2,1)] [1,5,6],J' [(0,1),(2,1)] [5,6,7,8],J' [(0,1),(1,1),(2,1),(4,1),(5,1),(6,1)] [4]],[],[],[4],[],[[false]]⟩
def g34T:FunT:=⟨34,[sU,sU],sB,[sD,sD],fun x=>g34 m x.1 x.2.1⟩
theorem g34ok:FO (g34T m):=fk g34H (g34T m) func34 (AllF.mem (l:=[g57T m]) ⟨g57ok m,trivial⟩)
def g62H:Hints:=⟨[J [1,2,3],J [1,2,3,7],J [1,2,3,7,11],J' [(0,1)] [6],J [1,2,3,13],J [6],J [1,2,19],J [6],J' [(3,1),(4,1),(6,1)] [23],J [6],J [6]],[],[(0,[])],[6],[],[[false]]⟩
def g62T:FunT:=⟨62,[.a (.agg [(.int .i64),(.int .i64),(.imm (.int .i64)),(.imm (.int .i64)),(.imm (.int .u64))]),sU,sB],sI,[sD,sD,sD],fun x=>g62 m x.1.1 x.1.2.1 x.1.2.2.1 x.1.2.2.2.1 x.1.2.2.2.2.1 x.2.1 x.2.2.1⟩
theorem g62ok:FO (g62T m):=fk g62H (g62T m) func62 (AllF.mem (l:=[g56T m,g77T m,g76T m]) ⟨g56ok m,g77ok m,g76ok m,trivial⟩)
def g143H:Hints:=⟨[J [0],J [0,3],J' [(2,1)] [0,3,15],J' [(0,1)] [0,3],J' [(0,1),(1,1)] [2]],[(0,[0,3])],[(0,[0,3]),(1,[0,3])],[2],[],[[false]]⟩
def g143T:FunT:=⟨143,[.a (.c (.imm (.int .u32)))],.a (.c (.imm (.int .u32))),[sD],fun x=>g143 m x.1⟩
noncomputable def g143C:Code:=codeOf f143
noncomputable def g143B0:Code:=qx g143C 0 0
def g143L0X:LT:=⟨0,[(0,.a (.c (.imm (.int .u32)))),(3,sI)],[(.exit 0,[(0,.a (.c (.imm (.int .u32)))),(3,sI)])],fun n x=>g143L0 m n x.1 x.2.1⟩
theorem g143L0ok {E} (hE:EO E 21 g143H) (n):LO E g143B0 ((g143L0X m).at n):=lk hE noF (g143L0X m) n
theorem g143ok:FO (g143T m):=f1' g143H (g143T m) func143 noF fun _ h=>g143L0ok m h m
def g153H:Hints:=⟨[J [0,1,4],J' [(0,1)] [0,1,4],J [0,1,4,9],J [4],J' [(0,1),(1,1)] [4]],[],[],[4],[],[[false,false]]⟩
def g153T:FunT:=⟨153,[sB,.a (.c (.imm (.int .u32)))],.a (.agg [.bool,(.imm (.int .u32))]),[sD,sD],fun x=>g153 m x.1 x.2.1⟩
theorem g153ok:FO (g153T m):=fk g153H (g153T m) func153 (AllF.mem (l:=[g143T m]) ⟨g143ok m,trivial⟩)
def g144H:Hints:=⟨[J [0,2],J [0,2,3],J [0,2,3,7],J' [(0,1)] [0,2,3],J' [(0,1)] [2]],[],[],[2],[],[[false,false]]⟩
def g144T:FunT:=⟨144,[sI],.a (.agg [.bool,(.imm (.int .u32))]),[sD],fun x=>g144 m x.1⟩
theorem g144ok:FO (g144T m):=fk g144H (g144T m) func144 (AllF.mem (l:=[g153T m]) ⟨g153ok m,trivial⟩)
def g124H:Hints:=⟨[J [0],J' [(0,1)] [2]],[],[],[2],[],[[false]]⟩
def g124T:FunT:=⟨124,[sU],sB,[sD],fun x=>g124 m x.1⟩
theorem g124ok:FO (g124T m):=fk g124H (g124T m) func124 noF
def g154H:Hints:={regs:=[J [0],J [0],J [2],J [2]],heads:=[],exits:=[],rets:=[2],pins:=[],spec:=[[true]]}
abbrev g154A:List Sh:=[.a (.c (.imm (.int .u32)))]
abbrev g154S:Sh:= .a (.c (.nm 0 (.int .u32)))
abbrev g154U:List Sh:=[sD]
def g154R:Qw g154A->Option (g154S.Val×Qw g154U):=fun x=>g154 m x.1
def g154T:FunT:=⟨154,g154A,g154S,g154U,g154R m⟩
noncomputable def g154C:Code:=codeOf f154
theorem g154ok:FO (g154T m):=
 ql6 hmix htt (H:=g154H) (fn:=f154) (f:=154) (t:=(.int .u32)) (ty:=80) (e:=124) (ty2:=80) (k:=1) (cells:=[.nil (.int .u32)]) (A:=pA g154C) (X:=pX (pB (pA (pB g154C)))) (Y:=pB (pB g154C)) (o0:=pO 0 (pA (pA (pB g154C)))) (o1:=pO 1 (pA (pA (pB g154C)))) func154 kR kR kR kR kR kR kR kR kR (of_decide_eq_true kR) rfl kR kR kR (fun xs=>[(0,.sl .imm (.int .u32) xs)]) (fun xs=>[(2,.sl (.nm 0) (.int .u32) xs)]) (fun xs=>kR) (fun _=>rfl) (fun _=>rfl) (fun _=>rfl) kR (fun xs=>kR) (fun xs=>kR)
def g148H:Hints:=⟨[J [1,2],J [2]],[],[],[2],[],[[false,false]]⟩
def g148T:FunT:=⟨148,[.a (.agg [.bool,(.imm (.int .u32))])],.a (.agg [.bool,(.imm (.int .u32))]),[sD],fun x=>g148 m x.1.1 x.1.2.1⟩
theorem g148ok:FO (g148T m):=fk g148H (g148T m) func148 (AllF.mem (l:=[g154T m,g153T m]) ⟨g154ok m,g153ok m,trivial⟩)
def g151H:Hints:=⟨[J [0],J [0]],[],[],[0],[],[[false,false,true,false]]⟩
def g151T:FunT:=⟨151,[],.a (.agg [.bool,.bool,(.nm 0 (.int .u32)),(.int .i64)]),[],fun x=>g151 m⟩
theorem g151ok:FO (g151T m):=fk g151H (g151T m) func151 noF
def g121H:Hints:=⟨[J [1,2],J [2]],[],[],[2],[],[[false,false]]⟩
def g121T:FunT:=⟨121,[.a (.agg [.bool,(.imm (.int .u32))])],.a (.agg [.bool,(.imm (.int .u32))]),[sD],fun x=>g121 m x.1.1 x.1.2.1⟩
theorem g121ok:FO (g121T m):=fk g121H (g121T m) func121 (AllF.mem (l:=[g154T m,g153T m]) ⟨g154ok m,g153ok m,trivial⟩)
def g116H:Hints:=⟨[J [1],J [1,3],J [2],J [9],J [2],J [2]],[],[(0,[])],[2],[],[[false]]⟩
def g116T:FunT:=⟨116,[.a (.agg [.bool,(.imm (.int .u32))])],sI,[sD],fun x=>g116 m x.1.1 x.1.2.1⟩
theorem g116ok:FO (g116T m):=fk g116H (g116T m) func116 (AllF.mem (l:=[g143T m]) ⟨g143ok m,trivial⟩)
def g172H:Hints:=⟨[J [1],J [6,7,8],J [6,7,8,9],J [3,4,6,7,8],J [3,4,6,7,8,14],J' [(0,1),(2,1)] [2],J' [(1,1)] [6,7,8],J [2]],[(0,[6,7,8])],[(0,[]),(1,[6,7,8])],[2],[],[[false]]⟩
def g172T:FunT:=⟨172,[.a (.agg [.bool,(.imm (.int .u32))])],sI,[sD],fun x=>g172 m x.1.1 x.1.2.1⟩
noncomputable def g172C:Code:=codeOf f172
noncomputable def g172B0:Code:=qx g172C 0 0
theorem g172K:FL [g139T m]:=AllF.mem ⟨g139ok m,trivial⟩
def g172L0X:LT:=⟨0,[(6,.a (.c (.imm (.int .u32)))),(7,sI),(8,sI)],[(.ret,[(2,sI)]),(.exit 0,[])],fun n x=>g172L0 m n x.1 x.2.1 x.2.2.1⟩
theorem g172L0ok {E} (hE:EO E 21 g172H) (n):LO E g172B0 ((g172L0X m).at n):=lk hE (g172K m) (g172L0X m) n
theorem g172ok:FO (g172T m):=f1' g172H (g172T m) func172 (g172K m) fun _ h=>g172L0ok m h m
def g184H:Hints:=⟨[J [0],J [0,5],J [2],J [2]],[],[],[2],[],[[false]]⟩
def g184T:FunT:=⟨184,[.a (.c (.imm (.int .u32)))],sI,[sD],fun x=>g184 m x.1⟩
theorem g184ok:FO (g184T m):=fk g184H (g184T m) func184 (AllF.mem (l:=[g136T m]) ⟨g136ok m,trivial⟩)
def g173H:Hints:=⟨[J [1],J [2]],[],[],[2],[],[[false]]⟩
def g173T:FunT:=⟨173,[.a (.agg [.bool,(.imm (.int .u32))])],sI,[sD],fun x=>g173 m x.1.1 x.1.2.1⟩
theorem g173ok:FO (g173T m):=fk g173H (g173T m) func173 (AllF.mem (l:=[g143T m,g184T m]) ⟨g143ok m,g184ok m,trivial⟩)
def g175H:Hints:=⟨[J [0,1],J [0,1,13],J [4],J [0,5,6],J [0,5,6,7],J' [(0,1)] [5,6,7,25,26,27],J [5,6,7,25,26,27,28],J [5,6,7,8,9,25,26,27],J' [(0,1)] [5,6,7,8,10,25,26,27],J [5,6,7,8,10,25,26,27],J' [(2,1),(5,1)] [5,6,7,25,26,27],J' [(1,1)] [5,6,7,25,26,27],J' [(0,1)] [4]],[(0,[5,6,7,25,26,27])],[(0,[7]),(1,[5,6,7,25,26,27])],[4],[],[[false]]⟩
def g175T:FunT:=⟨175,[.a (.c (.imm (.int .u32))),sI],.a (.c (.imm (.int .u32))),[sD,sD],fun x=>g175 m x.1 x.2.1⟩
noncomputable def g175C:Code:=codeOf f175
noncomputable def g175B0:Code:=qx g175C 0 0
theorem g175K:FL [g143T m]:=AllF.mem ⟨g143ok m,trivial⟩
def g175L0X:LT:=⟨0,[(5,sI),(6,sU),(7,.a (.c (.nm 0 (.int .u32)))),(25,.a (.c (.imm (.int .u32)))),(26,sI),(27,sI)],[(.exit 0,[(7,.a (.c (.nm 0 (.int .u32))))])],fun n x=>g175L0 m n x.1 x.2.1 x.2.2.1 x.2.2.2.1 x.2.2.2.2.1 x.2.2.2.2.2.1⟩
theorem g175L0ok {E} (hE:EO E 59 g175H) (n):LO E g175B0 ((g175L0X m).at n):=lk hE (g175K m) (g175L0X m) n
theorem g175ok:FO (g175T m):=f1' g175H (g175T m) func175 (g175K m) fun _ h=>g175L0ok m h m
def g186H:Hints:=⟨[J [0],J' [(0,1)] [2]],[],[],[2],[],[[false]]⟩
def g186T:FunT:=⟨186,[.a (.c (.int .u32))],sB,[sD],fun x=>g186 m x.1⟩
theorem g186ok:FO (g186T m):=fk g186H (g186T m) func186 noF
def g192H:Hints:=⟨[J [0,1],J [0,1,7,8],J [0,1,7,8,9],J [0,1,5,7,8],J [0,1,5,7,8,16],J' [(0,1)] [4],J' [(1,1)] [0,1,7,8],J [4]],[(0,[0,1,7,8])],[(0,[]),(1,[0,1,7,8])],[4],[],[[false]]⟩
def g192T:FunT:=⟨192,[.a (.c (.imm (.int .u32))),.a (.c (.fn 186))],sI,[sD,sD],fun x=>g192 m x.1⟩
noncomputable def g192C:Code:=codeOf f192
noncomputable def g192B0:Code:=qx g192C 0 0
theorem g192K:FL [g186T m]:=AllF.mem ⟨g186ok m,trivial⟩
def g192L0X:LT:=⟨0,[(0,.a (.c (.imm (.int .u32)))),(1,.a (.c (.fn 186))),(7,sI),(8,sI)],[(.ret,[(4,sI)]),(.exit 0,[])],fun n x=>g192L0 m n x.1 x.2.2.1 x.2.2.2.1⟩
theorem g192L0ok {E} (hE:EO E 19 g192H) (n):LO E g192B0 ((g192L0X m).at n):=lk hE (g192K m) (g192L0X m) n
theorem g192ok:FO (g192T m):=f1' g192H (g192T m) func192 (g192K m) fun _ h=>g192L0ok m h m
def g185H:Hints:=⟨[J [0,1],J' [(0,1),(1,1)] [4]],[],[],[4],[],[[false]]⟩
def g185T:FunT:=⟨185,[.a (.c (.imm (.int .u32))),.a (.c (.fn 186))],sB,[sD,sD],fun x=>g185 m x.1⟩
theorem g185ok:FO (g185T m):=fk g185H (g185T m) func185 (AllF.mem (l:=[g192T m]) ⟨g192ok m,trivial⟩)
def g176H:Hints:=⟨[J [0,1],J [0,6,7],J [0,6,7,20],J' [(0,1)] [4,5],J' [(4,1)] [0,6,7,8],J [0,6,7,8,9],J [0,6,7,8,9,45,46],J [0,6,7,8,9,45,46,47],J [0,6,7,8,9,10,45,46],J [0,6,7,8,9,10,11,45,46],J [0,6,7,8,9,10,11,45,46,62],J' [(0,1)] [0,6,7,8,9,10,11,45,46],J' [(1,1),(2,1)] [0,6,7,8,9,45,46],J' [(1,1)] [0,6,7,8,9,45,46],J' [(0,1),(2,1)] [4,5]],[(0,[0,6,7,8,9,45,46])],[(0,[8,9]),(1,[0,6,7,8,9,45,46])],[4,5],[],[[false],[false]]⟩
def g176T:FunT:=⟨176,[.a (.c (.imm (.int .u32))),sI],.tup [(.c (.imm (.int .u32))),(.c .bool)],[sD,sD],fun x=>g176 m x.1 x.2.1⟩
noncomputable def g176C:Code:=codeOf f176
noncomputable def g176B0:Code:=qx g176C 0 0
theorem g176K:FL [g185T m,g143T m]:=AllF.mem ⟨g185ok m,g143ok m,trivial⟩
def g176L0X:LT:=⟨0,[(0,.a (.c (.imm (.int .u32)))),(6,sI),(7,sU),(8,sB),(9,.a (.c (.nm 0 (.int .u32)))),(45,sI),(46,sI)],[(.exit 0,[(8,sB),(9,.a (.c (.nm 0 (.int .u32))))])],fun n x=>g176L0 m n x.1 x.2.1 x.2.2.1 x.2.2.2.1 x.2.2.2.2.1 x.2.2.2.2.2.1 x.2.2.2.2.2.2.1⟩
theorem g176L0ok {E} (hE:EO E 86 g176H) (n):LO E g176B0 ((g176L0X m).at n):=lk hE (g176K m) (g176L0X m) n
theorem g176ok:FO (g176T m):=f1' g176H (g176T m) func176 (g176K m) fun _ h=>g176L0ok m h m
def g168H:Hints:=⟨[J [0,1],J [0,1,14],J' [(0,1),(1,1)] [0,1],J [0,1,5],J [0,1,5,6],J' [(0,1)] [1,5,6,21,22,23],J [1,5,6,21,22,23,24],J [1,5,6,7,8,21,22,23],J' [(0,1),(2,1)] [1,5,7,9,21,22,23],J [1,5,7,9,21,22,23,35],J' [(0,1),(2,1)] [1,5,9,21,22,23],J' [(0,1)] [1,5,9,21,22,23],J' [(0,1)] [1,5,6,21,22,23],J' [(1,1)] [1,5,6,21,22,23],J' [(0,1),(1,1)] [4]],[(0,[1,5,6,21,22,23])],[(0,[5,6]),(1,[1,5,6,21,22,23])],[4],[],[[false]]⟩
def g168T:FunT:=⟨168,[.a (.c (.imm (.int .u32))),.a (.c (.imm (.int .u32)))],.a (.c (.imm (.int .u32))),[sD,sD],fun x=>g168 m x.1 x.2.1⟩
noncomputable def g168C:Code:=codeOf f168
noncomputable def g168B0:Code:=qx g168C 0 0
theorem g168K:FL [g143T m]:=AllF.mem ⟨g143ok m,trivial⟩
def g168L0X:LT:=⟨0,[(1,.a (.c (.imm (.int .u32)))),(5,.a (.c (.nm 0 (.int .u32)))),(6,sU),(21,.a (.c (.imm (.int .u32)))),(22,sI),(23,sI)],[(.exit 0,[(5,.a (.c (.nm 0 (.int .u32)))),(6,sU)])],fun n x=>g168L0 m n x.1 x.2.1 x.2.2.1 x.2.2.2.1 x.2.2.2.2.1 x.2.2.2.2.2.1⟩
theorem g168L0ok {E} (hE:EO E 58 g168H) (n):LO E g168B0 ((g168L0X m).at n):=lk hE (g168K m) (g168L0X m) n
theorem g168ok:FO (g168T m):=f1' g168H (g168T m) func168 (g168K m) fun _ h=>g168L0ok m h m
def g150H:Hints:=⟨[J [1,2,4],J' [(2,1)] [1,2,4,14],J [4,5],J [1,2,4,6],J [1,2,4,6,20],J' [(2,1),(3,1)] [4,5],J' [(0,1),(1,1),(4,1)] [2,4,7,8],J' [(2,1),(3,1)] [2,4,7,38],J' [(0,1)] [2,4,7],J' [(2,1)] [4,5]],[],[],[4,5],[],[[false,false],[false]]⟩
def g150T:FunT:=⟨150,[.a (.agg [.bool,(.imm (.int .u32))]),sI],.tup [(.agg [.bool,(.imm (.int .u32))]),(.c (.int .i64))],[sD,sD],fun x=>g150 m x.1.1 x.1.2.1 x.2.1⟩
theorem g150ok:FO (g150T m):=fk g150H (g150T m) func150 (AllF.mem (l:=[g143T m,g175T m,g153T m,g176T m,g168T m]) ⟨g143ok m,g175ok m,g153ok m,g176ok m,g168ok m,trivial⟩)
def g174H:Hints:=⟨[J [1,2,4],J [1,2,4,6],J' [(2,1)] [1,2,4],J' [(0,1)] [1,2,4],J' [(1,1),(4,1)] [2,4],J [4]],[(0,[1,2,4])],[(0,[1,2,4]),(1,[1,2,4])],[4],[],[[false,false]]⟩
def g174T:FunT:=⟨174,[.a (.agg [.bool,(.imm (.int .u32))]),sI],.a (.agg [.bool,(.imm (.int .u32))]),[sD,sD],fun x=>g174 m x.1.1 x.1.2.1 x.2.1⟩
noncomputable def g174C:Code:=codeOf f174
noncomputable def g174B0:Code:=qx g174C 0 0
theorem g174K:FL [g150T m]:=AllF.mem ⟨g150ok m,trivial⟩
def g174L0X:LT:=⟨0,[(1,sI),(2,sX 0 [.bool,.imm (.int .u32)]),(4,sX 1 [.bool,.nm 2 (.int .u32)])],[(.exit 0,[(1,sI),(2,sX 0 [.bool,.imm (.int .u32)]),(4,sX 1 [.bool,.nm 2 (.int .u32)])])],fun n x=>g174L0 m n x.1 x.2.1.1 x.2.1.2.1 x.2.2.1.1 x.2.2.1.2.1⟩
theorem g174L0ok {E} (hE:EO E 22 g174H) (n):LO E g174B0 ((g174L0X m).at n):=lk hE (g174K m) (g174L0X m) n
theorem g174ok:FO (g174T m):=f1' g174H (g174T m) func174 (g174K m) fun _ h=>g174L0ok m h m
def g149H:Hints:=⟨[J [1,2],J [1,2,7],J [2,3],J [1,2,4],J [1,2,4,14],J [2,3],J [1,2,4,5],J' [(6,1)] [1,2,4,5,30],J [2,3],J [2,3]],[],[],[2,3],[],[[false,false,false,false],[false]]⟩
def g149T:FunT:=⟨149,[.a (.agg [.bool,.bool,(.imm (.int .u32)),(.int .i64)])],.tup [(.agg [.bool,.bool,(.imm (.int .u32)),(.int .i64)]),(.c .bool)],[sD],fun x=>g149 m x.1.1 x.1.2.1 x.1.2.2.1 x.1.2.2.2.1⟩
theorem g149ok:FO (g149T m):=fk g149H (g149T m) func149 (AllF.mem (l:=[g151T m,g121T m,g116T m,g172T m,g173T m,g174T m]) ⟨g151ok m,g121ok m,g116ok m,g172ok m,g173ok m,g174ok m,trivial⟩)
def g152H:Hints:=⟨[J [1,2,4],J' [(1,1),(4,1)] [4,5],J [4]],[],[],[4],[],[[false,false,false,false]]⟩
def g152T:FunT:=⟨152,[.a (.agg [.bool,(.imm (.int .u32))]),sI],.a (.agg [.bool,.bool,(.imm (.int .u32)),(.int .i64)]),[sD,sD],fun x=>g152 m x.1.1 x.1.2.1 x.2.1⟩
theorem g152ok:FO (g152T m):=fk g152H (g152T m) func152 (AllF.mem (l:=[g149T m]) ⟨g149ok m,trivial⟩)
def g122H:Hints:=⟨[J [0,2],J' [(2,1)] [0,2,3,4],J [0,2,3,4,11],J' [(0,1)] [0,2,3,4],J' [(0,1)] [0,2,3,4],J [0,2,3,4,11,16],J [2],J [0,2,3,4,19],J [0,2,3,4],J' [(0,1)] [0,2,3,5],J' [(0,1)] [2,3,5,25],J [2,3,5],J' [(1,1)] [2]],[],[(0,[0,2,3,4])],[2],[],[[false,false,false,false]]⟩
def g122T:FunT:=⟨122,[sU],.a (.agg [.bool,.bool,(.imm (.int .u32)),(.int .i64)]),[sD],fun x=>g122 m x.1⟩
theorem g122ok:FO (g122T m):=fk g122H (g122T m) func122 (AllF.mem (l:=[g102T m,g144T m,g124T m,g148T m,g152T m]) ⟨g102ok m,g144ok m,g124ok m,g148ok m,g152ok m,trivial⟩)
def g156H:Hints:=⟨[J [1,2],J' [(2,1)] [1,2,3],J' [(0,1)] [1,2,9],J [1,2],J [2]],[],[],[2],[],[[false,false,false,false]]⟩
def g156T:FunT:=⟨156,[.a (.agg [.bool,.bool,(.imm (.int .u32)),(.int .i64)])],.a (.agg [.bool,.bool,(.imm (.int .u32)),(.int .i64)]),[sD],fun x=>g156 m x.1.1 x.1.2.1 x.1.2.2.1 x.1.2.2.2.1⟩
theorem g156ok:FO (g156T m):=fk g156H (g156T m) func156 (AllF.mem (l:=[g149T m,g148T m]) ⟨g149ok m,g148ok m,trivial⟩)
def g177H:Hints:=⟨[J [2,3,4,5],J' [(2,1)] [3,4,5,6],J' [(2,1)] [4,5,6,7],J' [(2,1),(3,1),(4,1)] [4,5,6]],[],[],[4,5,6],[],[[false,false,false,false],[false,false,false,false],[false]]⟩
def g177T:FunT:=⟨177,[.a (.agg [.bool,.bool,(.imm (.int .u32)),(.int .i64)]),.a (.agg [.bool,.bool,(.imm (.int .u32)),(.int .i64)])],.tup [(.agg [.bool,.bool,(.imm (.int .u32)),(.int .i64)]),(.agg [.bool,.bool,(.imm (.int .u32)),(.int .i64)]),(.c .bool)],[sD,sD],fun x=>g177 m x.1.1 x.1.2.1 x.1.2.2.1 x.1.2.2.2.1 x.2.1.1 x.2.1.2.1 x.2.1.2.2.1 x.2.1.2.2.2.1⟩
theorem g177ok:FO (g177T m):=fk g177H (g177T m) func177 (AllF.mem (l:=[g149T m]) ⟨g149ok m,trivial⟩)
def g187H:Hints:=⟨[J [1,2,4],J' [(1,1),(3,1)] [2,4],J [4]],[],[],[4],[],[[false,false]]⟩
def g187T:FunT:=⟨187,[.a (.agg [.bool,(.imm (.int .u32))]),sI],.a (.agg [.bool,(.imm (.int .u32))]),[sD,sD],fun x=>g187 m x.1.1 x.1.2.1 x.2.1⟩
theorem g187ok:FO (g187T m):=fk g187H (g187T m) func187 (AllF.mem (l:=[g150T m]) ⟨g150ok m,trivial⟩)
def g178H:Hints:=⟨[J [2,3,4,5],J [2,3,4,5,6],J [4,5,6]],[],[],[4,5,6],[],[[false,false],[false,false],[false]]⟩
def g178T:FunT:=⟨178,[.a (.agg [.bool,.bool,(.imm (.int .u32)),(.int .i64)]),.a (.agg [.bool,.bool,(.imm (.int .u32)),(.int .i64)])],.tup [(.agg [.bool,(.imm (.int .u32))]),(.agg [.bool,(.imm (.int .u32))]),(.c (.int .i64))],[sD,sD],fun x=>g178 m x.1.1 x.1.2.1 x.1.2.2.1 x.1.2.2.2.1 x.2.1.1 x.2.1.2.1 x.2.1.2.2.1 x.2.1.2.2.2.1⟩
theorem g178ok:FO (g178T m):=fk g178H (g178T m) func178 (AllF.mem (l:=[g187T m]) ⟨g187ok m,trivial⟩)
def g166H:Hints:=⟨[J [0,1],J [0,1,5],J [0,1,5,6],J' [(0,1)] [0,1,6,11],J' [(0,1)] [12],J [4],J [4],J' [(0,1)] [0,1,13],J [4],J [0,1,16],J [4],J' [(0,1),(1,1)] [19],J [4],J [4]],[],[],[4],[],[[false]]⟩
def g166T:FunT:=⟨166,[sI,sI],sI,[sD,sD],fun x=>g166 m x.1 x.2.1⟩
theorem g166ok:FO (g166T m):=fk g166H (g166T m) func166 (AllF.mem (l:=[g163T m]) ⟨g163ok m,trivial⟩)
def g181H:Hints:=⟨[J [0],J [2]],[],[],[2],[],[[false]]⟩
def g181T:FunT:=⟨181,[.a (.c (.int .u32))],sB,[sD],fun x=>g181 m x.1⟩
theorem g181ok:FO (g181T m):=fk g181H (g181T m) func181 noF
def g167H:Hints:=⟨[J [0,1],J [0,1,5],J [0,1,5,6],J' [(0,1)] [0,1,6,11],J' [(0,1)] [12],J [4],J [4],J' [(0,1)] [0,1,13],J [4],J [0,1,16],J [4],J' [(0,1),(1,1)] [19],J [4],J [4]],[],[],[4],[],[[false]]⟩
def g167T:FunT:=⟨167,[.a (.c (.int .u32)),.a (.c (.int .u32))],sI,[sD,sD],fun x=>g167 m x.1 x.2.1⟩
theorem g167ok:FO (g167T m):=fk g167H (g167T m) func167 (AllF.mem (l:=[g181T m]) ⟨g181ok m,trivial⟩)
def g142H:Hints:=⟨[J [0,1],J [0,1,10],J' [(0,1),(2,1)] [4],J [0,1,5],J [0,1,5,20],J' [(0,1)] [0,1,5],J [0,1,5,31],J' [(0,1),(4,1)] [4],J [4]],[(0,[0,1,5])],[(0,[]),(1,[0,1,5])],[4],[],[[false]]⟩
def g142T:FunT:=⟨142,[.a (.c (.imm (.int .u32))),.a (.c (.imm (.int .u32)))],sI,[sD,sD],fun x=>g142 m x.1 x.2.1⟩
noncomputable def g142C:Code:=codeOf f142
noncomputable def g142B0:Code:=qx g142C 0 0
theorem g142K:FL [g166T m,g167T m]:=AllF.mem ⟨g166ok m,g167ok m,trivial⟩
def g142L0X:LT:=⟨0,[(0,.a (.c (.imm (.int .u32)))),(1,.a (.c (.imm (.int .u32)))),(5,sI)],[(.ret,[(4,sI)]),(.exit 0,[])],fun n x=>g142L0 m n x.1 x.2.1 x.2.2.1⟩
theorem g142L0ok {E} (hE:EO E 41 g142H) (n):LO E g142B0 ((g142L0X m).at n):=lk hE (g142K m) (g142L0X m) n
theorem g142ok:FO (g142T m):=f1' g142H (g142T m) func142 (g142K m) fun _ h=>g142L0ok m h m
def g169H:Hints:=⟨[J [0,1],J [0,1,5],J [0,1,5,6],J' [(0,1)] [1,5,6,13,14,15],J [1,5,6,13,14,15,16],J [1,5,6,7,8,13,14,15],J' [(0,1),(2,1)] [1,5,7,9,13,14,15],J [1,5,7,9,13,14,15,27],J' [(0,1)] [1,5,7,9,13,14,15],J' [(1,1)] [1,5,9,13,14,15],J' [(0,1)] [1,5,6,13,14,15],J' [(1,1)] [1,5,6,13,14,15],J' [(0,1)] [4]],[(0,[1,5,6,13,14,15])],[(0,[5]),(1,[1,5,6,13,14,15])],[4],[],[[false]]⟩
def g169T:FunT:=⟨169,[.a (.c (.imm (.int .u32))),.a (.c (.imm (.int .u32)))],.a (.c (.imm (.int .u32))),[sD,sD],fun x=>g169 m x.1 x.2.1⟩
noncomputable def g169C:Code:=codeOf f169
noncomputable def g169B0:Code:=qx g169C 0 0
theorem g169K:FL [g143T m]:=AllF.mem ⟨g143ok m,trivial⟩
def g169L0X:LT:=⟨0,[(1,.a (.c (.imm (.int .u32)))),(5,.a (.c (.nm 0 (.int .u32)))),(6,sU),(13,.a (.c (.imm (.int .u32)))),(14,sI),(15,sI)],[(.exit 0,[(5,.a (.c (.nm 0 (.int .u32))))])],fun n x=>g169L0 m n x.1 x.2.1 x.2.2.1 x.2.2.2.1 x.2.2.2.2.1 x.2.2.2.2.2.1⟩
theorem g169L0ok {E} (hE:EO E 47 g169H) (n):LO E g169B0 ((g169L0X m).at n):=lk hE (g169K m) (g169L0X m) n
theorem g169ok:FO (g169T m):=f1' g169H (g169T m) func169 (g169K m) fun _ h=>g169L0ok m h m
def g145H:Hints:=⟨[J [2,3,4],J [2,3,4,5,6],J [2,3,4,5,6,13],J' [(2,1),(3,1)] [4],J [2,3,4,5,6,25],J' [(2,1),(3,1)] [4],J' [(2,1),(3,1)] [4]],[],[(0,[3,4,5,6])],[4],[],[[false,false]]⟩
def g145T:FunT:=⟨145,[.a (.agg [.bool,(.imm (.int .u32))]),.a (.agg [.bool,(.imm (.int .u32))])],.a (.agg [.bool,(.imm (.int .u32))]),[sD,sD],fun x=>g145 m x.1.1 x.1.2.1 x.2.1.1 x.2.1.2.1⟩
theorem g145ok:FO (g145T m):=fk g145H (g145T m) func145 (AllF.mem (l:=[g143T m,g168T m,g153T m,g142T m,g169T m]) ⟨g143ok m,g168ok m,g153ok m,g142ok m,g169ok m,trivial⟩)
def g155H:Hints:=⟨[J [2,3,4],J' [(3,1)] [2,3,4,5],J' [(0,1)] [2,3,4,17],J [4],J' [(3,1)] [4,6,7,8],J' [(3,1)] [4]],[],[],[4],[],[[false,false,false,false]]⟩
def g155T:FunT:=⟨155,[.a (.agg [.bool,.bool,(.imm (.int .u32)),(.int .i64)]),.a (.agg [.bool,.bool,(.imm (.int .u32)),(.int .i64)])],.a (.agg [.bool,.bool,(.imm (.int .u32)),(.int .i64)]),[sD,sD],fun x=>g155 m x.1.1 x.1.2.1 x.1.2.2.1 x.1.2.2.2.1 x.2.1.1 x.2.1.2.1 x.2.1.2.2.1 x.2.1.2.2.2.1⟩
theorem g155ok:FO (g155T m):=fk g155H (g155T m) func155 (AllF.mem (l:=[g177T m,g151T m,g178T m,g145T m,g152T m]) ⟨g177ok m,g151ok m,g178ok m,g145ok m,g152ok m,trivial⟩)
def g123H:Hints:=⟨[J [2,3,4],J [4]],[],[],[4],[],[[false,false,false,false]]⟩
def g123T:FunT:=⟨123,[.a (.agg [.bool,.bool,(.imm (.int .u32)),(.int .i64)]),.a (.agg [.bool,.bool,(.imm (.int .u32)),(.int .i64)])],.a (.agg [.bool,.bool,(.imm (.int .u32)),(.int .i64)]),[sD,sD],fun x=>g123 m x.1.1 x.1.2.1 x.1.2.2.1 x.1.2.2.2.1 x.2.1.1 x.2.1.2.1 x.2.1.2.2.1 x.2.1.2.2.2.1⟩
theorem g123ok:FO (g123T m):=fk g123H (g123T m) func123 (AllF.mem (l:=[g156T m,g155T m]) ⟨g156ok m,g155ok m,trivial⟩)
def g88H:Hints:=⟨[J [1,2],J' [(2,4)] [1,2,5],J [1,2,5,15,16],J [1,2,5,15,16,17],J [1,2,5,6,15,16],J' [(1,1),(6,4)] [1,2,5,15,16],J' [(1,1)] [1,2,5,15,16],J [1,2,5,27,28],J [1,2,5,27,28,29],J [1,2,5,7,27,28],J [1,2,5,7,8,27,28],J [1,2,5,7,8,27,28,43],J' [(0,1)] [1,2,5,7,8,27,28],J [1,2,5,7,8,9,27,28],J [1,2,5,7,8,9,27,28,53],J [1,2,5,7,8,27,28],J' [(1,1)] [1,2,5,27,28],J [1,5,80,81],J [1,5,80,81,82],J [1,5,10,80,81],J [1,5,80,81],J' [(1,1)] [1,5,80,81],J' [(0,1)] [4]],[(0,[1,2,5,15,16]),(2,[1,2,5,27,28]),(4,[1,2,5,7,8,27,28]),(6,[1,5,80,81])],[(0,[1,2,5]),(1,[1,2,5,15,16]),(2,[1,5]),(3,[1,2,5,27,28]),(4,[1,2,5,27,28]),(5,[1,2,5,7,8,27,28]),(6,[5]),(7,[1,5,80,81])],[4],[],[[false]]⟩
def g88T:FunT:=⟨88,[.a (.agg [(.int .i64),(.int .i64),(.imm (.int .i64)),(.imm (.int .i64)),(.imm (.int .u64))]),sU],.a (.c (.imm (.sl false (.pr .bool (.pr (.pr .bool (.sl false (.int .u32))) (.int .i64)))))),[sD,sD],fun x=>g88 m x.1.1 x.1.2.1 x.1.2.2.1 x.1.2.2.2.1 x.1.2.2.2.2.1 x.2.1⟩
noncomputable def g88C:Code:=codeOf f88
noncomputable def g88B0:Code:=qx g88C 0 0
noncomputable def g88B2:Code:=qx g88C 0 1
noncomputable def g88B4:Code:=qx g88B2 2 0
noncomputable def g88B6:Code:=qx g88C 0 2
theorem g88K:FL [g122T m,g123T m]:=AllF.mem ⟨g122ok m,g123ok m,trivial⟩
def g88L3X:LT:=⟨6,[(1,sU),(5,.a (.c (.dp 0 (.pr .bool (.pr (.pr .bool (.sl false (.int .u32))) (.int .i64)))))),(80,sI),(81,sI)],[(.exit 6,[(5,.a (.c (.dp 0 (.pr .bool (.pr (.pr .bool (.sl false (.int .u32))) (.int .i64))))))])],fun n x=>g88L3 m n x.1 x.2.1 x.2.2.1 x.2.2.2.1⟩
theorem g88L3ok {E} (hE:EO E 102 g88H) (n):LO E g88B6 ((g88L3X m).at n):=lk hE (g88K m) (g88L3X m) n
def g88L2X:LT:=⟨4,[(1,sU),(2,sX 0 [iI,iI,iL,iL,.imm (.int .u64)]),(5,.a (.c (.dp 1 (.pr .bool (.pr (.pr .bool (.sl false (.int .u32))) (.int .i64)))))),(7,sI),(8,sI),(27,sI),(28,sI)],[(.exit 4,[(1,sU),(2,sX 0 [iI,iI,iL,iL,.imm (.int .u64)]),(5,.a (.c (.dp 1 (.pr .bool (.pr (.pr .bool (.sl false (.int .u32))) (.int .i64)))))),(27,sI),(28,sI)])],fun n x=>g88L2 m n x.1 x.2.1.1 x.2.1.2.1 x.2.1.2.2.1 x.2.1.2.2.2.1 x.2.1.2.2.2.2.1 x.2.2.1 x.2.2.2.1 x.2.2.2.2.1 x.2.2.2.2.2.1 x.2.2.2.2.2.2.1⟩
theorem g88L2ok {E} (hE:EO E 102 g88H) (n):LO E g88B4 ((g88L2X m).at n):=lk hE (g88K m) (g88L2X m) n
def g88L1X:LT:=⟨2,[(1,sU),(2,sX 0 [iI,iI,iL,iL,.imm (.int .u64)]),(5,.a (.c (.dp 1 (.pr .bool (.pr (.pr .bool (.sl false (.int .u32))) (.int .i64)))))),(27,sI),(28,sI)],[(.exit 2,[(1,sU),(5,.a (.c (.dp 0 (.pr .bool (.pr (.pr .bool (.sl false (.int .u32))) (.int .i64))))))])],fun n x=>g88L1 m n x.1 x.2.1.1 x.2.1.2.1 x.2.1.2.2.1 x.2.1.2.2.2.1 x.2.1.2.2.2.2.1 x.2.2.1 x.2.2.2.1 x.2.2.2.2.1⟩
theorem g88L1ok {E} (hE:EO E 102 g88H) (n):LO E g88B2 ((g88L1X m).at n):=
 lok hmix htt hE (g88K m) (L:=[(g88L2X m).at m]) (g88L1X m) (l:=[(4,g88B4)]) kR (fun _ _=>⟨qj ⟨yb (g88L2ok m hE m),trivial⟩,trivial⟩) (fun n x=>kR) (fun _=>kR) n
def g88L0X:LT:=⟨0,[(1,sU),(2,sX 0 [iI,iI,iL,iL,.imm (.int .u64)]),(5,.a (.c (.dp 1 (.pr .bool (.pr (.pr .bool (.sl false (.int .u32))) (.int .i64)))))),(15,sI),(16,sI)],[(.exit 0,[(1,sU),(2,sX 0 [iI,iI,iL,iL,.imm (.int .u64)]),(5,.a (.c (.dp 1 (.pr .bool (.pr (.pr .bool (.sl false (.int .u32))) (.int .i64))))))])],fun n x=>g88L0 m n x.1 x.2.1.1 x.2.1.2.1 x.2.1.2.2.1 x.2.1.2.2.2.1 x.2.1.2.2.2.2.1 x.2.2.1 x.2.2.2.1 x.2.2.2.2.1⟩
theorem g88L0ok {E} (hE:EO E 102 g88H) (n):LO E g88B0 ((g88L0X m).at n):=lk hE (g88K m) (g88L0X m) n
theorem g88ok:FO (g88T m):=
 fok hmix htt (H:=g88H) (g88T m) func88 kR (g88K m) (L:=[(g88L0X m).at m,(g88L1X m).at m,(g88L3X m).at m]) (l:=[(0,g88B0),(2,g88B2),(6,g88B6)]) kR (fun _ hE _ _=>⟨qj ⟨yb (g88L0ok m hE m),nb rfl,nb rfl,trivial⟩,qj ⟨nb rfl,yb (g88L1ok m hE m),nb rfl,trivial⟩,qj ⟨nb rfl,nb rfl,yb (g88L3ok m hE m),trivial⟩,trivial⟩) (fun x=>kR)
def g117H:Hints:=⟨[J [1,2],J' [(2,1)] [1,2],J [2]],[],[],[2],[],[[false,false,false,false]]⟩
def g117T:FunT:=⟨117,[.a (.agg [.bool,.bool,(.imm (.int .u32)),(.int .i64)])],.a (.agg [.bool,.bool,(.imm (.int .u32)),(.int .i64)]),[sD],fun x=>g117 m x.1.1 x.1.2.1 x.1.2.2.1 x.1.2.2.2.1⟩
theorem g117ok:FO (g117T m):=fk g117H (g117T m) func117 (AllF.mem (l:=[g149T m]) ⟨g149ok m,trivial⟩)
def g118H:Hints:=⟨[J [1],J' [(2,1)] [1],J [2]],[],[],[2],[],[[false]]⟩
def g118T:FunT:=⟨118,[.a (.agg [.bool,.bool,(.imm (.int .u32)),(.int .i64)])],sI,[sD],fun x=>g118 m x.1.1 x.1.2.1 x.1.2.2.1 x.1.2.2.2.1⟩
theorem g118ok:FO (g118T m):=fk g118H (g118T m) func118 (AllF.mem (l:=[g149T m,g116T m]) ⟨g149ok m,g116ok m,trivial⟩)
def g120H:Hints:=⟨[J [1,2,4],J' [(2,1)] [1,2,4,5],J' [(0,1)] [1,2,4,12],J [4],J' [(4,1)] [4]],[],[],[4],[],[[false,false,false,false]]⟩
def g120T:FunT:=⟨120,[.a (.agg [.bool,.bool,(.imm (.int .u32)),(.int .i64)]),sI],.a (.agg [.bool,.bool,(.imm (.int .u32)),(.int .i64)]),[sD,sD],fun x=>g120 m x.1.1 x.1.2.1 x.1.2.2.1 x.1.2.2.2.1 x.2.1⟩
theorem g120ok:FO (g120T m):=fk g120H (g120T m) func120 (AllF.mem (l:=[g149T m,g151T m,g152T m]) ⟨g149ok m,g151ok m,g152ok m,trivial⟩)
def g119H:Hints:=⟨[J [1,2],J' [(2,1)] [1,2,4],J' [(0,1)] [1,2,13],J [2,3],J' [(5,1)] [2,5],J [2,3]],[],[],[2,3],[],[[false,false],[false]]⟩
def g119T:FunT:=⟨119,[.a (.agg [.bool,.bool,(.imm (.int .u32)),(.int .i64)])],.tup [(.agg [.bool,(.imm (.int .u32))]),(.c .bool)],[sD],fun x=>g119 m x.1.1 x.1.2.1 x.1.2.2.1 x.1.2.2.2.1⟩
theorem g119ok:FO (g119T m):=fk g119H (g119T m) func119 (AllF.mem (l:=[g149T m,g150T m]) ⟨g149ok m,g150ok m,trivial⟩)
def g87H:Hints:=⟨[J [0],J [0,3],J [0,3,15,16,17],J [0,3,15,16,17,18],J [0,3,5,15,16,17],J' [(0,1)] [0,3,15,16,17,21,22,23],J [0,3,15,16,17,21,22,23,24],J [0,3,7,15,16,17,21,22,23],J [0,3,7,15,16,17,21,22,23],J [0,3,7,15,16,17,21,22,23,31],J' [(0,1)] [0,3,15,16,17,21,22,23],J' [(1,1)] [0,3,15,16,17,21,22,23],J' [(1,1)] [0,3,15,16,17],J' [(2,4)] [0,3,8],J' [(0,1)] [3,8,41,42,43],J [3,8,41,42,43,44],J [3,8,9,10,41,42,43],J' [(0,1)] [3,8,9,41,42,43,48,49,50],J [3,8,9,41,42,43,48,49,50,51],J [3,8,9,12,41,42,43,48,49,50],J' [(5,1)] [3,8,9,13,41,42,43,48,49,50],J' [(5,4),(11,4)] [3,8,9,41,42,43,48,49,50],J' [(1,1)] [3,8,9,41,42,43,48,49,50],J' [(1,1)] [3,8,41,42,43],J' [(0,1)] [2]],[(0,[0,3,15,16,17]),(2,[0,3,15,16,17,21,22,23]),(4,[3,8,41,42,43]),(6,[3,8,9,41,42,43,48,49,50])],[(0,[0,3]),(1,[0,3,15,16,17]),(2,[0,3,15,16,17]),(3,[0,3,15,16,17,21,22,23]),(4,[8]),(5,[3,8,41,42,43]),(6,[3,8,41,42,43]),(7,[3,8,9,41,42,43,48,49,50])],[2],[],[[false]]⟩
def g87T:FunT:=⟨87,[.a (.c (.imm (.sl false (.pr .bool (.pr (.pr .bool (.sl false (.int .u32))) (.int .i64))))))],.a (.c (.imm (.sl false (.pr .bool (.sl false (.int .u32)))))),[sD],fun x=>g87 m x.1⟩
noncomputable def g87C:Code:=codeOf f87
noncomputable def g87B0:Code:=qx g87C 0 0
noncomputable def g87B2:Code:=qx g87B0 0 0
noncomputable def g87B4:Code:=qx g87C 0 1
noncomputable def g87B6:Code:=qx g87B4 4 0
theorem g87K:FL [g117T m,g118T m,g120T m,g119T m,g121T m]:=AllF.mem ⟨g117ok m,g118ok m,g120ok m,g119ok m,g121ok m,trivial⟩
def g87L3X:LT:=⟨6,[(3,sI),(8,.a (.c (.dp 0 (.pr .bool (.sl false (.int .u32)))))),(9,sI),(41,.a (.c (.imm (.sl false (.pr .bool (.pr (.pr .bool (.sl false (.int .u32))) (.int .i64))))))),(42,sI),(43,sI),(48,.a (.c (.imm (.pr .bool (.pr (.pr .bool (.sl false (.int .u32))) (.int .i64)))))),(49,sI),(50,sI)],[(.exit 6,[(3,sI),(8,.a (.c (.dp 0 (.pr .bool (.sl false (.int .u32)))))),(41,.a (.c (.imm (.sl false (.pr .bool (.pr (.pr .bool (.sl false (.int .u32))) (.int .i64))))))),(42,sI),(43,sI)])],fun n x=>g87L3 m n x.1 x.2.1 x.2.2.1 x.2.2.2.1 x.2.2.2.2.1 x.2.2.2.2.2.1 x.2.2.2.2.2.2.1 x.2.2.2.2.2.2.2.1 x.2.2.2.2.2.2.2.2.1⟩
theorem g87L3ok {E} (hE:EO E 76 g87H) (n):LO E g87B6 ((g87L3X m).at n):=lk hE (g87K m) (g87L3X m) n
def g87L2X:LT:=⟨4,[(3,sI),(8,.a (.c (.dp 0 (.pr .bool (.sl false (.int .u32)))))),(41,.a (.c (.imm (.sl false (.pr .bool (.pr (.pr .bool (.sl false (.int .u32))) (.int .i64))))))),(42,sI),(43,sI)],[(.exit 4,[(8,.a (.c (.dp 0 (.pr .bool (.sl false (.int .u32))))))])],fun n x=>g87L2 m n x.1 x.2.1 x.2.2.1 x.2.2.2.1 x.2.2.2.2.1⟩
theorem g87L2ok {E} (hE:EO E 76 g87H) (n):LO E g87B4 ((g87L2X m).at n):=
 lok hmix htt hE (g87K m) (L:=[(g87L3X m).at m]) (g87L2X m) (l:=[(6,g87B6)]) kR (fun _ _=>⟨qj ⟨yb (g87L3ok m hE m),trivial⟩,trivial⟩) (fun n x=>kR) (fun _=>kR) n
def g87L1X:LT:=⟨2,[(0,.a (.c (.imm (.sl false (.pr .bool (.pr (.pr .bool (.sl false (.int .u32))) (.int .i64))))))),(3,sI),(15,.a (.c (.imm (.sl false (.pr .bool (.pr (.pr .bool (.sl false (.int .u32))) (.int .i64))))))),(16,sI),(17,sI),(21,.a (.c (.imm (.pr .bool (.pr (.pr .bool (.sl false (.int .u32))) (.int .i64)))))),(22,sI),(23,sI)],[(.exit 2,[(0,.a (.c (.imm (.sl false (.pr .bool (.pr (.pr .bool (.sl false (.int .u32))) (.int .i64))))))),(3,sI),(15,.a (.c (.imm (.sl false (.pr .bool (.pr (.pr .bool (.sl false (.int .u32))) (.int .i64))))))),(16,sI),(17,sI)])],fun n x=>g87L1 m n x.1 x.2.1 x.2.2.1 x.2.2.2.1 x.2.2.2.2.1 x.2.2.2.2.2.1 x.2.2.2.2.2.2.1 x.2.2.2.2.2.2.2.1⟩
theorem g87L1ok {E} (hE:EO E 76 g87H) (n):LO E g87B2 ((g87L1X m).at n):=lk hE (g87K m) (g87L1X m) n
def g87L0X:LT:=⟨0,[(0,.a (.c (.imm (.sl false (.pr .bool (.pr (.pr .bool (.sl false (.int .u32))) (.int .i64))))))),(3,sI),(15,.a (.c (.imm (.sl false (.pr .bool (.pr (.pr .bool (.sl false (.int .u32))) (.int .i64))))))),(16,sI),(17,sI)],[(.exit 0,[(0,.a (.c (.imm (.sl false (.pr .bool (.pr (.pr .bool (.sl false (.int .u32))) (.int .i64))))))),(3,sI)])],fun n x=>g87L0 m n x.1 x.2.1 x.2.2.1 x.2.2.2.1 x.2.2.2.2.1⟩
theorem g87L0ok {E} (hE:EO E 76 g87H) (n):LO E g87B0 ((g87L0X m).at n):=
 lok hmix htt hE (g87K m) (L:=[(g87L1X m).at m]) (g87L0X m) (l:=[(2,g87B2)]) kR (fun _ _=>⟨qj ⟨yb (g87L1ok m hE m),trivial⟩,trivial⟩) (fun n x=>kR) (fun _=>kR) n
theorem g87ok:FO (g87T m):=
 fok hmix htt (H:=g87H) (g87T m) func87 kR (g87K m) (L:=[(g87L0X m).at m,(g87L2X m).at m]) (l:=[(0,g87B0),(4,g87B4)]) kR (fun _ hE _ _=>⟨qj ⟨yb (g87L0ok m hE m),nb rfl,trivial⟩,qj ⟨nb rfl,yb (g87L2ok m hE m),trivial⟩,trivial⟩) (fun x=>kR)
def g141H:Hints:=⟨[J [0],J [0,5],J [2],J' [(0,1)] [2]],[],[],[2],[],[[false]]⟩
def g141T:FunT:=⟨141,[.a (.c (.imm (.sl false (.pr .bool (.sl false (.int .u32))))))],sI,[sD],fun x=>g141 m x.1⟩
theorem g141ok:FO (g141T m):=fk g141H (g141T m) func141 noF
def g165H:Hints:=⟨[J [0,1],J' [(0,1)] [3]],[],[],[3],[],[[false]]⟩
def g165T:FunT:=⟨165,[.a (.c (.imm (.pr .bool (.sl false (.int .u32))))),.a (.c (.iptr none (.int .i64) 0))],sB,[sD,sD],fun x=>g165 m x.1 x.2.1⟩
theorem g165ok:FO (g165T m):=fk g165H (g165T m) func165 noF
def g180H:Hints:=⟨[J [0,1],J [0,1,7,8],J [0,1,7,8,9],J [0,1,5,7,8],J [0,1,5,7,8,16],J' [(0,1)] [4],J' [(1,1)] [0,1,7,8],J [4]],[(0,[0,1,7,8])],[(0,[]),(1,[0,1,7,8])],[4],[],[[false]]⟩
def g180T:FunT:=⟨180,[.a (.c (.imm (.sl false (.pr .bool (.sl false (.int .u32)))))),.a (.c (.iptr (some 165) (.int .i64) 0))],sI,[sD,sD],fun x=>g180 m x.1 x.2.1⟩
noncomputable def g180C:Code:=codeOf f180
noncomputable def g180B0:Code:=qx g180C 0 0
theorem g180K:FL [g165T m]:=AllF.mem ⟨g165ok m,trivial⟩
def g180L0X:LT:=⟨0,[(0,.a (.c (.imm (.sl false (.pr .bool (.sl false (.int .u32))))))),(1,.a (.c (.iptr (some 165) (.int .i64) 0))),(7,sI),(8,sI)],[(.ret,[(4,sI)]),(.exit 0,[])],fun n x=>g180L0 m n x.1 x.2.1 x.2.2.1 x.2.2.2.1⟩
theorem g180L0ok {E} (hE:EO E 19 g180H) (n):LO E g180B0 ((g180L0X m).at n):=lk hE (g180K m) (g180L0X m) n
theorem g180ok:FO (g180T m):=f1' g180H (g180T m) func180 (g180K m) fun _ h=>g180L0ok m h m
def g164H:Hints:=⟨[J [0,1],J' [(0,1),(1,1)] [4]],[],[],[4],[],[[false]]⟩
def g164T:FunT:=⟨164,[.a (.c (.imm (.sl false (.pr .bool (.sl false (.int .u32)))))),.a (.c (.iptr (some 165) (.int .i64) 0))],sB,[sD,sD],fun x=>g164 m x.1 x.2.1⟩
theorem g164ok:FO (g164T m):=fk g164H (g164T m) func164 (AllF.mem (l:=[g180T m]) ⟨g180ok m,trivial⟩)
def g140H:Hints:=⟨[J [0],J [0,3],J [0,3,6],J [2],J' [(0,1),(3,1)] [10],J [2],J [2]],[],[(0,[])],[2],[],[[false]]⟩
def g140T:FunT:=⟨140,[.a (.c (.imm (.sl false (.pr .bool (.sl false (.int .u32))))))],sI,[sD],fun x=>g140 m x.1⟩
theorem g140ok:FO (g140T m):=fk g140H (g140T m) func140 (AllF.mem (l:=[g141T m,g164T m]) ⟨g141ok m,g164ok m,trivial⟩)
def g112H:Hints:=⟨[J [0],J [0,3],J' [(2,1)] [3,14],J [2],J' [(0,1)] [2]],[],[],[2],[],[[false]]⟩
def g112T:FunT:=⟨112,[.a (.c (.imm (.sl false (.pr .bool (.sl false (.int .u32))))))],sI,[sD],fun x=>g112 m x.1⟩
theorem g112ok:FO (g112T m):=fk g112H (g112T m) func112 (AllF.mem (l:=[g140T m,g141T m]) ⟨g140ok m,g141ok m,trivial⟩)
def g113H:Hints:=⟨[J [2,3],J [2,3,5,6],J [2,3,5,6,11],J [4],J' [(1,1)] [2,3,5,15],J [4],J' [(0,1)] [4]],[],[(0,[2,3,5])],[4],[],[[false]]⟩
def g113T:FunT:=⟨113,[.a (.agg [.bool,(.imm (.int .u32))]),.a (.agg [.bool,(.imm (.int .u32))])],sI,[sD,sD],fun x=>g113 m x.1.1 x.1.2.1 x.2.1.1 x.2.1.2.1⟩
theorem g113ok:FO (g113T m):=fk g113H (g113T m) func113 (AllF.mem (l:=[g116T m,g143T m,g142T m]) ⟨g116ok m,g143ok m,g142ok m,trivial⟩)
def g115H:Hints:=⟨[J [0,1],J' [(0,6)] [0,1,5],J' [(0,1)] [1,5,11,12,13],J [1,5,11,12,13,14],J [1,5,6,7,11,12,13],J [1,5,6,7,8,11,12,13],J' [(0,1)] [1,5,6,8,11,12,13,18,19,20],J [1,5,6,8,11,12,13,18,19,20,21],J [1,5,6,8,10,11,12,13,18,19,20],J' [(0,1)] [1,5,6,8,11,12,13,18,19,20],J' [(1,1)] [1,5,6,8,11,12,13,18,19,20],J [1,5,6,8,11,12,13,33],J' [(0,1),(2,1)] [1,5,8,11,12,13],J' [(0,1),(1,1),(2,6),(3,6)] [1,5,11,12,13],J' [(1,1)] [1,5,11,12,13],J' [(0,1)] [4]],[(0,[1,5,11,12,13]),(2,[1,5,6,8,11,12,13,18,19,20])],[(0,[5]),(1,[1,5,11,12,13]),(2,[1,5,6,8,11,12,13]),(3,[1,5,6,8,11,12,13,18,19,20])],[4],[],[[false]]⟩
def g115T:FunT:=⟨115,[.a (.c (.imm (.sl false (.pr .bool (.sl false (.int .u32)))))),.a (.c (.imm (.pr .bool (.sl false (.int .u32)))))],.a (.c (.imm (.sl false (.pr .bool (.sl false (.int .u32)))))),[sD,sD],fun x=>g115 m x.1 x.2.1⟩
noncomputable def g115C:Code:=codeOf f115
noncomputable def g115B0:Code:=qx g115C 0 0
noncomputable def g115B2:Code:=qx g115B0 0 0
theorem g115K:FL [g121T m]:=AllF.mem ⟨g121ok m,trivial⟩
def g115L1X:LT:=⟨2,[(1,.a (.c (.imm (.pr .bool (.sl false (.int .u32)))))),(5,.a (.c (.dp 0 (.pr .bool (.sl false (.int .u32)))))),(6,sI),(8,.a (.c (.nm 1 (.pr .bool (.sl false (.int .u32)))))),(11,.a (.c (.imm (.sl false (.pr .bool (.sl false (.int .u32))))))),(12,sI),(13,sI),(18,.a (.c (.imm (.pr .bool (.sl false (.int .u32)))))),(19,sI),(20,sI)],[(.exit 2,[(1,.a (.c (.imm (.pr .bool (.sl false (.int .u32)))))),(5,.a (.c (.dp 0 (.pr .bool (.sl false (.int .u32)))))),(6,sI),(8,.a (.c (.nm 1 (.pr .bool (.sl false (.int .u32)))))),(11,.a (.c (.imm (.sl false (.pr .bool (.sl false (.int .u32))))))),(12,sI),(13,sI)])],fun n x=>g115L1 m n x.1 x.2.1 x.2.2.1 x.2.2.2.1 x.2.2.2.2.1 x.2.2.2.2.2.1 x.2.2.2.2.2.2.1 x.2.2.2.2.2.2.2.1 x.2.2.2.2.2.2.2.2.1 x.2.2.2.2.2.2.2.2.2.1⟩
theorem g115L1ok {E} (hE:EO E 48 g115H) (n):LO E g115B2 ((g115L1X m).at n):=lk hE (g115K m) (g115L1X m) n
def g115L0X:LT:=⟨0,[(1,.a (.c (.imm (.pr .bool (.sl false (.int .u32)))))),(5,.a (.c (.dp 0 (.pr .bool (.sl false (.int .u32)))))),(11,.a (.c (.imm (.sl false (.pr .bool (.sl false (.int .u32))))))),(12,sI),(13,sI)],[(.exit 0,[(5,.a (.c (.dp 0 (.pr .bool (.sl false (.int .u32))))))])],fun n x=>g115L0 m n x.1 x.2.1 x.2.2.1 x.2.2.2.1 x.2.2.2.2.1⟩
theorem g115L0ok {E} (hE:EO E 48 g115H) (n):LO E g115B0 ((g115L0X m).at n):=
 lok hmix htt hE (g115K m) (L:=[(g115L1X m).at m]) (g115L0X m) (l:=[(2,g115B2)]) kR (fun _ _=>⟨qj ⟨yb (g115L1ok m hE m),trivial⟩,trivial⟩) (fun n x=>kR) (fun _=>kR) n
theorem g115ok:FO (g115T m):=f1' g115H (g115T m) func115 (g115K m) fun _ h=>g115L0ok m h m
end
end Go.Vs.F
