/-The plain functions are what the code does (by program:gen.py). -/
import Derived.Test.YtkbgfnhdfmmfcaaGreatDoorFn
import Derived.Test.YtkbgfnhdfmmfcaaGreatDoorVc
import Derived.Test.YtkbgfnhdfmmfcaaGreatDoorProg
import Derived.KernelRfl
set_option linter.unusedVariables false
set_option maxRecDepth 100000
namespace Go.Vs.F
open Go.Proofs
open Tryz
section
theorem kR{p:Prop}(h:p:=by kernel_rfl):p:=h
abbrev sD:Sh:=.a (.c .dead)
abbrev sI:Sh:=.a (.c (.int .i64))
abbrev sL:Sh:=.a (.c (.imm (.int .i64)))
abbrev sB:Sh:=.a (.c .bool)
abbrev sU:Sh:=.a (.c (.int .u64))
abbrev EO(E:Entry)(N:Nat)(H:Hints):=EOf prog E N H.pins
abbrev LO:=LoopOK prog
abbrev FO:=FunOK prog
abbrev FL(l:List FunT):=∀u∈l,FO u
abbrev sN(k:Nat):Sh:=.a (.c (.nm k (.int .i64)))
abbrev sX(k:Nat)(l:List ShC):Sh:=.a (.bx k l)
abbrev iI:ShC:=.int .i64
abbrev iU:ShC:=.int .u64
abbrev iL:ShC:=.imm (.int .i64)
abbrev iM(k:Nat):ShC:=.nm k (.int .i64)
def J(l:List Nat):Hint:=⟨[],l⟩
def J'(m:List (Nat×Nat))(l:List Nat):Hint:=⟨m,l⟩
def tt:TT:=[none,none,none,some ⟨(.int .i64),[.int .i64]⟩,some ⟨.bool,[.bool]⟩,some ⟨(.int .u8),[.int .u8]⟩,none,none,none,some ⟨.string,[.other]⟩,none,none,none,none,none,none,none,none,none,none,none,none,some ⟨(.slice 39 (.int .u64)),[.nil (.int .u64)]⟩,some ⟨(.slice 3 (.int .i64)),[.nil (.int .i64)]⟩,some ⟨(.slice 41 (.int .u64)),[.nil (.int .u64)]⟩,none,some ⟨(.struct [(0,1),(1,1),(2,1),(3,1),(4,1),(5,1),(6,1)]),[.nil (.int .i64),.nil (.int .i64),.nil (.int .u64),.nil (.int .i64),.nil (.int .i64),.nil (.int .u64),.int .i64]⟩,none,none,none,some ⟨(.slice 24 (.sl false (.int .u64))),[.nil (.sl false (.int .u64))]⟩,none,some ⟨(.struct [(0,1),(1,1),(2,1)]),[.nil (.int .u64),.nil (.int .u64),.nil (.sl false (.int .u64))]⟩,none,none,none,none,none,none,some ⟨(.int .u64),[.int .u64]⟩,none,some ⟨(.int .u64),[.int .u64]⟩,none,some ⟨(.slice 48 (.pr .bool (.pr (.pr .bool (.sl false (.int .u32))) (.int .i64)))),[.nil (.pr .bool (.pr (.pr .bool (.sl false (.int .u32))) (.int .i64)))]⟩,some ⟨(.slice 108 (.int .u32)),[.nil (.int .u32)]⟩,none,some ⟨(.struct [(0,1),(1,1)]),[.bool,.nil (.int .u32)]⟩,none,some ⟨(.struct [(0,1),(1,2),(3,1)]),[.bool,.bool,.nil (.int .u32),.int .i64]⟩,none,none,none,none,none,none,none,none,none,none,none,none,none,none,none,none,none,none,none,none,none,none,none,none,none,none,none,none,none,none,none,none,none,none,none,none,none,some ⟨(.int .u64),[.int .u64]⟩,none,none,none,none,none,none,none,none,none,none,none,none,none,none,none,none,none,none,none,none,none,some ⟨(.int .u32),[.int .u32]⟩,none,none,none,none,none,none,none,none,none,none,none,none,none,none,none,none,none,some ⟨(.slice 43 (.sl false (.pr .bool (.pr (.pr .bool (.sl false (.int .u32))) (.int .i64))))),[.nil (.sl false (.pr .bool (.pr (.pr .bool (.sl false (.int .u32))) (.int .i64))))]⟩,none,none,none,none,none,none,none,none,none,none,none,none,none,none,none,none,none,none,none,none,none,none,none,some ⟨(.slice 4 .bool),[.nil .bool]⟩,none,none,none,none,none,none,none,none,none,none,none,none,none,none,none,none,none,none,none,none,none,none,none,none,none,none,none,none,none,none,none,none,none,none,none,none,none,none,none,none,none,none,none,none,none,none,none,none,none,none,none,none,none,none,none,none,none,none,none,none,none,none,none,none,none,none,none,none,none,some ⟨(.slice 43 (.sl false (.pr .bool (.pr (.pr .bool (.sl false (.int .u32))) (.int .i64))))),[.nil (.sl false (.pr .bool (.pr (.pr .bool (.sl false (.int .u32))) (.int .i64))))]⟩,none,none,none,none,some ⟨(.struct [(0,1),(1,2),(3,1),(4,1)]),[.bool,.bool,.nil (.int .u32),.int .i64,.bool]⟩,none,none,none,none,none,none,none,none,none,none,none,none,none,none,none,none,none,none,none,none,none,none,none,none,none,none,none,none,none,none,none,none,some ⟨(.tab 0 .u8 [0,1,28,2,29,14,24,3,30,22,20,15,25,17,4,8,31,27,13,23,21,19,16,7,26,12,18,6,11,5,10,9]),[.other,.other,.other,.other,.other,.other,.other,.other,.other,.other,.other,.other,.other,.other,.other,.other,.other,.other,.other,.other,.other,.other,.other,.other,.other,.other,.other,.other,.other,.other,.other,.other]⟩]
theorem htt:TTok prog tt:=qay kR
theorem hmix:prog.follows .mixedOrders=true:=kR
theorem lk{N:Nat}{H:Hints}{E:Entry}(hE:EO E N H){D:List FunT}(hD:FL D){B:Code}(t:LT)(n:Nat)(hl:Zy B t.blk=[]:=by kernel_rfl)(hr:∀n x,q7r (mkC (outVal t.outs) D) (mkLp (outVal t.outs) []) tt N H B t.blk (t.ins.enc x) (Kl (t.run n))=t.run (n+1) x:=by intro n x;kernel_rfl)(h0:∀x,t.run 0 x=none:=by intro x;kernel_rfl):LO E B (t.at n):=lok hmix htt hE hD (L:=[]) t (l:=[]) hl (fun _ _=>trivial) hr h0 n
theorem fk(H:Hints)(t:FunT){fn:Func}(hf:prog.funcs[t.f]? =some fn){D:List FunT}(hD:FL D)(hb:okB fn=true:=by kernel_rfl)(hl:Zy (codeOf fn) 0=[]:=by kernel_rfl)(hr: ∀x,fnK (mkC (t.res.Val×Qr t.outs) D) (mkLp (t.res.Val×Qr t.outs) []) tt H fn (encS t.args x) (Kd t.res t.outs)=t.run x:=by intro x;kernel_rfl):FO t:=fok hmix htt (H:=H) t hf hb hD (L:=[]) (l:=[]) hl (fun _ hE _ _=>trivial) hr
theorem f1'(H:Hints)(t:FunT){fn:Func}(hf:prog.funcs[t.f]? =some fn){D:List FunT}(hD:FL D){X:LT}{m:Nat}{B:Code}(h:∀E:Entry,EO E fn.ntmps H->LO E B (X.at m))(hb:okB fn=true:=by kernel_rfl)(hl:Zy (codeOf fn) 0=[(X.blk,B)]:=by kernel_rfl)(hr: ∀x,fnK (mkC (t.res.Val×Qr t.outs) D) (mkLp (t.res.Val×Qr t.outs) [X.at m]) tt H fn (encS t.args x) (Kd t.res t.outs)=t.run x:=by intro x;kernel_rfl)(hk:q20 [] [X.at m]=true:=by kernel_rfl):FO t:=fok hmix htt (H:=H) t hf hb hD (L:=[X.at m]) (l:=[(X.blk,B)]) hl (fun E hE _ _=>⟨ql ⟨yb (h E hE),trivial⟩,trivial⟩) hr hk
variable (m:Nat)
def g11H:Hints:=⟨[J [0,1],J' [(0,1),(2,1)] [4]],[],[],[4],[],[[false]]⟩
def g11T:FunT:=⟨11,[sI,sI],sI,[sD,sD],fun x=>g11 m x.1 x.2.1⟩
theorem g11ok:FO (g11T m):=fk g11H (g11T m) func11 noF
def g27H:Hints:=⟨[J [0,1],J [0,1,5],J [0,1,5,12],J' [(0,1),(2,1)] [5],J [5],J [4]],[],[],[4],[],[[false]]⟩
def g27T:FunT:=⟨27,[.a (.c (.imm (.int .u64))),sI],sU,[sD,sD],fun x=>g27 m x.1 x.2.1⟩
theorem g27ok:FO (g27T m):=fk g27H (g27T m) func27 (AllF.mem (l:=[g11T m]) ⟨g11ok m,trivial⟩)
def g53H:Hints:=⟨[J [0],J' [(0,1)] [2]],[],[],[2],[],[[false]]⟩
def g53T:FunT:=⟨53,[sU],sB,[sD],fun x=>g53 m x.1⟩
theorem g53ok:FO (g53T m):=fk g53H (g53T m) func53 noF
def g132H:Hints:=⟨[J [0],J [0,3],J' [(2,1)] [0,3,17],J' [(0,1)] [0,3],J [0,3,4],J [0,3,4,5],J [0,3,4,5,22],J' [(0,1)] [0,3,4,5],J' [(0,1)] [0,3,4,5],J' [(0,1)] [2]],[(0,[0,3]),(2,[0,3,4,5])],[(0,[0,3]),(1,[0,3]),(2,[4]),(3,[0,3,4,5])],[2],[],[[true]]⟩
def g132T:FunT:=⟨132,[.a (.c (.imm (.int .u32)))],.a (.c (.nm 0 (.int .u32))),[sD],fun x=>g132 m x.1⟩
noncomputable def g132C:Code:=codeOf f132
noncomputable def g132B0:Code:=qo g132C 0 0
noncomputable def g132B2:Code:=qo g132C 0 1
def g132L1X:LT:=⟨2,[(0,.a (.c (.imm (.int .u32)))),(3,sI),(4,.a (.c (.nm 0 (.int .u32)))),(5,sI)],[(.exit 2,[(4,.a (.c (.nm 0 (.int .u32))))])],fun n x=>g132L1 m n x.1 x.2.1 x.2.2.1 x.2.2.2.1⟩
theorem g132L1ok {E} (hE:EO E 33 g132H) (n):LO E g132B2 ((g132L1X m).at n):=lk hE noF (g132L1X m) n
def g132L0X:LT:=⟨0,[(0,.a (.c (.imm (.int .u32)))),(3,sI)],[(.exit 0,[(0,.a (.c (.imm (.int .u32)))),(3,sI)])],fun n x=>g132L0 m n x.1 x.2.1⟩
theorem g132L0ok {E} (hE:EO E 33 g132H) (n):LO E g132B0 ((g132L0X m).at n):=lk hE noF (g132L0X m) n
theorem g132ok:FO (g132T m):=
 fok hmix htt (H:=g132H) (g132T m) func132 kR noF (L:=[(g132L0X m).at m,(g132L1X m).at m]) (l:=[(0,g132B0),(2,g132B2)]) kR (fun _ hE _ _=>⟨ql ⟨yb (g132L0ok m hE m),nb rfl,trivial⟩,ql ⟨nb rfl,yb (g132L1ok m hE m),trivial⟩,trivial⟩) (fun x=>kR)
def g130H:Hints:=⟨[J [0,1,4],J' [(0,1)] [0,1,4],J' [(0,1),(1,1),(6,1)] [4]],[],[],[4],[],[[false,false]]⟩
def g130T:FunT:=⟨130,[sB,.a (.c (.imm (.int .u32)))],.a (.agg [.bool,(.imm (.int .u32))]),[sD,sD],fun x=>g130 m x.1 x.2.1⟩
theorem g130ok:FO (g130T m):=fk g130H (g130T m) func130 (AllF.mem (l:=[g132T m]) ⟨g132ok m,trivial⟩)
def g72H:Hints:=⟨[J [0,2],J [0,2,3],J [0,2,3,7],J [0,2,3],J' [(0,1)] [2]],[],[],[2],[],[[false,false]]⟩
def g72T:FunT:=⟨72,[sI],.a (.agg [.bool,(.imm (.int .u32))]),[sD],fun x=>g72 m x.1⟩
theorem g72ok:FO (g72T m):=fk g72H (g72T m) func72 (AllF.mem (l:=[g130T m]) ⟨g130ok m,trivial⟩)
def g126H:Hints:=⟨[J [1,2],J [2]],[],[],[2],[],[[false,false]]⟩
def g126T:FunT:=⟨126,[.a (.agg [.bool,(.imm (.int .u32))])],.a (.agg [.bool,(.imm (.int .u32))]),[sD],fun x=>g126 m x.1.1 x.1.2.1⟩
theorem g126ok:FO (g126T m):=fk g126H (g126T m) func126 (AllF.mem (l:=[g130T m]) ⟨g130ok m,trivial⟩)
def g62H:Hints:=⟨[J [0],J [0]],[],[],[0],[],[[false,false,true,false]]⟩
def g62T:FunT:=⟨62,[],.a (.agg [.bool,.bool,(.nm 0 (.int .u32)),(.int .i64)]),[],fun x=>g62 m⟩
theorem g62ok:FO (g62T m):=fk g62H (g62T m) func62 noF
def g215H:Hints:=⟨[J [0],J [0,4],J [2],J [2]],[],[],[2],[],[[false]]⟩
def g215T:FunT:=⟨215,[.a (.c (.int .u32))],sI,[sD],fun x=>g215 m x.1⟩
theorem g215ok:FO (g215T m):=fk g215H (g215T m) func215 noF
def g127H:Hints:=⟨[J [1],J [3],J [3,4],J [3,4,11],J' [(0,1)] [3,4],J [3,4,18],J' [(2,1)] [2],J [2]],[(0,[3,4])],[(0,[]),(1,[3,4])],[2],[],[[false]]⟩
def g127T:FunT:=⟨127,[.a (.agg [.bool,(.imm (.int .u32))])],sI,[sD],fun x=>g127 m x.1.1 x.1.2.1⟩
noncomputable def g127C:Code:=codeOf f127
noncomputable def g127B0:Code:=qo g127C 0 0
theorem g127K:FL [g132T m,g215T m]:=AllF.mem ⟨g132ok m,g215ok m,trivial⟩
def g127L0X:LT:=⟨0,[(3,.a (.c (.nm 0 (.int .u32)))),(4,sI)],[(.ret,[(2,sI)]),(.exit 0,[])],fun n x=>g127L0 m n x.1 x.2.1⟩
theorem g127L0ok {E} (hE:EO E 27 g127H) (n):LO E g127B0 ((g127L0X m).at n):=lk hE (g127K m) (g127L0X m) n
theorem g127ok:FO (g127T m):=f1' g127H (g127T m) func127 (g127K m) fun _ h=>g127L0ok m h m
def g66H:Hints:=⟨[J [1,2],J [2]],[],[],[2],[],[[false,false]]⟩
def g66T:FunT:=⟨66,[.a (.agg [.bool,(.imm (.int .u32))])],.a (.agg [.bool,(.imm (.int .u32))]),[sD],fun x=>g66 m x.1.1 x.1.2.1⟩
theorem g66ok:FO (g66T m):=fk g66H (g66T m) func66 (AllF.mem (l:=[g130T m]) ⟨g130ok m,trivial⟩)
def g138H:Hints:=⟨[J [0,1],J [0,1,5],J [0,1,5,6],J [0,1,5,6,7],J [0,1,5,6,7,14],J' [(0,1)] [0,1,5,6,7],J' [(0,1)] [0,1,5,6,7],J' [(0,1)] [0,1,5,6,7],J' [(0,1)] [0,1,5,6,7],J' [(0,1),(1,1)] [4]],[(0,[0,1,5,6,7])],[(0,[5,6]),(1,[0,1,5,6,7])],[4],[],[[true]]⟩
def g138T:FunT:=⟨138,[.a (.c (.imm (.int .u32))),sI],.a (.c (.nm 0 (.int .u32))),[sD,sD],fun x=>g138 m x.1 x.2.1⟩
noncomputable def g138C:Code:=codeOf f138
noncomputable def g138B0:Code:=qo g138C 0 0
def g138L0X:LT:=⟨0,[(0,.a (.c (.imm (.int .u32)))),(1,sI),(5,.a (.c (.nm 0 (.int .u32)))),(6,sU),(7,sI)],[(.exit 0,[(5,.a (.c (.nm 0 (.int .u32)))),(6,sU)])],fun n x=>g138L0 m n x.1 x.2.1 x.2.2.1 x.2.2.2.1 x.2.2.2.2.1⟩
theorem g138L0ok {E} (hE:EO E 39 g138H) (n):LO E g138B0 ((g138L0X m).at n):=lk hE noF (g138L0X m) n
theorem g138ok:FO (g138T m):=f1' g138H (g138T m) func138 noF fun _ h=>g138L0ok m h m
def g139H:Hints:=⟨[J [0,1],J [0,1,6],J [0,1,6,7],J' [(4,1)] [0,1,6,7,21],J' [(0,1)] [0,1,6,7],J' [(0,1),(1,1)] [0,1,6,7],J [0,1,6,8],J [0,1,6,8,9],J [0,1,6,8,9,10],J [0,1,6,8,9,10,39],J' [(0,1)] [0,1,6,8,9,10],J [0,1,6,8,9,10,11],J [0,1,6,8,9,10,11,51],J' [(0,1)] [0,1,6,8,9,10,11],J' [(4,1)] [0,1,6,8,9,10,11,75],J [0,1,6,8,9,10,11],J' [(0,1),(1,1)] [0,1,6,8,9,10],J' [(0,1),(1,1)] [4,5]],[(0,[0,1,6,7]),(2,[0,1,6,8,9,10])],[(0,[0,1,6]),(1,[0,1,6,7]),(2,[6,8]),(3,[0,1,6,8,9,10])],[4,5],[],[[true],[false]]⟩
def g139T:FunT:=⟨139,[.a (.c (.imm (.int .u32))),sI],.tup [(.c (.nm 0 (.int .u32))),(.c .bool)],[sD,sD],fun x=>g139 m x.1 x.2.1⟩
noncomputable def g139C:Code:=codeOf f139
noncomputable def g139B0:Code:=qo g139C 0 0
noncomputable def g139B2:Code:=qo g139C 0 1
def g139L1X:LT:=⟨2,[(0,.a (.c (.imm (.int .u32)))),(1,sI),(6,sB),(8,.a (.c (.nm 0 (.int .u32)))),(9,sI),(10,sI)],[(.exit 2,[(6,sB),(8,.a (.c (.nm 0 (.int .u32))))])],fun n x=>g139L1 m n x.1 x.2.1 x.2.2.1 x.2.2.2.1 x.2.2.2.2.1 x.2.2.2.2.2.1⟩
theorem g139L1ok {E} (hE:EO E 85 g139H) (n):LO E g139B2 ((g139L1X m).at n):=lk hE noF (g139L1X m) n
def g139L0X:LT:=⟨0,[(0,.a (.c (.imm (.int .u32)))),(1,sI),(6,sB),(7,sI)],[(.exit 0,[(0,.a (.c (.imm (.int .u32)))),(1,sI),(6,sB)])],fun n x=>g139L0 m n x.1 x.2.1 x.2.2.1 x.2.2.2.1⟩
theorem g139L0ok {E} (hE:EO E 85 g139H) (n):LO E g139B0 ((g139L0X m).at n):=lk hE noF (g139L0X m) n
theorem g139ok:FO (g139T m):=
 fok hmix htt (H:=g139H) (g139T m) func139 kR noF (L:=[(g139L0X m).at m,(g139L1X m).at m]) (l:=[(0,g139B0),(2,g139B2)]) kR (fun _ hE _ _=>⟨ql ⟨yb (g139L0ok m hE m),nb rfl,trivial⟩,ql ⟨nb rfl,yb (g139L1ok m hE m),trivial⟩,trivial⟩) (fun x=>kR)
def g134H:Hints:=⟨[J [1,2],J [2]],[],[],[2],[],[[false,false]]⟩
def g134T:FunT:=⟨134,[.a (.agg [.bool,(.imm (.int .u32))])],.a (.agg [.bool,(.imm (.int .u32))]),[sD],fun x=>g134 m x.1.1 x.1.2.1⟩
theorem g134ok:FO (g134T m):=fk g134H (g134T m) func134 (AllF.mem (l:=[g130T m]) ⟨g130ok m,trivial⟩)
def g135H:Hints:=⟨[J [0,1],J [0,1,5],J [0,1,5,6],J [0,1,5,6,7],J [0,1,5,6,7,14],J' [(0,1)] [0,1,5,6,7],J [0,1,5,6,7,20],J' [(0,1)] [0,1,5,6,7],J [0,1,5,6,7,31],J' [(0,1)] [0,1,5,6,7],J' [(0,1)] [0,1,5,6,7],J' [(0,1)] [0,1,5,6,7],J' [(0,1),(1,1)] [4]],[(0,[0,1,5,6,7])],[(0,[5,6]),(1,[0,1,5,6,7])],[4],[],[[true]]⟩
def g135T:FunT:=⟨135,[.a (.c (.imm (.int .u32))),.a (.c (.imm (.int .u32)))],.a (.c (.nm 0 (.int .u32))),[sD,sD],fun x=>g135 m x.1 x.2.1⟩
noncomputable def g135C:Code:=codeOf f135
noncomputable def g135B0:Code:=qo g135C 0 0
def g135L0X:LT:=⟨0,[(0,.a (.c (.imm (.int .u32)))),(1,.a (.c (.imm (.int .u32)))),(5,.a (.c (.nm 0 (.int .u32)))),(6,sU),(7,sI)],[(.exit 0,[(5,.a (.c (.nm 0 (.int .u32)))),(6,sU)])],fun n x=>g135L0 m n x.1 x.2.1 x.2.2.1 x.2.2.2.1 x.2.2.2.2.1⟩
theorem g135L0ok {E} (hE:EO E 51 g135H) (n):LO E g135B0 ((g135L0X m).at n):=lk hE noF (g135L0X m) n
theorem g135ok:FO (g135T m):=f1' g135H (g135T m) func135 noF fun _ h=>g135L0ok m h m
def g136H:Hints:=⟨[J [0,1],J [0,1,10],J' [(0,1),(2,1)] [15],J [4],J [4],J [0,1,5],J [0,1,5,20],J' [(0,1)] [0,1,5],J [0,1,5,31],J' [(0,1),(4,1)] [40],J [4],J [4],J [4]],[(0,[0,1,5])],[(0,[]),(1,[0,1,5])],[4],[],[[false]]⟩
def g136T:FunT:=⟨136,[.a (.c (.imm (.int .u32))),.a (.c (.imm (.int .u32)))],sI,[sD,sD],fun x=>g136 m x.1 x.2.1⟩
noncomputable def g136C:Code:=codeOf f136
noncomputable def g136B0:Code:=qo g136C 0 0
def g136L0X:LT:=⟨0,[(0,.a (.c (.imm (.int .u32)))),(1,.a (.c (.imm (.int .u32)))),(5,sI)],[(.ret,[(4,sI)]),(.exit 0,[])],fun n x=>g136L0 m n x.1 x.2.1 x.2.2.1⟩
theorem g136L0ok {E} (hE:EO E 41 g136H) (n):LO E g136B0 ((g136L0X m).at n):=lk hE noF (g136L0X m) n
theorem g136ok:FO (g136T m):=f1' g136H (g136T m) func136 noF fun _ h=>g136L0ok m h m
def g137H:Hints:=⟨[J [0,1],J [0,1,5],J [0,1,5,6],J [0,1,5,6,7],J [0,1,5,6,7,12],J' [(0,1)] [0,1,5,6,7],J' [(5,1)] [0,1,5,7,8],J [0,1,5,7,8,25],J' [(0,1)] [0,1,5,7,8],J' [(0,1)] [0,1,5,7,8],J' [(0,1)] [0,1,5,6,7],J' [(0,1)] [4]],[(0,[0,1,5,6,7])],[(0,[5]),(1,[0,1,5,6,7])],[4],[],[[true]]⟩
def g137T:FunT:=⟨137,[.a (.c (.imm (.int .u32))),.a (.c (.imm (.int .u32)))],.a (.c (.nm 0 (.int .u32))),[sD,sD],fun x=>g137 m x.1 x.2.1⟩
noncomputable def g137C:Code:=codeOf f137
noncomputable def g137B0:Code:=qo g137C 0 0
def g137L0X:LT:=⟨0,[(0,.a (.c (.imm (.int .u32)))),(1,.a (.c (.imm (.int .u32)))),(5,.a (.c (.nm 0 (.int .u32)))),(6,sU),(7,sI)],[(.exit 0,[(5,.a (.c (.nm 0 (.int .u32))))])],fun n x=>g137L0 m n x.1 x.2.1 x.2.2.1 x.2.2.2.1 x.2.2.2.2.1⟩
theorem g137L0ok {E} (hE:EO E 41 g137H) (n):LO E g137B0 ((g137L0X m).at n):=lk hE noF (g137L0X m) n
theorem g137ok:FO (g137T m):=f1' g137H (g137T m) func137 noF fun _ h=>g137L0ok m h m
def g70H:Hints:=⟨[J [2,3,4],J [2,3,4,5,6],J [2,3,4,5,6,17],J' [(2,1),(3,1)] [4],J [2,3,4,5,6,27],J' [(2,1),(3,1)] [4],J' [(2,1),(3,1)] [4]],[],[],[4],[],[[false,false]]⟩
def g70T:FunT:=⟨70,[.a (.agg [.bool,(.imm (.int .u32))]),.a (.agg [.bool,(.imm (.int .u32))])],.a (.agg [.bool,(.imm (.int .u32))]),[sD,sD],fun x=>g70 m x.1.1 x.1.2.1 x.2.1.1 x.2.1.2.1⟩
theorem g70ok:FO (g70T m):=fk g70H (g70T m) func70 (AllF.mem (l:=[g132T m,g135T m,g130T m,g136T m,g137T m]) ⟨g132ok m,g135ok m,g130ok m,g136ok m,g137ok m,trivial⟩)
def g140H:Hints:=⟨[J [2,3,4],J [4]],[],[],[4],[],[[false,false]]⟩
def g140T:FunT:=⟨140,[.a (.agg [.bool,(.imm (.int .u32))]),.a (.agg [.bool,(.imm (.int .u32))])],.a (.agg [.bool,(.imm (.int .u32))]),[sD,sD],fun x=>g140 m x.1.1 x.1.2.1 x.2.1.1 x.2.1.2.1⟩
theorem g140ok:FO (g140T m):=fk g140H (g140T m) func140 (AllF.mem (l:=[g134T m,g70T m]) ⟨g134ok m,g70ok m,trivial⟩)
def g71H:Hints:=⟨[J [1,2,4],J [1,2,4],J [1,2,4,11],J' [(4,1)] [4],J' [(2,1),(5,1)] [2,4,5,6],J' [(2,1)] [2,4,6,7],J' [(2,1),(3,1)] [4,7,35],J [4,7],J [4]],[],[],[4],[],[[false,false]]⟩
def g71T:FunT:=⟨71,[.a (.agg [.bool,(.imm (.int .u32))]),sI],.a (.agg [.bool,(.imm (.int .u32))]),[sD,sD],fun x=>g71 m x.1.1 x.1.2.1 x.2.1⟩
theorem g71ok:FO (g71T m):=fk g71H (g71T m) func71 (AllF.mem (l:=[g126T m,g138T m,g130T m,g139T m,g72T m,g140T m]) ⟨g126ok m,g138ok m,g130ok m,g139ok m,g72ok m,g140ok m,trivial⟩)
def g128H:Hints:=⟨[J [1,2,4],J [1,2,4,6],J [1,2,4],J' [(0,1)] [1,2,4],J' [(1,1)] [4]],[(0,[1,2,4])],[(0,[1,2,4]),(1,[1,2,4])],[4],[],[[false,false]]⟩
def g128T:FunT:=⟨128,[.a (.agg [.bool,(.imm (.int .u32))]),sI],.a (.agg [.bool,(.imm (.int .u32))]),[sD,sD],fun x=>g128 m x.1.1 x.1.2.1 x.2.1⟩
noncomputable def g128C:Code:=codeOf f128
noncomputable def g128B0:Code:=qo g128C 0 0
theorem g128K:FL [g71T m]:=AllF.mem ⟨g71ok m,trivial⟩
def g128L0X:LT:=⟨0,[(1,sI),(2,sX 0 [.bool,.imm (.int .u32)]),(4,sX 1 [.bool,.nm 2 (.int .u32)])],[(.exit 0,[(1,sI),(2,sX 0 [.bool,.imm (.int .u32)]),(4,sX 1 [.bool,.nm 2 (.int .u32)])])],fun n x=>g128L0 m n x.1 x.2.1.1 x.2.1.2.1 x.2.2.1.1 x.2.2.1.2.1⟩
theorem g128L0ok {E} (hE:EO E 15 g128H) (n):LO E g128B0 ((g128L0X m).at n):=lk hE (g128K m) (g128L0X m) n
theorem g128ok:FO (g128T m):=f1' g128H (g128T m) func128 (g128K m) fun _ h=>g128L0ok m h m
def g216H:Hints:=⟨[J [0,2],J [0,2,4],J' [(0,1)] [0],J [0,2],J [0,2,8],J' [(0,1)] [0,2],J' [(0,1)] [0,2],J' [(0,1),(1,1)] [2]],[],[],[2],[],[[false]]⟩
def g216T:FunT:=⟨216,[.a (.c (.int .u32))],sI,[sD],fun x=>g216 m x.1⟩
theorem g216ok:FO (g216T m):=fk g216H (g216T m) func216 noF
def g129H:Hints:=⟨[J [1],J [3],J [3,9],J [2],J [2]],[],[],[2],[],[[false]]⟩
def g129T:FunT:=⟨129,[.a (.agg [.bool,(.imm (.int .u32))])],sI,[sD],fun x=>g129 m x.1.1 x.1.2.1⟩
theorem g129ok:FO (g129T m):=fk g129H (g129T m) func129 (AllF.mem (l:=[g132T m,g216T m]) ⟨g132ok m,g216ok m,trivial⟩)
def g63H:Hints:=⟨[J [1,2,4],J [1,2,4,5],J [1,2,4,5,13],J [4],J [1,2,4,5,16],J [4],J [1,2,4,5,6],J' [(0,1)] [2,4,5,6,7],J [2,4,5,6,7],J' [(1,1)] [2,4,5,7],J' [(2,1)] [2,4,5,7,36],J [4],J [4,5,7],J' [(1,1)] [4]],[],[],[4],[],[[false,false,false,false]]⟩
def g63T:FunT:=⟨63,[.a (.agg [.bool,(.imm (.int .u32))]),sI],.a (.agg [.bool,.bool,(.imm (.int .u32)),(.int .i64)]),[sD,sD],fun x=>g63 m x.1.1 x.1.2.1 x.2.1⟩
theorem g63ok:FO (g63T m):=fk g63H (g63T m) func63 (AllF.mem (l:=[g126T m,g62T m,g127T m,g66T m,g128T m,g129T m]) ⟨g126ok m,g62ok m,g127ok m,g66ok m,g128ok m,g129ok m,trivial⟩)
def g22H:Hints:=⟨[J [0,2],J' [(0,1)] [2]],[],[],[2],[],[[false,false,false,false]]⟩
def g22T:FunT:=⟨22,[sI],.a (.agg [.bool,.bool,(.imm (.int .u32)),(.int .i64)]),[sD],fun x=>g22 m x.1⟩
theorem g22ok:FO (g22T m):=fk g22H (g22T m) func22 (AllF.mem (l:=[g72T m,g63T m]) ⟨g72ok m,g63ok m,trivial⟩)
def g61H:Hints:=⟨[J [1,2],J [1,2,4],J [2],J [2]],[],[],[2],[],[[false,false,false,false]]⟩
def g61T:FunT:=⟨61,[.a (.agg [.bool,.bool,(.imm (.int .u32)),(.int .i64)])],.a (.agg [.bool,.bool,(.imm (.int .u32)),(.int .i64)]),[sD],fun x=>g61 m x.1.1 x.1.2.1 x.1.2.2.1 x.1.2.2.2.1⟩
theorem g61ok:FO (g61T m):=fk g61H (g61T m) func61 (AllF.mem (l:=[g62T m,g63T m]) ⟨g62ok m,g63ok m,trivial⟩)
def g69H:Hints:=⟨[J [1],J [1],J [1,5],J [2],J [10],J [2],J [2]],[],[(0,[])],[2],[],[[false]]⟩
def g69T:FunT:=⟨69,[.a (.agg [.bool,(.imm (.int .u32))])],sI,[sD],fun x=>g69 m x.1.1 x.1.2.1⟩
theorem g69ok:FO (g69T m):=fk g69H (g69T m) func69 (AllF.mem (l:=[g126T m]) ⟨g126ok m,trivial⟩)
def g78H:Hints:=⟨[J [0,1],J' [(0,1)] [1,5],J' [(0,1)] [4],J' [(0,1)] [4]],[],[],[4],[],[[false]]⟩
def g78T:FunT:=⟨78,[sB,sU],sU,[sD,sD],fun x=>g78 m x.1 x.2.1⟩
theorem g78ok:FO (g78T m):=fk g78H (g78T m) func78 noF
def g217H:Hints:=⟨[J [0,1],J' [(2,1),(5,1),(10,1),(13,1)] [0,21],J' [(0,1)] [4],J' [(0,1)] [4]],[],[],[4],[],[[false]]⟩
def g217T:FunT:=⟨217,[sB,sI],sU,[sD,sD],fun x=>g217 m x.1 x.2.1⟩
theorem g217ok:FO (g217T m):=fk g217H (g217T m) func217 (AllF.mem (l:=[g78T m]) ⟨g78ok m,trivial⟩)
def g260H:Hints:=⟨[J [1,2],J' [(3,1),(5,1)] [6],J' [(0,1)] [4]],[],[],[4],[],[[false]]⟩
def g260T:FunT:=⟨260,[.a (.agg [.bool,(.imm (.int .u32))]),sI],sB,[sD,sD],fun x=>g260 m x.1.1 x.1.2.1 x.2.1⟩
theorem g260ok:FO (g260T m):=fk g260H (g260T m) func260 (AllF.mem (l:=[g132T m,g139T m]) ⟨g132ok m,g139ok m,trivial⟩)
def g261H:Hints:=⟨[J [0,1,2,3],J' [(0,1)] [0,1,2,9],J [0,1,2,9,10],J' [(0,1)] [8],J [0,1,2,9,13],J' [(0,1)] [8],J [1,2,17],J [8],J' [(2,1),(5,1),(6,1)] [8]],[],[(0,[1,2])],[8],[],[[false]]⟩
def g261T:FunT:=⟨261,[sB,sI,sB,sI],sB,[sD,sD,sD,sD],fun x=>g261 m x.1 x.2.1 x.2.2.1 x.2.2.2.1⟩
theorem g261ok:FO (g261T m):=fk g261H (g261T m) func261 noF
def g218H:Hints:=⟨[J [0,2,3,4,6,10],J [0,2,3,4,6,10,11],J [0,2,3,4,6,10,11,12],J' [(0,1),(2,1)] [0,2,3,4,6,10,11,27],J [10],J [0,2,3,4,6,10,11,13],J [0,2,3,4,6,10,11,13,30],J [0,2,3,4,6,10,11,13,14],J' [(3,1)] [0,2,3,4,6,10,11,13,42],J [0,2,3,4,6,10,11,13],J' [(0,1),(1,1),(3,1)] [0,4,10,11,13,49],J [0,4,10,11,13],J' [(3,1)] [0,4,10,11,13,15],J' [(0,1),(1,1),(2,1),(3,1)] [10,11,62],J [10,11],J [10]],[],[],[10],[],[[false,false]]⟩
def g218T:FunT:=⟨218,[sB,.a (.agg [.bool,(.imm (.int .u32))]),sI,sB,sI],.a (.agg [.bool,(.imm (.int .u32))]),[sD,sD,sD,sD,sD],fun x=>g218 m x.1 x.2.1.1 x.2.1.2.1 x.2.2.1 x.2.2.2.1 x.2.2.2.2.1⟩
theorem g218ok:FO (g218T m):=fk g218H (g218T m) func218 (AllF.mem (l:=[g128T m,g260T m,g127T m,g69T m,g261T m,g72T m,g70T m]) ⟨g128ok m,g260ok m,g127ok m,g69ok m,g261ok m,g72ok m,g70ok m,trivial⟩)
def g219H:Hints:=⟨[J [1],J [1],J [1,11],J [2,3],J [1,4],J [1,4,5],J [1,4,5,16],J' [(0,1)] [1,4,5],J' [(0,1)] [1,4,5],J [4,31],J [4,33],J [2,3],J' [(0,1)] [2,3],J [4,40],J [2,3],J' [(0,1)] [2,3]],[(0,[1,4,5])],[(0,[1,4]),(1,[1,4,5])],[2,3],[],[[false],[false]]⟩
def g219T:FunT:=⟨219,[.a (.agg [.bool,(.imm (.int .u32))])],.tup [(.c (.int .i64)),(.c .bool)],[sD],fun x=>g219 m x.1.1 x.1.2.1⟩
noncomputable def g219C:Code:=codeOf f219
noncomputable def g219B0:Code:=qo g219C 0 0
theorem g219K:FL [g126T m]:=AllF.mem ⟨g126ok m,trivial⟩
def g219L0X:LT:=⟨0,[(1,sX 0 [.bool,.imm (.int .u32)]),(4,sU),(5,sI)],[(.exit 0,[(1,sX 0 [.bool,.imm (.int .u32)]),(4,sU)])],fun n x=>g219L0 m n x.1.1 x.1.2.1 x.2.1 x.2.2.1⟩
theorem g219L0ok {E} (hE:EO E 43 g219H) (n):LO E g219B0 ((g219L0X m).at n):=lk hE (g219K m) (g219L0X m) n
theorem g219ok:FO (g219T m):=f1' g219H (g219T m) func219 (g219K m) fun _ h=>g219L0ok m h m
def g142H:Hints:=⟨[J [0,2,3,4,6],J [0,2,3,4,6,11],J [0,2,3,4,6,11,22],J' [(0,1),(1,1)] [10],J' [(0,1)] [0,2,3,4,6,12],J [0,2,3,4,6,12,13],J [0,2,3,4,6,12,13,31],J' [(3,1),(5,1)] [0,4,12,13],J' [(1,1)] [0,4,12,13],J' [(2,1)] [0,4,12,14],J [0,4,12,14,51],J [0,4,12,14],J' [(0,1)] [0,4,12,14],J' [(2,1)] [0,4,12,14,54],J' [(0,1),(1,1)] [10],J [0,12,14,65],J' [(0,1),(1,1),(5,1)] [10],J' [(0,1),(1,1)] [10]],[],[(0,[0,14])],[10],[],[[false]]⟩
def g142T:FunT:=⟨142,[sB,.a (.agg [.bool,(.imm (.int .u32))]),sI,sB,sI],sU,[sD,sD,sD,sD,sD],fun x=>g142 m x.1 x.2.1.1 x.2.1.2.1 x.2.2.1 x.2.2.2.1 x.2.2.2.2.1⟩
theorem g142ok:FO (g142T m):=fk g142H (g142T m) func142 (AllF.mem (l:=[g129T m,g217T m,g218T m,g219T m,g78T m,g71T m]) ⟨g129ok m,g217ok m,g218ok m,g219ok m,g78ok m,g71ok m,trivial⟩)
def g74H:Hints:=⟨[J [1,2],J [1,2],J [1,2,8],J [4],J [1,2,12],J [4],J' [(8,1)] [4]],[],[],[4],[],[[false]]⟩
def g74T:FunT:=⟨74,[.a (.agg [.bool,.bool,(.imm (.int .u32)),(.int .i64)]),sI],sU,[sD,sD],fun x=>g74 m x.1.1 x.1.2.1 x.1.2.2.1 x.1.2.2.2.1 x.2.1⟩
theorem g74ok:FO (g74T m):=fk g74H (g74T m) func74 (AllF.mem (l:=[g61T m,g69T m,g66T m,g142T m]) ⟨g61ok m,g69ok m,g66ok m,g142ok m,trivial⟩)
def g26H:Hints:=⟨[J [0,1],J' [(0,1),(2,1)] [4]],[],[],[4],[],[[false]]⟩
def g26T:FunT:=⟨26,[sI,sI],sU,[sD,sD],fun x=>g26 m x.1 x.2.1⟩
theorem g26ok:FO (g26T m):=fk g26H (g26T m) func26 (AllF.mem (l:=[g22T m,g74T m]) ⟨g22ok m,g74ok m,trivial⟩)
def g125H:Hints:=⟨[J [0],J' [(0,1)] [2]],[],[],[2],[],[[false]]⟩
def g125T:FunT:=⟨125,[sU],sU,[sD],fun x=>g125 m x.1⟩
theorem g125ok:FO (g125T m):=fk g125H (g125T m) func125 (AllF.mem (l:=[g26T m]) ⟨g26ok m,trivial⟩)
def g60H:Hints:=⟨[J [0,1],J' [(0,1)] [0,7],J [0,7,8],J [4],J [0,7,18],J [4],J [0,28],J' [(0,1)] [5],J [5,33],J [4],J' [(0,1)] [4],J' [(0,1)] [4]],[],[(0,[0])],[4],[],[[false]]⟩
def g60T:FunT:=⟨60,[sU,sI],sU,[sD,sD],fun x=>g60 m x.1 x.2.1⟩
theorem g60ok:FO (g60T m):=fk g60H (g60T m) func60 (AllF.mem (l:=[g11T m,g53T m,g125T m]) ⟨g11ok m,g53ok m,g125ok m,trivial⟩)
def g16H:Hints:=⟨[J [0,1,2,3],J [0,1,2,3,9],J [0,1,2,3,9,10],J [0,1,2,3,9,10,14],J' [(0,1)] [0,1,2,3,9,10],J' [(0,1)] [0,1,2,3,9,10],J' [(0,1)] [8]],[(0,[0,1,2,3,9,10])],[(0,[9]),(1,[0,1,2,3,9,10])],[8],[],[[true]]⟩
def g16T:FunT:=⟨16,[.a (.c (.imm (.int .u64))),sI,sI,sI],.a (.c (.nm 0 (.int .u64))),[sD,sD,sD,sD],fun x=>g16 m x.1 x.2.1 x.2.2.1 x.2.2.2.1⟩
noncomputable def g16C:Code:=codeOf f16
noncomputable def g16B0:Code:=qo g16C 0 0
theorem g16K:FL [g27T m,g60T m]:=AllF.mem ⟨g27ok m,g60ok m,trivial⟩
def g16L0X:LT:=⟨0,[(0,.a (.c (.imm (.int .u64)))),(1,sI),(2,sI),(3,sI),(9,.a (.c (.nm 0 (.int .u64)))),(10,sI)],[(.exit 0,[(9,.a (.c (.nm 0 (.int .u64))))])],fun n x=>g16L0 m n x.1 x.2.1 x.2.2.1 x.2.2.2.1 x.2.2.2.2.1 x.2.2.2.2.2.1⟩
theorem g16L0ok {E} (hE:EO E 28 g16H) (n):LO E g16B0 ((g16L0X m).at n):=lk hE (g16K m) (g16L0X m) n
theorem g16ok:FO (g16T m):=f1' g16H (g16T m) func16 (g16K m) fun _ h=>g16L0ok m h m
def g110H:Hints:=⟨[J [0],J [2,3]],[],[],[2,3],[],[[false],[false]]⟩
def g110T:FunT:=⟨110,[sU],.tup [(.c (.int .i64)),(.c (.int .u64))],[sD],fun x=>g110 m x.1⟩
theorem g110ok:FO (g110T m):=fk g110H (g110T m) func110 noF
def g47H:Hints:=⟨[J [0],J' [(0,1),(2,1)] [3],J' [(0,1)] [2]],[],[],[2],[],[[false]]⟩
def g47T:FunT:=⟨47,[sU],sB,[sD],fun x=>g47 m x.1⟩
theorem g47ok:FO (g47T m):=fk g47H (g47T m) func47 (AllF.mem (l:=[g110T m]) ⟨g110ok m,trivial⟩)
def g196H:Hints:=⟨[J [0],J' [(0,1)] [2]],[],[],[2],[],[[false]]⟩
def g196T:FunT:=⟨196,[sU],sB,[sD],fun x=>g196 m x.1⟩
theorem g196ok:FO (g196T m):=fk g196H (g196T m) func196 (AllF.mem (l:=[g47T m]) ⟨g47ok m,trivial⟩)
def g250H:Hints:=⟨[J [0,1],J [0,1,7,8],J [0,1,7,8,9],J [0,1,5,7,8],J [0,1,5,7,8,16],J' [(0,1)] [4],J' [(1,1)] [0,1,7,8],J [4]],[(0,[0,1,7,8])],[(0,[]),(1,[0,1,7,8])],[4],[],[[false]]⟩
def g250T:FunT:=⟨250,[.a (.c (.imm (.int .u64))),.a (.c (.fn 196))],sI,[sD,sD],fun x=>g250 m x.1⟩
noncomputable def g250C:Code:=codeOf f250
noncomputable def g250B0:Code:=qo g250C 0 0
theorem g250K:FL [g196T m]:=AllF.mem ⟨g196ok m,trivial⟩
def g250L0X:LT:=⟨0,[(0,.a (.c (.imm (.int .u64)))),(1,.a (.c (.fn 196))),(7,sI),(8,sI)],[(.ret,[(4,sI)]),(.exit 0,[])],fun n x=>g250L0 m n x.1 x.2.2.1 x.2.2.2.1⟩
theorem g250L0ok {E} (hE:EO E 19 g250H) (n):LO E g250B0 ((g250L0X m).at n):=lk hE (g250K m) (g250L0X m) n
theorem g250ok:FO (g250T m):=f1' g250H (g250T m) func250 (g250K m) fun _ h=>g250L0ok m h m
def g195H:Hints:=⟨[J [0,1],J' [(0,1),(1,1)] [4]],[],[],[4],[],[[false]]⟩
def g195T:FunT:=⟨195,[.a (.c (.imm (.int .u64))),.a (.c (.fn 196))],sB,[sD,sD],fun x=>g195 m x.1⟩
theorem g195ok:FO (g195T m):=fk g195H (g195T m) func195 (AllF.mem (l:=[g250T m]) ⟨g250ok m,trivial⟩)
def g105H:Hints:=⟨[J [0],J' [(0,1)] [2]],[],[],[2],[],[[false]]⟩
def g105T:FunT:=⟨105,[.a (.c (.imm (.int .u64)))],sB,[sD],fun x=>g105 m x.1⟩
theorem g105ok:FO (g105T m):=fk g105H (g105T m) func105 (AllF.mem (l:=[g195T m]) ⟨g195ok m,trivial⟩)
def g80H:Hints:=⟨[J [0],J [0,11],J [2],J [0,12,13,14],J [0,12,13,14,15],J [0,4,12,13,14],J' [(0,1)] [0,12,13,14,24],J [2],J' [(1,1)] [0,12,13,14],J [0,26,27,28],J [0,26,27,28,29],J [0,6,26,27,28],J' [(0,1)] [0,26,27,28,34],J [2],J' [(1,1)] [0,26,27,28],J' [(0,1)] [36,37,38],J [36,37,38,39],J [8,36,37,38],J' [(0,1)] [36,37,38,44],J [2],J' [(1,1)] [36,37,38],J [2]],[(0,[0,12,13,14]),(2,[0,26,27,28]),(4,[36,37,38])],[(0,[0]),(1,[0,12,13,14]),(2,[0]),(3,[0,26,27,28]),(4,[]),(5,[36,37,38])],[2],[],[[false]]⟩
def g80T:FunT:=⟨80,[.a (.c (.imm (.sl false (.int .u64))))],sI,[sD],fun x=>g80 m x.1⟩
noncomputable def g80C:Code:=codeOf f80
noncomputable def g80B0:Code:=qo g80C 0 0
noncomputable def g80B2:Code:=qo g80C 0 1
noncomputable def g80B4:Code:=qo g80C 0 2
theorem g80K:FL [g105T m]:=AllF.mem ⟨g105ok m,trivial⟩
def g80L2X:LT:=⟨4,[(36,.a (.c (.imm (.sl false (.int .u64))))),(37,sI),(38,sI)],[(.ret,[(2,sI)]),(.exit 4,[])],fun n x=>g80L2 m n x.1 x.2.1 x.2.2.1⟩
theorem g80L2ok {E} (hE:EO E 46 g80H) (n):LO E g80B4 ((g80L2X m).at n):=lk hE (g80K m) (g80L2X m) n
def g80L1X:LT:=⟨2,[(0,.a (.c (.imm (.sl false (.int .u64))))),(26,.a (.c (.imm (.sl false (.int .u64))))),(27,sI),(28,sI)],[(.ret,[(2,sI)]),(.exit 2,[(0,.a (.c (.imm (.sl false (.int .u64)))))])],fun n x=>g80L1 m n x.1 x.2.1 x.2.2.1 x.2.2.2.1⟩
theorem g80L1ok {E} (hE:EO E 46 g80H) (n):LO E g80B2 ((g80L1X m).at n):=lk hE (g80K m) (g80L1X m) n
def g80L0X:LT:=⟨0,[(0,.a (.c (.imm (.sl false (.int .u64))))),(12,.a (.c (.imm (.sl false (.int .u64))))),(13,sI),(14,sI)],[(.ret,[(2,sI)]),(.exit 0,[(0,.a (.c (.imm (.sl false (.int .u64)))))])],fun n x=>g80L0 m n x.1 x.2.1 x.2.2.1 x.2.2.2.1⟩
theorem g80L0ok {E} (hE:EO E 46 g80H) (n):LO E g80B0 ((g80L0X m).at n):=lk hE (g80K m) (g80L0X m) n
theorem g80ok:FO (g80T m):=
 fok hmix htt (H:=g80H) (g80T m) func80 kR (g80K m) (L:=[(g80L0X m).at m,(g80L1X m).at m,(g80L2X m).at m]) (l:=[(0,g80B0),(2,g80B2),(4,g80B4)]) kR (fun _ hE _ _=>⟨ql ⟨yb (g80L0ok m hE m),nb rfl,nb rfl,trivial⟩,ql ⟨nb rfl,yb (g80L1ok m hE m),nb rfl,trivial⟩,ql ⟨nb rfl,nb rfl,yb (g80L2ok m hE m),trivial⟩,trivial⟩) (fun x=>kR)
def g228H:Hints:=⟨[J [0],J [0,3],J' [(2,1)] [0,3,15],J' [(0,1)] [0,3],J' [(0,1),(1,1)] [2]],[(0,[0,3])],[(0,[0,3]),(1,[0,3])],[2],[],[[false]]⟩
def g228T:FunT:=⟨228,[.a (.c (.imm (.int .u32)))],.a (.c (.imm (.int .u32))),[sD],fun x=>g228 m x.1⟩
noncomputable def g228C:Code:=codeOf f228
noncomputable def g228B0:Code:=qo g228C 0 0
def g228L0X:LT:=⟨0,[(0,.a (.c (.imm (.int .u32)))),(3,sI)],[(.exit 0,[(0,.a (.c (.imm (.int .u32)))),(3,sI)])],fun n x=>g228L0 m n x.1 x.2.1⟩
theorem g228L0ok {E} (hE:EO E 21 g228H) (n):LO E g228B0 ((g228L0X m).at n):=lk hE noF (g228L0X m) n
theorem g228ok:FO (g228T m):=f1' g228H (g228T m) func228 noF fun _ h=>g228L0ok m h m
def g221H:Hints:=⟨[J [0,1,4],J' [(0,1)] [0,1,4],J [0,1,4,9],J [4],J' [(0,1),(1,1)] [4]],[],[],[4],[],[[false,false]]⟩
def g221T:FunT:=⟨221,[sB,.a (.c (.imm (.int .u32)))],.a (.agg [.bool,(.imm (.int .u32))]),[sD,sD],fun x=>g221 m x.1 x.2.1⟩
theorem g221ok:FO (g221T m):=fk g221H (g221T m) func221 (AllF.mem (l:=[g228T m]) ⟨g228ok m,trivial⟩)
def g146H:Hints:=⟨[J [0,2],J [0,2,3],J [0,2,3,7],J' [(0,1)] [0,2,3],J' [(0,1)] [2]],[],[],[2],[],[[false,false]]⟩
def g146T:FunT:=⟨146,[sI],.a (.agg [.bool,(.imm (.int .u32))]),[sD],fun x=>g146 m x.1⟩
theorem g146ok:FO (g146T m):=fk g146H (g146T m) func146 (AllF.mem (l:=[g221T m]) ⟨g221ok m,trivial⟩)
def g222H:Hints:=⟨[J [0],J [0]],[],[],[0],[],[[false,false,true,false]]⟩
def g222T:FunT:=⟨222,[],.a (.agg [.bool,.bool,(.nm 0 (.int .u32)),(.int .i64)]),[],fun x=>g222 m⟩
theorem g222ok:FO (g222T m):=fk g222H (g222T m) func222 noF
def g233H:Hints:={regs:=[J [0],J [0],J [2],J [2]],heads:=[],exits:=[],rets:=[2],pins:=[],spec:=[[true]]}
abbrev g233A:List Sh:=[.a (.c (.imm (.int .u32)))]
abbrev g233S:Sh:= .a (.c (.nm 0 (.int .u32)))
abbrev g233U:List Sh:=[sD]
def g233R:Qr g233A->Option (g233S.Val×Qr g233U):=fun x=>g233 m x.1
def g233T:FunT:=⟨233,g233A,g233S,g233U,g233R m⟩
noncomputable def g233C:Code:=codeOf f233
theorem g233ok:FO (g233T m):=
 qez hmix htt (H:=g233H) (fn:=f233) (f:=233) (t:=(.int .u32)) (ty:=44) (e:=108) (ty2:=44) (k:=1) (cells:=[.nil (.int .u32)]) (A:=pA g233C) (X:=pX (pB (pA (pB g233C)))) (Y:=pB (pB g233C)) (o0:=pO 0 (pA (pA (pB g233C)))) (o1:=pO 1 (pA (pA (pB g233C)))) func233 kR kR kR kR kR kR kR kR kR (of_decide_eq_true kR) rfl kR kR kR (fun xs=>[(0,.sl .imm (.int .u32) xs)]) (fun xs=>[(2,.sl (.nm 0) (.int .u32) xs)]) (fun xs=>kR) (fun _=>rfl) (fun _=>rfl) (fun _=>rfl) kR (fun xs=>kR) (fun xs=>kR)
def g229H:Hints:=⟨[J [1,2],J [2]],[],[],[2],[],[[false,false]]⟩
def g229T:FunT:=⟨229,[.a (.agg [.bool,(.imm (.int .u32))])],.a (.agg [.bool,(.imm (.int .u32))]),[sD],fun x=>g229 m x.1.1 x.1.2.1⟩
theorem g229ok:FO (g229T m):=fk g229H (g229T m) func229 (AllF.mem (l:=[g233T m,g221T m]) ⟨g233ok m,g221ok m,trivial⟩)
def g226H:Hints:=⟨[J [1],J [1,3],J [2],J [9],J [2],J [2]],[],[(0,[])],[2],[],[[false]]⟩
def g226T:FunT:=⟨226,[.a (.agg [.bool,(.imm (.int .u32))])],sI,[sD],fun x=>g226 m x.1.1 x.1.2.1⟩
theorem g226ok:FO (g226T m):=fk g226H (g226T m) func226 (AllF.mem (l:=[g228T m]) ⟨g228ok m,trivial⟩)
def g230H:Hints:=⟨[J [1],J [6,7,8],J [6,7,8,9],J [3,4,6,7,8],J [3,4,6,7,8,14],J' [(0,1),(2,1)] [2],J' [(1,1)] [6,7,8],J [2]],[(0,[6,7,8])],[(0,[]),(1,[6,7,8])],[2],[],[[false]]⟩
def g230T:FunT:=⟨230,[.a (.agg [.bool,(.imm (.int .u32))])],sI,[sD],fun x=>g230 m x.1.1 x.1.2.1⟩
noncomputable def g230C:Code:=codeOf f230
noncomputable def g230B0:Code:=qo g230C 0 0
theorem g230K:FL [g215T m]:=AllF.mem ⟨g215ok m,trivial⟩
def g230L0X:LT:=⟨0,[(6,.a (.c (.imm (.int .u32)))),(7,sI),(8,sI)],[(.ret,[(2,sI)]),(.exit 0,[])],fun n x=>g230L0 m n x.1 x.2.1 x.2.2.1⟩
theorem g230L0ok {E} (hE:EO E 21 g230H) (n):LO E g230B0 ((g230L0X m).at n):=lk hE (g230K m) (g230L0X m) n
theorem g230ok:FO (g230T m):=f1' g230H (g230T m) func230 (g230K m) fun _ h=>g230L0ok m h m
def g269H:Hints:=⟨[J [0],J [0,5],J [2],J [2]],[],[],[2],[],[[false]]⟩
def g269T:FunT:=⟨269,[.a (.c (.imm (.int .u32)))],sI,[sD],fun x=>g269 m x.1⟩
theorem g269ok:FO (g269T m):=fk g269H (g269T m) func269 (AllF.mem (l:=[g216T m]) ⟨g216ok m,trivial⟩)
def g231H:Hints:=⟨[J [1],J [2]],[],[],[2],[],[[false]]⟩
def g231T:FunT:=⟨231,[.a (.agg [.bool,(.imm (.int .u32))])],sI,[sD],fun x=>g231 m x.1.1 x.1.2.1⟩
theorem g231ok:FO (g231T m):=fk g231H (g231T m) func231 (AllF.mem (l:=[g228T m,g269T m]) ⟨g228ok m,g269ok m,trivial⟩)
def g282H:Hints:=⟨[J [0,1],J [0,1,13],J [4],J [0,5,6],J [0,5,6,7],J' [(0,1)] [5,6,7,25,26,27],J [5,6,7,25,26,27,28],J [5,6,7,8,9,25,26,27],J' [(0,1)] [5,6,7,8,10,25,26,27],J [5,6,7,8,10,25,26,27],J' [(2,1),(5,1)] [5,6,7,25,26,27],J' [(1,1)] [5,6,7,25,26,27],J' [(0,1)] [4]],[(0,[5,6,7,25,26,27])],[(0,[7]),(1,[5,6,7,25,26,27])],[4],[],[[false]]⟩
def g282T:FunT:=⟨282,[.a (.c (.imm (.int .u32))),sI],.a (.c (.imm (.int .u32))),[sD,sD],fun x=>g282 m x.1 x.2.1⟩
noncomputable def g282C:Code:=codeOf f282
noncomputable def g282B0:Code:=qo g282C 0 0
theorem g282K:FL [g228T m]:=AllF.mem ⟨g228ok m,trivial⟩
def g282L0X:LT:=⟨0,[(5,sI),(6,sU),(7,.a (.c (.nm 0 (.int .u32)))),(25,.a (.c (.imm (.int .u32)))),(26,sI),(27,sI)],[(.exit 0,[(7,.a (.c (.nm 0 (.int .u32))))])],fun n x=>g282L0 m n x.1 x.2.1 x.2.2.1 x.2.2.2.1 x.2.2.2.2.1 x.2.2.2.2.2.1⟩
theorem g282L0ok {E} (hE:EO E 59 g282H) (n):LO E g282B0 ((g282L0X m).at n):=lk hE (g282K m) (g282L0X m) n
theorem g282ok:FO (g282T m):=f1' g282H (g282T m) func282 (g282K m) fun _ h=>g282L0ok m h m
def g297H:Hints:=⟨[J [0],J' [(0,1)] [2]],[],[],[2],[],[[false]]⟩
def g297T:FunT:=⟨297,[.a (.c (.int .u32))],sB,[sD],fun x=>g297 m x.1⟩
theorem g297ok:FO (g297T m):=fk g297H (g297T m) func297 noF
def g302H:Hints:=⟨[J [0,1],J [0,1,7,8],J [0,1,7,8,9],J [0,1,5,7,8],J [0,1,5,7,8,16],J' [(0,1)] [4],J' [(1,1)] [0,1,7,8],J [4]],[(0,[0,1,7,8])],[(0,[]),(1,[0,1,7,8])],[4],[],[[false]]⟩
def g302T:FunT:=⟨302,[.a (.c (.imm (.int .u32))),.a (.c (.fn 297))],sI,[sD,sD],fun x=>g302 m x.1⟩
noncomputable def g302C:Code:=codeOf f302
noncomputable def g302B0:Code:=qo g302C 0 0
theorem g302K:FL [g297T m]:=AllF.mem ⟨g297ok m,trivial⟩
def g302L0X:LT:=⟨0,[(0,.a (.c (.imm (.int .u32)))),(1,.a (.c (.fn 297))),(7,sI),(8,sI)],[(.ret,[(4,sI)]),(.exit 0,[])],fun n x=>g302L0 m n x.1 x.2.2.1 x.2.2.2.1⟩
theorem g302L0ok {E} (hE:EO E 19 g302H) (n):LO E g302B0 ((g302L0X m).at n):=lk hE (g302K m) (g302L0X m) n
theorem g302ok:FO (g302T m):=f1' g302H (g302T m) func302 (g302K m) fun _ h=>g302L0ok m h m
def g296H:Hints:=⟨[J [0,1],J' [(0,1),(1,1)] [4]],[],[],[4],[],[[false]]⟩
def g296T:FunT:=⟨296,[.a (.c (.imm (.int .u32))),.a (.c (.fn 297))],sB,[sD,sD],fun x=>g296 m x.1⟩
theorem g296ok:FO (g296T m):=fk g296H (g296T m) func296 (AllF.mem (l:=[g302T m]) ⟨g302ok m,trivial⟩)
def g283H:Hints:=⟨[J [0,1],J [0,6,7],J [0,6,7,20],J' [(0,1)] [4,5],J' [(4,1)] [0,6,7,8],J [0,6,7,8,9],J [0,6,7,8,9,45,46],J [0,6,7,8,9,45,46,47],J [0,6,7,8,9,10,45,46],J [0,6,7,8,9,10,11,45,46],J [0,6,7,8,9,10,11,45,46,62],J' [(0,1)] [0,6,7,8,9,10,11,45,46],J' [(1,1),(2,1)] [0,6,7,8,9,45,46],J' [(1,1)] [0,6,7,8,9,45,46],J' [(0,1),(2,1)] [4,5]],[(0,[0,6,7,8,9,45,46])],[(0,[8,9]),(1,[0,6,7,8,9,45,46])],[4,5],[],[[false],[false]]⟩
def g283T:FunT:=⟨283,[.a (.c (.imm (.int .u32))),sI],.tup [(.c (.imm (.int .u32))),(.c .bool)],[sD,sD],fun x=>g283 m x.1 x.2.1⟩
noncomputable def g283C:Code:=codeOf f283
noncomputable def g283B0:Code:=qo g283C 0 0
theorem g283K:FL [g296T m,g228T m]:=AllF.mem ⟨g296ok m,g228ok m,trivial⟩
def g283L0X:LT:=⟨0,[(0,.a (.c (.imm (.int .u32)))),(6,sI),(7,sU),(8,sB),(9,.a (.c (.nm 0 (.int .u32)))),(45,sI),(46,sI)],[(.exit 0,[(8,sB),(9,.a (.c (.nm 0 (.int .u32))))])],fun n x=>g283L0 m n x.1 x.2.1 x.2.2.1 x.2.2.2.1 x.2.2.2.2.1 x.2.2.2.2.2.1 x.2.2.2.2.2.2.1⟩
theorem g283L0ok {E} (hE:EO E 86 g283H) (n):LO E g283B0 ((g283L0X m).at n):=lk hE (g283K m) (g283L0X m) n
theorem g283ok:FO (g283T m):=f1' g283H (g283T m) func283 (g283K m) fun _ h=>g283L0ok m h m
def g264H:Hints:=⟨[J [0,1],J [0,1,14],J' [(0,1),(1,1)] [0,1],J [0,1,5],J [0,1,5,6],J' [(0,1)] [1,5,6,21,22,23],J [1,5,6,21,22,23,24],J [1,5,6,7,8,21,22,23],J' [(0,1),(2,1)] [1,5,7,9,21,22,23],J [1,5,7,9,21,22,23,35],J' [(0,1),(2,1)] [1,5,9,21,22,23],J' [(0,1)] [1,5,9,21,22,23],J' [(0,1)] [1,5,6,21,22,23],J' [(1,1)] [1,5,6,21,22,23],J' [(0,1),(1,1)] [4]],[(0,[1,5,6,21,22,23])],[(0,[5,6]),(1,[1,5,6,21,22,23])],[4],[],[[false]]⟩
def g264T:FunT:=⟨264,[.a (.c (.imm (.int .u32))),.a (.c (.imm (.int .u32)))],.a (.c (.imm (.int .u32))),[sD,sD],fun x=>g264 m x.1 x.2.1⟩
noncomputable def g264C:Code:=codeOf f264
noncomputable def g264B0:Code:=qo g264C 0 0
theorem g264K:FL [g228T m]:=AllF.mem ⟨g228ok m,trivial⟩
def g264L0X:LT:=⟨0,[(1,.a (.c (.imm (.int .u32)))),(5,.a (.c (.nm 0 (.int .u32)))),(6,sU),(21,.a (.c (.imm (.int .u32)))),(22,sI),(23,sI)],[(.exit 0,[(5,.a (.c (.nm 0 (.int .u32)))),(6,sU)])],fun n x=>g264L0 m n x.1 x.2.1 x.2.2.1 x.2.2.2.1 x.2.2.2.2.1 x.2.2.2.2.2.1⟩
theorem g264L0ok {E} (hE:EO E 58 g264H) (n):LO E g264B0 ((g264L0X m).at n):=lk hE (g264K m) (g264L0X m) n
theorem g264ok:FO (g264T m):=f1' g264H (g264T m) func264 (g264K m) fun _ h=>g264L0ok m h m
def g266H:Hints:=⟨[J [1,2,4],J' [(2,1)] [1,2,4,14],J [4,5],J [1,2,4,6],J [1,2,4,6,20],J' [(2,1),(3,1)] [4,5],J' [(0,1),(1,1),(4,1)] [2,4,7,8],J' [(2,1),(3,1)] [2,4,7,38],J' [(0,1)] [2,4,7],J' [(2,1)] [4,5]],[],[],[4,5],[],[[false,false],[false]]⟩
def g266T:FunT:=⟨266,[.a (.agg [.bool,(.imm (.int .u32))]),sI],.tup [(.agg [.bool,(.imm (.int .u32))]),(.c (.int .i64))],[sD,sD],fun x=>g266 m x.1.1 x.1.2.1 x.2.1⟩
theorem g266ok:FO (g266T m):=fk g266H (g266T m) func266 (AllF.mem (l:=[g228T m,g282T m,g221T m,g283T m,g264T m]) ⟨g228ok m,g282ok m,g221ok m,g283ok m,g264ok m,trivial⟩)
def g232H:Hints:=⟨[J [1,2,4],J [1,2,4,6],J' [(2,1)] [1,2,4],J' [(0,1)] [1,2,4],J' [(1,1),(4,1)] [2,4],J [4]],[(0,[1,2,4])],[(0,[1,2,4]),(1,[1,2,4])],[4],[],[[false,false]]⟩
def g232T:FunT:=⟨232,[.a (.agg [.bool,(.imm (.int .u32))]),sI],.a (.agg [.bool,(.imm (.int .u32))]),[sD,sD],fun x=>g232 m x.1.1 x.1.2.1 x.2.1⟩
noncomputable def g232C:Code:=codeOf f232
noncomputable def g232B0:Code:=qo g232C 0 0
theorem g232K:FL [g266T m]:=AllF.mem ⟨g266ok m,trivial⟩
def g232L0X:LT:=⟨0,[(1,sI),(2,sX 0 [.bool,.imm (.int .u32)]),(4,sX 1 [.bool,.nm 2 (.int .u32)])],[(.exit 0,[(1,sI),(2,sX 0 [.bool,.imm (.int .u32)]),(4,sX 1 [.bool,.nm 2 (.int .u32)])])],fun n x=>g232L0 m n x.1 x.2.1.1 x.2.1.2.1 x.2.2.1.1 x.2.2.1.2.1⟩
theorem g232L0ok {E} (hE:EO E 22 g232H) (n):LO E g232B0 ((g232L0X m).at n):=lk hE (g232K m) (g232L0X m) n
theorem g232ok:FO (g232T m):=f1' g232H (g232T m) func232 (g232K m) fun _ h=>g232L0ok m h m
def g154H:Hints:=⟨[J [1,2],J [1,2,7],J [2,3],J [1,2,4],J [1,2,4,14],J [2,3],J [1,2,4,5],J' [(6,1)] [1,2,4,5,30],J [2,3],J [2,3]],[],[],[2,3],[],[[false,false,false,false],[false]]⟩
def g154T:FunT:=⟨154,[.a (.agg [.bool,.bool,(.imm (.int .u32)),(.int .i64)])],.tup [(.agg [.bool,.bool,(.imm (.int .u32)),(.int .i64)]),(.c .bool)],[sD],fun x=>g154 m x.1.1 x.1.2.1 x.1.2.2.1 x.1.2.2.2.1⟩
theorem g154ok:FO (g154T m):=fk g154H (g154T m) func154 (AllF.mem (l:=[g222T m,g229T m,g226T m,g230T m,g231T m,g232T m]) ⟨g222ok m,g229ok m,g226ok m,g230ok m,g231ok m,g232ok m,trivial⟩)
def g145H:Hints:=⟨[J [1,2,4],J' [(1,1),(4,1)] [4,5],J [4]],[],[],[4],[],[[false,false,false,false]]⟩
def g145T:FunT:=⟨145,[.a (.agg [.bool,(.imm (.int .u32))]),sI],.a (.agg [.bool,.bool,(.imm (.int .u32)),(.int .i64)]),[sD,sD],fun x=>g145 m x.1.1 x.1.2.1 x.2.1⟩
theorem g145ok:FO (g145T m):=fk g145H (g145T m) func145 (AllF.mem (l:=[g154T m]) ⟨g154ok m,trivial⟩)
def g81H:Hints:=⟨[J [0,2],J' [(0,1)] [2]],[],[],[2],[],[[false,false,false,false]]⟩
def g81T:FunT:=⟨81,[sI],.a (.agg [.bool,.bool,(.imm (.int .u32)),(.int .i64)]),[sD],fun x=>g81 m x.1⟩
theorem g81ok:FO (g81T m):=fk g81H (g81T m) func81 (AllF.mem (l:=[g146T m,g145T m]) ⟨g146ok m,g145ok m,trivial⟩)
def g211H:Hints:=⟨[J [0],J' [(0,1)] [2]],[],[],[2],[],[[false]]⟩
def g211T:FunT:=⟨211,[sU],sB,[sD],fun x=>g211 m x.1⟩
theorem g211ok:FO (g211T m):=fk g211H (g211T m) func211 noF
def g212H:Hints:=⟨[J [1,2],J [2]],[],[],[2],[],[[false,false]]⟩
def g212T:FunT:=⟨212,[.a (.agg [.bool,(.imm (.int .u32))])],.a (.agg [.bool,(.imm (.int .u32))]),[sD],fun x=>g212 m x.1.1 x.1.2.1⟩
theorem g212ok:FO (g212T m):=fk g212H (g212T m) func212 (AllF.mem (l:=[g233T m,g221T m]) ⟨g233ok m,g221ok m,trivial⟩)
def g112H:Hints:=⟨[J [0,2],J' [(2,1)] [0,2,3,4],J [0,2,3,4,11],J' [(0,1)] [0,2,3,4],J' [(0,1)] [0,2,3,4],J [0,2,3,4,11,16],J [2],J [0,2,3,4,19],J [0,2,3,4],J' [(0,1)] [0,2,3,5],J' [(0,1)] [2,3,5,25],J [2,3,5],J' [(1,1)] [2]],[],[(0,[0,2,3,4])],[2],[],[[false,false,false,false]]⟩
def g112T:FunT:=⟨112,[sU],.a (.agg [.bool,.bool,(.imm (.int .u32)),(.int .i64)]),[sD],fun x=>g112 m x.1⟩
theorem g112ok:FO (g112T m):=fk g112H (g112T m) func112 (AllF.mem (l:=[g110T m,g146T m,g211T m,g212T m,g145T m]) ⟨g110ok m,g146ok m,g211ok m,g212ok m,g145ok m,trivial⟩)
def g151H:Hints:=⟨[J [2,3,4,5],J' [(2,1)] [3,4,5,6],J' [(2,1)] [4,5,6,7],J' [(2,1),(3,1),(4,1)] [4,5,6]],[],[],[4,5,6],[],[[false,false,false,false],[false,false,false,false],[false]]⟩
def g151T:FunT:=⟨151,[.a (.agg [.bool,.bool,(.imm (.int .u32)),(.int .i64)]),.a (.agg [.bool,.bool,(.imm (.int .u32)),(.int .i64)])],.tup [(.agg [.bool,.bool,(.imm (.int .u32)),(.int .i64)]),(.agg [.bool,.bool,(.imm (.int .u32)),(.int .i64)]),(.c .bool)],[sD,sD],fun x=>g151 m x.1.1 x.1.2.1 x.1.2.2.1 x.1.2.2.2.1 x.2.1.1 x.2.1.2.1 x.2.1.2.2.1 x.2.1.2.2.2.1⟩
theorem g151ok:FO (g151T m):=fk g151H (g151T m) func151 (AllF.mem (l:=[g154T m]) ⟨g154ok m,trivial⟩)
def g263H:Hints:=⟨[J [0,1],J' [(3,1)] [0,1,19],J [4],J [0,1,5],J' [(0,1)] [1,5,26,27,28],J [1,5,26,27,28,29],J [1,5,6,7,26,27,28],J [1,5,6,7,8,26,27,28],J [1,5,6,7,8,26,27,28,33,34,35],J [1,5,6,7,8,26,27,28,33,34,35,36],J [1,5,6,7,8,9,10,26,27,28,33,34,35],J' [(2,1),(13,1)] [1,5,6,7,9,11,26,27,28,33,34,35],J' [(2,1)] [1,5,6,7,11,26,27,28,33,34,35],J' [(0,1)] [1,5,6,7,8,26,27,28,33,34,35],J' [(1,1)] [1,5,6,7,8,26,27,28,33,34,35],J' [(1,1),(5,1)] [1,5,26,27,28],J' [(1,1)] [1,5,26,27,28],J' [(0,1)] [4]],[(0,[1,5,26,27,28]),(2,[1,5,6,7,8,26,27,28,33,34,35])],[(0,[5]),(1,[1,5,26,27,28]),(2,[1,5,6,8,26,27,28]),(3,[1,5,6,7,8,26,27,28,33,34,35])],[4],[],[[false]]⟩
def g263T:FunT:=⟨263,[.a (.c (.imm (.int .u32))),.a (.c (.imm (.int .u32)))],.a (.c (.imm (.int .u32))),[sD,sD],fun x=>g263 m x.1 x.2.1⟩
noncomputable def g263C:Code:=codeOf f263
noncomputable def g263B0:Code:=qo g263C 0 0
noncomputable def g263B2:Code:=qo g263B0 0 0
theorem g263K:FL [g228T m]:=AllF.mem ⟨g228ok m,trivial⟩
def g263L1X:LT:=⟨2,[(1,.a (.c (.imm (.int .u32)))),(5,.a (.c (.nm 0 (.int .u32)))),(6,sI),(7,.a (.c (.int .u32))),(8,sU),(26,.a (.c (.imm (.int .u32)))),(27,sI),(28,sI),(33,.a (.c (.imm (.int .u32)))),(34,sI),(35,sI)],[(.exit 2,[(1,.a (.c (.imm (.int .u32)))),(5,.a (.c (.nm 0 (.int .u32)))),(6,sI),(8,sU),(26,.a (.c (.imm (.int .u32)))),(27,sI),(28,sI)])],fun n x=>g263L1 m n x.1 x.2.1 x.2.2.1 x.2.2.2.1 x.2.2.2.2.1 x.2.2.2.2.2.1 x.2.2.2.2.2.2.1 x.2.2.2.2.2.2.2.1 x.2.2.2.2.2.2.2.2.1 x.2.2.2.2.2.2.2.2.2.1 x.2.2.2.2.2.2.2.2.2.2.1⟩
theorem g263L1ok {E} (hE:EO E 77 g263H) (n):LO E g263B2 ((g263L1X m).at n):=lk hE (g263K m) (g263L1X m) n
def g263L0X:LT:=⟨0,[(1,.a (.c (.imm (.int .u32)))),(5,.a (.c (.nm 0 (.int .u32)))),(26,.a (.c (.imm (.int .u32)))),(27,sI),(28,sI)],[(.exit 0,[(5,.a (.c (.nm 0 (.int .u32))))])],fun n x=>g263L0 m n x.1 x.2.1 x.2.2.1 x.2.2.2.1 x.2.2.2.2.1⟩
theorem g263L0ok {E} (hE:EO E 77 g263H) (n):LO E g263B0 ((g263L0X m).at n):=
 lok hmix htt hE (g263K m) (L:=[(g263L1X m).at m]) (g263L0X m) (l:=[(2,g263B2)]) kR (fun _ _=>⟨ql ⟨yb (g263L1ok m hE m),trivial⟩,trivial⟩) (fun n x=>kR) (fun _=>kR) n
theorem g263ok:FO (g263T m):=f1' g263H (g263T m) func263 (g263K m) fun _ h=>g263L0ok m h m
def g223H:Hints:=⟨[J [2,3,4],J [4]],[],[],[4],[],[[false,false]]⟩
def g223T:FunT:=⟨223,[.a (.agg [.bool,(.imm (.int .u32))]),.a (.agg [.bool,(.imm (.int .u32))])],.a (.agg [.bool,(.imm (.int .u32))]),[sD,sD],fun x=>g223 m x.1.1 x.1.2.1 x.2.1.1 x.2.1.2.1⟩
theorem g223ok:FO (g223T m):=fk g223H (g223T m) func223 (AllF.mem (l:=[g228T m,g263T m,g221T m]) ⟨g228ok m,g263ok m,g221ok m,trivial⟩)
def g147H:Hints:=⟨[J [2,3,4],J' [(3,1)] [2,3,4,5],J' [(0,1)] [2,3,4,14],J [4],J [4]],[],[],[4],[],[[false,false,false,false]]⟩
def g147T:FunT:=⟨147,[.a (.agg [.bool,.bool,(.imm (.int .u32)),(.int .i64)]),.a (.agg [.bool,.bool,(.imm (.int .u32)),(.int .i64)])],.a (.agg [.bool,.bool,(.imm (.int .u32)),(.int .i64)]),[sD,sD],fun x=>g147 m x.1.1 x.1.2.1 x.1.2.2.1 x.1.2.2.2.1 x.2.1.1 x.2.1.2.1 x.2.1.2.2.1 x.2.1.2.2.2.1⟩
theorem g147ok:FO (g147T m):=fk g147H (g147T m) func147 (AllF.mem (l:=[g151T m,g222T m,g223T m,g145T m]) ⟨g151ok m,g222ok m,g223ok m,g145ok m,trivial⟩)
def g225H:Hints:=⟨[J [1,2,4],J' [(1,1),(3,1)] [2,4],J [4]],[],[],[4],[],[[false,false]]⟩
def g225T:FunT:=⟨225,[.a (.agg [.bool,(.imm (.int .u32))]),sI],.a (.agg [.bool,(.imm (.int .u32))]),[sD,sD],fun x=>g225 m x.1.1 x.1.2.1 x.2.1⟩
theorem g225ok:FO (g225T m):=fk g225H (g225T m) func225 (AllF.mem (l:=[g266T m]) ⟨g266ok m,trivial⟩)
def g284H:Hints:=⟨[J [0],J [2]],[],[],[2],[],[[false]]⟩
def g284T:FunT:=⟨284,[sI],sB,[sD],fun x=>g284 m x.1⟩
theorem g284ok:FO (g284T m):=fk g284H (g284T m) func284 noF
def g267H:Hints:=⟨[J [0,1],J [0,1,5],J [0,1,5,6],J' [(0,1)] [0,1,6,11],J' [(0,1)] [12],J [4],J [4],J' [(0,1)] [0,1,13],J [4],J [0,1,16],J [4],J' [(0,1),(1,1)] [19],J [4],J [4]],[],[],[4],[],[[false]]⟩
def g267T:FunT:=⟨267,[sI,sI],sI,[sD,sD],fun x=>g267 m x.1 x.2.1⟩
theorem g267ok:FO (g267T m):=fk g267H (g267T m) func267 (AllF.mem (l:=[g284T m]) ⟨g284ok m,trivial⟩)
def g285H:Hints:=⟨[J [0],J [2]],[],[],[2],[],[[false]]⟩
def g285T:FunT:=⟨285,[.a (.c (.int .u32))],sB,[sD],fun x=>g285 m x.1⟩
theorem g285ok:FO (g285T m):=fk g285H (g285T m) func285 noF
def g268H:Hints:=⟨[J [0,1],J [0,1,5],J [0,1,5,6],J' [(0,1)] [0,1,6,11],J' [(0,1)] [12],J [4],J [4],J' [(0,1)] [0,1,13],J [4],J [0,1,16],J [4],J' [(0,1),(1,1)] [19],J [4],J [4]],[],[],[4],[],[[false]]⟩
def g268T:FunT:=⟨268,[.a (.c (.int .u32)),.a (.c (.int .u32))],sI,[sD,sD],fun x=>g268 m x.1 x.2.1⟩
theorem g268ok:FO (g268T m):=fk g268H (g268T m) func268 (AllF.mem (l:=[g285T m]) ⟨g285ok m,trivial⟩)
def g227H:Hints:=⟨[J [0,1],J [0,1,10],J' [(0,1),(2,1)] [4],J [0,1,5],J [0,1,5,20],J' [(0,1)] [0,1,5],J [0,1,5,31],J' [(0,1),(4,1)] [4],J [4]],[(0,[0,1,5])],[(0,[]),(1,[0,1,5])],[4],[],[[false]]⟩
def g227T:FunT:=⟨227,[.a (.c (.imm (.int .u32))),.a (.c (.imm (.int .u32)))],sI,[sD,sD],fun x=>g227 m x.1 x.2.1⟩
noncomputable def g227C:Code:=codeOf f227
noncomputable def g227B0:Code:=qo g227C 0 0
theorem g227K:FL [g267T m,g268T m]:=AllF.mem ⟨g267ok m,g268ok m,trivial⟩
def g227L0X:LT:=⟨0,[(0,.a (.c (.imm (.int .u32)))),(1,.a (.c (.imm (.int .u32)))),(5,sI)],[(.ret,[(4,sI)]),(.exit 0,[])],fun n x=>g227L0 m n x.1 x.2.1 x.2.2.1⟩
theorem g227L0ok {E} (hE:EO E 41 g227H) (n):LO E g227B0 ((g227L0X m).at n):=lk hE (g227K m) (g227L0X m) n
theorem g227ok:FO (g227T m):=f1' g227H (g227T m) func227 (g227K m) fun _ h=>g227L0ok m h m
def g265H:Hints:=⟨[J [0,1],J [0,1,5],J [0,1,5,6],J' [(0,1)] [1,5,6,13,14,15],J [1,5,6,13,14,15,16],J [1,5,6,7,8,13,14,15],J' [(0,1),(2,1)] [1,5,7,9,13,14,15],J [1,5,7,9,13,14,15,27],J' [(0,1)] [1,5,7,9,13,14,15],J' [(1,1)] [1,5,9,13,14,15],J' [(0,1)] [1,5,6,13,14,15],J' [(1,1)] [1,5,6,13,14,15],J' [(0,1)] [4]],[(0,[1,5,6,13,14,15])],[(0,[5]),(1,[1,5,6,13,14,15])],[4],[],[[false]]⟩
def g265T:FunT:=⟨265,[.a (.c (.imm (.int .u32))),.a (.c (.imm (.int .u32)))],.a (.c (.imm (.int .u32))),[sD,sD],fun x=>g265 m x.1 x.2.1⟩
noncomputable def g265C:Code:=codeOf f265
noncomputable def g265B0:Code:=qo g265C 0 0
theorem g265K:FL [g228T m]:=AllF.mem ⟨g228ok m,trivial⟩
def g265L0X:LT:=⟨0,[(1,.a (.c (.imm (.int .u32)))),(5,.a (.c (.nm 0 (.int .u32)))),(6,sU),(13,.a (.c (.imm (.int .u32)))),(14,sI),(15,sI)],[(.exit 0,[(5,.a (.c (.nm 0 (.int .u32))))])],fun n x=>g265L0 m n x.1 x.2.1 x.2.2.1 x.2.2.2.1 x.2.2.2.2.1 x.2.2.2.2.2.1⟩
theorem g265L0ok {E} (hE:EO E 47 g265H) (n):LO E g265B0 ((g265L0X m).at n):=lk hE (g265K m) (g265L0X m) n
theorem g265ok:FO (g265T m):=f1' g265H (g265T m) func265 (g265K m) fun _ h=>g265L0ok m h m
def g224H:Hints:=⟨[J [2,3,4],J [2,3,4,5,6],J [2,3,4,5,6,13],J' [(2,1),(3,1)] [4],J [2,3,4,5,6,25],J' [(2,1),(3,1)] [4],J' [(2,1),(3,1)] [4]],[],[(0,[3,4,5,6])],[4],[],[[false,false]]⟩
def g224T:FunT:=⟨224,[.a (.agg [.bool,(.imm (.int .u32))]),.a (.agg [.bool,(.imm (.int .u32))])],.a (.agg [.bool,(.imm (.int .u32))]),[sD,sD],fun x=>g224 m x.1.1 x.1.2.1 x.2.1.1 x.2.1.2.1⟩
theorem g224ok:FO (g224T m):=fk g224H (g224T m) func224 (AllF.mem (l:=[g228T m,g264T m,g221T m,g227T m,g265T m]) ⟨g228ok m,g264ok m,g221ok m,g227ok m,g265ok m,trivial⟩)
def g148H:Hints:=⟨[J [0,2],J [0,2,3],J [0,2,3,4],J' [(0,1)] [2,3,4,12,13,14],J [2,3,4,12,13,14,15],J [2,3,4,6,12,13,14],J' [(2,1)] [2,3,4,7,8,12,13,14],J' [(0,1)] [2,3,4,7,12,13,14,24],J [2],J' [(0,1)] [2,3,4,7,12,13,14],J' [(0,1)] [2,3,4,12,13,14],J' [(1,1)] [2,3,4,12,13,14],J' [(0,2)] [2,3,4,9],J' [(0,1)] [2,4,9,35,36,37],J [2,4,9,35,36,37,38],J [2,4,9,11,35,36,37],J' [(0,2)] [2,4,9,35,36,37],J' [(1,1)] [2,4,9,35,36,37],J' [(1,1)] [2]],[(0,[2,3,4,12,13,14]),(2,[2,4,9,35,36,37])],[(0,[2,3,4]),(1,[2,3,4,12,13,14]),(2,[2,4,9]),(3,[2,4,9,35,36,37])],[2],[],[[false,false,false,false]]⟩
def g148T:FunT:=⟨148,[.a (.c (.imm (.pr .bool (.pr (.pr .bool (.sl false (.int .u32))) (.int .i64)))))],.a (.agg [.bool,.bool,(.imm (.int .u32)),(.int .i64)]),[sD],fun x=>g148 m x.1⟩
noncomputable def g148C:Code:=codeOf f148
noncomputable def g148B0:Code:=qo g148C 0 0
noncomputable def g148B2:Code:=qo g148C 0 1
theorem g148K:FL [g154T m,g222T m,g225T m,g224T m,g145T m]:=AllF.mem ⟨g154ok m,g222ok m,g225ok m,g224ok m,g145ok m,trivial⟩
def g148L1X:LT:=⟨2,[(2,sX 0 [.bool,.bool,.nm 1 (.int .u32),iI]),(4,sI),(9,sX 2 [.bool,.imm (.int .u32)]),(35,.a (.c (.nm 3 (.pr .bool (.pr (.pr .bool (.sl false (.int .u32))) (.int .i64)))))),(36,sI),(37,sI)],[(.exit 2,[(2,sX 0 [.bool,.bool,.nm 1 (.int .u32),iI]),(4,sI),(9,sX 2 [.bool,.imm (.int .u32)])])],fun n x=>g148L1 m n x.1.1 x.1.2.1 x.1.2.2.1 x.1.2.2.2.1 x.2.1 x.2.2.1.1 x.2.2.1.2.1 x.2.2.2.1 x.2.2.2.2.1 x.2.2.2.2.2.1⟩
theorem g148L1ok {E} (hE:EO E 54 g148H) (n):LO E g148B2 ((g148L1X m).at n):=lk hE (g148K m) (g148L1X m) n
def g148L0X:LT:=⟨0,[(2,sX 0 [.bool,.bool,.nm 1 (.int .u32),iI]),(3,.a (.c (.nm 2 (.pr .bool (.pr (.pr .bool (.sl false (.int .u32))) (.int .i64)))))),(4,sI),(12,.a (.c (.imm (.pr .bool (.pr (.pr .bool (.sl false (.int .u32))) (.int .i64)))))),(13,sI),(14,sI)],[(.ret,[(2,sX 0 [.bool,.bool,.nm 1 (.int .u32),iI])]),(.exit 0,[(2,sX 0 [.bool,.bool,.nm 1 (.int .u32),iI]),(3,.a (.c (.nm 2 (.pr .bool (.pr (.pr .bool (.sl false (.int .u32))) (.int .i64)))))),(4,sI)])],fun n x=>g148L0 m n x.1.1 x.1.2.1 x.1.2.2.1 x.1.2.2.2.1 x.2.1 x.2.2.1 x.2.2.2.1 x.2.2.2.2.1 x.2.2.2.2.2.1⟩
theorem g148L0ok {E} (hE:EO E 54 g148H) (n):LO E g148B0 ((g148L0X m).at n):=lk hE (g148K m) (g148L0X m) n
theorem g148ok:FO (g148T m):=
 fok hmix htt (H:=g148H) (g148T m) func148 kR (g148K m) (L:=[(g148L0X m).at m,(g148L1X m).at m]) (l:=[(0,g148B0),(2,g148B2)]) kR (fun _ hE _ _=>⟨ql ⟨yb (g148L0ok m hE m),nb rfl,trivial⟩,ql ⟨nb rfl,yb (g148L1ok m hE m),trivial⟩,trivial⟩) (fun x=>kR)
def g82H:Hints:=⟨[J [0,1,4],J [0,1,4,5],J [0,1,4,5,8,9],J [0,1,4,5,8,9,10],J [0,1,4,5,6,8,9],J' [(0,1)] [0,1,4,5,8,9],J' [(1,1)] [0,1,4,5,8,9],J' [(0,1)] [4]],[(0,[0,1,4,5,8,9])],[(0,[4,5]),(1,[0,1,4,5,8,9])],[4],[],[[false,false,false,false]]⟩
def g82T:FunT:=⟨82,[.a (.c (.imm (.int .u64))),.a (.c (.imm (.int .u64)))],.a (.agg [.bool,.bool,(.imm (.int .u32)),(.int .i64)]),[sD,sD],fun x=>g82 m x.1 x.2.1⟩
noncomputable def g82C:Code:=codeOf f82
noncomputable def g82B0:Code:=qo g82C 0 0
theorem g82K:FL [g112T m,g147T m,g148T m]:=AllF.mem ⟨g112ok m,g147ok m,g148ok m,trivial⟩
def g82L0X:LT:=⟨0,[(0,.a (.c (.imm (.int .u64)))),(1,.a (.c (.imm (.int .u64)))),(4,sX 0 [.bool,.bool,.nm 1 (.int .u32),iI]),(5,.a (.c (.nm 2 (.pr .bool (.pr (.pr .bool (.sl false (.int .u32))) (.int .i64)))))),(8,sI),(9,sI)],[(.exit 0,[(4,sX 0 [.bool,.bool,.nm 1 (.int .u32),iI]),(5,.a (.c (.nm 2 (.pr .bool (.pr (.pr .bool (.sl false (.int .u32))) (.int .i64))))))])],fun n x=>g82L0 m n x.1 x.2.1 x.2.2.1.1 x.2.2.1.2.1 x.2.2.1.2.2.1 x.2.2.1.2.2.2.1 x.2.2.2.1 x.2.2.2.2.1 x.2.2.2.2.2.1⟩
theorem g82L0ok {E} (hE:EO E 29 g82H) (n):LO E g82B0 ((g82L0X m).at n):=lk hE (g82K m) (g82L0X m) n
theorem g82ok:FO (g82T m):=f1' g82H (g82T m) func82 (g82K m) fun _ h=>g82L0ok m h m
def g150H:Hints:=⟨[J [1,2],J' [(2,1)] [1,2,3],J' [(0,1)] [1,2,9],J [1,2],J [2]],[],[],[2],[],[[false,false,false,false]]⟩
def g150T:FunT:=⟨150,[.a (.agg [.bool,.bool,(.imm (.int .u32)),(.int .i64)])],.a (.agg [.bool,.bool,(.imm (.int .u32)),(.int .i64)]),[sD],fun x=>g150 m x.1.1 x.1.2.1 x.1.2.2.1 x.1.2.2.2.1⟩
theorem g150ok:FO (g150T m):=fk g150H (g150T m) func150 (AllF.mem (l:=[g154T m,g212T m]) ⟨g154ok m,g212ok m,trivial⟩)
def g152H:Hints:=⟨[J [2,3,4,5],J [2,3,4,5,6],J [4,5,6]],[],[],[4,5,6],[],[[false,false],[false,false],[false]]⟩
def g152T:FunT:=⟨152,[.a (.agg [.bool,.bool,(.imm (.int .u32)),(.int .i64)]),.a (.agg [.bool,.bool,(.imm (.int .u32)),(.int .i64)])],.tup [(.agg [.bool,(.imm (.int .u32))]),(.agg [.bool,(.imm (.int .u32))]),(.c (.int .i64))],[sD,sD],fun x=>g152 m x.1.1 x.1.2.1 x.1.2.2.1 x.1.2.2.2.1 x.2.1.1 x.2.1.2.1 x.2.1.2.2.1 x.2.1.2.2.2.1⟩
theorem g152ok:FO (g152T m):=fk g152H (g152T m) func152 (AllF.mem (l:=[g225T m]) ⟨g225ok m,trivial⟩)
def g149H:Hints:=⟨[J [2,3,4],J' [(3,1)] [2,3,4,5],J' [(0,1)] [2,3,4,17],J [4],J' [(3,1)] [4,6,7,8],J' [(3,1)] [4]],[],[],[4],[],[[false,false,false,false]]⟩
def g149T:FunT:=⟨149,[.a (.agg [.bool,.bool,(.imm (.int .u32)),(.int .i64)]),.a (.agg [.bool,.bool,(.imm (.int .u32)),(.int .i64)])],.a (.agg [.bool,.bool,(.imm (.int .u32)),(.int .i64)]),[sD,sD],fun x=>g149 m x.1.1 x.1.2.1 x.1.2.2.1 x.1.2.2.2.1 x.2.1.1 x.2.1.2.1 x.2.1.2.2.1 x.2.1.2.2.2.1⟩
theorem g149ok:FO (g149T m):=fk g149H (g149T m) func149 (AllF.mem (l:=[g151T m,g222T m,g152T m,g224T m,g145T m]) ⟨g151ok m,g222ok m,g152ok m,g224ok m,g145ok m,trivial⟩)
def g83H:Hints:=⟨[J [2,3,4],J [4]],[],[],[4],[],[[false,false,false,false]]⟩
def g83T:FunT:=⟨83,[.a (.agg [.bool,.bool,(.imm (.int .u32)),(.int .i64)]),.a (.agg [.bool,.bool,(.imm (.int .u32)),(.int .i64)])],.a (.agg [.bool,.bool,(.imm (.int .u32)),(.int .i64)]),[sD,sD],fun x=>g83 m x.1.1 x.1.2.1 x.1.2.2.1 x.1.2.2.2.1 x.2.1.1 x.2.1.2.1 x.2.1.2.2.1 x.2.1.2.2.2.1⟩
theorem g83ok:FO (g83T m):=fk g83H (g83T m) func83 (AllF.mem (l:=[g150T m,g149T m]) ⟨g150ok m,g149ok m,trivial⟩)
def g155H:Hints:=⟨[J [1,2],J [2]],[],[],[2],[],[[false,false]]⟩
def g155T:FunT:=⟨155,[.a (.agg [.bool,(.imm (.int .u32))])],.a (.agg [.bool,(.imm (.int .u32))]),[sD],fun x=>g155 m x.1.1 x.1.2.1⟩
theorem g155ok:FO (g155T m):=fk g155H (g155T m) func155 (AllF.mem (l:=[g233T m,g221T m]) ⟨g233ok m,g221ok m,trivial⟩)
def g85H:Hints:=⟨[J [1,2],J' [(2,1)] [1,2,3],J' [(0,1)] [1,2,9],J [1,2],J [2]],[],[],[2],[],[[false,false,false,false]]⟩
def g85T:FunT:=⟨85,[.a (.agg [.bool,.bool,(.imm (.int .u32)),(.int .i64)])],.a (.agg [.bool,.bool,(.imm (.int .u32)),(.int .i64)]),[sD],fun x=>g85 m x.1.1 x.1.2.1 x.1.2.2.1 x.1.2.2.2.1⟩
theorem g85ok:FO (g85T m):=fk g85H (g85T m) func85 (AllF.mem (l:=[g154T m,g155T m]) ⟨g154ok m,g155ok m,trivial⟩)
def g153H:Hints:=⟨[J [2,3],J [2,3,5,6],J [2,3,5,6,11],J [4],J' [(1,1)] [2,3,5,15],J [4],J' [(0,1)] [4]],[],[(0,[2,3,5])],[4],[],[[false]]⟩
def g153T:FunT:=⟨153,[.a (.agg [.bool,(.imm (.int .u32))]),.a (.agg [.bool,(.imm (.int .u32))])],sI,[sD,sD],fun x=>g153 m x.1.1 x.1.2.1 x.2.1.1 x.2.1.2.1⟩
theorem g153ok:FO (g153T m):=fk g153H (g153T m) func153 (AllF.mem (l:=[g226T m,g228T m,g227T m]) ⟨g226ok m,g228ok m,g227ok m,trivial⟩)
def g84H:Hints:=⟨[J [2,3],J' [(3,1)] [2,3,6],J' [(0,1)] [2,3,18],J [4,5],J' [(3,1)] [7,8],J [4,5]],[],[],[4,5],[],[[false],[false]]⟩
def g84T:FunT:=⟨84,[.a (.agg [.bool,.bool,(.imm (.int .u32)),(.int .i64)]),.a (.agg [.bool,.bool,(.imm (.int .u32)),(.int .i64)])],.tup [(.c (.int .i64)),(.c .bool)],[sD,sD],fun x=>g84 m x.1.1 x.1.2.1 x.1.2.2.1 x.1.2.2.2.1 x.2.1.1 x.2.1.2.1 x.2.1.2.2.1 x.2.1.2.2.2.1⟩
theorem g84ok:FO (g84T m):=fk g84H (g84T m) func84 (AllF.mem (l:=[g151T m,g152T m,g153T m]) ⟨g151ok m,g152ok m,g153ok m,trivial⟩)
def g30H:Hints:=⟨[J [1,2],J [1,2,4],J [1,2,4,17],J' [(1,1)] [2,3],J [1,2,5],J [1,2,5,22,23,24],J [1,2,5,22,23,24,25],J [1,2,5,6,7,22,23,24],J [1,2,5,6,7,22,23,24,33,34,35],J [1,2,5,6,7,22,23,24,33,34,35,36],J [1,2,5,6,7,8,9,22,23,24,33,34,35],J' [(0,1)] [1,2,5,6,7,8,10,22,23,24,33,34,35],J' [(0,1)] [1,2,5,6,7,10,22,23,24,33,34,35,45],J [1,2,5,6,7,10,22,23,24,33,34,35],J' [(4,1)] [1,2,5,6,7,10,11,22,23,24,33,34,35],J' [(0,1)] [1,2,5,6,7,10,22,23,24,33,34,35,57],J [1,2,5,6,7,22,23,24,33,34,35],J' [(1,1)] [1,2,5,6,7,22,23,24,33,34,35],J' [(1,1)] [1,2,5,22,23,24],J [2,3]],[(0,[1,2,5,22,23,24]),(2,[1,2,5,6,7,22,23,24,33,34,35])],[(0,[2,5]),(1,[1,2,5,22,23,24]),(2,[1,2,5,22,23,24]),(3,[1,2,5,6,7,22,23,24,33,34,35])],[2,3],[],[[false,false,false,false],[false]]⟩
def g30T:FunT:=⟨30,[.a (.agg [(.imm (.int .u64)),(.imm (.int .u64)),(.imm (.sl false (.int .u64)))])],.tup [(.agg [.bool,.bool,(.imm (.int .u32)),(.int .i64)]),(.c (.int .i64))],[sD],fun x=>g30 m x.1.1 x.1.2.1 x.1.2.2.1⟩
noncomputable def g30C:Code:=codeOf f30
noncomputable def g30B0:Code:=qo g30C 0 0
noncomputable def g30B2:Code:=qo g30B0 0 0
theorem g30K:FL [g80T m,g81T m,g82T m,g83T m,g85T m,g84T m]:=AllF.mem ⟨g80ok m,g81ok m,g82ok m,g83ok m,g85ok m,g84ok m,trivial⟩
def g30L1X:LT:=⟨2,[(1,sX 0 [.imm (.int .u64),.imm (.int .u64),.imm (.sl false (.int .u64))]),(2,sX 1 [.bool,.bool,.nm 2 (.int .u32),iI]),(5,sX 3 [.bool,.bool,.imm (.int .u32),iI]),(6,sI),(7,.a (.c (.imm (.int .u64)))),(22,.a (.c (.imm (.sl false (.int .u64))))),(23,sI),(24,sI),(33,.a (.c (.imm (.sl false (.int .u64))))),(34,sI),(35,sI)],[(.exit 2,[(1,sX 0 [.imm (.int .u64),.imm (.int .u64),.imm (.sl false (.int .u64))]),(2,sX 1 [.bool,.bool,.nm 2 (.int .u32),iI]),(5,sX 3 [.bool,.bool,.imm (.int .u32),iI]),(22,.a (.c (.imm (.sl false (.int .u64))))),(23,sI),(24,sI)])],fun n x=>g30L1 m n x.1.1 x.1.2.1 x.1.2.2.1 x.2.1.1 x.2.1.2.1 x.2.1.2.2.1 x.2.1.2.2.2.1 x.2.2.1.1 x.2.2.1.2.1 x.2.2.1.2.2.1 x.2.2.1.2.2.2.1 x.2.2.2.1 x.2.2.2.2.1 x.2.2.2.2.2.1 x.2.2.2.2.2.2.1 x.2.2.2.2.2.2.2.1 x.2.2.2.2.2.2.2.2.1 x.2.2.2.2.2.2.2.2.2.1 x.2.2.2.2.2.2.2.2.2.2.1⟩
theorem g30L1ok {E} (hE:EO E 63 g30H) (n):LO E g30B2 ((g30L1X m).at n):=lk hE (g30K m) (g30L1X m) n
def g30L0X:LT:=⟨0,[(1,sX 0 [.imm (.int .u64),.imm (.int .u64),.imm (.sl false (.int .u64))]),(2,sX 1 [.bool,.bool,.nm 2 (.int .u32),iI]),(5,sX 3 [.bool,.bool,.imm (.int .u32),iI]),(22,.a (.c (.imm (.sl false (.int .u64))))),(23,sI),(24,sI)],[(.exit 0,[(2,sX 0 [.bool,.bool,.nm 1 (.int .u32),iI]),(5,sX 2 [.bool,.bool,.imm (.int .u32),iI])])],fun n x=>g30L0 m n x.1.1 x.1.2.1 x.1.2.2.1 x.2.1.1 x.2.1.2.1 x.2.1.2.2.1 x.2.1.2.2.2.1 x.2.2.1.1 x.2.2.1.2.1 x.2.2.1.2.2.1 x.2.2.1.2.2.2.1 x.2.2.2.1 x.2.2.2.2.1 x.2.2.2.2.2.1⟩
theorem g30L0ok {E} (hE:EO E 63 g30H) (n):LO E g30B0 ((g30L0X m).at n):=
 lok hmix htt hE (g30K m) (L:=[(g30L1X m).at m]) (g30L0X m) (l:=[(2,g30B2)]) kR (fun _ _=>⟨ql ⟨yb (g30L1ok m hE m),trivial⟩,trivial⟩) (fun n x=>kR) (fun _=>kR) n
theorem g30ok:FO (g30T m):=f1' g30H (g30T m) func30 (g30K m) fun _ h=>g30L0ok m h m
def g49H:Hints:=⟨[J [0],J [0,3],J [0,3,7],J' [(0,1)] [0,3],J [0,3,15],J [2],J [2]],[(0,[0,3])],[(0,[]),(1,[0,3])],[2],[],[[false]]⟩
def g49T:FunT:=⟨49,[.a (.c (.imm (.int .u64)))],sB,[sD],fun x=>g49 m x.1⟩
noncomputable def g49C:Code:=codeOf f49
noncomputable def g49B0:Code:=qo g49C 0 0
theorem g49K:FL [g53T m]:=AllF.mem ⟨g53ok m,trivial⟩
def g49L0X:LT:=⟨0,[(0,.a (.c (.imm (.int .u64)))),(3,sI)],[(.ret,[(2,sB)]),(.exit 0,[])],fun n x=>g49L0 m n x.1 x.2.1⟩
theorem g49L0ok {E} (hE:EO E 16 g49H) (n):LO E g49B0 ((g49L0X m).at n):=lk hE (g49K m) (g49L0X m) n
theorem g49ok:FO (g49T m):=f1' g49H (g49T m) func49 (g49K m) fun _ h=>g49L0ok m h m
def g65H:Hints:=⟨[J [0],J' [(0,1)] [2]],[],[],[2],[],[[false]]⟩
def g65T:FunT:=⟨65,[sU],sB,[sD],fun x=>g65 m x.1⟩
theorem g65ok:FO (g65T m):=fk g65H (g65T m) func65 noF
def g18H:Hints:=⟨[J [0,2],J [0,2,8],J [2],J [0,2,3,4],J [0,2,3,4,5],J [0,2,3,4,5,17],J' [(0,1)] [0,2,3,4],J' [(0,1)] [0,2,4,5],J' [(0,1),(9,1)] [2]],[],[],[2],[],[[false,false,false,false]]⟩
def g18T:FunT:=⟨18,[sU],.a (.agg [.bool,.bool,(.imm (.int .u32)),(.int .i64)]),[sD],fun x=>g18 m x.1⟩
theorem g18ok:FO (g18T m):=fk g18H (g18T m) func18 (AllF.mem (l:=[g53T m,g62T m,g65T m,g63T m]) ⟨g53ok m,g62ok m,g65ok m,g63ok m,trivial⟩)
def g131H:Hints:=⟨[J [0,1],J [0,1,5],J [0,1,5,6],J [0,1,5,6,18],J' [(0,1)] [0,1,5,6],J [0,1,5,6,7],J [0,1,5,6,7,8],J [0,1,5,6,7,8,24],J' [(0,1)] [0,1,5,6,7,8],J' [(0,1)] [0,1,5,6,7,8],J [0,1,5,6,7,8],J' [(0,1)] [0,1,5,6,7,8],J' [(5,1)] [0,1,5,6],J' [(0,1)] [4]],[(0,[0,1,5,6]),(2,[0,1,5,6,7,8])],[(0,[5]),(1,[0,1,5,6]),(2,[0,1,5,6,7]),(3,[0,1,5,6,7,8])],[4],[],[[true]]⟩
def g131T:FunT:=⟨131,[.a (.c (.imm (.int .u32))),.a (.c (.imm (.int .u32)))],.a (.c (.nm 0 (.int .u32))),[sD,sD],fun x=>g131 m x.1 x.2.1⟩
noncomputable def g131C:Code:=codeOf f131
noncomputable def g131B0:Code:=qo g131C 0 0
noncomputable def g131B2:Code:=qo g131B0 0 0
def g131L1X:LT:=⟨2,[(0,.a (.c (.imm (.int .u32)))),(1,.a (.c (.imm (.int .u32)))),(5,.a (.c (.nm 0 (.int .u32)))),(6,sI),(7,sU),(8,sI)],[(.exit 2,[(0,.a (.c (.imm (.int .u32)))),(1,.a (.c (.imm (.int .u32)))),(5,.a (.c (.nm 0 (.int .u32)))),(6,sI),(7,sU)])],fun n x=>g131L1 m n x.1 x.2.1 x.2.2.1 x.2.2.2.1 x.2.2.2.2.1 x.2.2.2.2.2.1⟩
theorem g131L1ok {E} (hE:EO E 66 g131H) (n):LO E g131B2 ((g131L1X m).at n):=lk hE noF (g131L1X m) n
def g131L0X:LT:=⟨0,[(0,.a (.c (.imm (.int .u32)))),(1,.a (.c (.imm (.int .u32)))),(5,.a (.c (.nm 0 (.int .u32)))),(6,sI)],[(.exit 0,[(5,.a (.c (.nm 0 (.int .u32))))])],fun n x=>g131L0 m n x.1 x.2.1 x.2.2.1 x.2.2.2.1⟩
theorem g131L0ok {E} (hE:EO E 66 g131H) (n):LO E g131B0 ((g131L0X m).at n):=
 lok hmix htt hE noF (L:=[(g131L1X m).at m]) (g131L0X m) (l:=[(2,g131B2)]) kR (fun _ _=>⟨ql ⟨yb (g131L1ok m hE m),trivial⟩,trivial⟩) (fun n x=>kR) (fun _=>kR) n
theorem g131ok:FO (g131T m):=f1' g131H (g131T m) func131 noF fun _ h=>g131L0ok m h m
def g64H:Hints:=⟨[J [2,3,4],J [4]],[],[],[4],[],[[false,false]]⟩
def g64T:FunT:=⟨64,[.a (.agg [.bool,(.imm (.int .u32))]),.a (.agg [.bool,(.imm (.int .u32))])],.a (.agg [.bool,(.imm (.int .u32))]),[sD,sD],fun x=>g64 m x.1.1 x.1.2.1 x.2.1.1 x.2.1.2.1⟩
theorem g64ok:FO (g64T m):=fk g64H (g64T m) func64 (AllF.mem (l:=[g132T m,g131T m,g130T m]) ⟨g132ok m,g131ok m,g130ok m,trivial⟩)
def g17H:Hints:=⟨[J [2,3,4],J [2,3,4],J' [(2,1)] [2,3,4,14],J [4],J [4]],[],[],[4],[],[[false,false,false,false]]⟩
def g17T:FunT:=⟨17,[.a (.agg [.bool,.bool,(.imm (.int .u32)),(.int .i64)]),.a (.agg [.bool,.bool,(.imm (.int .u32)),(.int .i64)])],.a (.agg [.bool,.bool,(.imm (.int .u32)),(.int .i64)]),[sD,sD],fun x=>g17 m x.1.1 x.1.2.1 x.1.2.2.1 x.1.2.2.2.1 x.2.1.1 x.2.1.2.1 x.2.1.2.2.1 x.2.1.2.2.2.1⟩
theorem g17ok:FO (g17T m):=fk g17H (g17T m) func17 (AllF.mem (l:=[g61T m,g62T m,g64T m,g63T m]) ⟨g61ok m,g62ok m,g64ok m,g63ok m,trivial⟩)
def g118H:Hints:=⟨[J [0,1,4],J' [(0,1),(2,1)] [4]],[],[],[4],[],[[false,false,false,false]]⟩
def g118T:FunT:=⟨118,[sU,sU],.a (.agg [.bool,.bool,(.imm (.int .u32)),(.int .i64)]),[sD,sD],fun x=>g118 m x.1 x.2.1⟩
theorem g118ok:FO (g118T m):=fk g118H (g118T m) func118 (AllF.mem (l:=[g18T m,g17T m]) ⟨g18ok m,g17ok m,trivial⟩)
def g21H:Hints:=⟨[J [0,2],J' [(1,2),(2,2)] [0,2,3,4],J [0,2,3,4,5],J [0,2,3,4,5,11],J' [(0,1)] [0,2,3,4,5],J [0,2,3,4,5,6],J [0,2,3,4,5,6,20],J [2],J [0,2,3,4,5,6,25],J' [(1,1)] [0,2,3,4,5],J [0,2,3,4,5,6,37],J [0,2,3,4,5],J [0,2,3,4,5,6,45],J [0,2,3,4,5],J' [(1,1)] [2]],[(0,[0,2,3,4,5])],[(0,[2,3,4]),(1,[0,2,3,4,5]),(2,[0,2,3,4,5])],[2],[],[[false,false,false,false]]⟩
def g21T:FunT:=⟨21,[.a (.c (.imm (.pr .bool (.pr (.pr .bool (.sl false (.int .u32))) (.int .i64)))))],.a (.agg [.bool,.bool,(.imm (.int .u32)),(.int .i64)]),[sD],fun x=>g21 m x.1⟩
noncomputable def g21C:Code:=codeOf f21
noncomputable def g21B0:Code:=qo g21C 0 0
theorem g21K:FL [g61T m,g62T m,g69T m,g71T m,g70T m,g63T m]:=AllF.mem ⟨g61ok m,g62ok m,g69ok m,g71ok m,g70ok m,g63ok m,trivial⟩
def g21L0X:LT:=⟨0,[(0,.a (.c (.imm (.pr .bool (.pr (.pr .bool (.sl false (.int .u32))) (.int .i64)))))),(2,sX 0 [.bool,.bool,.nm 1 (.int .u32),iI]),(3,sX 2 [.bool,.imm (.int .u32)]),(4,sI),(5,sI)],[(.ret,[(2,sX 0 [.bool,.bool,.nm 1 (.int .u32),iI])]),(.exit 0,[(2,sX 0 [.bool,.bool,.nm 1 (.int .u32),iI]),(3,sX 2 [.bool,.imm (.int .u32)]),(4,sI)])],fun n x=>g21L0 m n x.1 x.2.1.1 x.2.1.2.1 x.2.1.2.2.1 x.2.1.2.2.2.1 x.2.2.1.1 x.2.2.1.2.1 x.2.2.2.1 x.2.2.2.2.1⟩
theorem g21L0ok {E} (hE:EO E 62 g21H) (n):LO E g21B0 ((g21L0X m).at n):=lk hE (g21K m) (g21L0X m) n
theorem g21ok:FO (g21T m):=f1' g21H (g21T m) func21 (g21K m) fun _ h=>g21L0ok m h m
def g51H:Hints:=⟨[J [0,1,4],J [0,1,4,5],J [0,1,4,5,6],J [0,1,4,5,6,10],J' [(0,1)] [0,1,4,5,6],J' [(0,1)] [0,1,4,5,6],J' [(0,1)] [4]],[(0,[0,1,4,5,6])],[(0,[4,5]),(1,[0,1,4,5,6])],[4],[],[[false,false,false,false]]⟩
def g51T:FunT:=⟨51,[.a (.c (.imm (.int .u64))),.a (.c (.imm (.int .u64)))],.a (.agg [.bool,.bool,(.imm (.int .u32)),(.int .i64)]),[sD,sD],fun x=>g51 m x.1 x.2.1⟩
noncomputable def g51C:Code:=codeOf f51
noncomputable def g51B0:Code:=qo g51C 0 0
theorem g51K:FL [g118T m,g21T m]:=AllF.mem ⟨g118ok m,g21ok m,trivial⟩
def g51L0X:LT:=⟨0,[(0,.a (.c (.imm (.int .u64)))),(1,.a (.c (.imm (.int .u64)))),(4,sX 0 [.bool,.bool,.nm 1 (.int .u32),iI]),(5,.a (.c (.nm 2 (.pr .bool (.pr (.pr .bool (.sl false (.int .u32))) (.int .i64)))))),(6,sI)],[(.exit 0,[(4,sX 0 [.bool,.bool,.nm 1 (.int .u32),iI]),(5,.a (.c (.nm 2 (.pr .bool (.pr (.pr .bool (.sl false (.int .u32))) (.int .i64))))))])],fun n x=>g51L0 m n x.1 x.2.1 x.2.2.1.1 x.2.2.1.2.1 x.2.2.1.2.2.1 x.2.2.1.2.2.2.1 x.2.2.2.1 x.2.2.2.2.1⟩
theorem g51L0ok {E} (hE:EO E 27 g51H) (n):LO E g51B0 ((g51L0X m).at n):=lk hE (g51K m) (g51L0X m) n
theorem g51ok:FO (g51T m):=f1' g51H (g51T m) func51 (g51K m) fun _ h=>g51L0ok m h m
def g68H:Hints:=⟨[J [1,2],J [1,2],J [1,2,6],J [2],J [2]],[],[],[2],[],[[false,false,false,false]]⟩
def g68T:FunT:=⟨68,[.a (.agg [.bool,.bool,(.imm (.int .u32)),(.int .i64)])],.a (.agg [.bool,.bool,(.imm (.int .u32)),(.int .i64)]),[sD],fun x=>g68 m x.1.1 x.1.2.1 x.1.2.2.1 x.1.2.2.2.1⟩
theorem g68ok:FO (g68T m):=fk g68H (g68T m) func68 (AllF.mem (l:=[g61T m,g134T m,g63T m]) ⟨g61ok m,g134ok m,g63ok m,trivial⟩)
def g133H:Hints:=⟨[J [2,3,4,5],J [2,3,4,5,7,8],J [2,3,4,5,7,8,13],J [4,5,6],J [2,3,4,5,7,8,21],J [4,5,6],J [2,3,4,5,7,8,29],J [4,5,6],J [4,5,6]],[],[(0,[2,3,4,5,7,8])],[4,5,6],[],[[false,false],[false,false],[false]]⟩
def g133T:FunT:=⟨133,[.a (.agg [.bool,.bool,(.imm (.int .u32)),(.int .i64)]),.a (.agg [.bool,.bool,(.imm (.int .u32)),(.int .i64)])],.tup [(.agg [.bool,(.imm (.int .u32))]),(.agg [.bool,(.imm (.int .u32))]),(.c (.int .i64))],[sD,sD],fun x=>g133 m x.1.1 x.1.2.1 x.1.2.2.1 x.1.2.2.2.1 x.2.1.1 x.2.1.2.1 x.2.1.2.2.1 x.2.1.2.2.2.1⟩
theorem g133ok:FO (g133T m):=fk g133H (g133T m) func133 (AllF.mem (l:=[g69T m,g71T m]) ⟨g69ok m,g71ok m,trivial⟩)
def g67H:Hints:=⟨[J [2,3,4],J [2,3,4],J' [(2,1)] [2,3,4,17],J [4],J' [(3,1)] [4,5,6,7],J' [(3,1)] [4]],[],[],[4],[],[[false,false,false,false]]⟩
def g67T:FunT:=⟨67,[.a (.agg [.bool,.bool,(.imm (.int .u32)),(.int .i64)]),.a (.agg [.bool,.bool,(.imm (.int .u32)),(.int .i64)])],.a (.agg [.bool,.bool,(.imm (.int .u32)),(.int .i64)]),[sD,sD],fun x=>g67 m x.1.1 x.1.2.1 x.1.2.2.1 x.1.2.2.2.1 x.2.1.1 x.2.1.2.1 x.2.1.2.2.1 x.2.1.2.2.2.1⟩
theorem g67ok:FO (g67T m):=fk g67H (g67T m) func67 (AllF.mem (l:=[g61T m,g62T m,g133T m,g70T m,g63T m]) ⟨g61ok m,g62ok m,g133ok m,g70ok m,g63ok m,trivial⟩)
def g20H:Hints:=⟨[J [2,3,4],J [4]],[],[],[4],[],[[false,false,false,false]]⟩
def g20T:FunT:=⟨20,[.a (.agg [.bool,.bool,(.imm (.int .u32)),(.int .i64)]),.a (.agg [.bool,.bool,(.imm (.int .u32)),(.int .i64)])],.a (.agg [.bool,.bool,(.imm (.int .u32)),(.int .i64)]),[sD,sD],fun x=>g20 m x.1.1 x.1.2.1 x.1.2.2.1 x.1.2.2.2.1 x.2.1.1 x.2.1.2.1 x.2.1.2.2.1 x.2.1.2.2.2.1⟩
theorem g20ok:FO (g20T m):=fk g20H (g20T m) func20 (AllF.mem (l:=[g68T m,g67T m]) ⟨g68ok m,g67ok m,trivial⟩)
def g19H:Hints:=⟨[J [1,2],J [1,2],J [1,2,6],J [2],J [2]],[],[],[2],[],[[false,false,false,false]]⟩
def g19T:FunT:=⟨19,[.a (.agg [.bool,.bool,(.imm (.int .u32)),(.int .i64)])],.a (.agg [.bool,.bool,(.imm (.int .u32)),(.int .i64)]),[sD],fun x=>g19 m x.1.1 x.1.2.1 x.1.2.2.1 x.1.2.2.2.1⟩
theorem g19ok:FO (g19T m):=fk g19H (g19T m) func19 (AllF.mem (l:=[g61T m,g66T m,g63T m]) ⟨g61ok m,g66ok m,g63ok m,trivial⟩)
def g141H:Hints:=⟨[J [2,3],J [4]],[],[],[4],[],[[false]]⟩
def g141T:FunT:=⟨141,[.a (.agg [.bool,(.imm (.int .u32))]),.a (.agg [.bool,(.imm (.int .u32))])],sI,[sD,sD],fun x=>g141 m x.1.1 x.1.2.1 x.2.1.1 x.2.1.2.1⟩
theorem g141ok:FO (g141T m):=fk g141H (g141T m) func141 (AllF.mem (l:=[g140T m,g69T m]) ⟨g140ok m,g69ok m,trivial⟩)
def g73H:Hints:=⟨[J [2,3],J [2,3],J' [(2,1)] [2,3,18],J [4,5],J' [(3,1)] [6,7],J [4,5]],[],[],[4,5],[],[[false],[false]]⟩
def g73T:FunT:=⟨73,[.a (.agg [.bool,.bool,(.imm (.int .u32)),(.int .i64)]),.a (.agg [.bool,.bool,(.imm (.int .u32)),(.int .i64)])],.tup [(.c (.int .i64)),(.c .bool)],[sD,sD],fun x=>g73 m x.1.1 x.1.2.1 x.1.2.2.1 x.1.2.2.2.1 x.2.1.1 x.2.1.2.1 x.2.1.2.2.1 x.2.1.2.2.2.1⟩
theorem g73ok:FO (g73T m):=fk g73H (g73T m) func73 (AllF.mem (l:=[g61T m,g133T m,g141T m]) ⟨g61ok m,g133ok m,g141ok m,trivial⟩)
def g86H:Hints:=⟨[J [2,3],J' [(3,1)] [5],J' [(0,1)] [4]],[],[],[4],[],[[false]]⟩
def g86T:FunT:=⟨86,[.a (.agg [.bool,.bool,(.imm (.int .u32)),(.int .i64)]),.a (.agg [.bool,.bool,(.imm (.int .u32)),(.int .i64)])],sB,[sD,sD],fun x=>g86 m x.1.1 x.1.2.1 x.1.2.2.1 x.1.2.2.2.1 x.2.1.1 x.2.1.2.1 x.2.1.2.2.1 x.2.1.2.2.2.1⟩
theorem g86ok:FO (g86T m):=fk g86H (g86T m) func86 (AllF.mem (l:=[g73T m]) ⟨g73ok m,trivial⟩)
end
end Go.Vs.F
