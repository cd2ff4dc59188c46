/-The plain functions are what the code does (by program:gen.py). -/
import Derived.Test.YtkbgfnhdfmmfcaaGreatDoorFn
import Derived.Test.YtkbgfnhdfmmfcaaGreatDoorVc
import Derived.Test.YtkbgfnhdfmmfcaaGreatDoorProg
import Derived.KernelRfl
set_option linter.unusedVariables false
set_option maxRecDepth 100000
namespace Go.Vs.F
open Go.Proofs
open Tryz
section
theorem kR{p:Prop}(h:p:=by kernel_rfl):p:=h
abbrev sD:Sh:=.a (.c .dead)
abbrev sI:Sh:=.a (.c (.int .i64))
abbrev sL:Sh:=.a (.c (.imm (.int .i64)))
abbrev sB:Sh:=.a (.c .bool)
abbrev sU:Sh:=.a (.c (.int .u64))
abbrev EO(E:Entry)(N:Nat)(H:Hints):=EOf prog E N H.pins
abbrev LO:=LoopOK prog
abbrev FO:=FunOK prog
abbrev FL(l:List FunT):=∀u∈l,FO u
abbrev sN(k:Nat):Sh:=.a (.c (.nm k (.int .i64)))
abbrev sX(k:Nat)(l:List ShC):Sh:=.a (.bx k l)
abbrev iI:ShC:=.int .i64
abbrev iU:ShC:=.int .u64
abbrev iL:ShC:=.imm (.int .i64)
abbrev iM(k:Nat):ShC:=.nm k (.int .i64)
def J(l:List Nat):Hint:=⟨[],l⟩
def J'(m:List (Nat×Nat))(l:List Nat):Hint:=⟨m,l⟩
def tt:TT:=[none,none,none,some ⟨(.int .i64),[.int .i64]⟩,some ⟨.bool,[.bool]⟩,some ⟨(.int .u8),[.int .u8]⟩,none,none,none,some ⟨.string,[.other]⟩,none,none,none,none,none,none,none,none,none,none,none,none,some ⟨(.slice 39 (.int .u64)),[.nil (.int .u64)]⟩,some ⟨(.slice 3 (.int .i64)),[.nil (.int .i64)]⟩,some ⟨(.slice 41 (.int .u64)),[.nil (.int .u64)]⟩,none,some ⟨(.struct [(0,1),(1,1),(2,1),(3,1),(4,1),(5,1),(6,1)]),[.nil (.int .i64),.nil (.int .i64),.nil (.int .u64),.nil (.int .i64),.nil (.int .i64),.nil (.int .u64),.int .i64]⟩,none,none,none,some ⟨(.slice 24 (.sl false (.int .u64))),[.nil (.sl false (.int .u64))]⟩,none,some ⟨(.struct [(0,1),(1,1),(2,1)]),[.nil (.int .u64),.nil (.int .u64),.nil (.sl false (.int .u64))]⟩,none,none,none,none,none,none,some ⟨(.int .u64),[.int .u64]⟩,none,some ⟨(.int .u64),[.int .u64]⟩,none,some ⟨(.slice 48 (.pr .bool (.pr (.pr .bool (.sl false (.int .u32))) (.int .i64)))),[.nil (.pr .bool (.pr (.pr .bool (.sl false (.int .u32))) (.int .i64)))]⟩,some ⟨(.slice 108 (.int .u32)),[.nil (.int .u32)]⟩,none,some ⟨(.struct [(0,1),(1,1)]),[.bool,.nil (.int .u32)]⟩,none,some ⟨(.struct [(0,1),(1,2),(3,1)]),[.bool,.bool,.nil (.int .u32),.int .i64]⟩,none,none,none,none,none,none,none,none,none,none,none,none,none,none,none,none,none,none,none,none,none,none,none,none,none,none,none,none,none,none,none,none,none,none,none,none,none,some ⟨(.int .u64),[.int .u64]⟩,none,none,none,none,none,none,none,none,none,none,none,none,none,none,none,none,none,none,none,none,none,some ⟨(.int .u32),[.int .u32]⟩,none,none,none,none,none,none,none,none,none,none,none,none,none,none,none,none,none,some ⟨(.slice 43 (.sl false (.pr .bool (.pr (.pr .bool (.sl false (.int .u32))) (.int .i64))))),[.nil (.sl false (.pr .bool (.pr (.pr .bool (.sl false (.int .u32))) (.int .i64))))]⟩,none,none,none,none,none,none,none,none,none,none,none,none,none,none,none,none,none,none,none,none,none,none,none,some ⟨(.slice 4 .bool),[.nil .bool]⟩,none,none,none,none,none,none,none,none,none,none,none,none,none,none,none,none,none,none,none,none,none,none,none,none,none,none,none,none,none,none,none,none,none,none,none,none,none,none,none,none,none,none,none,none,none,none,none,none,none,none,none,none,none,none,none,none,none,none,none,none,none,none,none,none,none,none,none,none,none,some ⟨(.slice 43 (.sl false (.pr .bool (.pr (.pr .bool (.sl false (.int .u32))) (.int .i64))))),[.nil (.sl false (.pr .bool (.pr (.pr .bool (.sl false (.int .u32))) (.int .i64))))]⟩,none,none,none,none,some ⟨(.struct [(0,1),(1,2),(3,1),(4,1)]),[.bool,.bool,.nil (.int .u32),.int .i64,.bool]⟩,none,none,none,none,none,none,none,none,none,none,none,none,none,none,none,none,none,none,none,none,none,none,none,none,none,none,none,none,none,none,none,none,some ⟨(.tab 0 .u8 [0,1,28,2,29,14,24,3,30,22,20,15,25,17,4,8,31,27,13,23,21,19,16,7,26,12,18,6,11,5,10,9]),[.other,.other,.other,.other,.other,.other,.other,.other,.other,.other,.other,.other,.other,.other,.other,.other,.other,.other,.other,.other,.other,.other,.other,.other,.other,.other,.other,.other,.other,.other,.other,.other]⟩]
theorem htt:TTok prog tt:=qgz kR
theorem hmix:prog.follows .mixedOrders=true:=kR
theorem lk{N:Nat}{H:Hints}{E:Entry}(hE:EO E N H){D:List FunT}(hD:FL D){B:Code}(t:LT)(n:Nat)(hl:q0h B t.blk=[]:=by kernel_rfl)(hr:∀n x,qax (mkC (outVal t.outs) D) (mkLp (outVal t.outs) []) tt N H B t.blk (t.ins.enc x) (Kl (t.run n))=t.run (n+1) x:=by intro n x;kernel_rfl)(h0:∀x,t.run 0 x=none:=by intro x;kernel_rfl):LO E B (t.at n):=lok hmix htt hE hD (L:=[]) t (l:=[]) hl (fun _ _=>trivial) hr h0 n
theorem fk(H:Hints)(t:FunT){fn:Func}(hf:prog.funcs[t.f]? =some fn){D:List FunT}(hD:FL D)(hb:okB fn=true:=by kernel_rfl)(hl:q0h (codeOf fn) 0=[]:=by kernel_rfl)(hr: ∀x,fnK (mkC (t.res.Val×X7 t.outs) D) (mkLp (t.res.Val×X7 t.outs) []) tt H fn (encS t.args x) (Kd t.res t.outs)=t.run x:=by intro x;kernel_rfl):FO t:=fok hmix htt (H:=H) t hf hb hD (L:=[]) (l:=[]) hl (fun _ hE _ _=>trivial) hr
theorem f1'(H:Hints)(t:FunT){fn:Func}(hf:prog.funcs[t.f]? =some fn){D:List FunT}(hD:FL D){X:LT}{m:Nat}{B:Code}(h:∀E:Entry,EO E fn.ntmps H->LO E B (X.at m))(hb:okB fn=true:=by kernel_rfl)(hl:q0h (codeOf fn) 0=[(X.blk,B)]:=by kernel_rfl)(hr: ∀x,fnK (mkC (t.res.Val×X7 t.outs) D) (mkLp (t.res.Val×X7 t.outs) [X.at m]) tt H fn (encS t.args x) (Kd t.res t.outs)=t.run x:=by intro x;kernel_rfl)(hk:q50 [] [X.at m]=true:=by kernel_rfl):FO t:=fok hmix htt (H:=H) t hf hb hD (L:=[X.at m]) (l:=[(X.blk,B)]) hl (fun E hE _ _=>⟨qi ⟨yb (h E hE),trivial⟩,trivial⟩) hr hk
variable (m:Nat)
def g11H:Hints:=⟨[J [0,1],J' [(0,1),(2,1)] [4]],[],[],[4],[],[[false]]⟩
def g11T:FunT:=⟨11,[sI,sI],sI,[sD,sD],fun x=>g11 m x.1 x.2.1⟩
theorem g11ok:FO (g11T m):=fk g11H (g11T m) func11 noF
def g27H:Hints:=⟨[J [0,1],J [0,1,5],J [0,1,5,12],J' [(0,1),(2,1)] [5],J [5],J [4]],[],[],[4],[],[[false]]⟩
def g27T:FunT:=⟨27,[.a (.c (.imm (.int .u64))),sI],sU,[sD,sD],fun x=>g27 m x.1 x.2.1⟩
theorem g27ok:FO (g27T m):=fk g27H (g27T m) func27 (AllF.mem (l:=[g11T m]) ⟨g11ok m,trivial⟩)
def g25H:Hints:=⟨[J [0,1],J [0,1,5],J [0,1,5,6],J [0,1,5,6,11],J' [(0,1)] [0,1,5,6],J [0,1,5,6,7],J [0,1,5,6],J' [(0,1)] [4]],[(0,[0,1,5,6])],[(0,[5]),(1,[0,1,5,6])],[4],[],[[true]]⟩
def g25T:FunT:=⟨25,[.a (.c (.imm (.int .u64))),sI],sN 0,[sD,sD],fun x=>g25 m x.1 x.2.1⟩
noncomputable def g25C:Code:=codeOf f25
noncomputable def g25B0:Code:=qo g25C 0 0
theorem g25K:FL [g27T m,g11T m]:=AllF.mem ⟨g27ok m,g11ok m,trivial⟩
def g25L0X:LT:=⟨0,[(0,.a (.c (.imm (.int .u64)))),(1,sI),(5,sN 0),(6,sI)],[(.exit 0,[(5,sN 0)])],fun n x=>g25L0 m n x.1 x.2.1 x.2.2.1 x.2.2.2.1⟩
theorem g25L0ok {E} (hE:EO E 36 g25H) (n):LO E g25B0 ((g25L0X m).at n):=lk hE (g25K m) (g25L0X m) n
theorem g25ok:FO (g25T m):=f1' g25H (g25T m) func25 (g25K m) fun _ h=>g25L0ok m h m
def g132H:Hints:=⟨[J [0],J [0,3],J' [(2,1)] [0,3,17],J' [(0,1)] [0,3],J [0,3,4],J [0,3,4,5],J [0,3,4,5,22],J' [(0,1)] [0,3,4,5],J' [(0,1)] [0,3,4,5],J' [(0,1)] [2]],[(0,[0,3]),(2,[0,3,4,5])],[(0,[0,3]),(1,[0,3]),(2,[4]),(3,[0,3,4,5])],[2],[],[[true]]⟩
def g132T:FunT:=⟨132,[.a (.c (.imm (.int .u32)))],.a (.c (.nm 0 (.int .u32))),[sD],fun x=>g132 m x.1⟩
noncomputable def g132C:Code:=codeOf f132
noncomputable def g132B0:Code:=qo g132C 0 0
noncomputable def g132B2:Code:=qo g132C 0 1
def g132L1X:LT:=⟨2,[(0,.a (.c (.imm (.int .u32)))),(3,sI),(4,.a (.c (.nm 0 (.int .u32)))),(5,sI)],[(.exit 2,[(4,.a (.c (.nm 0 (.int .u32))))])],fun n x=>g132L1 m n x.1 x.2.1 x.2.2.1 x.2.2.2.1⟩
theorem g132L1ok {E} (hE:EO E 33 g132H) (n):LO E g132B2 ((g132L1X m).at n):=lk hE noF (g132L1X m) n
def g132L0X:LT:=⟨0,[(0,.a (.c (.imm (.int .u32)))),(3,sI)],[(.exit 0,[(0,.a (.c (.imm (.int .u32)))),(3,sI)])],fun n x=>g132L0 m n x.1 x.2.1⟩
theorem g132L0ok {E} (hE:EO E 33 g132H) (n):LO E g132B0 ((g132L0X m).at n):=lk hE noF (g132L0X m) n
theorem g132ok:FO (g132T m):=
 fok hmix htt (H:=g132H) (g132T m) func132 kR noF (L:=[(g132L0X m).at m,(g132L1X m).at m]) (l:=[(0,g132B0),(2,g132B2)]) kR (fun _ hE _ _=>⟨qi ⟨yb (g132L0ok m hE m),nb rfl,trivial⟩,qi ⟨nb rfl,yb (g132L1ok m hE m),trivial⟩,trivial⟩) (fun x=>kR)
def g130H:Hints:=⟨[J [0,1,4],J' [(0,1)] [0,1,4],J' [(0,1),(1,1),(6,1)] [4]],[],[],[4],[],[[false,false]]⟩
def g130T:FunT:=⟨130,[sB,.a (.c (.imm (.int .u32)))],.a (.agg [.bool,(.imm (.int .u32))]),[sD,sD],fun x=>g130 m x.1 x.2.1⟩
theorem g130ok:FO (g130T m):=fk g130H (g130T m) func130 (AllF.mem (l:=[g132T m]) ⟨g132ok m,trivial⟩)
def g72H:Hints:=⟨[J [0,2],J [0,2,3],J [0,2,3,7],J [0,2,3],J' [(0,1)] [2]],[],[],[2],[],[[false,false]]⟩
def g72T:FunT:=⟨72,[sI],.a (.agg [.bool,(.imm (.int .u32))]),[sD],fun x=>g72 m x.1⟩
theorem g72ok:FO (g72T m):=fk g72H (g72T m) func72 (AllF.mem (l:=[g130T m]) ⟨g130ok m,trivial⟩)
def g126H:Hints:=⟨[J [1,2],J [2]],[],[],[2],[],[[false,false]]⟩
def g126T:FunT:=⟨126,[.a (.agg [.bool,(.imm (.int .u32))])],.a (.agg [.bool,(.imm (.int .u32))]),[sD],fun x=>g126 m x.1.1 x.1.2.1⟩
theorem g126ok:FO (g126T m):=fk g126H (g126T m) func126 (AllF.mem (l:=[g130T m]) ⟨g130ok m,trivial⟩)
def g62H:Hints:=⟨[J [0],J [0]],[],[],[0],[],[[false,false,true,false]]⟩
def g62T:FunT:=⟨62,[],.a (.agg [.bool,.bool,(.nm 0 (.int .u32)),(.int .i64)]),[],fun x=>g62 m⟩
theorem g62ok:FO (g62T m):=fk g62H (g62T m) func62 noF
def g215H:Hints:=⟨[J [0],J [0,4],J [2],J [2]],[],[],[2],[],[[false]]⟩
def g215T:FunT:=⟨215,[.a (.c (.int .u32))],sI,[sD],fun x=>g215 m x.1⟩
theorem g215ok:FO (g215T m):=fk g215H (g215T m) func215 noF
def g127H:Hints:=⟨[J [1],J [3],J [3,4],J [3,4,11],J' [(0,1)] [3,4],J [3,4,18],J' [(2,1)] [2],J [2]],[(0,[3,4])],[(0,[]),(1,[3,4])],[2],[],[[false]]⟩
def g127T:FunT:=⟨127,[.a (.agg [.bool,(.imm (.int .u32))])],sI,[sD],fun x=>g127 m x.1.1 x.1.2.1⟩
noncomputable def g127C:Code:=codeOf f127
noncomputable def g127B0:Code:=qo g127C 0 0
theorem g127K:FL [g132T m,g215T m]:=AllF.mem ⟨g132ok m,g215ok m,trivial⟩
def g127L0X:LT:=⟨0,[(3,.a (.c (.nm 0 (.int .u32)))),(4,sI)],[(.ret,[(2,sI)]),(.exit 0,[])],fun n x=>g127L0 m n x.1 x.2.1⟩
theorem g127L0ok {E} (hE:EO E 27 g127H) (n):LO E g127B0 ((g127L0X m).at n):=lk hE (g127K m) (g127L0X m) n
theorem g127ok:FO (g127T m):=f1' g127H (g127T m) func127 (g127K m) fun _ h=>g127L0ok m h m
def g66H:Hints:=⟨[J [1,2],J [2]],[],[],[2],[],[[false,false]]⟩
def g66T:FunT:=⟨66,[.a (.agg [.bool,(.imm (.int .u32))])],.a (.agg [.bool,(.imm (.int .u32))]),[sD],fun x=>g66 m x.1.1 x.1.2.1⟩
theorem g66ok:FO (g66T m):=fk g66H (g66T m) func66 (AllF.mem (l:=[g130T m]) ⟨g130ok m,trivial⟩)
def g138H:Hints:=⟨[J [0,1],J [0,1,5],J [0,1,5,6],J [0,1,5,6,7],J [0,1,5,6,7,14],J' [(0,1)] [0,1,5,6,7],J' [(0,1)] [0,1,5,6,7],J' [(0,1)] [0,1,5,6,7],J' [(0,1)] [0,1,5,6,7],J' [(0,1),(1,1)] [4]],[(0,[0,1,5,6,7])],[(0,[5,6]),(1,[0,1,5,6,7])],[4],[],[[true]]⟩
def g138T:FunT:=⟨138,[.a (.c (.imm (.int .u32))),sI],.a (.c (.nm 0 (.int .u32))),[sD,sD],fun x=>g138 m x.1 x.2.1⟩
noncomputable def g138C:Code:=codeOf f138
noncomputable def g138B0:Code:=qo g138C 0 0
def g138L0X:LT:=⟨0,[(0,.a (.c (.imm (.int .u32)))),(1,sI),(5,.a (.c (.nm 0 (.int .u32)))),(6,sU),(7,sI)],[(.exit 0,[(5,.a (.c (.nm 0 (.int .u32)))),(6,sU)])],fun n x=>g138L0 m n x.1 x.2.1 x.2.2.1 x.2.2.2.1 x.2.2.2.2.1⟩
theorem g138L0ok {E} (hE:EO E 39 g138H) (n):LO E g138B0 ((g138L0X m).at n):=lk hE noF (g138L0X m) n
theorem g138ok:FO (g138T m):=f1' g138H (g138T m) func138 noF fun _ h=>g138L0ok m h m
def g139H:Hints:=⟨[J [0,1],J [0,1,6],J [0,1,6,7],J' [(4,1)] [0,1,6,7,21],J' [(0,1)] [0,1,6,7],J' [(0,1),(1,1)] [0,1,6,7],J [0,1,6,8],J [0,1,6,8,9],J [0,1,6,8,9,10],J [0,1,6,8,9,10,39],J' [(0,1)] [0,1,6,8,9,10],J [0,1,6,8,9,10,11],J [0,1,6,8,9,10,11,51],J' [(0,1)] [0,1,6,8,9,10,11],J' [(4,1)] [0,1,6,8,9,10,11,75],J [0,1,6,8,9,10,11],J' [(0,1),(1,1)] [0,1,6,8,9,10],J' [(0,1),(1,1)] [4,5]],[(0,[0,1,6,7]),(2,[0,1,6,8,9,10])],[(0,[0,1,6]),(1,[0,1,6,7]),(2,[6,8]),(3,[0,1,6,8,9,10])],[4,5],[],[[true],[false]]⟩
def g139T:FunT:=⟨139,[.a (.c (.imm (.int .u32))),sI],.tup [(.c (.nm 0 (.int .u32))),(.c .bool)],[sD,sD],fun x=>g139 m x.1 x.2.1⟩
noncomputable def g139C:Code:=codeOf f139
noncomputable def g139B0:Code:=qo g139C 0 0
noncomputable def g139B2:Code:=qo g139C 0 1
def g139L1X:LT:=⟨2,[(0,.a (.c (.imm (.int .u32)))),(1,sI),(6,sB),(8,.a (.c (.nm 0 (.int .u32)))),(9,sI),(10,sI)],[(.exit 2,[(6,sB),(8,.a (.c (.nm 0 (.int .u32))))])],fun n x=>g139L1 m n x.1 x.2.1 x.2.2.1 x.2.2.2.1 x.2.2.2.2.1 x.2.2.2.2.2.1⟩
theorem g139L1ok {E} (hE:EO E 85 g139H) (n):LO E g139B2 ((g139L1X m).at n):=lk hE noF (g139L1X m) n
def g139L0X:LT:=⟨0,[(0,.a (.c (.imm (.int .u32)))),(1,sI),(6,sB),(7,sI)],[(.exit 0,[(0,.a (.c (.imm (.int .u32)))),(1,sI),(6,sB)])],fun n x=>g139L0 m n x.1 x.2.1 x.2.2.1 x.2.2.2.1⟩
theorem g139L0ok {E} (hE:EO E 85 g139H) (n):LO E g139B0 ((g139L0X m).at n):=lk hE noF (g139L0X m) n
theorem g139ok:FO (g139T m):=
 fok hmix htt (H:=g139H) (g139T m) func139 kR noF (L:=[(g139L0X m).at m,(g139L1X m).at m]) (l:=[(0,g139B0),(2,g139B2)]) kR (fun _ hE _ _=>⟨qi ⟨yb (g139L0ok m hE m),nb rfl,trivial⟩,qi ⟨nb rfl,yb (g139L1ok m hE m),trivial⟩,trivial⟩) (fun x=>kR)
def g134H:Hints:=⟨[J [1,2],J [2]],[],[],[2],[],[[false,false]]⟩
def g134T:FunT:=⟨134,[.a (.agg [.bool,(.imm (.int .u32))])],.a (.agg [.bool,(.imm (.int .u32))]),[sD],fun x=>g134 m x.1.1 x.1.2.1⟩
theorem g134ok:FO (g134T m):=fk g134H (g134T m) func134 (AllF.mem (l:=[g130T m]) ⟨g130ok m,trivial⟩)
def g135H:Hints:=⟨[J [0,1],J [0,1,5],J [0,1,5,6],J [0,1,5,6,7],J [0,1,5,6,7,14],J' [(0,1)] [0,1,5,6,7],J [0,1,5,6,7,20],J' [(0,1)] [0,1,5,6,7],J [0,1,5,6,7,31],J' [(0,1)] [0,1,5,6,7],J' [(0,1)] [0,1,5,6,7],J' [(0,1)] [0,1,5,6,7],J' [(0,1),(1,1)] [4]],[(0,[0,1,5,6,7])],[(0,[5,6]),(1,[0,1,5,6,7])],[4],[],[[true]]⟩
def g135T:FunT:=⟨135,[.a (.c (.imm (.int .u32))),.a (.c (.imm (.int .u32)))],.a (.c (.nm 0 (.int .u32))),[sD,sD],fun x=>g135 m x.1 x.2.1⟩
noncomputable def g135C:Code:=codeOf f135
noncomputable def g135B0:Code:=qo g135C 0 0
def g135L0X:LT:=⟨0,[(0,.a (.c (.imm (.int .u32)))),(1,.a (.c (.imm (.int .u32)))),(5,.a (.c (.nm 0 (.int .u32)))),(6,sU),(7,sI)],[(.exit 0,[(5,.a (.c (.nm 0 (.int .u32)))),(6,sU)])],fun n x=>g135L0 m n x.1 x.2.1 x.2.2.1 x.2.2.2.1 x.2.2.2.2.1⟩
theorem g135L0ok {E} (hE:EO E 51 g135H) (n):LO E g135B0 ((g135L0X m).at n):=lk hE noF (g135L0X m) n
theorem g135ok:FO (g135T m):=f1' g135H (g135T m) func135 noF fun _ h=>g135L0ok m h m
def g136H:Hints:=⟨[J [0,1],J [0,1,10],J' [(0,1),(2,1)] [15],J [4],J [4],J [0,1,5],J [0,1,5,20],J' [(0,1)] [0,1,5],J [0,1,5,31],J' [(0,1),(4,1)] [40],J [4],J [4],J [4]],[(0,[0,1,5])],[(0,[]),(1,[0,1,5])],[4],[],[[false]]⟩
def g136T:FunT:=⟨136,[.a (.c (.imm (.int .u32))),.a (.c (.imm (.int .u32)))],sI,[sD,sD],fun x=>g136 m x.1 x.2.1⟩
noncomputable def g136C:Code:=codeOf f136
noncomputable def g136B0:Code:=qo g136C 0 0
def g136L0X:LT:=⟨0,[(0,.a (.c (.imm (.int .u32)))),(1,.a (.c (.imm (.int .u32)))),(5,sI)],[(.ret,[(4,sI)]),(.exit 0,[])],fun n x=>g136L0 m n x.1 x.2.1 x.2.2.1⟩
theorem g136L0ok {E} (hE:EO E 41 g136H) (n):LO E g136B0 ((g136L0X m).at n):=lk hE noF (g136L0X m) n
theorem g136ok:FO (g136T m):=f1' g136H (g136T m) func136 noF fun _ h=>g136L0ok m h m
def g137H:Hints:=⟨[J [0,1],J [0,1,5],J [0,1,5,6],J [0,1,5,6,7],J [0,1,5,6,7,12],J' [(0,1)] [0,1,5,6,7],J' [(5,1)] [0,1,5,7,8],J [0,1,5,7,8,25],J' [(0,1)] [0,1,5,7,8],J' [(0,1)] [0,1,5,7,8],J' [(0,1)] [0,1,5,6,7],J' [(0,1)] [4]],[(0,[0,1,5,6,7])],[(0,[5]),(1,[0,1,5,6,7])],[4],[],[[true]]⟩
def g137T:FunT:=⟨137,[.a (.c (.imm (.int .u32))),.a (.c (.imm (.int .u32)))],.a (.c (.nm 0 (.int .u32))),[sD,sD],fun x=>g137 m x.1 x.2.1⟩
noncomputable def g137C:Code:=codeOf f137
noncomputable def g137B0:Code:=qo g137C 0 0
def g137L0X:LT:=⟨0,[(0,.a (.c (.imm (.int .u32)))),(1,.a (.c (.imm (.int .u32)))),(5,.a (.c (.nm 0 (.int .u32)))),(6,sU),(7,sI)],[(.exit 0,[(5,.a (.c (.nm 0 (.int .u32))))])],fun n x=>g137L0 m n x.1 x.2.1 x.2.2.1 x.2.2.2.1 x.2.2.2.2.1⟩
theorem g137L0ok {E} (hE:EO E 41 g137H) (n):LO E g137B0 ((g137L0X m).at n):=lk hE noF (g137L0X m) n
theorem g137ok:FO (g137T m):=f1' g137H (g137T m) func137 noF fun _ h=>g137L0ok m h m
def g70H:Hints:=⟨[J [2,3,4],J [2,3,4,5,6],J [2,3,4,5,6,17],J' [(2,1),(3,1)] [4],J [2,3,4,5,6,27],J' [(2,1),(3,1)] [4],J' [(2,1),(3,1)] [4]],[],[],[4],[],[[false,false]]⟩
def g70T:FunT:=⟨70,[.a (.agg [.bool,(.imm (.int .u32))]),.a (.agg [.bool,(.imm (.int .u32))])],.a (.agg [.bool,(.imm (.int .u32))]),[sD,sD],fun x=>g70 m x.1.1 x.1.2.1 x.2.1.1 x.2.1.2.1⟩
theorem g70ok:FO (g70T m):=fk g70H (g70T m) func70 (AllF.mem (l:=[g132T m,g135T m,g130T m,g136T m,g137T m]) ⟨g132ok m,g135ok m,g130ok m,g136ok m,g137ok m,trivial⟩)
def g140H:Hints:=⟨[J [2,3,4],J [4]],[],[],[4],[],[[false,false]]⟩
def g140T:FunT:=⟨140,[.a (.agg [.bool,(.imm (.int .u32))]),.a (.agg [.bool,(.imm (.int .u32))])],.a (.agg [.bool,(.imm (.int .u32))]),[sD,sD],fun x=>g140 m x.1.1 x.1.2.1 x.2.1.1 x.2.1.2.1⟩
theorem g140ok:FO (g140T m):=fk g140H (g140T m) func140 (AllF.mem (l:=[g134T m,g70T m]) ⟨g134ok m,g70ok m,trivial⟩)
def g71H:Hints:=⟨[J [1,2,4],J [1,2,4],J [1,2,4,11],J' [(4,1)] [4],J' [(2,1),(5,1)] [2,4,5,6],J' [(2,1)] [2,4,6,7],J' [(2,1),(3,1)] [4,7,35],J [4,7],J [4]],[],[],[4],[],[[false,false]]⟩
def g71T:FunT:=⟨71,[.a (.agg [.bool,(.imm (.int .u32))]),sI],.a (.agg [.bool,(.imm (.int .u32))]),[sD,sD],fun x=>g71 m x.1.1 x.1.2.1 x.2.1⟩
theorem g71ok:FO (g71T m):=fk g71H (g71T m) func71 (AllF.mem (l:=[g126T m,g138T m,g130T m,g139T m,g72T m,g140T m]) ⟨g126ok m,g138ok m,g130ok m,g139ok m,g72ok m,g140ok m,trivial⟩)
def g128H:Hints:=⟨[J [1,2,4],J [1,2,4,6],J [1,2,4],J' [(0,1)] [1,2,4],J' [(1,1)] [4]],[(0,[1,2,4])],[(0,[1,2,4]),(1,[1,2,4])],[4],[],[[false,false]]⟩
def g128T:FunT:=⟨128,[.a (.agg [.bool,(.imm (.int .u32))]),sI],.a (.agg [.bool,(.imm (.int .u32))]),[sD,sD],fun x=>g128 m x.1.1 x.1.2.1 x.2.1⟩
noncomputable def g128C:Code:=codeOf f128
noncomputable def g128B0:Code:=qo g128C 0 0
theorem g128K:FL [g71T m]:=AllF.mem ⟨g71ok m,trivial⟩
def g128L0X:LT:=⟨0,[(1,sI),(2,sX 0 [.bool,.imm (.int .u32)]),(4,sX 1 [.bool,.nm 2 (.int .u32)])],[(.exit 0,[(1,sI),(2,sX 0 [.bool,.imm (.int .u32)]),(4,sX 1 [.bool,.nm 2 (.int .u32)])])],fun n x=>g128L0 m n x.1 x.2.1.1 x.2.1.2.1 x.2.2.1.1 x.2.2.1.2.1⟩
theorem g128L0ok {E} (hE:EO E 15 g128H) (n):LO E g128B0 ((g128L0X m).at n):=lk hE (g128K m) (g128L0X m) n
theorem g128ok:FO (g128T m):=f1' g128H (g128T m) func128 (g128K m) fun _ h=>g128L0ok m h m
def g216H:Hints:=⟨[J [0,2],J [0,2,4],J' [(0,1)] [0],J [0,2],J [0,2,8],J' [(0,1)] [0,2],J' [(0,1)] [0,2],J' [(0,1),(1,1)] [2]],[],[],[2],[],[[false]]⟩
def g216T:FunT:=⟨216,[.a (.c (.int .u32))],sI,[sD],fun x=>g216 m x.1⟩
theorem g216ok:FO (g216T m):=fk g216H (g216T m) func216 noF
def g129H:Hints:=⟨[J [1],J [3],J [3,9],J [2],J [2]],[],[],[2],[],[[false]]⟩
def g129T:FunT:=⟨129,[.a (.agg [.bool,(.imm (.int .u32))])],sI,[sD],fun x=>g129 m x.1.1 x.1.2.1⟩
theorem g129ok:FO (g129T m):=fk g129H (g129T m) func129 (AllF.mem (l:=[g132T m,g216T m]) ⟨g132ok m,g216ok m,trivial⟩)
def g63H:Hints:=⟨[J [1,2,4],J [1,2,4,5],J [1,2,4,5,13],J [4],J [1,2,4,5,16],J [4],J [1,2,4,5,6],J' [(0,1)] [2,4,5,6,7],J [2,4,5,6,7],J' [(1,1)] [2,4,5,7],J' [(2,1)] [2,4,5,7,36],J [4],J [4,5,7],J' [(1,1)] [4]],[],[],[4],[],[[false,false,false,false]]⟩
def g63T:FunT:=⟨63,[.a (.agg [.bool,(.imm (.int .u32))]),sI],.a (.agg [.bool,.bool,(.imm (.int .u32)),(.int .i64)]),[sD,sD],fun x=>g63 m x.1.1 x.1.2.1 x.2.1⟩
theorem g63ok:FO (g63T m):=fk g63H (g63T m) func63 (AllF.mem (l:=[g126T m,g62T m,g127T m,g66T m,g128T m,g129T m]) ⟨g126ok m,g62ok m,g127ok m,g66ok m,g128ok m,g129ok m,trivial⟩)
def g22H:Hints:=⟨[J [0,2],J' [(0,1)] [2]],[],[],[2],[],[[false,false,false,false]]⟩
def g22T:FunT:=⟨22,[sI],.a (.agg [.bool,.bool,(.imm (.int .u32)),(.int .i64)]),[sD],fun x=>g22 m x.1⟩
theorem g22ok:FO (g22T m):=fk g22H (g22T m) func22 (AllF.mem (l:=[g72T m,g63T m]) ⟨g72ok m,g63ok m,trivial⟩)
def g61H:Hints:=⟨[J [1,2],J [1,2,4],J [2],J [2]],[],[],[2],[],[[false,false,false,false]]⟩
def g61T:FunT:=⟨61,[.a (.agg [.bool,.bool,(.imm (.int .u32)),(.int .i64)])],.a (.agg [.bool,.bool,(.imm (.int .u32)),(.int .i64)]),[sD],fun x=>g61 m x.1.1 x.1.2.1 x.1.2.2.1 x.1.2.2.2.1⟩
theorem g61ok:FO (g61T m):=fk g61H (g61T m) func61 (AllF.mem (l:=[g62T m,g63T m]) ⟨g62ok m,g63ok m,trivial⟩)
def g69H:Hints:=⟨[J [1],J [1],J [1,5],J [2],J [10],J [2],J [2]],[],[(0,[])],[2],[],[[false]]⟩
def g69T:FunT:=⟨69,[.a (.agg [.bool,(.imm (.int .u32))])],sI,[sD],fun x=>g69 m x.1.1 x.1.2.1⟩
theorem g69ok:FO (g69T m):=fk g69H (g69T m) func69 (AllF.mem (l:=[g126T m]) ⟨g126ok m,trivial⟩)
def g78H:Hints:=⟨[J [0,1],J' [(0,1)] [1,5],J' [(0,1)] [4],J' [(0,1)] [4]],[],[],[4],[],[[false]]⟩
def g78T:FunT:=⟨78,[sB,sU],sU,[sD,sD],fun x=>g78 m x.1 x.2.1⟩
theorem g78ok:FO (g78T m):=fk g78H (g78T m) func78 noF
def g217H:Hints:=⟨[J [0,1],J' [(2,1),(5,1),(10,1),(13,1)] [0,21],J' [(0,1)] [4],J' [(0,1)] [4]],[],[],[4],[],[[false]]⟩
def g217T:FunT:=⟨217,[sB,sI],sU,[sD,sD],fun x=>g217 m x.1 x.2.1⟩
theorem g217ok:FO (g217T m):=fk g217H (g217T m) func217 (AllF.mem (l:=[g78T m]) ⟨g78ok m,trivial⟩)
def g260H:Hints:=⟨[J [1,2],J' [(3,1),(5,1)] [6],J' [(0,1)] [4]],[],[],[4],[],[[false]]⟩
def g260T:FunT:=⟨260,[.a (.agg [.bool,(.imm (.int .u32))]),sI],sB,[sD,sD],fun x=>g260 m x.1.1 x.1.2.1 x.2.1⟩
theorem g260ok:FO (g260T m):=fk g260H (g260T m) func260 (AllF.mem (l:=[g132T m,g139T m]) ⟨g132ok m,g139ok m,trivial⟩)
def g261H:Hints:=⟨[J [0,1,2,3],J' [(0,1)] [0,1,2,9],J [0,1,2,9,10],J' [(0,1)] [8],J [0,1,2,9,13],J' [(0,1)] [8],J [1,2,17],J [8],J' [(2,1),(5,1),(6,1)] [8]],[],[(0,[1,2])],[8],[],[[false]]⟩
def g261T:FunT:=⟨261,[sB,sI,sB,sI],sB,[sD,sD,sD,sD],fun x=>g261 m x.1 x.2.1 x.2.2.1 x.2.2.2.1⟩
theorem g261ok:FO (g261T m):=fk g261H (g261T m) func261 noF
def g218H:Hints:=⟨[J [0,2,3,4,6,10],J [0,2,3,4,6,10,11],J [0,2,3,4,6,10,11,12],J' [(0,1),(2,1)] [0,2,3,4,6,10,11,27],J [10],J [0,2,3,4,6,10,11,13],J [0,2,3,4,6,10,11,13,30],J [0,2,3,4,6,10,11,13,14],J' [(3,1)] [0,2,3,4,6,10,11,13,42],J [0,2,3,4,6,10,11,13],J' [(0,1),(1,1),(3,1)] [0,4,10,11,13,49],J [0,4,10,11,13],J' [(3,1)] [0,4,10,11,13,15],J' [(0,1),(1,1),(2,1),(3,1)] [10,11,62],J [10,11],J [10]],[],[],[10],[],[[false,false]]⟩
def g218T:FunT:=⟨218,[sB,.a (.agg [.bool,(.imm (.int .u32))]),sI,sB,sI],.a (.agg [.bool,(.imm (.int .u32))]),[sD,sD,sD,sD,sD],fun x=>g218 m x.1 x.2.1.1 x.2.1.2.1 x.2.2.1 x.2.2.2.1 x.2.2.2.2.1⟩
theorem g218ok:FO (g218T m):=fk g218H (g218T m) func218 (AllF.mem (l:=[g128T m,g260T m,g127T m,g69T m,g261T m,g72T m,g70T m]) ⟨g128ok m,g260ok m,g127ok m,g69ok m,g261ok m,g72ok m,g70ok m,trivial⟩)
def g219H:Hints:=⟨[J [1],J [1],J [1,11],J [2,3],J [1,4],J [1,4,5],J [1,4,5,16],J' [(0,1)] [1,4,5],J' [(0,1)] [1,4,5],J [4,31],J [4,33],J [2,3],J' [(0,1)] [2,3],J [4,40],J [2,3],J' [(0,1)] [2,3]],[(0,[1,4,5])],[(0,[1,4]),(1,[1,4,5])],[2,3],[],[[false],[false]]⟩
def g219T:FunT:=⟨219,[.a (.agg [.bool,(.imm (.int .u32))])],.tup [(.c (.int .i64)),(.c .bool)],[sD],fun x=>g219 m x.1.1 x.1.2.1⟩
noncomputable def g219C:Code:=codeOf f219
noncomputable def g219B0:Code:=qo g219C 0 0
theorem g219K:FL [g126T m]:=AllF.mem ⟨g126ok m,trivial⟩
def g219L0X:LT:=⟨0,[(1,sX 0 [.bool,.imm (.int .u32)]),(4,sU),(5,sI)],[(.exit 0,[(1,sX 0 [.bool,.imm (.int .u32)]),(4,sU)])],fun n x=>g219L0 m n x.1.1 x.1.2.1 x.2.1 x.2.2.1⟩
theorem g219L0ok {E} (hE:EO E 43 g219H) (n):LO E g219B0 ((g219L0X m).at n):=lk hE (g219K m) (g219L0X m) n
theorem g219ok:FO (g219T m):=f1' g219H (g219T m) func219 (g219K m) fun _ h=>g219L0ok m h m
def g142H:Hints:=⟨[J [0,2,3,4,6],J [0,2,3,4,6,11],J [0,2,3,4,6,11,22],J' [(0,1),(1,1)] [10],J' [(0,1)] [0,2,3,4,6,12],J [0,2,3,4,6,12,13],J [0,2,3,4,6,12,13,31],J' [(3,1),(5,1)] [0,4,12,13],J' [(1,1)] [0,4,12,13],J' [(2,1)] [0,4,12,14],J [0,4,12,14,51],J [0,4,12,14],J' [(0,1)] [0,4,12,14],J' [(2,1)] [0,4,12,14,54],J' [(0,1),(1,1)] [10],J [0,12,14,65],J' [(0,1),(1,1),(5,1)] [10],J' [(0,1),(1,1)] [10]],[],[(0,[0,14])],[10],[],[[false]]⟩
def g142T:FunT:=⟨142,[sB,.a (.agg [.bool,(.imm (.int .u32))]),sI,sB,sI],sU,[sD,sD,sD,sD,sD],fun x=>g142 m x.1 x.2.1.1 x.2.1.2.1 x.2.2.1 x.2.2.2.1 x.2.2.2.2.1⟩
theorem g142ok:FO (g142T m):=fk g142H (g142T m) func142 (AllF.mem (l:=[g129T m,g217T m,g218T m,g219T m,g78T m,g71T m]) ⟨g129ok m,g217ok m,g218ok m,g219ok m,g78ok m,g71ok m,trivial⟩)
def g74H:Hints:=⟨[J [1,2],J [1,2],J [1,2,8],J [4],J [1,2,12],J [4],J' [(8,1)] [4]],[],[],[4],[],[[false]]⟩
def g74T:FunT:=⟨74,[.a (.agg [.bool,.bool,(.imm (.int .u32)),(.int .i64)]),sI],sU,[sD,sD],fun x=>g74 m x.1.1 x.1.2.1 x.1.2.2.1 x.1.2.2.2.1 x.2.1⟩
theorem g74ok:FO (g74T m):=fk g74H (g74T m) func74 (AllF.mem (l:=[g61T m,g69T m,g66T m,g142T m]) ⟨g61ok m,g69ok m,g66ok m,g142ok m,trivial⟩)
def g26H:Hints:=⟨[J [0,1],J' [(0,1),(2,1)] [4]],[],[],[4],[],[[false]]⟩
def g26T:FunT:=⟨26,[sI,sI],sU,[sD,sD],fun x=>g26 m x.1 x.2.1⟩
theorem g26ok:FO (g26T m):=fk g26H (g26T m) func26 (AllF.mem (l:=[g22T m,g74T m]) ⟨g22ok m,g74ok m,trivial⟩)
def g65H:Hints:=⟨[J [0],J' [(0,1)] [2]],[],[],[2],[],[[false]]⟩
def g65T:FunT:=⟨65,[sU],sB,[sD],fun x=>g65 m x.1⟩
theorem g65ok:FO (g65T m):=fk g65H (g65T m) func65 noF
def g143H:Hints:=⟨[J [0],J [3,4],J' [(2,1)] [3,4,10],J [2],J [3,4,17],J [2],J' [(0,1),(2,1),(3,1)] [20],J [2],J [2]],[],[(0,[])],[2],[],[[false]]⟩
def g143T:FunT:=⟨143,[sU],sI,[sD],fun x=>g143 m x.1⟩
theorem g143ok:FO (g143T m):=fk g143H (g143T m) func143 noF
def g75H:Hints:=⟨[J [0],J' [(0,1)] [2]],[],[],[2],[],[[false]]⟩
def g75T:FunT:=⟨75,[sU],sB,[sD],fun x=>g75 m x.1⟩
theorem g75ok:FO (g75T m):=fk g75H (g75T m) func75 (AllF.mem (l:=[g143T m]) ⟨g143ok m,trivial⟩)
def g76H:Hints:=⟨[J [0],J' [(0,1)] [2]],[],[],[2],[],[[false]]⟩
def g76T:FunT:=⟨76,[sU],sB,[sD],fun x=>g76 m x.1⟩
theorem g76ok:FO (g76T m):=fk g76H (g76T m) func76 (AllF.mem (l:=[g143T m]) ⟨g143ok m,trivial⟩)
def g77H:Hints:=⟨[J [0],J' [(0,1)] [2]],[],[],[2],[],[[false]]⟩
def g77T:FunT:=⟨77,[sU],sB,[sD],fun x=>g77 m x.1⟩
theorem g77ok:FO (g77T m):=fk g77H (g77T m) func77 (AllF.mem (l:=[g143T m]) ⟨g143ok m,trivial⟩)
def g53H:Hints:=⟨[J [0],J' [(0,1)] [2]],[],[],[2],[],[[false]]⟩
def g53T:FunT:=⟨53,[sU],sB,[sD],fun x=>g53 m x.1⟩
theorem g53ok:FO (g53T m):=fk g53H (g53T m) func53 noF
def g18H:Hints:=⟨[J [0,2],J [0,2,8],J [2],J [0,2,3,4],J [0,2,3,4,5],J [0,2,3,4,5,17],J' [(0,1)] [0,2,3,4],J' [(0,1)] [0,2,4,5],J' [(0,1),(9,1)] [2]],[],[],[2],[],[[false,false,false,false]]⟩
def g18T:FunT:=⟨18,[sU],.a (.agg [.bool,.bool,(.imm (.int .u32)),(.int .i64)]),[sD],fun x=>g18 m x.1⟩
theorem g18ok:FO (g18T m):=fk g18H (g18T m) func18 (AllF.mem (l:=[g53T m,g62T m,g65T m,g63T m]) ⟨g53ok m,g62ok m,g65ok m,g63ok m,trivial⟩)
def g280H:Hints:=⟨[J [0],J' [(0,1)] [2]],[],[],[2],[],[[false]]⟩
def g280T:FunT:=⟨280,[.a (.c (.int .u32))],sI,[sD],fun x=>g280 m x.1⟩
theorem g280ok:FO (g280T m):=fk g280H (g280T m) func280 (AllF.mem (l:=[g216T m]) ⟨g216ok m,trivial⟩)
def g281H:Hints:=⟨[J [0,1,2,3],J [0,1,2,3,9],J [0,1,2,3,9,10],J [0,1,2,3,9,10,11,12],J [0,1,2,3,9,10,11,12,13],J [0,1,2,3,9,10,11,12,13,23],J' [(0,1)] [0,1,2,3,9,10,11,12,13],J [0,1,2,3,9,10,11,12,13,28],J' [(0,1)] [0,1,2,3,9,10,11,12,13],J' [(7,1)] [0,1,2,3,9,10,12,13,14],J' [(0,1)] [0,1,2,3,9,10,12,13,14],J [0,1,2,3,9,10,12,13,14],J' [(0,1)] [0,1,2,3,9,10,11,12,13],J' [(0,1)] [0,2,9,10,60],J [0,8],J [0,2,9,10,15],J [0,2,9,10,15,63],J' [(0,1)] [0,2,9,10,15],J [0,2,9,10,15],J [0,8]],[(0,[0,1,2,3,9,10,11,12,13]),(2,[0,2,9,10,15])],[(0,[0,2,9,10,11]),(1,[0,1,2,3,9,10,11,12,13]),(2,[0]),(3,[0,2,9,10,15])],[0,8],[0],[[false]]⟩
def g281T:FunT:=⟨281,[.a (.c (.nm 0 (.int .u32))),.a (.c (.imm (.int .u32))),sI,sU],sB,[.a (.c (.nm 0 (.int .u32))),sD,sD,sD],fun x=>g281 m x.1 x.2.1 x.2.2.1 x.2.2.2.1⟩
noncomputable def g281C:Code:=codeOf f281
noncomputable def g281B0:Code:=qo g281C 0 0
noncomputable def g281B2:Code:=qo g281C 0 1
def g281L1X:LT:=⟨2,[(0,.a (.c (.nm 0 (.int .u32)))),(2,sI),(9,sI),(10,.a (.c (.nm 1 (.int .u32)))),(15,sI)],[(.exit 2,[(0,.a (.c (.nm 0 (.int .u32))))])],fun n x=>g281L1 m n x.1 x.2.1 x.2.2.1 x.2.2.2.1 x.2.2.2.2.1⟩
theorem g281L1ok {E} (hE:EO E 75 g281H) (n):LO E g281B2 ((g281L1X m).at n):=lk hE noF (g281L1X m) n
def g281L0X:LT:=⟨0,[(0,.a (.c (.nm 0 (.int .u32)))),(1,.a (.c (.imm (.int .u32)))),(2,sI),(3,sU),(9,sI),(10,.a (.c (.nm 1 (.int .u32)))),(11,sU),(12,sU),(13,sI)],[(.exit 0,[(0,.a (.c (.nm 0 (.int .u32)))),(2,sI),(9,sI),(10,.a (.c (.nm 1 (.int .u32)))),(11,sU)])],fun n x=>g281L0 m n x.1 x.2.1 x.2.2.1 x.2.2.2.1 x.2.2.2.2.1 x.2.2.2.2.2.1 x.2.2.2.2.2.2.1 x.2.2.2.2.2.2.2.1 x.2.2.2.2.2.2.2.2.1⟩
theorem g281L0ok {E} (hE:EO E 75 g281H) (n):LO E g281B0 ((g281L0X m).at n):=lk hE noF (g281L0X m) n
theorem g281ok:FO (g281T m):=
 fok hmix htt (H:=g281H) (g281T m) func281 kR noF (L:=[(g281L0X m).at m,(g281L1X m).at m]) (l:=[(0,g281B0),(2,g281B2)]) kR (fun _ hE _ _=>⟨qi ⟨yb (g281L0ok m hE m),nb rfl,trivial⟩,qi ⟨nb rfl,yb (g281L1ok m hE m),trivial⟩,trivial⟩) (fun x=>kR)
def g262H:Hints:=⟨[J [0,1],J [0,1,19],J' [(0,1)] [4,5],J [0,1,6],J [0,1,6,7],J' [(3,1)] [0,6,7,8,9],J [0,6,7,8,9,41],J' [(0,1)] [0,6,7,8,9],J [0,6,7,8,9,10],J' [(0,1)] [6,7,8,9,10,11],J [6,7,8,9,10,11,56],J' [(0,1)] [6,7,8,9,10,11],J [6,7,8,9,10,11,12],J' [(0,1)] [6,7,8,9,10,11,13],J' [(4,11)] [6,7,8,9,10,11,13,90],J' [(0,1)] [6,7,8,9,10,11,13],J' [(2,1)] [6,7,8,9,10,11],J' [(0,1),(2,1),(4,1)] [10,14],J' [(0,1),(2,1)] [4,5]],[(0,[6,7,8,9,10,11]),(2,[6,7,8,9,10,11,13])],[(0,[7,8,10]),(1,[6,7,8,9,10,11]),(2,[6,7,8,9,10,11,13]),(3,[6,7,8,9,10,11,13])],[4,5],[],[[true],[false]]⟩
def g262T:FunT:=⟨262,[.a (.c (.imm (.int .u32))),.a (.c (.imm (.int .u32)))],.tup [(.c (.nm 0 (.int .u32))),(.c (.imm (.int .u32)))],[sD,sD],fun x=>g262 m x.1 x.2.1⟩
noncomputable def g262C:Code:=codeOf f262
noncomputable def g262B0:Code:=qo g262C 0 0
noncomputable def g262B2:Code:=qo g262B0 0 0
theorem g262K:FL [g136T m,g280T m,g138T m,g281T m,g132T m,g139T m]:=AllF.mem ⟨g136ok m,g280ok m,g138ok m,g281ok m,g132ok m,g139ok m,trivial⟩
def g262L1X:LT:=⟨2,[(6,sI),(7,sI),(8,.a (.c (.nm 0 (.int .u32)))),(9,.a (.c (.nm 1 (.int .u32)))),(10,.a (.c (.nm 2 (.int .u32)))),(11,sI),(13,sU)],[(.exit 2,[(6,sI),(7,sI),(8,.a (.c (.nm 0 (.int .u32)))),(9,.a (.c (.nm 1 (.int .u32)))),(10,.a (.c (.nm 2 (.int .u32)))),(11,sI),(13,sU)])],fun n x=>g262L1 m n x.1 x.2.1 x.2.2.1 x.2.2.2.1 x.2.2.2.2.1 x.2.2.2.2.2.1 x.2.2.2.2.2.2.1⟩
theorem g262L1ok {E} (hE:EO E 109 g262H) (n):LO E g262B2 ((g262L1X m).at n):=lk hE (g262K m) (g262L1X m) n
def g262L0X:LT:=⟨0,[(6,sI),(7,sI),(8,.a (.c (.nm 0 (.int .u32)))),(9,.a (.c (.nm 1 (.int .u32)))),(10,.a (.c (.nm 2 (.int .u32)))),(11,sI)],[(.exit 0,[(7,sI),(8,.a (.c (.nm 0 (.int .u32)))),(10,.a (.c (.nm 1 (.int .u32))))])],fun n x=>g262L0 m n x.1 x.2.1 x.2.2.1 x.2.2.2.1 x.2.2.2.2.1 x.2.2.2.2.2.1⟩
theorem g262L0ok {E} (hE:EO E 109 g262H) (n):LO E g262B0 ((g262L0X m).at n):=
 lok hmix htt hE (g262K m) (L:=[(g262L1X m).at m]) (g262L0X m) (l:=[(2,g262B2)]) kR (fun _ _=>⟨qi ⟨yb (g262L1ok m hE m),trivial⟩,trivial⟩) (fun n x=>kR) (fun _=>kR) n
theorem g262ok:FO (g262T m):=f1' g262H (g262T m) func262 (g262K m) fun _ h=>g262L0ok m h m
def g220H:Hints:=⟨[J [2,3,4,5],J [2,3,4,5],J' [(5,1)] [2,3,4,5,6,7],J' [(5,1),(9,1)] [3,4,5,8,9],J [3,4,5,8,9,35],J [3,4,5,8,9],J [4,5,8,9,41],J [4,5,8,9],J [4,5,8,9],J [4,5]],[],[],[4,5],[],[[false,false],[false,false]]⟩
def g220T:FunT:=⟨220,[.a (.agg [.bool,(.imm (.int .u32))]),.a (.agg [.bool,(.imm (.int .u32))])],.tup [(.agg [.bool,(.imm (.int .u32))]),(.agg [.bool,(.imm (.int .u32))])],[sD,sD],fun x=>g220 m x.1.1 x.1.2.1 x.2.1.1 x.2.1.2.1⟩
theorem g220ok:FO (g220T m):=fk g220H (g220T m) func220 (AllF.mem (l:=[g126T m,g262T m,g130T m,g69T m,g66T m,g70T m,g72T m,g140T m]) ⟨g126ok m,g262ok m,g130ok m,g69ok m,g66ok m,g70ok m,g72ok m,g140ok m,trivial⟩)
def g144H:Hints:=⟨[J [2,3,4,6],J' [(0,1)] [3,4,6,9],J' [(5,1)] [6,9,10],J' [(1,1)] [6,7,8]],[],[],[6,7,8],[],[[false,false],[false],[false]]⟩
def g144T:FunT:=⟨144,[.a (.agg [.bool,(.imm (.int .u32))]),.a (.agg [.bool,(.imm (.int .u32))]),sI],.tup [(.agg [.bool,(.imm (.int .u32))]),(.c (.int .i64)),(.c .bool)],[sD,sD,sD],fun x=>g144 m x.1.1 x.1.2.1 x.2.1.1 x.2.1.2.1 x.2.2.1⟩
theorem g144ok:FO (g144T m):=fk g144H (g144T m) func144 (AllF.mem (l:=[g129T m,g71T m,g220T m,g69T m]) ⟨g129ok m,g71ok m,g220ok m,g69ok m,trivial⟩)
def g79H:Hints:=⟨[J [2,3,4],J [2,3,4],J' [(2,1),(6,1)] [2,3,4,25],J [6],J [2,3,4,29],J [6],J' [(7,1)] [2,3,4,7,8,9],J' [(13,1),(15,1),(16,1)] [6]],[],[],[6],[],[[false]]⟩
def g79T:FunT:=⟨79,[.a (.agg [.bool,.bool,(.imm (.int .u32)),(.int .i64)]),.a (.agg [.bool,.bool,(.imm (.int .u32)),(.int .i64)]),sI],sU,[sD,sD,sD],fun x=>g79 m x.1.1 x.1.2.1 x.1.2.2.1 x.1.2.2.2.1 x.2.1.1 x.2.1.2.1 x.2.1.2.2.1 x.2.1.2.2.2.1 x.2.2.1⟩
theorem g79ok:FO (g79T m):=fk g79H (g79T m) func79 (AllF.mem (l:=[g61T m,g69T m,g66T m,g144T m,g142T m]) ⟨g61ok m,g69ok m,g66ok m,g144ok m,g142ok m,trivial⟩)
def g28H:Hints:=⟨[J [0,1,2],J [0,1,2,7],J' [(2,1),(6,1),(9,1),(14,1),(17,1)] [0,1,2,7,13],J [6],J' [(2,1)] [0,1,2,7,36],J' [(0,1)] [6],J' [(2,1)] [0,1,2,7,45],J' [(0,1)] [6],J' [(0,1),(2,1),(4,1)] [6]],[],[(0,[0,1,2])],[6],[],[[false]]⟩
def g28T:FunT:=⟨28,[sU,sU,sI],sU,[sD,sD,sD],fun x=>g28 m x.1 x.2.1 x.2.2.1⟩
theorem g28ok:FO (g28T m):=fk g28H (g28T m) func28 (AllF.mem (l:=[g65T m,g75T m,g76T m,g77T m,g78T m,g18T m,g79T m]) ⟨g65ok m,g75ok m,g76ok m,g77ok m,g78ok m,g18ok m,g79ok m,trivial⟩)
def g189H:Hints:=⟨[J [0],J [0,3],J [0,3,9,10,11],J [0,3,9,10,11,12],J [0,3,5,9,10,11],J' [(2,1),(8,1)] [0,3,5,9,10,11,28],J [2],J' [(1,1)] [0,3,9,10,11],J' [(1,1)] [0,3,9,10,11],J [2]],[(0,[0,3,9,10,11])],[(0,[]),(1,[0,3,9,10,11])],[2],[],[[false]]⟩
def g189T:FunT:=⟨189,[sL],sB,[sD],fun x=>g189 m x.1⟩
noncomputable def g189C:Code:=codeOf f189
noncomputable def g189B0:Code:=qo g189C 0 0
def g189L0X:LT:=⟨0,[(0,sL),(3,.a (.c (.nm 0 .bool))),(9,sL),(10,sI),(11,sI)],[(.ret,[(2,sB)]),(.exit 0,[])],fun n x=>g189L0 m n x.1 x.2.1 x.2.2.1 x.2.2.2.1 x.2.2.2.2.1⟩
theorem g189L0ok {E} (hE:EO E 33 g189H) (n):LO E g189B0 ((g189L0X m).at n):=lk hE noF (g189L0X m) n
theorem g189ok:FO (g189T m):=f1' g189H (g189T m) func189 noF fun _ h=>g189L0ok m h m
def g190H:Hints:=⟨[J [1],J [1,4],J [1,4,5,6],J [1,4,5,6,10,11,12],J [1,4,5,6,10,11,12,13],J [1,4,5,6,8,10,11,12],J' [(2,1),(6,1)] [1,4,5,6,8,10,11,12,28],J [2,3],J' [(0,1)] [1,4,5,6,8,10,11,12],J' [(0,1)] [1,4,5,6,8,10,11,12],J' [(0,1),(1,1)] [1,4,5,6,10,11,12],J' [(1,1)] [1,4,5,6,10,11,12],J' [(0,1),(1,1),(6,1),(7,1)] [2,3]],[(0,[1,4,5,6,10,11,12])],[(0,[1,4,5,6]),(1,[1,4,5,6,10,11,12])],[2,3],[],[[true],[false]]⟩
def g190T:FunT:=⟨190,[.a (.agg [(.imm (.int .i64)),(.imm (.int .i64)),(.imm (.int .u64)),(.imm (.int .i64)),(.imm (.int .i64)),(.imm (.int .u64)),(.int .i64)])],.tup [(.c (.nm 0 (.int .i64))),(.c .bool)],[sD],fun x=>g190 m x.1.1 x.1.2.1 x.1.2.2.1 x.1.2.2.2.1 x.1.2.2.2.2.1 x.1.2.2.2.2.2.1 x.1.2.2.2.2.2.2.1⟩
noncomputable def g190C:Code:=codeOf f190
noncomputable def g190B0:Code:=qo g190C 0 0
def g190L0X:LT:=⟨0,[(1,sX 0 [iL,iL,.imm (.int .u64),iL,iL,.imm (.int .u64),iI]),(4,sN 1),(5,sI),(6,sI),(10,sL),(11,sI),(12,sI)],[(.ret,[(2,sN 0),(3,sB)]),(.exit 0,[(1,sX 0 [iL,iL,.imm (.int .u64),iL,iL,.imm (.int .u64),iI]),(4,sN 1),(5,sI),(6,sI)])],fun n x=>g190L0 m n x.1.1 x.1.2.1 x.1.2.2.1 x.1.2.2.2.1 x.1.2.2.2.2.1 x.1.2.2.2.2.2.1 x.1.2.2.2.2.2.2.1 x.2.1 x.2.2.1 x.2.2.2.1 x.2.2.2.2.1 x.2.2.2.2.2.1 x.2.2.2.2.2.2.1⟩
theorem g190L0ok {E} (hE:EO E 55 g190H) (n):LO E g190B0 ((g190L0X m).at n):=lk hE noF (g190L0X m) n
theorem g190ok:FO (g190T m):=f1' g190H (g190T m) func190 noF fun _ h=>g190L0ok m h m
def g191H:Hints:=⟨[J [1,2],J [1,2,5],J' [(5,1)] [1,2,5,31],J [4],J' [(0,1)] [2,5,32,33,34],J [2,5,32,33,34,35],J [2,5,6,7,32,33,34],J' [(3,1)] [2,5,7,8,32,33,34],J' [(0,1)] [2,5,8,9,32,33,34],J [2,5,8,9,32,33,34,50],J' [(0,1)] [2,5,8,9,32,33,34],J' [(12,1)] [2,5,8,9,32,33,34,76],J [4],J [2,5,8,9,10,32,33,34],J [2,5,8,9,10,32,33,34,91,92,93],J [2,5,8,9,10,32,33,34,91,92,93,94],J [2,5,8,9,10,12,32,33,34,91,92,93],J' [(1,1),(3,1)] [2,5,8,9,12,32,33,34,91,92,93,104],J [4],J' [(0,1)] [2,5,8,9,10,32,33,34,91,92,93],J' [(1,1)] [2,5,8,9,10,32,33,34,91,92,93],J' [(1,1)] [2,5,32,33,34],J [4]],[(0,[2,5,32,33,34]),(2,[2,5,8,9,32,33,34]),(4,[2,5,8,9,10,32,33,34,91,92,93])],[(0,[]),(1,[2,5,32,33,34]),(2,[2,5,32,33,34]),(3,[2,5,8,9,32,33,34]),(4,[2,5,8,9,32,33,34]),(5,[2,5,8,9,10,32,33,34,91,92,93])],[4],[],[[false]]⟩
def g191T:FunT:=⟨191,[.a (.agg [(.imm (.int .i64)),(.imm (.int .i64)),(.imm (.int .u64)),(.imm (.int .i64)),(.imm (.int .i64)),(.imm (.int .u64)),(.int .i64)]),sL],sB,[sD,sD],fun x=>g191 m x.1.1 x.1.2.1 x.1.2.2.1 x.1.2.2.2.1 x.1.2.2.2.2.1 x.1.2.2.2.2.2.1 x.1.2.2.2.2.2.2.1 x.2.1⟩
noncomputable def g191C:Code:=codeOf f191
noncomputable def g191B0:Code:=qo g191C 0 0
noncomputable def g191B2:Code:=qo g191B0 0 0
noncomputable def g191B4:Code:=qo g191B2 2 0
def g191L2X:LT:=⟨4,[(2,sX 0 [iL,iL,.imm (.int .u64),iL,iL,.imm (.int .u64),iI]),(5,sI),(8,sI),(9,sI),(10,sI),(32,sL),(33,sI),(34,sI),(91,sL),(92,sI),(93,sI)],[(.ret,[(4,sB)]),(.exit 4,[(2,sX 0 [iL,iL,.imm (.int .u64),iL,iL,.imm (.int .u64),iI]),(5,sI),(8,sI),(9,sI),(32,sL),(33,sI),(34,sI)])],fun n x=>g191L2 m n x.1.1 x.1.2.1 x.1.2.2.1 x.1.2.2.2.1 x.1.2.2.2.2.1 x.1.2.2.2.2.2.1 x.1.2.2.2.2.2.2.1 x.2.1 x.2.2.1 x.2.2.2.1 x.2.2.2.2.1 x.2.2.2.2.2.1 x.2.2.2.2.2.2.1 x.2.2.2.2.2.2.2.1 x.2.2.2.2.2.2.2.2.1 x.2.2.2.2.2.2.2.2.2.1 x.2.2.2.2.2.2.2.2.2.2.1⟩
theorem g191L2ok {E} (hE:EO E 108 g191H) (n):LO E g191B4 ((g191L2X m).at n):=lk hE noF (g191L2X m) n
def g191L1X:LT:=⟨2,[(2,sX 0 [iL,iL,.imm (.int .u64),iL,iL,.imm (.int .u64),iI]),(5,sI),(8,sI),(9,sI),(32,sL),(33,sI),(34,sI)],[(.ret,[(4,sB)]),(.exit 2,[(2,sX 0 [iL,iL,.imm (.int .u64),iL,iL,.imm (.int .u64),iI]),(5,sI),(32,sL),(33,sI),(34,sI)])],fun n x=>g191L1 m n x.1.1 x.1.2.1 x.1.2.2.1 x.1.2.2.2.1 x.1.2.2.2.2.1 x.1.2.2.2.2.2.1 x.1.2.2.2.2.2.2.1 x.2.1 x.2.2.1 x.2.2.2.1 x.2.2.2.2.1 x.2.2.2.2.2.1 x.2.2.2.2.2.2.1⟩
theorem g191L1ok {E} (hE:EO E 108 g191H) (n):LO E g191B2 ((g191L1X m).at n):=
 lok hmix htt hE noF (L:=[(g191L2X m).at m]) (g191L1X m) (l:=[(4,g191B4)]) kR (fun _ _=>⟨qi ⟨yb (g191L2ok m hE m),trivial⟩,trivial⟩) (fun n x=>kR) (fun _=>kR) n
def g191L0X:LT:=⟨0,[(2,sX 0 [iL,iL,.imm (.int .u64),iL,iL,.imm (.int .u64),iI]),(5,sI),(32,sL),(33,sI),(34,sI)],[(.ret,[(4,sB)]),(.exit 0,[])],fun n x=>g191L0 m n x.1.1 x.1.2.1 x.1.2.2.1 x.1.2.2.2.1 x.1.2.2.2.2.1 x.1.2.2.2.2.2.1 x.1.2.2.2.2.2.2.1 x.2.1 x.2.2.1 x.2.2.2.1 x.2.2.2.2.1⟩
theorem g191L0ok {E} (hE:EO E 108 g191H) (n):LO E g191B0 ((g191L0X m).at n):=
 lok hmix htt hE noF (L:=[(g191L1X m).at m]) (g191L0X m) (l:=[(2,g191B2)]) kR (fun _ _=>⟨qi ⟨yb (g191L1ok m hE m),trivial⟩,trivial⟩) (fun n x=>kR) (fun _=>kR) n
theorem g191ok:FO (g191T m):=f1' g191H (g191T m) func191 noF fun _ h=>g191L0ok m h m
def g110H:Hints:=⟨[J [0],J [2,3]],[],[],[2,3],[],[[false],[false]]⟩
def g110T:FunT:=⟨110,[sU],.tup [(.c (.int .i64)),(.c (.int .u64))],[sD],fun x=>g110 m x.1⟩
theorem g110ok:FO (g110T m):=fk g110H (g110T m) func110 noF
def g47H:Hints:=⟨[J [0],J' [(0,1),(2,1)] [3],J' [(0,1)] [2]],[],[],[2],[],[[false]]⟩
def g47T:FunT:=⟨47,[sU],sB,[sD],fun x=>g47 m x.1⟩
theorem g47ok:FO (g47T m):=fk g47H (g47T m) func47 (AllF.mem (l:=[g110T m]) ⟨g110ok m,trivial⟩)
def g228H:Hints:=⟨[J [0],J [0,3],J' [(2,1)] [0,3,15],J' [(0,1)] [0,3],J' [(0,1),(1,1)] [2]],[(0,[0,3])],[(0,[0,3]),(1,[0,3])],[2],[],[[false]]⟩
def g228T:FunT:=⟨228,[.a (.c (.imm (.int .u32)))],.a (.c (.imm (.int .u32))),[sD],fun x=>g228 m x.1⟩
noncomputable def g228C:Code:=codeOf f228
noncomputable def g228B0:Code:=qo g228C 0 0
def g228L0X:LT:=⟨0,[(0,.a (.c (.imm (.int .u32)))),(3,sI)],[(.exit 0,[(0,.a (.c (.imm (.int .u32)))),(3,sI)])],fun n x=>g228L0 m n x.1 x.2.1⟩
theorem g228L0ok {E} (hE:EO E 21 g228H) (n):LO E g228B0 ((g228L0X m).at n):=lk hE noF (g228L0X m) n
theorem g228ok:FO (g228T m):=f1' g228H (g228T m) func228 noF fun _ h=>g228L0ok m h m
def g221H:Hints:=⟨[J [0,1,4],J' [(0,1)] [0,1,4],J [0,1,4,9],J [4],J' [(0,1),(1,1)] [4]],[],[],[4],[],[[false,false]]⟩
def g221T:FunT:=⟨221,[sB,.a (.c (.imm (.int .u32)))],.a (.agg [.bool,(.imm (.int .u32))]),[sD,sD],fun x=>g221 m x.1 x.2.1⟩
theorem g221ok:FO (g221T m):=fk g221H (g221T m) func221 (AllF.mem (l:=[g228T m]) ⟨g228ok m,trivial⟩)
def g146H:Hints:=⟨[J [0,2],J [0,2,3],J [0,2,3,7],J' [(0,1)] [0,2,3],J' [(0,1)] [2]],[],[],[2],[],[[false,false]]⟩
def g146T:FunT:=⟨146,[sI],.a (.agg [.bool,(.imm (.int .u32))]),[sD],fun x=>g146 m x.1⟩
theorem g146ok:FO (g146T m):=fk g146H (g146T m) func146 (AllF.mem (l:=[g221T m]) ⟨g221ok m,trivial⟩)
def g211H:Hints:=⟨[J [0],J' [(0,1)] [2]],[],[],[2],[],[[false]]⟩
def g211T:FunT:=⟨211,[sU],sB,[sD],fun x=>g211 m x.1⟩
theorem g211ok:FO (g211T m):=fk g211H (g211T m) func211 noF
def g233H:Hints:={regs:=[J [0],J [0],J [2],J [2]],heads:=[],exits:=[],rets:=[2],pins:=[],spec:=[[true]]}
abbrev g233A:List Sh:=[.a (.c (.imm (.int .u32)))]
abbrev g233S:Sh:= .a (.c (.nm 0 (.int .u32)))
abbrev g233U:List Sh:=[sD]
def g233R:X7 g233A->Option (g233S.Val×X7 g233U):=fun x=>g233 m x.1
def g233T:FunT:=⟨233,g233A,g233S,g233U,g233R m⟩
noncomputable def g233C:Code:=codeOf f233
theorem g233ok:FO (g233T m):=
 qlv hmix htt (H:=g233H) (fn:=f233) (f:=233) (t:=(.int .u32)) (ty:=44) (e:=108) (ty2:=44) (k:=1) (cells:=[.nil (.int .u32)]) (A:=pA g233C) (X:=pX (pB (pA (pB g233C)))) (Y:=pB (pB g233C)) (o0:=pO 0 (pA (pA (pB g233C)))) (o1:=pO 1 (pA (pA (pB g233C)))) func233 kR kR kR kR kR kR kR kR kR (of_decide_eq_true kR) rfl kR kR kR (fun xs=>[(0,.sl .imm (.int .u32) xs)]) (fun xs=>[(2,.sl (.nm 0) (.int .u32) xs)]) (fun xs=>kR) (fun _=>rfl) (fun _=>rfl) (fun _=>rfl) kR (fun xs=>kR) (fun xs=>kR)
def g212H:Hints:=⟨[J [1,2],J [2]],[],[],[2],[],[[false,false]]⟩
def g212T:FunT:=⟨212,[.a (.agg [.bool,(.imm (.int .u32))])],.a (.agg [.bool,(.imm (.int .u32))]),[sD],fun x=>g212 m x.1.1 x.1.2.1⟩
theorem g212ok:FO (g212T m):=fk g212H (g212T m) func212 (AllF.mem (l:=[g233T m,g221T m]) ⟨g233ok m,g221ok m,trivial⟩)
def g222H:Hints:=⟨[J [0],J [0]],[],[],[0],[],[[false,false,true,false]]⟩
def g222T:FunT:=⟨222,[],.a (.agg [.bool,.bool,(.nm 0 (.int .u32)),(.int .i64)]),[],fun x=>g222 m⟩
theorem g222ok:FO (g222T m):=fk g222H (g222T m) func222 noF
def g229H:Hints:=⟨[J [1,2],J [2]],[],[],[2],[],[[false,false]]⟩
def g229T:FunT:=⟨229,[.a (.agg [.bool,(.imm (.int .u32))])],.a (.agg [.bool,(.imm (.int .u32))]),[sD],fun x=>g229 m x.1.1 x.1.2.1⟩
theorem g229ok:FO (g229T m):=fk g229H (g229T m) func229 (AllF.mem (l:=[g233T m,g221T m]) ⟨g233ok m,g221ok m,trivial⟩)
def g226H:Hints:=⟨[J [1],J [1,3],J [2],J [9],J [2],J [2]],[],[(0,[])],[2],[],[[false]]⟩
def g226T:FunT:=⟨226,[.a (.agg [.bool,(.imm (.int .u32))])],sI,[sD],fun x=>g226 m x.1.1 x.1.2.1⟩
theorem g226ok:FO (g226T m):=fk g226H (g226T m) func226 (AllF.mem (l:=[g228T m]) ⟨g228ok m,trivial⟩)
def g230H:Hints:=⟨[J [1],J [6,7,8],J [6,7,8,9],J [3,4,6,7,8],J [3,4,6,7,8,14],J' [(0,1),(2,1)] [2],J' [(1,1)] [6,7,8],J [2]],[(0,[6,7,8])],[(0,[]),(1,[6,7,8])],[2],[],[[false]]⟩
def g230T:FunT:=⟨230,[.a (.agg [.bool,(.imm (.int .u32))])],sI,[sD],fun x=>g230 m x.1.1 x.1.2.1⟩
noncomputable def g230C:Code:=codeOf f230
noncomputable def g230B0:Code:=qo g230C 0 0
theorem g230K:FL [g215T m]:=AllF.mem ⟨g215ok m,trivial⟩
def g230L0X:LT:=⟨0,[(6,.a (.c (.imm (.int .u32)))),(7,sI),(8,sI)],[(.ret,[(2,sI)]),(.exit 0,[])],fun n x=>g230L0 m n x.1 x.2.1 x.2.2.1⟩
theorem g230L0ok {E} (hE:EO E 21 g230H) (n):LO E g230B0 ((g230L0X m).at n):=lk hE (g230K m) (g230L0X m) n
theorem g230ok:FO (g230T m):=f1' g230H (g230T m) func230 (g230K m) fun _ h=>g230L0ok m h m
def g269H:Hints:=⟨[J [0],J [0,5],J [2],J [2]],[],[],[2],[],[[false]]⟩
def g269T:FunT:=⟨269,[.a (.c (.imm (.int .u32)))],sI,[sD],fun x=>g269 m x.1⟩
theorem g269ok:FO (g269T m):=fk g269H (g269T m) func269 (AllF.mem (l:=[g216T m]) ⟨g216ok m,trivial⟩)
def g231H:Hints:=⟨[J [1],J [2]],[],[],[2],[],[[false]]⟩
def g231T:FunT:=⟨231,[.a (.agg [.bool,(.imm (.int .u32))])],sI,[sD],fun x=>g231 m x.1.1 x.1.2.1⟩
theorem g231ok:FO (g231T m):=fk g231H (g231T m) func231 (AllF.mem (l:=[g228T m,g269T m]) ⟨g228ok m,g269ok m,trivial⟩)
def g282H:Hints:=⟨[J [0,1],J [0,1,13],J [4],J [0,5,6],J [0,5,6,7],J' [(0,1)] [5,6,7,25,26,27],J [5,6,7,25,26,27,28],J [5,6,7,8,9,25,26,27],J' [(0,1)] [5,6,7,8,10,25,26,27],J [5,6,7,8,10,25,26,27],J' [(2,1),(5,1)] [5,6,7,25,26,27],J' [(1,1)] [5,6,7,25,26,27],J' [(0,1)] [4]],[(0,[5,6,7,25,26,27])],[(0,[7]),(1,[5,6,7,25,26,27])],[4],[],[[false]]⟩
def g282T:FunT:=⟨282,[.a (.c (.imm (.int .u32))),sI],.a (.c (.imm (.int .u32))),[sD,sD],fun x=>g282 m x.1 x.2.1⟩
noncomputable def g282C:Code:=codeOf f282
noncomputable def g282B0:Code:=qo g282C 0 0
theorem g282K:FL [g228T m]:=AllF.mem ⟨g228ok m,trivial⟩
def g282L0X:LT:=⟨0,[(5,sI),(6,sU),(7,.a (.c (.nm 0 (.int .u32)))),(25,.a (.c (.imm (.int .u32)))),(26,sI),(27,sI)],[(.exit 0,[(7,.a (.c (.nm 0 (.int .u32))))])],fun n x=>g282L0 m n x.1 x.2.1 x.2.2.1 x.2.2.2.1 x.2.2.2.2.1 x.2.2.2.2.2.1⟩
theorem g282L0ok {E} (hE:EO E 59 g282H) (n):LO E g282B0 ((g282L0X m).at n):=lk hE (g282K m) (g282L0X m) n
theorem g282ok:FO (g282T m):=f1' g282H (g282T m) func282 (g282K m) fun _ h=>g282L0ok m h m
def g297H:Hints:=⟨[J [0],J' [(0,1)] [2]],[],[],[2],[],[[false]]⟩
def g297T:FunT:=⟨297,[.a (.c (.int .u32))],sB,[sD],fun x=>g297 m x.1⟩
theorem g297ok:FO (g297T m):=fk g297H (g297T m) func297 noF
def g302H:Hints:=⟨[J [0,1],J [0,1,7,8],J [0,1,7,8,9],J [0,1,5,7,8],J [0,1,5,7,8,16],J' [(0,1)] [4],J' [(1,1)] [0,1,7,8],J [4]],[(0,[0,1,7,8])],[(0,[]),(1,[0,1,7,8])],[4],[],[[false]]⟩
def g302T:FunT:=⟨302,[.a (.c (.imm (.int .u32))),.a (.c (.fn 297))],sI,[sD,sD],fun x=>g302 m x.1⟩
noncomputable def g302C:Code:=codeOf f302
noncomputable def g302B0:Code:=qo g302C 0 0
theorem g302K:FL [g297T m]:=AllF.mem ⟨g297ok m,trivial⟩
def g302L0X:LT:=⟨0,[(0,.a (.c (.imm (.int .u32)))),(1,.a (.c (.fn 297))),(7,sI),(8,sI)],[(.ret,[(4,sI)]),(.exit 0,[])],fun n x=>g302L0 m n x.1 x.2.2.1 x.2.2.2.1⟩
theorem g302L0ok {E} (hE:EO E 19 g302H) (n):LO E g302B0 ((g302L0X m).at n):=lk hE (g302K m) (g302L0X m) n
theorem g302ok:FO (g302T m):=f1' g302H (g302T m) func302 (g302K m) fun _ h=>g302L0ok m h m
def g296H:Hints:=⟨[J [0,1],J' [(0,1),(1,1)] [4]],[],[],[4],[],[[false]]⟩
def g296T:FunT:=⟨296,[.a (.c (.imm (.int .u32))),.a (.c (.fn 297))],sB,[sD,sD],fun x=>g296 m x.1⟩
theorem g296ok:FO (g296T m):=fk g296H (g296T m) func296 (AllF.mem (l:=[g302T m]) ⟨g302ok m,trivial⟩)
def g283H:Hints:=⟨[J [0,1],J [0,6,7],J [0,6,7,20],J' [(0,1)] [4,5],J' [(4,1)] [0,6,7,8],J [0,6,7,8,9],J [0,6,7,8,9,45,46],J [0,6,7,8,9,45,46,47],J [0,6,7,8,9,10,45,46],J [0,6,7,8,9,10,11,45,46],J [0,6,7,8,9,10,11,45,46,62],J' [(0,1)] [0,6,7,8,9,10,11,45,46],J' [(1,1),(2,1)] [0,6,7,8,9,45,46],J' [(1,1)] [0,6,7,8,9,45,46],J' [(0,1),(2,1)] [4,5]],[(0,[0,6,7,8,9,45,46])],[(0,[8,9]),(1,[0,6,7,8,9,45,46])],[4,5],[],[[false],[false]]⟩
def g283T:FunT:=⟨283,[.a (.c (.imm (.int .u32))),sI],.tup [(.c (.imm (.int .u32))),(.c .bool)],[sD,sD],fun x=>g283 m x.1 x.2.1⟩
noncomputable def g283C:Code:=codeOf f283
noncomputable def g283B0:Code:=qo g283C 0 0
theorem g283K:FL [g296T m,g228T m]:=AllF.mem ⟨g296ok m,g228ok m,trivial⟩
def g283L0X:LT:=⟨0,[(0,.a (.c (.imm (.int .u32)))),(6,sI),(7,sU),(8,sB),(9,.a (.c (.nm 0 (.int .u32)))),(45,sI),(46,sI)],[(.exit 0,[(8,sB),(9,.a (.c (.nm 0 (.int .u32))))])],fun n x=>g283L0 m n x.1 x.2.1 x.2.2.1 x.2.2.2.1 x.2.2.2.2.1 x.2.2.2.2.2.1 x.2.2.2.2.2.2.1⟩
theorem g283L0ok {E} (hE:EO E 86 g283H) (n):LO E g283B0 ((g283L0X m).at n):=lk hE (g283K m) (g283L0X m) n
theorem g283ok:FO (g283T m):=f1' g283H (g283T m) func283 (g283K m) fun _ h=>g283L0ok m h m
def g264H:Hints:=⟨[J [0,1],J [0,1,14],J' [(0,1),(1,1)] [0,1],J [0,1,5],J [0,1,5,6],J' [(0,1)] [1,5,6,21,22,23],J [1,5,6,21,22,23,24],J [1,5,6,7,8,21,22,23],J' [(0,1),(2,1)] [1,5,7,9,21,22,23],J [1,5,7,9,21,22,23,35],J' [(0,1),(2,1)] [1,5,9,21,22,23],J' [(0,1)] [1,5,9,21,22,23],J' [(0,1)] [1,5,6,21,22,23],J' [(1,1)] [1,5,6,21,22,23],J' [(0,1),(1,1)] [4]],[(0,[1,5,6,21,22,23])],[(0,[5,6]),(1,[1,5,6,21,22,23])],[4],[],[[false]]⟩
def g264T:FunT:=⟨264,[.a (.c (.imm (.int .u32))),.a (.c (.imm (.int .u32)))],.a (.c (.imm (.int .u32))),[sD,sD],fun x=>g264 m x.1 x.2.1⟩
noncomputable def g264C:Code:=codeOf f264
noncomputable def g264B0:Code:=qo g264C 0 0
theorem g264K:FL [g228T m]:=AllF.mem ⟨g228ok m,trivial⟩
def g264L0X:LT:=⟨0,[(1,.a (.c (.imm (.int .u32)))),(5,.a (.c (.nm 0 (.int .u32)))),(6,sU),(21,.a (.c (.imm (.int .u32)))),(22,sI),(23,sI)],[(.exit 0,[(5,.a (.c (.nm 0 (.int .u32)))),(6,sU)])],fun n x=>g264L0 m n x.1 x.2.1 x.2.2.1 x.2.2.2.1 x.2.2.2.2.1 x.2.2.2.2.2.1⟩
theorem g264L0ok {E} (hE:EO E 58 g264H) (n):LO E g264B0 ((g264L0X m).at n):=lk hE (g264K m) (g264L0X m) n
theorem g264ok:FO (g264T m):=f1' g264H (g264T m) func264 (g264K m) fun _ h=>g264L0ok m h m
def g266H:Hints:=⟨[J [1,2,4],J' [(2,1)] [1,2,4,14],J [4,5],J [1,2,4,6],J [1,2,4,6,20],J' [(2,1),(3,1)] [4,5],J' [(0,1),(1,1),(4,1)] [2,4,7,8],J' [(2,1),(3,1)] [2,4,7,38],J' [(0,1)] [2,4,7],J' [(2,1)] [4,5]],[],[],[4,5],[],[[false,false],[false]]⟩
def g266T:FunT:=⟨266,[.a (.agg [.bool,(.imm (.int .u32))]),sI],.tup [(.agg [.bool,(.imm (.int .u32))]),(.c (.int .i64))],[sD,sD],fun x=>g266 m x.1.1 x.1.2.1 x.2.1⟩
theorem g266ok:FO (g266T m):=fk g266H (g266T m) func266 (AllF.mem (l:=[g228T m,g282T m,g221T m,g283T m,g264T m]) ⟨g228ok m,g282ok m,g221ok m,g283ok m,g264ok m,trivial⟩)
def g232H:Hints:=⟨[J [1,2,4],J [1,2,4,6],J' [(2,1)] [1,2,4],J' [(0,1)] [1,2,4],J' [(1,1),(4,1)] [2,4],J [4]],[(0,[1,2,4])],[(0,[1,2,4]),(1,[1,2,4])],[4],[],[[false,false]]⟩
def g232T:FunT:=⟨232,[.a (.agg [.bool,(.imm (.int .u32))]),sI],.a (.agg [.bool,(.imm (.int .u32))]),[sD,sD],fun x=>g232 m x.1.1 x.1.2.1 x.2.1⟩
noncomputable def g232C:Code:=codeOf f232
noncomputable def g232B0:Code:=qo g232C 0 0
theorem g232K:FL [g266T m]:=AllF.mem ⟨g266ok m,trivial⟩
def g232L0X:LT:=⟨0,[(1,sI),(2,sX 0 [.bool,.imm (.int .u32)]),(4,sX 1 [.bool,.nm 2 (.int .u32)])],[(.exit 0,[(1,sI),(2,sX 0 [.bool,.imm (.int .u32)]),(4,sX 1 [.bool,.nm 2 (.int .u32)])])],fun n x=>g232L0 m n x.1 x.2.1.1 x.2.1.2.1 x.2.2.1.1 x.2.2.1.2.1⟩
theorem g232L0ok {E} (hE:EO E 22 g232H) (n):LO E g232B0 ((g232L0X m).at n):=lk hE (g232K m) (g232L0X m) n
theorem g232ok:FO (g232T m):=f1' g232H (g232T m) func232 (g232K m) fun _ h=>g232L0ok m h m
def g154H:Hints:=⟨[J [1,2],J [1,2,7],J [2,3],J [1,2,4],J [1,2,4,14],J [2,3],J [1,2,4,5],J' [(6,1)] [1,2,4,5,30],J [2,3],J [2,3]],[],[],[2,3],[],[[false,false,false,false],[false]]⟩
def g154T:FunT:=⟨154,[.a (.agg [.bool,.bool,(.imm (.int .u32)),(.int .i64)])],.tup [(.agg [.bool,.bool,(.imm (.int .u32)),(.int .i64)]),(.c .bool)],[sD],fun x=>g154 m x.1.1 x.1.2.1 x.1.2.2.1 x.1.2.2.2.1⟩
theorem g154ok:FO (g154T m):=fk g154H (g154T m) func154 (AllF.mem (l:=[g222T m,g229T m,g226T m,g230T m,g231T m,g232T m]) ⟨g222ok m,g229ok m,g226ok m,g230ok m,g231ok m,g232ok m,trivial⟩)
def g145H:Hints:=⟨[J [1,2,4],J' [(1,1),(4,1)] [4,5],J [4]],[],[],[4],[],[[false,false,false,false]]⟩
def g145T:FunT:=⟨145,[.a (.agg [.bool,(.imm (.int .u32))]),sI],.a (.agg [.bool,.bool,(.imm (.int .u32)),(.int .i64)]),[sD,sD],fun x=>g145 m x.1.1 x.1.2.1 x.2.1⟩
theorem g145ok:FO (g145T m):=fk g145H (g145T m) func145 (AllF.mem (l:=[g154T m]) ⟨g154ok m,trivial⟩)
def g112H:Hints:=⟨[J [0,2],J' [(2,1)] [0,2,3,4],J [0,2,3,4,11],J' [(0,1)] [0,2,3,4],J' [(0,1)] [0,2,3,4],J [0,2,3,4,11,16],J [2],J [0,2,3,4,19],J [0,2,3,4],J' [(0,1)] [0,2,3,5],J' [(0,1)] [2,3,5,25],J [2,3,5],J' [(1,1)] [2]],[],[(0,[0,2,3,4])],[2],[],[[false,false,false,false]]⟩
def g112T:FunT:=⟨112,[sU],.a (.agg [.bool,.bool,(.imm (.int .u32)),(.int .i64)]),[sD],fun x=>g112 m x.1⟩
theorem g112ok:FO (g112T m):=fk g112H (g112T m) func112 (AllF.mem (l:=[g110T m,g146T m,g211T m,g212T m,g145T m]) ⟨g110ok m,g146ok m,g211ok m,g212ok m,g145ok m,trivial⟩)
def g192H:Hints:=⟨[J [1],J' [(0,6)] [1,3],J [1,3,4],J [1,3,4,9,10,11],J [1,3,4,9,10,11,12],J [1,3,4,6,9,10,11],J [1,3,4,6,7,9,10,11],J' [(0,1)] [1,3,4,7,9,10,11,17,18],J [1,3,4,7,9,10,11,17,18,19],J' [(0,1)] [1,3,4,7,9,10,11,17,18],J' [(0,1)] [1,3,4,7,9,10,11,17,18],J' [(1,1)] [1,3,4,7,9,10,11,17,18],J' [(0,1),(1,1),(2,6),(3,6)] [1,3,4,9,10,11],J' [(1,1)] [1,3,4,9,10,11],J' [(0,1)] [2]],[(0,[1,3,4,9,10,11]),(2,[1,3,4,7,9,10,11,17,18])],[(0,[3]),(1,[1,3,4,9,10,11]),(2,[1,3,4,7,9,10,11]),(3,[1,3,4,7,9,10,11,17,18])],[2],[],[[false]]⟩
def g192T:FunT:=⟨192,[.a (.agg [(.imm (.int .i64)),(.imm (.int .i64)),(.imm (.int .u64)),(.imm (.int .i64)),(.imm (.int .i64)),(.imm (.int .u64)),(.int .i64)])],.a (.c (.imm (.sl false (.pr .bool (.pr (.pr .bool (.sl false (.int .u32))) (.int .i64)))))),[sD],fun x=>g192 m x.1.1 x.1.2.1 x.1.2.2.1 x.1.2.2.2.1 x.1.2.2.2.2.1 x.1.2.2.2.2.2.1 x.1.2.2.2.2.2.2.1⟩
noncomputable def g192C:Code:=codeOf f192
noncomputable def g192B0:Code:=qo g192C 0 0
noncomputable def g192B2:Code:=qo g192B0 0 0
theorem g192K:FL [g112T m]:=AllF.mem ⟨g112ok m,trivial⟩
def g192L1X:LT:=⟨2,[(1,sX 0 [iL,iL,.imm (.int .u64),iL,iL,.imm (.int .u64),iI]),(3,.a (.c (.dp 1 (.pr .bool (.pr (.pr .bool (.sl false (.int .u32))) (.int .i64)))))),(4,sI),(7,.a (.c (.nm 2 (.pr .bool (.pr (.pr .bool (.sl false (.int .u32))) (.int .i64)))))),(9,sL),(10,sI),(11,sI),(17,sI),(18,sI)],[(.exit 2,[(1,sX 0 [iL,iL,.imm (.int .u64),iL,iL,.imm (.int .u64),iI]),(3,.a (.c (.dp 1 (.pr .bool (.pr (.pr .bool (.sl false (.int .u32))) (.int .i64)))))),(4,sI),(7,.a (.c (.nm 2 (.pr .bool (.pr (.pr .bool (.sl false (.int .u32))) (.int .i64)))))),(9,sL),(10,sI),(11,sI)])],fun n x=>g192L1 m n x.1.1 x.1.2.1 x.1.2.2.1 x.1.2.2.2.1 x.1.2.2.2.2.1 x.1.2.2.2.2.2.1 x.1.2.2.2.2.2.2.1 x.2.1 x.2.2.1 x.2.2.2.1 x.2.2.2.2.1 x.2.2.2.2.2.1 x.2.2.2.2.2.2.1 x.2.2.2.2.2.2.2.1 x.2.2.2.2.2.2.2.2.1⟩
theorem g192L1ok {E} (hE:EO E 38 g192H) (n):LO E g192B2 ((g192L1X m).at n):=lk hE (g192K m) (g192L1X m) n
def g192L0X:LT:=⟨0,[(1,sX 0 [iL,iL,.imm (.int .u64),iL,iL,.imm (.int .u64),iI]),(3,.a (.c (.dp 1 (.pr .bool (.pr (.pr .bool (.sl false (.int .u32))) (.int .i64)))))),(4,sI),(9,sL),(10,sI),(11,sI)],[(.exit 0,[(3,.a (.c (.dp 0 (.pr .bool (.pr (.pr .bool (.sl false (.int .u32))) (.int .i64))))))])],fun n x=>g192L0 m n x.1.1 x.1.2.1 x.1.2.2.1 x.1.2.2.2.1 x.1.2.2.2.2.1 x.1.2.2.2.2.2.1 x.1.2.2.2.2.2.2.1 x.2.1 x.2.2.1 x.2.2.2.1 x.2.2.2.2.1 x.2.2.2.2.2.1⟩
theorem g192L0ok {E} (hE:EO E 38 g192H) (n):LO E g192B0 ((g192L0X m).at n):=
 lok hmix htt hE (g192K m) (L:=[(g192L1X m).at m]) (g192L0X m) (l:=[(2,g192B2)]) kR (fun _ _=>⟨qi ⟨yb (g192L1ok m hE m),trivial⟩,trivial⟩) (fun n x=>kR) (fun _=>kR) n
theorem g192ok:FO (g192T m):=f1' g192H (g192T m) func192 (g192K m) fun _ h=>g192L0ok m h m
def g151H:Hints:=⟨[J [2,3,4,5],J' [(2,1)] [3,4,5,6],J' [(2,1)] [4,5,6,7],J' [(2,1),(3,1),(4,1)] [4,5,6]],[],[],[4,5,6],[],[[false,false,false,false],[false,false,false,false],[false]]⟩
def g151T:FunT:=⟨151,[.a (.agg [.bool,.bool,(.imm (.int .u32)),(.int .i64)]),.a (.agg [.bool,.bool,(.imm (.int .u32)),(.int .i64)])],.tup [(.agg [.bool,.bool,(.imm (.int .u32)),(.int .i64)]),(.agg [.bool,.bool,(.imm (.int .u32)),(.int .i64)]),(.c .bool)],[sD,sD],fun x=>g151 m x.1.1 x.1.2.1 x.1.2.2.1 x.1.2.2.2.1 x.2.1.1 x.2.1.2.1 x.2.1.2.2.1 x.2.1.2.2.2.1⟩
theorem g151ok:FO (g151T m):=fk g151H (g151T m) func151 (AllF.mem (l:=[g154T m]) ⟨g154ok m,trivial⟩)
def g263H:Hints:=⟨[J [0,1],J' [(3,1)] [0,1,19],J [4],J [0,1,5],J' [(0,1)] [1,5,26,27,28],J [1,5,26,27,28,29],J [1,5,6,7,26,27,28],J [1,5,6,7,8,26,27,28],J [1,5,6,7,8,26,27,28,33,34,35],J [1,5,6,7,8,26,27,28,33,34,35,36],J [1,5,6,7,8,9,10,26,27,28,33,34,35],J' [(2,1),(13,1)] [1,5,6,7,9,11,26,27,28,33,34,35],J' [(2,1)] [1,5,6,7,11,26,27,28,33,34,35],J' [(0,1)] [1,5,6,7,8,26,27,28,33,34,35],J' [(1,1)] [1,5,6,7,8,26,27,28,33,34,35],J' [(1,1),(5,1)] [1,5,26,27,28],J' [(1,1)] [1,5,26,27,28],J' [(0,1)] [4]],[(0,[1,5,26,27,28]),(2,[1,5,6,7,8,26,27,28,33,34,35])],[(0,[5]),(1,[1,5,26,27,28]),(2,[1,5,6,8,26,27,28]),(3,[1,5,6,7,8,26,27,28,33,34,35])],[4],[],[[false]]⟩
def g263T:FunT:=⟨263,[.a (.c (.imm (.int .u32))),.a (.c (.imm (.int .u32)))],.a (.c (.imm (.int .u32))),[sD,sD],fun x=>g263 m x.1 x.2.1⟩
noncomputable def g263C:Code:=codeOf f263
noncomputable def g263B0:Code:=qo g263C 0 0
noncomputable def g263B2:Code:=qo g263B0 0 0
theorem g263K:FL [g228T m]:=AllF.mem ⟨g228ok m,trivial⟩
def g263L1X:LT:=⟨2,[(1,.a (.c (.imm (.int .u32)))),(5,.a (.c (.nm 0 (.int .u32)))),(6,sI),(7,.a (.c (.int .u32))),(8,sU),(26,.a (.c (.imm (.int .u32)))),(27,sI),(28,sI),(33,.a (.c (.imm (.int .u32)))),(34,sI),(35,sI)],[(.exit 2,[(1,.a (.c (.imm (.int .u32)))),(5,.a (.c (.nm 0 (.int .u32)))),(6,sI),(8,sU),(26,.a (.c (.imm (.int .u32)))),(27,sI),(28,sI)])],fun n x=>g263L1 m n x.1 x.2.1 x.2.2.1 x.2.2.2.1 x.2.2.2.2.1 x.2.2.2.2.2.1 x.2.2.2.2.2.2.1 x.2.2.2.2.2.2.2.1 x.2.2.2.2.2.2.2.2.1 x.2.2.2.2.2.2.2.2.2.1 x.2.2.2.2.2.2.2.2.2.2.1⟩
theorem g263L1ok {E} (hE:EO E 77 g263H) (n):LO E g263B2 ((g263L1X m).at n):=lk hE (g263K m) (g263L1X m) n
def g263L0X:LT:=⟨0,[(1,.a (.c (.imm (.int .u32)))),(5,.a (.c (.nm 0 (.int .u32)))),(26,.a (.c (.imm (.int .u32)))),(27,sI),(28,sI)],[(.exit 0,[(5,.a (.c (.nm 0 (.int .u32))))])],fun n x=>g263L0 m n x.1 x.2.1 x.2.2.1 x.2.2.2.1 x.2.2.2.2.1⟩
theorem g263L0ok {E} (hE:EO E 77 g263H) (n):LO E g263B0 ((g263L0X m).at n):=
 lok hmix htt hE (g263K m) (L:=[(g263L1X m).at m]) (g263L0X m) (l:=[(2,g263B2)]) kR (fun _ _=>⟨qi ⟨yb (g263L1ok m hE m),trivial⟩,trivial⟩) (fun n x=>kR) (fun _=>kR) n
theorem g263ok:FO (g263T m):=f1' g263H (g263T m) func263 (g263K m) fun _ h=>g263L0ok m h m
def g223H:Hints:=⟨[J [2,3,4],J [4]],[],[],[4],[],[[false,false]]⟩
def g223T:FunT:=⟨223,[.a (.agg [.bool,(.imm (.int .u32))]),.a (.agg [.bool,(.imm (.int .u32))])],.a (.agg [.bool,(.imm (.int .u32))]),[sD,sD],fun x=>g223 m x.1.1 x.1.2.1 x.2.1.1 x.2.1.2.1⟩
theorem g223ok:FO (g223T m):=fk g223H (g223T m) func223 (AllF.mem (l:=[g228T m,g263T m,g221T m]) ⟨g228ok m,g263ok m,g221ok m,trivial⟩)
def g147H:Hints:=⟨[J [2,3,4],J' [(3,1)] [2,3,4,5],J' [(0,1)] [2,3,4,14],J [4],J [4]],[],[],[4],[],[[false,false,false,false]]⟩
def g147T:FunT:=⟨147,[.a (.agg [.bool,.bool,(.imm (.int .u32)),(.int .i64)]),.a (.agg [.bool,.bool,(.imm (.int .u32)),(.int .i64)])],.a (.agg [.bool,.bool,(.imm (.int .u32)),(.int .i64)]),[sD,sD],fun x=>g147 m x.1.1 x.1.2.1 x.1.2.2.1 x.1.2.2.2.1 x.2.1.1 x.2.1.2.1 x.2.1.2.2.1 x.2.1.2.2.2.1⟩
theorem g147ok:FO (g147T m):=fk g147H (g147T m) func147 (AllF.mem (l:=[g151T m,g222T m,g223T m,g145T m]) ⟨g151ok m,g222ok m,g223ok m,g145ok m,trivial⟩)
def g150H:Hints:=⟨[J [1,2],J' [(2,1)] [1,2,3],J' [(0,1)] [1,2,9],J [1,2],J [2]],[],[],[2],[],[[false,false,false,false]]⟩
def g150T:FunT:=⟨150,[.a (.agg [.bool,.bool,(.imm (.int .u32)),(.int .i64)])],.a (.agg [.bool,.bool,(.imm (.int .u32)),(.int .i64)]),[sD],fun x=>g150 m x.1.1 x.1.2.1 x.1.2.2.1 x.1.2.2.2.1⟩
theorem g150ok:FO (g150T m):=fk g150H (g150T m) func150 (AllF.mem (l:=[g154T m,g212T m]) ⟨g154ok m,g212ok m,trivial⟩)
def g225H:Hints:=⟨[J [1,2,4],J' [(1,1),(3,1)] [2,4],J [4]],[],[],[4],[],[[false,false]]⟩
def g225T:FunT:=⟨225,[.a (.agg [.bool,(.imm (.int .u32))]),sI],.a (.agg [.bool,(.imm (.int .u32))]),[sD,sD],fun x=>g225 m x.1.1 x.1.2.1 x.2.1⟩
theorem g225ok:FO (g225T m):=fk g225H (g225T m) func225 (AllF.mem (l:=[g266T m]) ⟨g266ok m,trivial⟩)
def g152H:Hints:=⟨[J [2,3,4,5],J [2,3,4,5,6],J [4,5,6]],[],[],[4,5,6],[],[[false,false],[false,false],[false]]⟩
def g152T:FunT:=⟨152,[.a (.agg [.bool,.bool,(.imm (.int .u32)),(.int .i64)]),.a (.agg [.bool,.bool,(.imm (.int .u32)),(.int .i64)])],.tup [(.agg [.bool,(.imm (.int .u32))]),(.agg [.bool,(.imm (.int .u32))]),(.c (.int .i64))],[sD,sD],fun x=>g152 m x.1.1 x.1.2.1 x.1.2.2.1 x.1.2.2.2.1 x.2.1.1 x.2.1.2.1 x.2.1.2.2.1 x.2.1.2.2.2.1⟩
theorem g152ok:FO (g152T m):=fk g152H (g152T m) func152 (AllF.mem (l:=[g225T m]) ⟨g225ok m,trivial⟩)
def g284H:Hints:=⟨[J [0],J [2]],[],[],[2],[],[[false]]⟩
def g284T:FunT:=⟨284,[sI],sB,[sD],fun x=>g284 m x.1⟩
theorem g284ok:FO (g284T m):=fk g284H (g284T m) func284 noF
def g267H:Hints:=⟨[J [0,1],J [0,1,5],J [0,1,5,6],J' [(0,1)] [0,1,6,11],J' [(0,1)] [12],J [4],J [4],J' [(0,1)] [0,1,13],J [4],J [0,1,16],J [4],J' [(0,1),(1,1)] [19],J [4],J [4]],[],[],[4],[],[[false]]⟩
def g267T:FunT:=⟨267,[sI,sI],sI,[sD,sD],fun x=>g267 m x.1 x.2.1⟩
theorem g267ok:FO (g267T m):=fk g267H (g267T m) func267 (AllF.mem (l:=[g284T m]) ⟨g284ok m,trivial⟩)
def g285H:Hints:=⟨[J [0],J [2]],[],[],[2],[],[[false]]⟩
def g285T:FunT:=⟨285,[.a (.c (.int .u32))],sB,[sD],fun x=>g285 m x.1⟩
theorem g285ok:FO (g285T m):=fk g285H (g285T m) func285 noF
def g268H:Hints:=⟨[J [0,1],J [0,1,5],J [0,1,5,6],J' [(0,1)] [0,1,6,11],J' [(0,1)] [12],J [4],J [4],J' [(0,1)] [0,1,13],J [4],J [0,1,16],J [4],J' [(0,1),(1,1)] [19],J [4],J [4]],[],[],[4],[],[[false]]⟩
def g268T:FunT:=⟨268,[.a (.c (.int .u32)),.a (.c (.int .u32))],sI,[sD,sD],fun x=>g268 m x.1 x.2.1⟩
theorem g268ok:FO (g268T m):=fk g268H (g268T m) func268 (AllF.mem (l:=[g285T m]) ⟨g285ok m,trivial⟩)
def g227H:Hints:=⟨[J [0,1],J [0,1,10],J' [(0,1),(2,1)] [4],J [0,1,5],J [0,1,5,20],J' [(0,1)] [0,1,5],J [0,1,5,31],J' [(0,1),(4,1)] [4],J [4]],[(0,[0,1,5])],[(0,[]),(1,[0,1,5])],[4],[],[[false]]⟩
def g227T:FunT:=⟨227,[.a (.c (.imm (.int .u32))),.a (.c (.imm (.int .u32)))],sI,[sD,sD],fun x=>g227 m x.1 x.2.1⟩
noncomputable def g227C:Code:=codeOf f227
noncomputable def g227B0:Code:=qo g227C 0 0
theorem g227K:FL [g267T m,g268T m]:=AllF.mem ⟨g267ok m,g268ok m,trivial⟩
def g227L0X:LT:=⟨0,[(0,.a (.c (.imm (.int .u32)))),(1,.a (.c (.imm (.int .u32)))),(5,sI)],[(.ret,[(4,sI)]),(.exit 0,[])],fun n x=>g227L0 m n x.1 x.2.1 x.2.2.1⟩
theorem g227L0ok {E} (hE:EO E 41 g227H) (n):LO E g227B0 ((g227L0X m).at n):=lk hE (g227K m) (g227L0X m) n
theorem g227ok:FO (g227T m):=f1' g227H (g227T m) func227 (g227K m) fun _ h=>g227L0ok m h m
def g265H:Hints:=⟨[J [0,1],J [0,1,5],J [0,1,5,6],J' [(0,1)] [1,5,6,13,14,15],J [1,5,6,13,14,15,16],J [1,5,6,7,8,13,14,15],J' [(0,1),(2,1)] [1,5,7,9,13,14,15],J [1,5,7,9,13,14,15,27],J' [(0,1)] [1,5,7,9,13,14,15],J' [(1,1)] [1,5,9,13,14,15],J' [(0,1)] [1,5,6,13,14,15],J' [(1,1)] [1,5,6,13,14,15],J' [(0,1)] [4]],[(0,[1,5,6,13,14,15])],[(0,[5]),(1,[1,5,6,13,14,15])],[4],[],[[false]]⟩
def g265T:FunT:=⟨265,[.a (.c (.imm (.int .u32))),.a (.c (.imm (.int .u32)))],.a (.c (.imm (.int .u32))),[sD,sD],fun x=>g265 m x.1 x.2.1⟩
noncomputable def g265C:Code:=codeOf f265
noncomputable def g265B0:Code:=qo g265C 0 0
theorem g265K:FL [g228T m]:=AllF.mem ⟨g228ok m,trivial⟩
def g265L0X:LT:=⟨0,[(1,.a (.c (.imm (.int .u32)))),(5,.a (.c (.nm 0 (.int .u32)))),(6,sU),(13,.a (.c (.imm (.int .u32)))),(14,sI),(15,sI)],[(.exit 0,[(5,.a (.c (.nm 0 (.int .u32))))])],fun n x=>g265L0 m n x.1 x.2.1 x.2.2.1 x.2.2.2.1 x.2.2.2.2.1 x.2.2.2.2.2.1⟩
theorem g265L0ok {E} (hE:EO E 47 g265H) (n):LO E g265B0 ((g265L0X m).at n):=lk hE (g265K m) (g265L0X m) n
theorem g265ok:FO (g265T m):=f1' g265H (g265T m) func265 (g265K m) fun _ h=>g265L0ok m h m
def g224H:Hints:=⟨[J [2,3,4],J [2,3,4,5,6],J [2,3,4,5,6,13],J' [(2,1),(3,1)] [4],J [2,3,4,5,6,25],J' [(2,1),(3,1)] [4],J' [(2,1),(3,1)] [4]],[],[(0,[3,4,5,6])],[4],[],[[false,false]]⟩
def g224T:FunT:=⟨224,[.a (.agg [.bool,(.imm (.int .u32))]),.a (.agg [.bool,(.imm (.int .u32))])],.a (.agg [.bool,(.imm (.int .u32))]),[sD,sD],fun x=>g224 m x.1.1 x.1.2.1 x.2.1.1 x.2.1.2.1⟩
theorem g224ok:FO (g224T m):=fk g224H (g224T m) func224 (AllF.mem (l:=[g228T m,g264T m,g221T m,g227T m,g265T m]) ⟨g228ok m,g264ok m,g221ok m,g227ok m,g265ok m,trivial⟩)
def g149H:Hints:=⟨[J [2,3,4],J' [(3,1)] [2,3,4,5],J' [(0,1)] [2,3,4,17],J [4],J' [(3,1)] [4,6,7,8],J' [(3,1)] [4]],[],[],[4],[],[[false,false,false,false]]⟩
def g149T:FunT:=⟨149,[.a (.agg [.bool,.bool,(.imm (.int .u32)),(.int .i64)]),.a (.agg [.bool,.bool,(.imm (.int .u32)),(.int .i64)])],.a (.agg [.bool,.bool,(.imm (.int .u32)),(.int .i64)]),[sD,sD],fun x=>g149 m x.1.1 x.1.2.1 x.1.2.2.1 x.1.2.2.2.1 x.2.1.1 x.2.1.2.1 x.2.1.2.2.1 x.2.1.2.2.2.1⟩
theorem g149ok:FO (g149T m):=fk g149H (g149T m) func149 (AllF.mem (l:=[g151T m,g222T m,g152T m,g224T m,g145T m]) ⟨g151ok m,g222ok m,g152ok m,g224ok m,g145ok m,trivial⟩)
def g83H:Hints:=⟨[J [2,3,4],J [4]],[],[],[4],[],[[false,false,false,false]]⟩
def g83T:FunT:=⟨83,[.a (.agg [.bool,.bool,(.imm (.int .u32)),(.int .i64)]),.a (.agg [.bool,.bool,(.imm (.int .u32)),(.int .i64)])],.a (.agg [.bool,.bool,(.imm (.int .u32)),(.int .i64)]),[sD,sD],fun x=>g83 m x.1.1 x.1.2.1 x.1.2.2.1 x.1.2.2.2.1 x.2.1.1 x.2.1.2.1 x.2.1.2.2.1 x.2.1.2.2.2.1⟩
theorem g83ok:FO (g83T m):=fk g83H (g83T m) func83 (AllF.mem (l:=[g150T m,g149T m]) ⟨g150ok m,g149ok m,trivial⟩)
def g194H:Hints:=⟨[J [0,2],J [2]],[],[],[2],[],[[false,false,false,false]]⟩
def g194T:FunT:=⟨194,[.a (.c (.imm (.pr .bool (.pr (.pr .bool (.sl false (.int .u32))) (.int .i64)))))],.a (.agg [.bool,.bool,(.imm (.int .u32)),(.int .i64)]),[sD],fun x=>g194 m x.1⟩
theorem g194ok:FO (g194T m):=fk g194H (g194T m) func194 (AllF.mem (l:=[g147T m,g83T m]) ⟨g147ok m,g83ok m,trivial⟩)
def g193H:Hints:=⟨[J [1],J' [(2,1)] [1],J [2]],[],[],[2],[],[[false]]⟩
def g193T:FunT:=⟨193,[.a (.agg [.bool,.bool,(.imm (.int .u32)),(.int .i64)])],sI,[sD],fun x=>g193 m x.1.1 x.1.2.1 x.1.2.2.1 x.1.2.2.2.1⟩
theorem g193ok:FO (g193T m):=fk g193H (g193T m) func193 (AllF.mem (l:=[g154T m,g226T m]) ⟨g154ok m,g226ok m,trivial⟩)
def g104H:Hints:=⟨[J [1],J [1,3],J [1,3,15],J [2],J [1,3,18],J [2],J' [(3,1),(6,1)] [1,23],J [2],J' [(2,1)] [1,4,5],J' [(0,1),(2,1),(7,1),(9,1)] [1,56],J [2],J [1,61,62,63],J [1,61,62,63,64],J [1,7,61,62,63],J' [(0,1)] [1,61,62,63,67,68,69],J [1,61,62,63,67,68,69,70],J [1,9,61,62,63,67,68,69],J' [(0,1)] [1,61,62,63,67,68,69,75],J [2],J' [(1,1)] [1,61,62,63,67,68,69],J' [(1,1)] [1,61,62,63],J [79,80,81],J [79,80,81,82],J [11,79,80,81],J' [(3,1)] [79,80,81,93],J [2],J' [(1,1)] [79,80,81],J [2]],[(1,[1,61,62,63]),(3,[1,61,62,63,67,68,69]),(5,[79,80,81])],[(0,[1]),(1,[1]),(2,[1,61,62,63]),(3,[1,61,62,63]),(4,[1,61,62,63,67,68,69]),(5,[]),(6,[79,80,81])],[2],[],[[false]]⟩
def g104T:FunT:=⟨104,[.a (.agg [(.imm (.int .i64)),(.imm (.int .i64)),(.imm (.int .u64)),(.imm (.int .i64)),(.imm (.int .i64)),(.imm (.int .u64)),(.int .i64)])],sI,[sD],fun x=>g104 m x.1.1 x.1.2.1 x.1.2.2.1 x.1.2.2.2.1 x.1.2.2.2.2.1 x.1.2.2.2.2.2.1 x.1.2.2.2.2.2.2.1⟩
noncomputable def g104C:Code:=codeOf f104
noncomputable def g104B1:Code:=qo g104C 0 0
noncomputable def g104B3:Code:=qo g104B1 1 0
noncomputable def g104B5:Code:=qo g104C 0 1
theorem g104K:FL [g189T m,g190T m,g191T m,g47T m,g192T m,g194T m,g193T m]:=AllF.mem ⟨g189ok m,g190ok m,g191ok m,g47ok m,g192ok m,g194ok m,g193ok m,trivial⟩
def g104L2X:LT:=⟨5,[(79,.a (.c (.imm (.sl false (.pr .bool (.pr (.pr .bool (.sl false (.int .u32))) (.int .i64))))))),(80,sI),(81,sI)],[(.ret,[(2,sI)]),(.exit 5,[])],fun n x=>g104L2 m n x.1 x.2.1 x.2.2.1⟩
theorem g104L2ok {E} (hE:EO E 95 g104H) (n):LO E g104B5 ((g104L2X m).at n):=lk hE (g104K m) (g104L2X m) n
def g104L1X:LT:=⟨3,[(1,sX 0 [iL,iL,.imm (.int .u64),iL,iL,.imm (.int .u64),iI]),(61,.a (.c (.nm 1 (.sl false (.int .u64))))),(62,sI),(63,sI),(67,.a (.c (.imm (.int .u64)))),(68,sI),(69,sI)],[(.ret,[(2,sI)]),(.exit 3,[(1,sX 0 [iL,iL,.imm (.int .u64),iL,iL,.imm (.int .u64),iI]),(61,.a (.c (.nm 1 (.sl false (.int .u64))))),(62,sI),(63,sI)])],fun n x=>g104L1 m n x.1.1 x.1.2.1 x.1.2.2.1 x.1.2.2.2.1 x.1.2.2.2.2.1 x.1.2.2.2.2.2.1 x.1.2.2.2.2.2.2.1 x.2.1 x.2.2.1 x.2.2.2.1 x.2.2.2.2.1 x.2.2.2.2.2.1 x.2.2.2.2.2.2.1⟩
theorem g104L1ok {E} (hE:EO E 95 g104H) (n):LO E g104B3 ((g104L1X m).at n):=lk hE (g104K m) (g104L1X m) n
def g104L0X:LT:=⟨1,[(1,sX 0 [iL,iL,.imm (.int .u64),iL,iL,.imm (.int .u64),iI]),(61,.a (.c (.nm 1 (.sl false (.int .u64))))),(62,sI),(63,sI)],[(.ret,[(2,sI)]),(.exit 1,[(1,sX 0 [iL,iL,.imm (.int .u64),iL,iL,.imm (.int .u64),iI])])],fun n x=>g104L0 m n x.1.1 x.1.2.1 x.1.2.2.1 x.1.2.2.2.1 x.1.2.2.2.2.1 x.1.2.2.2.2.2.1 x.1.2.2.2.2.2.2.1 x.2.1 x.2.2.1 x.2.2.2.1⟩
theorem g104L0ok {E} (hE:EO E 95 g104H) (n):LO E g104B1 ((g104L0X m).at n):=
 lok hmix htt hE (g104K m) (L:=[(g104L1X m).at m]) (g104L0X m) (l:=[(3,g104B3)]) kR (fun _ _=>⟨qi ⟨yb (g104L1ok m hE m),trivial⟩,trivial⟩) (fun n x=>kR) (fun _=>kR) n
theorem g104ok:FO (g104T m):=
 fok hmix htt (H:=g104H) (g104T m) func104 kR (g104K m) (L:=[(g104L0X m).at m,(g104L2X m).at m]) (l:=[(1,g104B1),(5,g104B5)]) kR (fun _ hE _ _=>⟨qi ⟨yb (g104L0ok m hE m),nb rfl,trivial⟩,qi ⟨nb rfl,yb (g104L2ok m hE m),trivial⟩,trivial⟩) (fun x=>kR)
def g148H:Hints:=⟨[J [0,2],J [0,2,3],J [0,2,3,4],J' [(0,1)] [2,3,4,12,13,14],J [2,3,4,12,13,14,15],J [2,3,4,6,12,13,14],J' [(2,1)] [2,3,4,7,8,12,13,14],J' [(0,1)] [2,3,4,7,12,13,14,24],J [2],J' [(0,1)] [2,3,4,7,12,13,14],J' [(0,1)] [2,3,4,12,13,14],J' [(1,1)] [2,3,4,12,13,14],J' [(0,2)] [2,3,4,9],J' [(0,1)] [2,4,9,35,36,37],J [2,4,9,35,36,37,38],J [2,4,9,11,35,36,37],J' [(0,2)] [2,4,9,35,36,37],J' [(1,1)] [2,4,9,35,36,37],J' [(1,1)] [2]],[(0,[2,3,4,12,13,14]),(2,[2,4,9,35,36,37])],[(0,[2,3,4]),(1,[2,3,4,12,13,14]),(2,[2,4,9]),(3,[2,4,9,35,36,37])],[2],[],[[false,false,false,false]]⟩
def g148T:FunT:=⟨148,[.a (.c (.imm (.pr .bool (.pr (.pr .bool (.sl false (.int .u32))) (.int .i64)))))],.a (.agg [.bool,.bool,(.imm (.int .u32)),(.int .i64)]),[sD],fun x=>g148 m x.1⟩
noncomputable def g148C:Code:=codeOf f148
noncomputable def g148B0:Code:=qo g148C 0 0
noncomputable def g148B2:Code:=qo g148C 0 1
theorem g148K:FL [g154T m,g222T m,g225T m,g224T m,g145T m]:=AllF.mem ⟨g154ok m,g222ok m,g225ok m,g224ok m,g145ok m,trivial⟩
def g148L1X:LT:=⟨2,[(2,sX 0 [.bool,.bool,.nm 1 (.int .u32),iI]),(4,sI),(9,sX 2 [.bool,.imm (.int .u32)]),(35,.a (.c (.nm 3 (.pr .bool (.pr (.pr .bool (.sl false (.int .u32))) (.int .i64)))))),(36,sI),(37,sI)],[(.exit 2,[(2,sX 0 [.bool,.bool,.nm 1 (.int .u32),iI]),(4,sI),(9,sX 2 [.bool,.imm (.int .u32)])])],fun n x=>g148L1 m n x.1.1 x.1.2.1 x.1.2.2.1 x.1.2.2.2.1 x.2.1 x.2.2.1.1 x.2.2.1.2.1 x.2.2.2.1 x.2.2.2.2.1 x.2.2.2.2.2.1⟩
theorem g148L1ok {E} (hE:EO E 54 g148H) (n):LO E g148B2 ((g148L1X m).at n):=lk hE (g148K m) (g148L1X m) n
def g148L0X:LT:=⟨0,[(2,sX 0 [.bool,.bool,.nm 1 (.int .u32),iI]),(3,.a (.c (.nm 2 (.pr .bool (.pr (.pr .bool (.sl false (.int .u32))) (.int .i64)))))),(4,sI),(12,.a (.c (.imm (.pr .bool (.pr (.pr .bool (.sl false (.int .u32))) (.int .i64)))))),(13,sI),(14,sI)],[(.ret,[(2,sX 0 [.bool,.bool,.nm 1 (.int .u32),iI])]),(.exit 0,[(2,sX 0 [.bool,.bool,.nm 1 (.int .u32),iI]),(3,.a (.c (.nm 2 (.pr .bool (.pr (.pr .bool (.sl false (.int .u32))) (.int .i64)))))),(4,sI)])],fun n x=>g148L0 m n x.1.1 x.1.2.1 x.1.2.2.1 x.1.2.2.2.1 x.2.1 x.2.2.1 x.2.2.2.1 x.2.2.2.2.1 x.2.2.2.2.2.1⟩
theorem g148L0ok {E} (hE:EO E 54 g148H) (n):LO E g148B0 ((g148L0X m).at n):=lk hE (g148K m) (g148L0X m) n
theorem g148ok:FO (g148T m):=
 fok hmix htt (H:=g148H) (g148T m) func148 kR (g148K m) (L:=[(g148L0X m).at m,(g148L1X m).at m]) (l:=[(0,g148B0),(2,g148B2)]) kR (fun _ hE _ _=>⟨qi ⟨yb (g148L0ok m hE m),nb rfl,trivial⟩,qi ⟨nb rfl,yb (g148L1ok m hE m),trivial⟩,trivial⟩) (fun x=>kR)
def g82H:Hints:=⟨[J [0,1,4],J [0,1,4,5],J [0,1,4,5,8,9],J [0,1,4,5,8,9,10],J [0,1,4,5,6,8,9],J' [(0,1)] [0,1,4,5,8,9],J' [(1,1)] [0,1,4,5,8,9],J' [(0,1)] [4]],[(0,[0,1,4,5,8,9])],[(0,[4,5]),(1,[0,1,4,5,8,9])],[4],[],[[false,false,false,false]]⟩
def g82T:FunT:=⟨82,[.a (.c (.imm (.int .u64))),.a (.c (.imm (.int .u64)))],.a (.agg [.bool,.bool,(.imm (.int .u32)),(.int .i64)]),[sD,sD],fun x=>g82 m x.1 x.2.1⟩
noncomputable def g82C:Code:=codeOf f82
noncomputable def g82B0:Code:=qo g82C 0 0
theorem g82K:FL [g112T m,g147T m,g148T m]:=AllF.mem ⟨g112ok m,g147ok m,g148ok m,trivial⟩
def g82L0X:LT:=⟨0,[(0,.a (.c (.imm (.int .u64)))),(1,.a (.c (.imm (.int .u64)))),(4,sX 0 [.bool,.bool,.nm 1 (.int .u32),iI]),(5,.a (.c (.nm 2 (.pr .bool (.pr (.pr .bool (.sl false (.int .u32))) (.int .i64)))))),(8,sI),(9,sI)],[(.exit 0,[(4,sX 0 [.bool,.bool,.nm 1 (.int .u32),iI]),(5,.a (.c (.nm 2 (.pr .bool (.pr (.pr .bool (.sl false (.int .u32))) (.int .i64))))))])],fun n x=>g82L0 m n x.1 x.2.1 x.2.2.1.1 x.2.2.1.2.1 x.2.2.1.2.2.1 x.2.2.1.2.2.2.1 x.2.2.2.1 x.2.2.2.2.1 x.2.2.2.2.2.1⟩
theorem g82L0ok {E} (hE:EO E 29 g82H) (n):LO E g82B0 ((g82L0X m).at n):=lk hE (g82K m) (g82L0X m) n
theorem g82ok:FO (g82T m):=f1' g82H (g82T m) func82 (g82K m) fun _ h=>g82L0ok m h m
def g206H:Hints:=⟨[J [1,2],J' [(2,1)] [1,2],J [2]],[],[],[2],[],[[false,false,false,false]]⟩
def g206T:FunT:=⟨206,[.a (.agg [.bool,.bool,(.imm (.int .u32)),(.int .i64)])],.a (.agg [.bool,.bool,(.imm (.int .u32)),(.int .i64)]),[sD],fun x=>g206 m x.1.1 x.1.2.1 x.1.2.2.1 x.1.2.2.2.1⟩
theorem g206ok:FO (g206T m):=fk g206H (g206T m) func206 (AllF.mem (l:=[g154T m]) ⟨g154ok m,trivial⟩)
def g294H:Hints:=⟨[J [0,1],J [0,1,6],J [0,1,6,7],J [0,1,6,7,8],J [0,1,6,7,8,17],J' [(0,1)] [0,1,6,7,8],J' [(0,1)] [0,1,6,8,9],J [0,1,6,8,9],J' [(0,1)] [0,1,6,7,8],J' [(0,1),(2,1)] [4,5]],[(0,[0,1,6,7,8])],[(0,[6,7]),(1,[0,1,6,7,8])],[4,5],[],[[false],[false]]⟩
def g294T:FunT:=⟨294,[.a (.c (.imm (.int .u32))),.a (.c (.int .u32))],.tup [(.c (.imm (.int .u32))),(.c (.int .u32))],[sD,sD],fun x=>g294 m x.1 x.2.1⟩
noncomputable def g294C:Code:=codeOf f294
noncomputable def g294B0:Code:=qo g294C 0 0
theorem g294K:FL [g228T m]:=AllF.mem ⟨g228ok m,trivial⟩
def g294L0X:LT:=⟨0,[(0,.a (.c (.imm (.int .u32)))),(1,.a (.c (.int .u32))),(6,.a (.c (.nm 0 (.int .u32)))),(7,sU),(8,sI)],[(.exit 0,[(6,.a (.c (.nm 0 (.int .u32)))),(7,sU)])],fun n x=>g294L0 m n x.1 x.2.1 x.2.2.1 x.2.2.2.1 x.2.2.2.2.1⟩
theorem g294L0ok {E} (hE:EO E 44 g294H) (n):LO E g294B0 ((g294L0X m).at n):=lk hE (g294K m) (g294L0X m) n
theorem g294ok:FO (g294T m):=f1' g294H (g294T m) func294 (g294K m) fun _ h=>g294L0ok m h m
def g295H:Hints:=⟨[J [0,1],J [0,1,5],J [0,1,5,6],J [0,1,5,7,8],J' [(2,1)] [0,1,5,7,8,71],J' [(0,1)] [0,1,5,7,8],J' [(0,1)] [0,1,5,7,8],J [0,1,5,7,8,83],J [0,1,5,7,9,10],J [0,1,5,7,9,10,84,85,86],J [0,1,5,7,9,10,84,85,86,87],J [0,1,5,7,9,10,11,12,84,85,86],J' [(1,1),(4,1)] [0,1,5,7,10,11,13,84,85,86],J [0,1,5,7,9,10,11,13,84,85,86],J' [(5,1),(8,1)] [0,1,5,7,9,11,14,84,85,86],J' [(1,1)] [0,1,5,7,9,14,84,85,86],J' [(0,1)] [0,1,5,7,9,10,84,85,86],J' [(1,1)] [0,1,5,7,9,10,84,85,86],J' [(5,1),(7,1)] [0,1,5,7,15],J [0,1,5,7,15],J' [(0,1)] [0,1,5,7,137],J' [(0,1)] [0,4],J [0,1,5,7,9],J' [(0,1)] [0,5,7,9,140,141,142],J [0,5,7,9,140,141,142,143],J [0,5,7,9,16,17,140,141,142],J' [(5,1),(8,1)] [0,5,7,16,18,140,141,142],J' [(1,1)] [0,5,7,18,140,141,142],J' [(0,1)] [0,5,7,9,140,141,142],J' [(1,1)] [0,5,7,9,140,141,142],J' [(1,1),(4,1)] [0,7],J' [(0,1)] [0,4]],[(0,[0,1,5,7,8]),(2,[0,1,5,7,9,10,84,85,86]),(4,[0,5,7,9,140,141,142])],[(0,[0,1,5,7]),(1,[0,1,5,7,8]),(2,[0,1,5,7,9,10]),(3,[0,1,5,7,9,10,84,85,86]),(4,[0,5,7,9]),(5,[0,5,7,9,140,141,142])],[0,4],[0],[[false]]⟩
def g295T:FunT:=⟨295,[.a (.c (.wn 0 (.int .u32))),.a (.c (.imm (.int .u32)))],.a (.c (.int .u32)),[.a (.c (.wn 0 (.int .u32))),sD],fun x=>g295 m x.1 x.2.1⟩
noncomputable def g295C:Code:=codeOf f295
noncomputable def g295B0:Code:=qo g295C 0 0
noncomputable def g295B2:Code:=qo g295C 0 1
noncomputable def g295B4:Code:=qo g295C 0 2
def g295L2X:LT:=⟨4,[(0,.a (.c (.wn 0 (.int .u32)))),(5,sI),(7,sU),(9,sU),(140,.a (.c (.imm (.int .u32)))),(141,sI),(142,sI)],[(.exit 4,[(0,.a (.c (.wn 0 (.int .u32)))),(5,sI),(7,sU),(9,sU)])],fun n x=>g295L2 m n x.1 x.2.1 x.2.2.1 x.2.2.2.1 x.2.2.2.2.1 x.2.2.2.2.2.1 x.2.2.2.2.2.2.1⟩
theorem g295L2ok {E} (hE:EO E 177 g295H) (n):LO E g295B4 ((g295L2X m).at n):=lk hE noF (g295L2X m) n
def g295L1X:LT:=⟨2,[(0,.a (.c (.wn 0 (.int .u32)))),(1,.a (.c (.imm (.int .u32)))),(5,sI),(7,sU),(9,sU),(10,sU),(84,.a (.c (.imm (.int .u32)))),(85,sI),(86,sI)],[(.exit 2,[(0,.a (.c (.wn 0 (.int .u32)))),(1,.a (.c (.imm (.int .u32)))),(5,sI),(7,sU),(9,sU),(10,sU)])],fun n x=>g295L1 m n x.1 x.2.1 x.2.2.1 x.2.2.2.1 x.2.2.2.2.1 x.2.2.2.2.2.1 x.2.2.2.2.2.2.1 x.2.2.2.2.2.2.2.1 x.2.2.2.2.2.2.2.2.1⟩
theorem g295L1ok {E} (hE:EO E 177 g295H) (n):LO E g295B2 ((g295L1X m).at n):=lk hE noF (g295L1X m) n
def g295L0X:LT:=⟨0,[(0,.a (.c (.wn 0 (.int .u32)))),(1,.a (.c (.imm (.int .u32)))),(5,sI),(7,sU),(8,sU)],[(.exit 0,[(0,.a (.c (.wn 0 (.int .u32)))),(1,.a (.c (.imm (.int .u32)))),(5,sI),(7,sU)])],fun n x=>g295L0 m n x.1 x.2.1 x.2.2.1 x.2.2.2.1 x.2.2.2.2.1⟩
theorem g295L0ok {E} (hE:EO E 177 g295H) (n):LO E g295B0 ((g295L0X m).at n):=lk hE noF (g295L0X m) n
theorem g295ok:FO (g295T m):=
 fok hmix htt (H:=g295H) (g295T m) func295 kR noF (L:=[(g295L0X m).at m,(g295L1X m).at m,(g295L2X m).at m]) (l:=[(0,g295B0),(2,g295B2),(4,g295B4)]) kR (fun _ hE _ _=>⟨qi ⟨yb (g295L0ok m hE m),nb rfl,nb rfl,trivial⟩,qi ⟨nb rfl,yb (g295L1ok m hE m),nb rfl,trivial⟩,qi ⟨nb rfl,nb rfl,yb (g295L2ok m hE m),trivial⟩,trivial⟩) (fun x=>kR)
def g279H:Hints:=⟨[J [0,1],J [0,1,16],J' [(0,1)] [4,5],J [0,1,21],J' [(0,1),(1,1),(5,1)] [6,7],J' [(0,1),(1,1)] [4,5],J [0,1,8],J' [(0,1)] [0,8,9],J [0,8,9,10],J' [(1,1)] [8,9,10],J [8,9,10,11],J [4,8,9,10,11],J [4,8,9,10,11,12],J [4,8,9,10,11,12,64],J' [(0,1)] [4,8,9,10,11,12],J' [(10,300)] [4,8,9,10,11,12],J' [(0,1),(1,1),(4,1),(6,1)] [4,5],J' [(0,1),(2,1)] [4,5]],[(0,[4,8,9,10,11,12])],[(0,[4,8,10,11]),(1,[4,8,9,10,11,12])],[4,5],[],[[false],[false]]⟩
def g279T:FunT:=⟨279,[.a (.c (.imm (.int .u32))),.a (.c (.imm (.int .u32)))],.tup [(.c (.imm (.int .u32))),(.c (.imm (.int .u32)))],[sD,sD],fun x=>g279 m x.1 x.2.1⟩
noncomputable def g279C:Code:=codeOf f279
noncomputable def g279B0:Code:=qo g279C 0 0
theorem g279K:FL [g227T m,g233T m,g294T m,g228T m,g280T m,g282T m,g295T m,g283T m]:=AllF.mem ⟨g227ok m,g233ok m,g294ok m,g228ok m,g280ok m,g282ok m,g295ok m,g283ok m,trivial⟩
def g279L0X:LT:=⟨0,[(4,.a (.c (.nm 0 (.int .u32)))),(8,sI),(9,.a (.c (.imm (.int .u32)))),(10,.a (.c (.nm 1 (.int .u32)))),(11,sI),(12,sI)],[(.exit 0,[(4,.a (.c (.nm 0 (.int .u32)))),(8,sI),(10,.a (.c (.nm 1 (.int .u32)))),(11,sI)])],fun n x=>g279L0 m n x.1 x.2.1 x.2.2.1 x.2.2.2.1 x.2.2.2.2.1 x.2.2.2.2.2.1⟩
theorem g279L0ok {E} (hE:EO E 91 g279H) (n):LO E g279B0 ((g279L0X m).at n):=lk hE (g279K m) (g279L0X m) n
theorem g279ok:FO (g279T m):=f1' g279H (g279T m) func279 (g279K m) fun _ h=>g279L0ok m h m
def g278H:Hints:=⟨[J [0],J [0,10],J [2],J [0,3],J' [(3,1)] [0,3,4],J' [(1,1),(4,1)] [0,3,6],J [0,3,6,33],J' [(0,1)] [2],J' [(0,1)] [0,3]],[(0,[0,3])],[(0,[2]),(1,[0,3])],[2],[],[[false]]⟩
def g278T:FunT:=⟨278,[.a (.c (.imm (.int .u32)))],.a (.c (.imm (.int .u32))),[sD],fun x=>g278 m x.1⟩
noncomputable def g278C:Code:=codeOf f278
noncomputable def g278B0:Code:=qo g278C 0 0
theorem g278K:FL [g269T m,g282T m,g279T m,g264T m,g283T m,g227T m]:=AllF.mem ⟨g269ok m,g282ok m,g279ok m,g264ok m,g283ok m,g227ok m,trivial⟩
def g278L0X:LT:=⟨0,[(0,.a (.c (.imm (.int .u32)))),(3,.a (.c (.imm (.int .u32))))],[(.ret,[(2,.a (.c (.imm (.int .u32))))])],fun n x=>g278L0 m n x.1 x.2.1⟩
theorem g278L0ok {E} (hE:EO E 36 g278H) (n):LO E g278B0 ((g278L0X m).at n):=lk hE (g278K m) (g278L0X m) n
theorem g278ok:FO (g278T m):=f1' g278H (g278T m) func278 (g278K m) fun _ h=>g278L0ok m h m
def g257H:Hints:=⟨[J [1,2],J [1,2,6],J [2,3],J [2,3]],[],[],[2,3],[],[[false,false],[false]]⟩
def g257T:FunT:=⟨257,[.a (.agg [.bool,(.imm (.int .u32))])],.tup [(.agg [.bool,(.imm (.int .u32))]),(.c (.int .i64))],[sD],fun x=>g257 m x.1.1 x.1.2.1⟩
theorem g257ok:FO (g257T m):=fk g257H (g257T m) func257 (AllF.mem (l:=[g226T m,g228T m,g278T m,g221T m]) ⟨g226ok m,g228ok m,g278ok m,g221ok m,trivial⟩)
def g153H:Hints:=⟨[J [2,3],J [2,3,5,6],J [2,3,5,6,11],J [4],J' [(1,1)] [2,3,5,15],J [4],J' [(0,1)] [4]],[],[(0,[2,3,5])],[4],[],[[false]]⟩
def g153T:FunT:=⟨153,[.a (.agg [.bool,(.imm (.int .u32))]),.a (.agg [.bool,(.imm (.int .u32))])],sI,[sD,sD],fun x=>g153 m x.1.1 x.1.2.1 x.2.1.1 x.2.1.2.1⟩
theorem g153ok:FO (g153T m):=fk g153H (g153T m) func153 (AllF.mem (l:=[g226T m,g228T m,g227T m]) ⟨g226ok m,g228ok m,g227ok m,trivial⟩)
def g209H:Hints:=⟨[J [1,2,4],J' [(0,1)] [2,4,5],J [2,4,5,22],J' [(0,1)] [2,4,5],J [2,4,5,6],J' [(2,1)] [2,4,5,6,7],J' [(3,1)] [4]],[],[],[4],[],[[false,false,false,false,false]]⟩
def g209T:FunT:=⟨209,[.a (.agg [.bool,.bool,(.imm (.int .u32)),(.int .i64)]),sI],.a (.agg [.bool,.bool,(.imm (.int .u32)),(.int .i64),.bool]),[sD,sD],fun x=>g209 m x.1.1 x.1.2.1 x.1.2.2.1 x.1.2.2.2.1 x.2.1⟩
theorem g209ok:FO (g209T m):=fk g209H (g209T m) func209 (AllF.mem (l:=[g231T m,g225T m,g257T m,g223T m,g153T m]) ⟨g231ok m,g225ok m,g257ok m,g223ok m,g153ok m,trivial⟩)
def g252H:Hints:=⟨[J [1],J [2]],[],[],[2],[],[[false]]⟩
def g252T:FunT:=⟨252,[.a (.agg [.bool,.bool,(.imm (.int .u32)),(.int .i64),.bool])],sI,[sD],fun x=>g252 m x.1.1 x.1.2.1 x.1.2.2.1 x.1.2.2.2.1 x.1.2.2.2.2.1⟩
theorem g252ok:FO (g252T m):=fk g252H (g252T m) func252 (AllF.mem (l:=[g231T m]) ⟨g231ok m,trivial⟩)
def g293H:Hints:=⟨[J [2,3,4],J [2,3,4],J [4]],[],[],[4],[],[[false,false]]⟩
def g293T:FunT:=⟨293,[.a (.agg [.bool,(.imm (.int .u32))]),.a (.agg [.bool,(.imm (.int .u32))])],.a (.agg [.bool,(.imm (.int .u32))]),[sD,sD],fun x=>g293 m x.1.1 x.1.2.1 x.2.1.1 x.2.1.2.1⟩
theorem g293ok:FO (g293T m):=fk g293H (g293T m) func293 (AllF.mem (l:=[g224T m]) ⟨g224ok m,trivial⟩)
def g277H:Hints:=⟨[J [1,2,4],J [1,2,4,7],J' [(1,1)] [1,2,4,14],J [4,5,6],J [1,2,4],J [1,2,4,8],J' [(2,1)] [2,4,5,8],J' [(2,1)] [2,4,5,8,37],J [2,4,5,8],J' [(1,1),(5,1)] [4,5,6]],[],[],[4,5,6],[],[[false,false],[false],[false]]⟩
def g277T:FunT:=⟨277,[.a (.agg [.bool,.bool,(.imm (.int .u32)),(.int .i64),.bool]),sI],.tup [(.agg [.bool,(.imm (.int .u32))]),(.c (.int .i64)),(.c .bool)],[sD,sD],fun x=>g277 m x.1.1 x.1.2.1 x.1.2.2.1 x.1.2.2.2.1 x.1.2.2.2.2.1 x.2.1⟩
theorem g277ok:FO (g277T m):=fk g277H (g277T m) func277 (AllF.mem (l:=[g231T m,g232T m,g225T m,g293T m,g146T m,g153T m,g226T m]) ⟨g231ok m,g232ok m,g225ok m,g293ok m,g146ok m,g153ok m,g226ok m,trivial⟩)
def g254H:Hints:=⟨[J [1,2,3,6],J [1,2,3,6,7,8,9],J [1,2,3,6,7,8,9,16],J' [(3,1)] [2,3,6,7,8,9],J' [(1,1),(6,1)] [2,3,6,7,8,9],J [2,3,6,7,8,9,10],J' [(2,1),(5,1),(10,1)] [3,6,7,10],J' [(0,1)] [2,3,6,7,8,10,49],J [2,3,6,7,8,10,51],J [3,6,7,10],J [2,3,6,7,8,10,56],J [3,6,7,10],J' [(0,1)] [3,6,7,8,10,62],J' [(0,1)] [3,6,7,65],J [3,6,7],J [6,7,70],J [6,7],J [6]],[],[(0,[3,6,7,10])],[6],[],[[false,false]]⟩
def g254T:FunT:=⟨254,[.a (.agg [.bool,.bool,(.imm (.int .u32)),(.int .i64),.bool]),sI,sI],.a (.agg [.bool,(.imm (.int .u32))]),[sD,sD,sD],fun x=>g254 m x.1.1 x.1.2.1 x.1.2.2.1 x.1.2.2.2.1 x.1.2.2.2.2.1 x.2.1 x.2.2.1⟩
theorem g254ok:FO (g254T m):=fk g254H (g254T m) func254 (AllF.mem (l:=[g225T m,g212T m,g277T m,g146T m,g224T m,g226T m,g230T m]) ⟨g225ok m,g212ok m,g277ok m,g146ok m,g224ok m,g226ok m,g230ok m,trivial⟩)
def g155H:Hints:=⟨[J [1,2],J [2]],[],[],[2],[],[[false,false]]⟩
def g155T:FunT:=⟨155,[.a (.agg [.bool,(.imm (.int .u32))])],.a (.agg [.bool,(.imm (.int .u32))]),[sD],fun x=>g155 m x.1.1 x.1.2.1⟩
theorem g155ok:FO (g155T m):=fk g155H (g155T m) func155 (AllF.mem (l:=[g233T m,g221T m]) ⟨g233ok m,g221ok m,trivial⟩)
def g253H:Hints:=⟨[J [1],J [1,4],J [1,4,13],J [2,3],J [1,4,5],J' [(0,1)] [1,5,14,15,16],J [1,5,14,15,16,17],J [1,5,6,7,14,15,16],J' [(0,1),(1,1),(3,1)] [1,5,14,15,16],J' [(1,1)] [1,5,14,15,16],J' [(2,1),(6,1)] [1,5,29],J' [(0,1)] [2,3],J' [(2,1),(6,1)] [5,45],J' [(0,1)] [2,3],J [2,3]],[(0,[1,5,14,15,16])],[(0,[1,5]),(1,[1,5,14,15,16]),(2,[])],[2,3],[],[[false],[false]]⟩
def g253T:FunT:=⟨253,[.a (.agg [.bool,(.imm (.int .u32))])],.tup [(.c (.int .i64)),(.c .bool)],[sD],fun x=>g253 m x.1.1 x.1.2.1⟩
noncomputable def g253C:Code:=codeOf f253
noncomputable def g253B0:Code:=qo g253C 0 0
theorem g253K:FL [g228T m]:=AllF.mem ⟨g228ok m,trivial⟩
def g253L0X:LT:=⟨0,[(1,sX 0 [.bool,.imm (.int .u32)]),(5,sU),(14,.a (.c (.imm (.int .u32)))),(15,sI),(16,sI)],[(.exit 0,[(1,sX 0 [.bool,.imm (.int .u32)]),(5,sU)])],fun n x=>g253L0 m n x.1.1 x.1.2.1 x.2.1 x.2.2.1 x.2.2.2.1 x.2.2.2.2.1⟩
theorem g253L0ok {E} (hE:EO E 59 g253H) (n):LO E g253B0 ((g253L0X m).at n):=lk hE (g253K m) (g253L0X m) n
theorem g253ok:FO (g253T m):=f1' g253H (g253T m) func253 (g253K m) fun _ h=>g253L0ok m h m
def g255H:Hints:=⟨[J [0,1],J' [(0,1)] [0,5],J' [(0,1)] [4],J' [(0,1)] [4]],[],[],[4],[],[[false]]⟩
def g255T:FunT:=⟨255,[sU,sB],sU,[sD,sD],fun x=>g255 m x.1 x.2.1⟩
theorem g255ok:FO (g255T m):=fk g255H (g255T m) func255 noF
def g256H:Hints:=⟨[J [0,1],J' [(2,1),(5,1),(10,1),(13,1)] [0,21],J' [(0,1)] [4],J' [(0,1)] [4]],[],[],[4],[],[[false]]⟩
def g256T:FunT:=⟨256,[sB,sI],sU,[sD,sD],fun x=>g256 m x.1 x.2.1⟩
theorem g256ok:FO (g256T m):=fk g256H (g256T m) func256 (AllF.mem (l:=[g255T m]) ⟨g255ok m,trivial⟩)
def g207H:Hints:=⟨[J [1,2],J [1,2,5],J' [(6,1)] [1,2,5,6],J' [(0,1)] [1,2,5,8],J [1,2,5,8,25],J' [(0,1)] [1,2,5,8],J [1,2,5,8,29],J' [(0,1)] [4],J [1,2,5,8,36],J' [(2,1)] [4],J' [(0,1),(4,1)] [4]],[],[],[4],[],[[false]]⟩
def g207T:FunT:=⟨207,[.a (.agg [.bool,.bool,(.imm (.int .u32)),(.int .i64),.bool]),sI],sU,[sD,sD],fun x=>g207 m x.1.1 x.1.2.1 x.1.2.2.1 x.1.2.2.2.1 x.1.2.2.2.2.1 x.2.1⟩
theorem g207ok:FO (g207T m):=fk g207H (g207T m) func207 (AllF.mem (l:=[g252T m,g254T m,g155T m,g253T m,g256T m,g255T m]) ⟨g252ok m,g254ok m,g155ok m,g253ok m,g256ok m,g255ok m,trivial⟩)
def g109H:Hints:=⟨[J [1,2],J [1,2],J' [(2,1)] [1,2,7],J [4],J [1,2,15],J [4],J' [(2,1)] [4]],[],[(0,[1,2])],[4],[],[[false]]⟩
def g109T:FunT:=⟨109,[.a (.agg [.bool,.bool,(.imm (.int .u32)),(.int .i64)]),sI],sU,[sD,sD],fun x=>g109 m x.1.1 x.1.2.1 x.1.2.2.1 x.1.2.2.2.1 x.2.1⟩
theorem g109ok:FO (g109T m):=fk g109H (g109T m) func109 (AllF.mem (l:=[g206T m,g193T m,g209T m,g207T m]) ⟨g206ok m,g193ok m,g209ok m,g207ok m,trivial⟩)
def g44H:Hints:=⟨[J [0],J [2]],[],[],[2],[],[[false]]⟩
def g44T:FunT:=⟨44,[.a (.c (.imm (.int .u64)))],sU,[sD],fun x=>g44 m x.1⟩
theorem g44ok:FO (g44T m):=fk g44H (g44T m) func44 (AllF.mem (l:=[g82T m,g109T m]) ⟨g82ok m,g109ok m,trivial⟩)
def g45H:Hints:=⟨[J [0],J' [(0,1),(2,1)] [3,4],J' [(2,1)] [3,4,10],J [2],J [3,4,17],J [2],J' [(0,1),(2,1),(3,1)] [20],J [2],J [2]],[],[(0,[])],[2],[],[[false]]⟩
def g45T:FunT:=⟨45,[sU],sI,[sD],fun x=>g45 m x.1⟩
theorem g45ok:FO (g45T m):=fk g45H (g45T m) func45 (AllF.mem (l:=[g110T m]) ⟨g110ok m,trivial⟩)
def g258H:Hints:=⟨[J [2,3,4,5],J [2,3,4,5,7],J [2,3,4,5,7,15],J [4,5,6],J' [(5,1)] [2,3,4,5,7,8,9],J' [(2,1)] [2,3,4,5,7,8,9,32],J' [(0,1),(3,1),(4,1)] [2,3,4,5,8,9],J' [(5,1),(7,1)] [4,5,6]],[],[],[4,5,6],[],[[false,false],[false,false],[false]]⟩
def g258T:FunT:=⟨258,[.a (.agg [.bool,(.imm (.int .u32))]),.a (.agg [.bool,(.imm (.int .u32))])],.tup [(.agg [.bool,(.imm (.int .u32))]),(.agg [.bool,(.imm (.int .u32))]),(.c (.int .i64))],[sD,sD],fun x=>g258 m x.1.1 x.1.2.1 x.2.1.1 x.2.1.2.1⟩
theorem g258ok:FO (g258T m):=fk g258H (g258T m) func258 (AllF.mem (l:=[g228T m,g279T m,g264T m,g265T m,g221T m]) ⟨g228ok m,g279ok m,g264ok m,g265ok m,g221ok m,trivial⟩)
def g210H:Hints:=⟨[J [2,3,4,6],J' [(0,1)] [3,4,6,7],J' [(9,1)] [3,4,6,7,8,9],J' [(10,1)] [6]],[],[],[6],[],[[false,false,false,false,false]]⟩
def g210T:FunT:=⟨210,[.a (.agg [.bool,.bool,(.imm (.int .u32)),(.int .i64)]),.a (.agg [.bool,.bool,(.imm (.int .u32)),(.int .i64)]),sI],.a (.agg [.bool,.bool,(.imm (.int .u32)),(.int .i64),.bool]),[sD,sD,sD],fun x=>g210 m x.1.1 x.1.2.1 x.1.2.2.1 x.1.2.2.2.1 x.2.1.1 x.2.1.2.1 x.2.1.2.2.1 x.2.1.2.2.2.1 x.2.2.1⟩
theorem g210ok:FO (g210T m):=fk g210H (g210T m) func210 (AllF.mem (l:=[g231T m,g155T m,g225T m,g258T m,g226T m]) ⟨g231ok m,g155ok m,g225ok m,g258ok m,g226ok m,trivial⟩)
def g111H:Hints:=⟨[J [2,3,4],J [2,3,4],J' [(2,1),(6,1)] [2,3,4,11],J [6],J [2,3,4,23],J [6],J' [(3,1)] [6]],[],[(0,[2,3,4])],[6],[],[[false]]⟩
def g111T:FunT:=⟨111,[.a (.agg [.bool,.bool,(.imm (.int .u32)),(.int .i64)]),.a (.agg [.bool,.bool,(.imm (.int .u32)),(.int .i64)]),sI],sU,[sD,sD,sD],fun x=>g111 m x.1.1 x.1.2.1 x.1.2.2.1 x.1.2.2.2.1 x.2.1.1 x.2.1.2.1 x.2.1.2.2.1 x.2.1.2.2.2.1 x.2.2.1⟩
theorem g111ok:FO (g111T m):=fk g111H (g111T m) func111 (AllF.mem (l:=[g206T m,g193T m,g210T m,g207T m]) ⟨g206ok m,g193ok m,g210ok m,g207ok m,trivial⟩)
def g196H:Hints:=⟨[J [0],J' [(0,1)] [2]],[],[],[2],[],[[false]]⟩
def g196T:FunT:=⟨196,[sU],sB,[sD],fun x=>g196 m x.1⟩
theorem g196ok:FO (g196T m):=fk g196H (g196T m) func196 (AllF.mem (l:=[g47T m]) ⟨g47ok m,trivial⟩)
def g250H:Hints:=⟨[J [0,1],J [0,1,7,8],J [0,1,7,8,9],J [0,1,5,7,8],J [0,1,5,7,8,16],J' [(0,1)] [4],J' [(1,1)] [0,1,7,8],J [4]],[(0,[0,1,7,8])],[(0,[]),(1,[0,1,7,8])],[4],[],[[false]]⟩
def g250T:FunT:=⟨250,[.a (.c (.imm (.int .u64))),.a (.c (.fn 196))],sI,[sD,sD],fun x=>g250 m x.1⟩
noncomputable def g250C:Code:=codeOf f250
noncomputable def g250B0:Code:=qo g250C 0 0
theorem g250K:FL [g196T m]:=AllF.mem ⟨g196ok m,trivial⟩
def g250L0X:LT:=⟨0,[(0,.a (.c (.imm (.int .u64)))),(1,.a (.c (.fn 196))),(7,sI),(8,sI)],[(.ret,[(4,sI)]),(.exit 0,[])],fun n x=>g250L0 m n x.1 x.2.2.1 x.2.2.2.1⟩
theorem g250L0ok {E} (hE:EO E 19 g250H) (n):LO E g250B0 ((g250L0X m).at n):=lk hE (g250K m) (g250L0X m) n
theorem g250ok:FO (g250T m):=f1' g250H (g250T m) func250 (g250K m) fun _ h=>g250L0ok m h m
def g195H:Hints:=⟨[J [0,1],J' [(0,1),(1,1)] [4]],[],[],[4],[],[[false]]⟩
def g195T:FunT:=⟨195,[.a (.c (.imm (.int .u64))),.a (.c (.fn 196))],sB,[sD,sD],fun x=>g195 m x.1⟩
theorem g195ok:FO (g195T m):=fk g195H (g195T m) func195 (AllF.mem (l:=[g250T m]) ⟨g250ok m,trivial⟩)
def g105H:Hints:=⟨[J [0],J' [(0,1)] [2]],[],[],[2],[],[[false]]⟩
def g105T:FunT:=⟨105,[.a (.c (.imm (.int .u64)))],sB,[sD],fun x=>g105 m x.1⟩
theorem g105ok:FO (g105T m):=fk g105H (g105T m) func105 (AllF.mem (l:=[g195T m]) ⟨g195ok m,trivial⟩)
def g46H:Hints:=⟨[J [0,1],J [0,1,6],J' [(0,1)] [1,6,9,10,11],J [1,6,9,10,11,12],J [1,6,8,9,10,11],J' [(0,1),(1,1)] [1,6,9,10,11],J' [(1,1)] [1,6,9,10,11],J' [(0,2)] [4,5]],[(0,[1,6,9,10,11])],[(0,[6]),(1,[1,6,9,10,11])],[4,5],[],[[false],[false]]⟩
def g46T:FunT:=⟨46,[.a (.c (.imm (.int .u64))),sU],.tup [(.c (.imm (.int .u64))),(.c .bool)],[sD,sD],fun x=>g46 m x.1 x.2.1⟩
noncomputable def g46C:Code:=codeOf f46
noncomputable def g46B0:Code:=qo g46C 0 0
theorem g46K:FL [g112T m,g111T m,g105T m]:=AllF.mem ⟨g112ok m,g111ok m,g105ok m,trivial⟩
def g46L0X:LT:=⟨0,[(1,sU),(6,.a (.c (.nm 0 (.int .u64)))),(9,.a (.c (.imm (.int .u64)))),(10,sI),(11,sI)],[(.exit 0,[(6,.a (.c (.nm 0 (.int .u64))))])],fun n x=>g46L0 m n x.1 x.2.1 x.2.2.1 x.2.2.2.1 x.2.2.2.2.1⟩
theorem g46L0ok {E} (hE:EO E 27 g46H) (n):LO E g46B0 ((g46L0X m).at n):=lk hE (g46K m) (g46L0X m) n
theorem g46ok:FO (g46T m):=f1' g46H (g46T m) func46 (g46K m) fun _ h=>g46L0ok m h m
def g42H:Hints:=⟨[J [1,2,3],J [1,2,3,8],J [1,2,3,8,14],J [1,2,8,17],J [1,8],J [1,2,8,24],J [1,8],J' [(2,1)] [1,8,28],J [1,8],J [1,8,36],J' [(0,1)] [6,7],J [1,9],J [1,9,42],J [6,7],J [1,9,45],J [6,7],J' [(0,1),(1,1),(3,1)] [10,11],J' [(0,1)] [10,53],J [6,7],J' [(0,1)] [6,7]],[],[(0,[1,8])],[6,7],[],[[false],[false]]⟩
def g42T:FunT:=⟨42,[.a (.agg [(.imm (.int .i64)),(.imm (.int .i64)),(.imm (.int .u64)),(.imm (.int .i64)),(.imm (.int .i64)),(.imm (.int .u64)),(.int .i64)]),.a (.c (.imm (.int .u64))),sI],.tup [(.c (.imm (.int .u64))),(.c (.int .i64))],[sD,sD,sD],fun x=>g42 m x.1.1 x.1.2.1 x.1.2.2.1 x.1.2.2.2.1 x.1.2.2.2.2.1 x.1.2.2.2.2.2.1 x.1.2.2.2.2.2.2.1 x.2.1 x.2.2.1⟩
theorem g42ok:FO (g42T m):=fk g42H (g42T m) func42 (AllF.mem (l:=[g104T m,g44T m,g45T m,g47T m,g46T m,g105T m]) ⟨g104ok m,g44ok m,g45ok m,g47ok m,g46ok m,g105ok m,trivial⟩)
def g251H:Hints:=⟨[J [0],J' [(0,1)] [5,6,7],J [5,6,7,8],J [4,5,6,7],J' [(0,1)] [5,6,7,13],J [2],J' [(1,1)] [5,6,7],J [2]],[(0,[5,6,7])],[(0,[]),(1,[5,6,7])],[2],[],[[false]]⟩
def g251T:FunT:=⟨251,[.a (.c (.imm (.int .u64)))],sI,[sD],fun x=>g251 m x.1⟩
noncomputable def g251C:Code:=codeOf f251
noncomputable def g251B0:Code:=qo g251C 0 0
theorem g251K:FL [g47T m]:=AllF.mem ⟨g47ok m,trivial⟩
def g251L0X:LT:=⟨0,[(5,.a (.c (.imm (.int .u64)))),(6,sI),(7,sI)],[(.ret,[(2,sI)]),(.exit 0,[])],fun n x=>g251L0 m n x.1 x.2.1 x.2.2.1⟩
theorem g251L0ok {E} (hE:EO E 15 g251H) (n):LO E g251B0 ((g251L0X m).at n):=lk hE (g251K m) (g251L0X m) n
theorem g251ok:FO (g251T m):=f1' g251H (g251T m) func251 (g251K m) fun _ h=>g251L0ok m h m
def g197H:Hints:=⟨[J [0,1],J' [(2,1)] [0,8],J [4],J' [(0,1)] [4]],[],[],[4],[],[[false]]⟩
def g197T:FunT:=⟨197,[.a (.c (.imm (.int .u64))),sI],sI,[sD,sD],fun x=>g197 m x.1 x.2.1⟩
theorem g197ok:FO (g197T m):=fk g197H (g197T m) func197 (AllF.mem (l:=[g251T m]) ⟨g251ok m,trivial⟩)
def g198H:Hints:=⟨[J [1],J [1,3],J [1,3,7,8,9],J [1,3,7,8,9,10],J [1,3,5,7,8,9],J' [(2,1)] [1,3,5,7,8,9,23],J [2],J' [(0,1),(1,1)] [1,3,7,8,9],J' [(1,1)] [1,3,7,8,9],J [2]],[(0,[1,3,7,8,9])],[(0,[]),(1,[1,3,7,8,9])],[2],[],[[false]]⟩
def g198T:FunT:=⟨198,[.a (.agg [(.imm (.int .i64)),(.imm (.int .i64)),(.imm (.int .u64)),(.imm (.int .i64)),(.imm (.int .i64)),(.imm (.int .u64)),(.int .i64)])],sB,[sD],fun x=>g198 m x.1.1 x.1.2.1 x.1.2.2.1 x.1.2.2.2.1 x.1.2.2.2.2.1 x.1.2.2.2.2.2.1 x.1.2.2.2.2.2.2.1⟩
noncomputable def g198C:Code:=codeOf f198
noncomputable def g198B0:Code:=qo g198C 0 0
theorem g198K:FL [g45T m]:=AllF.mem ⟨g45ok m,trivial⟩
def g198L0X:LT:=⟨0,[(1,sX 0 [iL,iL,.imm (.int .u64),iL,iL,.imm (.int .u64),iI]),(3,sI),(7,sL),(8,sI),(9,sI)],[(.ret,[(2,sB)]),(.exit 0,[])],fun n x=>g198L0 m n x.1.1 x.1.2.1 x.1.2.2.1 x.1.2.2.2.1 x.1.2.2.2.2.1 x.1.2.2.2.2.2.1 x.1.2.2.2.2.2.2.1 x.2.1 x.2.2.1 x.2.2.2.1 x.2.2.2.2.1⟩
theorem g198L0ok {E} (hE:EO E 30 g198H) (n):LO E g198B0 ((g198L0X m).at n):=lk hE (g198K m) (g198L0X m) n
theorem g198ok:FO (g198T m):=f1' g198H (g198T m) func198 (g198K m) fun _ h=>g198L0ok m h m
def g200H:Hints:=⟨[J [0,1],J [0,1,5],J' [(0,1)] [0,5,11,12,13],J [0,5,11,12,13,14],J [0,5,6,7,11,12,13],J' [(1,1),(3,1)] [0,5,11,12,13],J' [(1,1)] [0,5,11,12,13],J' [(0,1)] [4]],[(0,[0,5,11,12,13])],[(0,[5]),(1,[0,5,11,12,13])],[4],[],[[true]]⟩
def g200T:FunT:=⟨200,[.a (.c (.imm (.int .u64))),sL],.a (.c (.nm 0 (.int .u64))),[sD,sD],fun x=>g200 m x.1 x.2.1⟩
noncomputable def g200C:Code:=codeOf f200
noncomputable def g200B0:Code:=qo g200C 0 0
def g200L0X:LT:=⟨0,[(0,.a (.c (.imm (.int .u64)))),(5,.a (.c (.nm 0 (.int .u64)))),(11,sL),(12,sI),(13,sI)],[(.exit 0,[(5,.a (.c (.nm 0 (.int .u64))))])],fun n x=>g200L0 m n x.1 x.2.1 x.2.2.1 x.2.2.2.1 x.2.2.2.2.1⟩
theorem g200L0ok {E} (hE:EO E 27 g200H) (n):LO E g200B0 ((g200L0X m).at n):=lk hE noF (g200L0X m) n
theorem g200ok:FO (g200T m):=f1' g200H (g200T m) func200 noF fun _ h=>g200L0ok m h m
def g202H:Hints:=⟨[J [0],J' [(2,4)] [0,3],J' [(0,1)] [3,9,10,11],J [3,9,10,11,12],J [3,4,5,9,10,11],J' [(1,1),(2,1),(6,4)] [3,9,10,11],J' [(1,1)] [3,9,10,11],J' [(0,1)] [2]],[(0,[3,9,10,11])],[(0,[3]),(1,[3,9,10,11])],[2],[],[[false]]⟩
def g202T:FunT:=⟨202,[.a (.c (.imm (.int .u64)))],.a (.c (.imm (.sl false (.pr .bool (.pr (.pr .bool (.sl false (.int .u32))) (.int .i64)))))),[sD],fun x=>g202 m x.1⟩
noncomputable def g202C:Code:=codeOf f202
noncomputable def g202B0:Code:=qo g202C 0 0
theorem g202K:FL [g112T m]:=AllF.mem ⟨g112ok m,trivial⟩
def g202L0X:LT:=⟨0,[(3,.a (.c (.dp 0 (.pr .bool (.pr (.pr .bool (.sl false (.int .u32))) (.int .i64)))))),(9,.a (.c (.imm (.int .u64)))),(10,sI),(11,sI)],[(.exit 0,[(3,.a (.c (.dp 0 (.pr .bool (.pr (.pr .bool (.sl false (.int .u32))) (.int .i64))))))])],fun n x=>g202L0 m n x.1 x.2.1 x.2.2.1 x.2.2.2.1⟩
theorem g202L0ok {E} (hE:EO E 24 g202H) (n):LO E g202B0 ((g202L0X m).at n):=lk hE (g202K m) (g202L0X m) n
theorem g202ok:FO (g202T m):=f1' g202H (g202T m) func202 (g202K m) fun _ h=>g202L0ok m h m
def g204H:Hints:=⟨[J [0,1,4],J' [(0,1),(1,1)] [4]],[],[],[4],[],[[false,false,false,false]]⟩
def g204T:FunT:=⟨204,[.a (.c (.imm (.sl false (.pr .bool (.pr (.pr .bool (.sl false (.int .u32))) (.int .i64)))))),sI],.a (.agg [.bool,.bool,(.imm (.int .u32)),(.int .i64)]),[sD,sD],fun x=>g204 m x.1 x.2.1⟩
theorem g204ok:FO (g204T m):=fk g204H (g204T m) func204 (AllF.mem (l:=[g148T m]) ⟨g148ok m,trivial⟩)
def g208H:Hints:=⟨[J [1,2],J [2]],[],[],[2],[],[[false,false,false,false,false]]⟩
def g208T:FunT:=⟨208,[.a (.agg [.bool,.bool,(.imm (.int .u32)),(.int .i64)])],.a (.agg [.bool,.bool,(.imm (.int .u32)),(.int .i64),.bool]),[sD],fun x=>g208 m x.1.1 x.1.2.1 x.1.2.2.1 x.1.2.2.2.1⟩
theorem g208ok:FO (g208T m):=fk g208H (g208T m) func208 (AllF.mem (l:=[g155T m]) ⟨g155ok m,trivial⟩)
def g107H:Hints:=⟨[J [1,2],J [1,2],J [1,2,7],J [4],J [1,2,10],J [4],J' [(2,1)] [4]],[],[(0,[1,2])],[4],[],[[false]]⟩
def g107T:FunT:=⟨107,[.a (.agg [.bool,.bool,(.imm (.int .u32)),(.int .i64)]),sI],sU,[sD,sD],fun x=>g107 m x.1.1 x.1.2.1 x.1.2.2.1 x.1.2.2.2.1 x.2.1⟩
theorem g107ok:FO (g107T m):=fk g107H (g107T m) func107 (AllF.mem (l:=[g206T m,g193T m,g208T m,g207T m]) ⟨g206ok m,g193ok m,g208ok m,g207ok m,trivial⟩)
def g199H:Hints:=⟨[J [0,1,2,3],J [0,1,2,3,10,11],J' [(0,1)] [0,1,2,10,11,20,21],J [0,1,2,10,11,20,21,22],J [0,1,2,10,11,12,20,21],J [0,1,2,10,11,12,20,21],J [0,1,2,10,11,12,20,21,36],J [8,9],J [0,1,2,10,11,12,13,20,21],J [0,1,2,10,11,12,13,20,21,47],J' [(0,1)] [0,1,2,10,11,12,13,20,21],J [0,1,2,10,11,12,13,20,21],J' [(1,1)] [0,1,2,10,11,20,21],J' [(0,1)] [8,9]],[(0,[0,1,2,10,11,20,21]),(2,[0,1,2,10,11,12,13,20,21])],[(0,[11]),(1,[0,1,2,10,11,20,21]),(2,[0,1,2,10,11,20,21]),(3,[0,1,2,10,11,12,13,20,21])],[8,9],[],[[true],[false]]⟩
def g199T:FunT:=⟨199,[sL,sL,.a (.c (.imm (.int .u64))),.a (.c (.imm (.int .u64)))],.tup [(.c (.nm 0 (.int .u64))),(.c (.int .i64))],[sD,sD,sD,sD],fun x=>g199 m x.1 x.2.1 x.2.2.1 x.2.2.2.1⟩
noncomputable def g199C:Code:=codeOf f199
noncomputable def g199B0:Code:=qo g199C 0 0
noncomputable def g199B2:Code:=qo g199B0 0 0
theorem g199K:FL [g202T m,g204T m,g107T m,g47T m]:=AllF.mem ⟨g202ok m,g204ok m,g107ok m,g47ok m,trivial⟩
def g199L1X:LT:=⟨2,[(0,sL),(1,sL),(2,.a (.c (.imm (.int .u64)))),(10,.a (.c (.imm (.sl false (.pr .bool (.pr (.pr .bool (.sl false (.int .u32))) (.int .i64))))))),(11,.a (.c (.nm 0 (.int .u64)))),(12,sI),(13,sI),(20,sI),(21,sI)],[(.exit 2,[(0,sL),(1,sL),(2,.a (.c (.imm (.int .u64)))),(10,.a (.c (.imm (.sl false (.pr .bool (.pr (.pr .bool (.sl false (.int .u32))) (.int .i64))))))),(11,.a (.c (.nm 0 (.int .u64)))),(20,sI),(21,sI)])],fun n x=>g199L1 m n x.1 x.2.1 x.2.2.1 x.2.2.2.1 x.2.2.2.2.1 x.2.2.2.2.2.1 x.2.2.2.2.2.2.1 x.2.2.2.2.2.2.2.1 x.2.2.2.2.2.2.2.2.1⟩
theorem g199L1ok {E} (hE:EO E 66 g199H) (n):LO E g199B2 ((g199L1X m).at n):=lk hE (g199K m) (g199L1X m) n
def g199L0X:LT:=⟨0,[(0,sL),(1,sL),(2,.a (.c (.imm (.int .u64)))),(10,.a (.c (.imm (.sl false (.pr .bool (.pr (.pr .bool (.sl false (.int .u32))) (.int .i64))))))),(11,.a (.c (.nm 0 (.int .u64)))),(20,sI),(21,sI)],[(.ret,[(8,.a (.c (.nm 0 (.int .u64)))),(9,sI)]),(.exit 0,[(11,.a (.c (.nm 0 (.int .u64))))])],fun n x=>g199L0 m n x.1 x.2.1 x.2.2.1 x.2.2.2.1 x.2.2.2.2.1 x.2.2.2.2.2.1 x.2.2.2.2.2.2.1⟩
theorem g199L0ok {E} (hE:EO E 66 g199H) (n):LO E g199B0 ((g199L0X m).at n):=
 lok hmix htt hE (g199K m) (L:=[(g199L1X m).at m]) (g199L0X m) (l:=[(2,g199B2)]) kR (fun _ _=>⟨qi ⟨yb (g199L1ok m hE m),trivial⟩,trivial⟩) (fun n x=>kR) (fun _=>kR) n
theorem g199ok:FO (g199T m):=f1' g199H (g199T m) func199 (g199K m) fun _ h=>g199L0ok m h m
def g201H:Hints:=⟨[J [1,2],J [1,2,6],J [1,2,6,7,8],J [1,2,6,7,8,21,22,23],J [1,2,6,7,8,21,22,23,24],J [1,2,6,7,8,10,21,22,23],J [1,2,6,7,8,10,21,22,23,28],J [1,2,6,7,8,10,21,22,23],J [1,2,6,7,8,10,11,12,13,21,22,23],J [1,2,6,7,8,10,11,12,13,14,21,22,23],J [1,2,6,7,8,10,11,12,13,14,15,16,21,22,23],J [1,2,6,7,8,10,11,12,14,15,16,21,22,23],J [1,2,6,7,8,10,21,22,23],J' [(0,1),(3,1)] [1,2,6,7,8,21,22,23],J' [(1,1)] [1,2,6,7,8,21,22,23],J [6,118],J [4,5],J' [(0,1)] [4,5]],[(0,[1,2,6,7,8,21,22,23])],[(0,[6]),(1,[1,2,6,7,8,21,22,23])],[4,5],[],[[true],[false]]⟩
def g201T:FunT:=⟨201,[.a (.agg [(.imm (.int .i64)),(.imm (.int .i64)),(.imm (.int .u64)),(.imm (.int .i64)),(.imm (.int .i64)),(.imm (.int .u64)),(.int .i64)]),.a (.c (.imm (.int .u64)))],.tup [(.c (.nm 0 (.int .u64))),(.c (.int .i64))],[sD,sD],fun x=>g201 m x.1.1 x.1.2.1 x.1.2.2.1 x.1.2.2.2.1 x.1.2.2.2.2.1 x.1.2.2.2.2.2.1 x.1.2.2.2.2.2.2.1 x.2.1⟩
noncomputable def g201C:Code:=codeOf f201
noncomputable def g201B0:Code:=qo g201C 0 0
theorem g201K:FL [g112T m,g111T m,g147T m,g83T m,g251T m]:=AllF.mem ⟨g112ok m,g111ok m,g147ok m,g83ok m,g251ok m,trivial⟩
def g201L0X:LT:=⟨0,[(1,.a (.c (.imm (.int .u64)))),(2,sX 0 [iL,iL,.imm (.int .u64),iL,iL,.imm (.int .u64),iI]),(6,.a (.c (.nm 1 (.int .u64)))),(7,sI),(8,sI),(21,sL),(22,sI),(23,sI)],[(.exit 0,[(6,.a (.c (.nm 0 (.int .u64))))])],fun n x=>g201L0 m n x.1 x.2.1.1 x.2.1.2.1 x.2.1.2.2.1 x.2.1.2.2.2.1 x.2.1.2.2.2.2.1 x.2.1.2.2.2.2.2.1 x.2.1.2.2.2.2.2.2.1 x.2.2.1 x.2.2.2.1 x.2.2.2.2.1 x.2.2.2.2.2.1 x.2.2.2.2.2.2.1 x.2.2.2.2.2.2.2.1⟩
theorem g201L0ok {E} (hE:EO E 120 g201H) (n):LO E g201B0 ((g201L0X m).at n):=lk hE (g201K m) (g201L0X m) n
theorem g201ok:FO (g201T m):=f1' g201H (g201T m) func201 (g201K m) fun _ h=>g201L0ok m h m
def g205H:Hints:=⟨[J [0,1],J [0,1,5],J' [(0,1)] [0,5,11,12,13],J [0,5,11,12,13,14],J [0,5,6,7,11,12,13],J' [(1,1),(3,1)] [0,5,11,12,13],J' [(1,1)] [0,5,11,12,13],J' [(0,1)] [4]],[(0,[0,5,11,12,13])],[(0,[5]),(1,[0,5,11,12,13])],[4],[],[[true]]⟩
def g205T:FunT:=⟨205,[.a (.c (.imm (.int .u64))),sL],.a (.c (.nm 0 (.int .u64))),[sD,sD],fun x=>g205 m x.1 x.2.1⟩
noncomputable def g205C:Code:=codeOf f205
noncomputable def g205B0:Code:=qo g205C 0 0
def g205L0X:LT:=⟨0,[(0,.a (.c (.imm (.int .u64)))),(5,.a (.c (.nm 0 (.int .u64)))),(11,sL),(12,sI),(13,sI)],[(.exit 0,[(5,.a (.c (.nm 0 (.int .u64))))])],fun n x=>g205L0 m n x.1 x.2.1 x.2.2.1 x.2.2.2.1 x.2.2.2.2.1⟩
theorem g205L0ok {E} (hE:EO E 27 g205H) (n):LO E g205B0 ((g205L0X m).at n):=lk hE noF (g205L0X m) n
theorem g205ok:FO (g205T m):=f1' g205H (g205T m) func205 noF fun _ h=>g205L0ok m h m
def g106H:Hints:=⟨[J [1,2],J [1,2,6],J [1,2,6,16],J [1,2,6],J' [(2,1)] [1,2,6,27],J [1,2,6],J [1,2,6,29],J' [(0,1)] [4,5],J' [(6,1),(11,1)] [2,6,7],J [2,6,7,46],J' [(0,1)] [4,5],J' [(1,1),(3,1),(6,2)] [2,6,8],J [2,6,8,55],J' [(0,1)] [4,5],J' [(0,2)] [2,8,9,10],J' [(0,1)] [2,9,10,11],J [2,9,10,11,66],J' [(0,1)] [2,9,10,11],J [2,9,10,11,12],J [2,9,10,11,12,81],J' [(0,1)] [2,9,10,11,12],J [2,9,10,11,12],J [2,9,10,11],J [2,9,10,11,112],J [4,5],J' [(0,1)] [4,5]],[(0,[2,9,10,11]),(2,[2,9,10,11,12])],[(0,[2,10]),(1,[2,9,10,11]),(2,[2,9,10,11]),(3,[2,9,10,11,12])],[4,5],[],[[true],[false]]⟩
def g106T:FunT:=⟨106,[.a (.agg [(.imm (.int .i64)),(.imm (.int .i64)),(.imm (.int .u64)),(.imm (.int .i64)),(.imm (.int .i64)),(.imm (.int .u64)),(.int .i64)]),.a (.c (.imm (.int .u64)))],.tup [(.c (.nm 0 (.int .u64))),(.c (.int .i64))],[sD,sD],fun x=>g106 m x.1.1 x.1.2.1 x.1.2.2.1 x.1.2.2.2.1 x.1.2.2.2.2.1 x.1.2.2.2.2.2.1 x.1.2.2.2.2.2.2.1 x.2.1⟩
noncomputable def g106C:Code:=codeOf f106
noncomputable def g106B0:Code:=qo g106C 0 0
noncomputable def g106B2:Code:=qo g106B0 0 0
theorem g106K:FL [g104T m,g197T m,g198T m,g200T m,g199T m,g201T m,g202T m,g204T m,g107T m,g47T m,g205T m]:=AllF.mem ⟨g104ok m,g197ok m,g198ok m,g200ok m,g199ok m,g201ok m,g202ok m,g204ok m,g107ok m,g47ok m,g205ok m,trivial⟩
def g106L1X:LT:=⟨2,[(2,sX 0 [iL,iL,.imm (.int .u64),iL,iL,.imm (.int .u64),iI]),(9,.a (.c (.imm (.sl false (.pr .bool (.pr (.pr .bool (.sl false (.int .u32))) (.int .i64))))))),(10,.a (.c (.nm 1 (.int .u64)))),(11,sI),(12,sI)],[(.exit 2,[(2,sX 0 [iL,iL,.imm (.int .u64),iL,iL,.imm (.int .u64),iI]),(9,.a (.c (.imm (.sl false (.pr .bool (.pr (.pr .bool (.sl false (.int .u32))) (.int .i64))))))),(10,.a (.c (.nm 1 (.int .u64)))),(11,sI)])],fun n x=>g106L1 m n x.1.1 x.1.2.1 x.1.2.2.1 x.1.2.2.2.1 x.1.2.2.2.2.1 x.1.2.2.2.2.2.1 x.1.2.2.2.2.2.2.1 x.2.1 x.2.2.1 x.2.2.2.1 x.2.2.2.2.1⟩
theorem g106L1ok {E} (hE:EO E 117 g106H) (n):LO E g106B2 ((g106L1X m).at n):=lk hE (g106K m) (g106L1X m) n
def g106L0X:LT:=⟨0,[(2,sX 0 [iL,iL,.imm (.int .u64),iL,iL,.imm (.int .u64),iI]),(9,.a (.c (.imm (.sl false (.pr .bool (.pr (.pr .bool (.sl false (.int .u32))) (.int .i64))))))),(10,.a (.c (.nm 1 (.int .u64)))),(11,sI)],[(.ret,[(4,.a (.c (.nm 0 (.int .u64)))),(5,sI)]),(.exit 0,[(2,sX 0 [iL,iL,.imm (.int .u64),iL,iL,.imm (.int .u64),iI]),(10,.a (.c (.nm 1 (.int .u64))))])],fun n x=>g106L0 m n x.1.1 x.1.2.1 x.1.2.2.1 x.1.2.2.2.1 x.1.2.2.2.2.1 x.1.2.2.2.2.2.1 x.1.2.2.2.2.2.2.1 x.2.1 x.2.2.1 x.2.2.2.1⟩
theorem g106L0ok {E} (hE:EO E 117 g106H) (n):LO E g106B0 ((g106L0X m).at n):=
 lok hmix htt hE (g106K m) (L:=[(g106L1X m).at m]) (g106L0X m) (l:=[(2,g106B2)]) kR (fun _ _=>⟨qi ⟨yb (g106L1ok m hE m),trivial⟩,trivial⟩) (fun n x=>kR) (fun _=>kR) n
theorem g106ok:FO (g106T m):=f1' g106H (g106T m) func106 (g106K m) fun _ h=>g106L0ok m h m
def g82bH:Hints:=⟨[J [0,1,4],J [0,1,4,5],J [0,1,4,5,8,9],J [0,1,4,5,8,9,10],J [0,1,4,5,6,8,9],J' [(0,1)] [0,1,4,5,8,9],J' [(1,1)] [0,1,4,5,8,9],J' [(0,1)] [1,4]],[(0,[0,1,4,5,8,9])],[(0,[1,4,5]),(1,[0,1,4,5,8,9])],[1,4],[1],[[false,false,false,false]]⟩
def g82bT:FunT:=⟨82,[.a (.c (.imm (.int .u64))),.a (.c (.nm 0 (.int .u64)))],.a (.agg [.bool,.bool,(.imm (.int .u32)),(.int .i64)]),[sD,.a (.c (.nm 0 (.int .u64)))],fun x=>g82b m x.1 x.2.1⟩
noncomputable def g82bC:Code:=codeOf f82
noncomputable def g82bB0:Code:=qo g82bC 0 0
theorem g82bK:FL [g112T m,g147T m,g148T m]:=AllF.mem ⟨g112ok m,g147ok m,g148ok m,trivial⟩
def g82bL0X:LT:=⟨0,[(0,.a (.c (.imm (.int .u64)))),(1,.a (.c (.nm 0 (.int .u64)))),(4,sX 1 [.bool,.bool,.nm 2 (.int .u32),iI]),(5,.a (.c (.nm 3 (.pr .bool (.pr (.pr .bool (.sl false (.int .u32))) (.int .i64)))))),(8,sI),(9,sI)],[(.exit 0,[(1,.a (.c (.nm 0 (.int .u64)))),(4,sX 1 [.bool,.bool,.nm 2 (.int .u32),iI]),(5,.a (.c (.nm 3 (.pr .bool (.pr (.pr .bool (.sl false (.int .u32))) (.int .i64))))))])],fun n x=>g82bL0 m n x.1 x.2.1 x.2.2.1.1 x.2.2.1.2.1 x.2.2.1.2.2.1 x.2.2.1.2.2.2.1 x.2.2.2.1 x.2.2.2.2.1 x.2.2.2.2.2.1⟩
theorem g82bL0ok {E} (hE:EO E 29 g82bH) (n):LO E g82bB0 ((g82bL0X m).at n):=lk hE (g82bK m) (g82bL0X m) n
theorem g82bok:FO (g82bT m):=f1' g82bH (g82bT m) func82 (g82bK m) fun _ h=>g82bL0ok m h m
def g108H:Hints:=⟨[J [0,1],J' [(2,12)] [0,1,5],J [0,1,5,13],J [0,4],J [0,1,5,15,16],J [0,1,5,15,16,17],J [0,1,5,6,15,16],J [0,1,5,15,16],J' [(1,1)] [0,1,5,15,16],J [0,4]],[(0,[0,1,5,15,16])],[(0,[0]),(1,[0,1,5,15,16])],[0,4],[0],[[false]]⟩
def g108T:FunT:=⟨108,[.a (.c (.nm 0 (.int .u64))),.a (.c (.imm (.int .u64)))],sB,[.a (.c (.nm 0 (.int .u64))),sD],fun x=>g108 m x.1 x.2.1⟩
noncomputable def g108C:Code:=codeOf f108
noncomputable def g108B0:Code:=qo g108C 0 0
theorem g108K:FL [g82bT m,g107T m,g47T m,g112T m,g147T m,g83T m,g105T m]:=AllF.mem ⟨g82bok m,g107ok m,g47ok m,g112ok m,g147ok m,g83ok m,g105ok m,trivial⟩
def g108L0X:LT:=⟨0,[(0,.a (.c (.nm 0 (.int .u64)))),(1,.a (.c (.imm (.int .u64)))),(5,sU),(15,sI),(16,sI)],[(.exit 0,[(0,.a (.c (.nm 0 (.int .u64))))])],fun n x=>g108L0 m n x.1 x.2.1 x.2.2.1 x.2.2.2.1 x.2.2.2.2.1⟩
theorem g108L0ok {E} (hE:EO E 40 g108H) (n):LO E g108B0 ((g108L0X m).at n):=lk hE (g108K m) (g108L0X m) n
theorem g108ok:FO (g108T m):=f1' g108H (g108T m) func108 (g108K m) fun _ h=>g108L0ok m h m
def g43H:Hints:=⟨[J [0,3],J [0,3,6],J' [(3,1)] [0,6,7,8],J [0,6,7,8,31],J' [(0,1)] [0,4,5],J' [(0,1),(2,12)] [0,7,9],J [0,7,9,39],J [0,4,5],J' [(4,1),(5,1)] [0,7],J [0,7,50],J [0,7,50,51],J [0,7,50,55,56,57],J [0,7,50,55,56,57,58],J [0,7,11,50,55,56,57],J' [(1,1),(2,11)] [0,7,50,55,56,57,64],J [0,4,5],J' [(1,1)] [0,7,50,55,56,57],J' [(1,1)] [0,7,50],J' [(0,1)] [0,4,5]],[(0,[0,7,50]),(2,[0,7,50,55,56,57])],[(0,[0,7]),(1,[0,7,50]),(2,[0,7,50]),(3,[0,7,50,55,56,57])],[0,4,5],[0],[[true],[false]]⟩
def g43T:FunT:=⟨43,[sX 0 [.nm 1 (.int .u64),.nm 2 (.int .u64),.nm 3 (.sl false (.int .u64))],.a (.agg [(.imm (.int .i64)),(.imm (.int .i64)),(.imm (.int .u64)),(.imm (.int .i64)),(.imm (.int .i64)),(.imm (.int .u64)),(.int .i64)])],.tup [(.c (.nm 0 (.int .u64))),(.c (.int .i64))],[sX 1 [.nm 2 (.int .u64),.nm 3 (.int .u64),.nm 4 (.sl false (.int .u64))],sD],fun x=>g43 m x.1.1 x.1.2.1 x.1.2.2.1 x.2.1.1 x.2.1.2.1 x.2.1.2.2.1 x.2.1.2.2.2.1 x.2.1.2.2.2.2.1 x.2.1.2.2.2.2.2.1 x.2.1.2.2.2.2.2.2.1⟩
noncomputable def g43C:Code:=codeOf f43
noncomputable def g43B0:Code:=qo g43C 0 0
noncomputable def g43B2:Code:=qo g43B0 0 0
theorem g43K:FL [g106T m,g82bT m,g107T m,g47T m,g108T m]:=AllF.mem ⟨g106ok m,g82bok m,g107ok m,g47ok m,g108ok m,trivial⟩
def g43L1X:LT:=⟨2,[(0,sX 0 [.nm 1 (.int .u64),.nm 2 (.int .u64),.nm 3 (.sl false (.int .u64))]),(7,.a (.c (.nm 4 (.int .u64)))),(50,sI),(55,.a (.c (.ref 0 3 1))),(56,sI),(57,sI)],[(.ret,[(0,sX 0 [.nm 1 (.int .u64),.nm 2 (.int .u64),.nm 3 (.sl false (.int .u64))]),(4,.a (.c (.nm 4 (.int .u64)))),(5,sI)]),(.exit 2,[(0,sX 0 [.nm 1 (.int .u64),.nm 2 (.int .u64),.nm 3 (.sl false (.int .u64))]),(7,.a (.c (.nm 4 (.int .u64)))),(50,sI)])],fun n x=>g43L1 m n x.1.1 x.1.2.1 x.1.2.2.1 x.2.1 x.2.2.1 x.2.2.2.2.1 x.2.2.2.2.2.1⟩
theorem g43L1ok {E} (hE:EO E 68 g43H) (n):LO E g43B2 ((g43L1X m).at n):=lk hE (g43K m) (g43L1X m) n
def g43L0X:LT:=⟨0,[(0,sX 0 [.nm 1 (.int .u64),.nm 2 (.int .u64),.nm 3 (.sl false (.int .u64))]),(7,.a (.c (.nm 4 (.int .u64)))),(50,sI)],[(.ret,[(0,sX 0 [.nm 1 (.int .u64),.nm 2 (.int .u64),.nm 3 (.sl false (.int .u64))]),(4,.a (.c (.nm 4 (.int .u64)))),(5,sI)]),(.exit 0,[(0,sX 0 [.nm 1 (.int .u64),.nm 2 (.int .u64),.nm 3 (.sl false (.int .u64))]),(7,.a (.c (.nm 4 (.int .u64))))])],fun n x=>g43L0 m n x.1.1 x.1.2.1 x.1.2.2.1 x.2.1 x.2.2.1⟩
theorem g43L0ok {E} (hE:EO E 68 g43H) (n):LO E g43B0 ((g43L0X m).at n):=
 lok hmix htt hE (g43K m) (L:=[(g43L1X m).at m]) (g43L0X m) (l:=[(2,g43B2)]) kR (fun _ _=>⟨qi ⟨yb (g43L1ok m hE m),trivial⟩,trivial⟩) (fun n x=>kR) (fun _=>kR) n
theorem g43ok:FO (g43T m):=f1' g43H (g43T m) func43 (g43K m) fun _ h=>g43L0ok m h m
def g12H:Hints:=⟨[J [1,2,3,6],J' [(1,1),(4,1)] [2,3,6,8,9],J [2,3,6,8,9,24],J' [(1,1)] [6,7],J' [(0,1)] [2,3,6,10],J' [(2,1)] [2,3,6,10,11,12],J [2,3,6,10,11,12,36],J' [(1,1)] [6,7],J [2,3,6,10,11,43],J' [(0,1)] [6,7],J [2,3,6,10,11,13],J [2,3,6,10,11,13,49],J' [(0,1)] [6,7],J' [(0,1),(3,1)] [2,3,6,10,13,14,15],J' [(3,1),(4,1)] [2,3,6,10,13,14,63],J [6,7],J' [(2,1),(4,3),(7,1),(9,3)] [2,3,6,10]],[(0,[2,3,6,10])],[(0,[6,7]),(1,[2,3,6,10])],[6,7],[],[[true,true,true],[false]]⟩
def g12T:FunT:=⟨12,[.a (.agg [(.imm (.int .i64)),(.imm (.int .i64)),(.imm (.int .u64)),(.imm (.int .i64)),(.imm (.int .i64)),(.imm (.int .u64)),(.int .i64)]),.a (.c (.imm (.int .u64))),sI],.tup [(.agg [(.nm 0 (.int .u64)),(.nm 1 (.int .u64)),(.nm 2 (.sl false (.int .u64)))]),(.c (.int .i64))],[sD,sD,sD],fun x=>g12 m x.1.1 x.1.2.1 x.1.2.2.1 x.1.2.2.2.1 x.1.2.2.2.2.1 x.1.2.2.2.2.2.1 x.1.2.2.2.2.2.2.1 x.2.1 x.2.2.1⟩
noncomputable def g12C:Code:=codeOf f12
noncomputable def g12B0:Code:=qo g12C 0 0
theorem g12K:FL [g42T m,g43T m,g44T m,g45T m,g46T m,g47T m]:=AllF.mem ⟨g42ok m,g43ok m,g44ok m,g45ok m,g46ok m,g47ok m,trivial⟩
def g12L0X:LT:=⟨0,[(2,sI),(3,sX 0 [iL,iL,.imm (.int .u64),iL,iL,.imm (.int .u64),iI]),(6,sX 1 [.nm 2 (.int .u64),.nm 3 (.int .u64),.nm 4 (.sl false (.int .u64))]),(10,sX 5 [.nm 6 (.int .u64),.nm 7 (.int .u64),.nm 8 (.sl false (.int .u64))])],[(.ret,[(6,sX 0 [.nm 1 (.int .u64),.nm 2 (.int .u64),.nm 3 (.sl false (.int .u64))]),(7,sI)])],fun n x=>g12L0 m n x.1 x.2.1.1 x.2.1.2.1 x.2.1.2.2.1 x.2.1.2.2.2.1 x.2.1.2.2.2.2.1 x.2.1.2.2.2.2.2.1 x.2.1.2.2.2.2.2.2.1 x.2.2.1.1 x.2.2.1.2.1 x.2.2.1.2.2.1 x.2.2.2.1.1 x.2.2.2.1.2.1 x.2.2.2.1.2.2.1⟩
theorem g12L0ok {E} (hE:EO E 77 g12H) (n):LO E g12B0 ((g12L0X m).at n):=lk hE (g12K m) (g12L0X m) n
theorem g12ok:FO (g12T m):=f1' g12H (g12T m) func12 (g12K m) fun _ h=>g12L0ok m h m
def g29H:Hints:=⟨[J [0,1],J [0,1,10],J [4],J [0,1,5],J [0,1,5,14],J' [(0,1)] [0,1,5],J [0,1,5,25],J [4],J [4]],[(0,[0,1,5])],[(0,[]),(1,[0,1,5])],[4],[],[[false]]⟩
def g29T:FunT:=⟨29,[.a (.c (.imm (.int .u64))),.a (.c (.imm (.int .u64)))],sB,[sD,sD],fun x=>g29 m x.1 x.2.1⟩
noncomputable def g29C:Code:=codeOf f29
noncomputable def g29B0:Code:=qo g29C 0 0
def g29L0X:LT:=⟨0,[(0,.a (.c (.imm (.int .u64)))),(1,.a (.c (.imm (.int .u64)))),(5,sI)],[(.ret,[(4,sB)]),(.exit 0,[])],fun n x=>g29L0 m n x.1 x.2.1 x.2.2.1⟩
theorem g29L0ok {E} (hE:EO E 26 g29H) (n):LO E g29B0 ((g29L0X m).at n):=lk hE noF (g29L0X m) n
theorem g29ok:FO (g29T m):=f1' g29H (g29T m) func29 noF fun _ h=>g29L0ok m h m
def g59H:Hints:=⟨[J [0,1],J [0,1,10],J [4],J [0,1,5],J [0,1,5,14],J' [(0,1)] [0,1,5],J [0,1,5,26],J [4],J [4]],[(0,[0,1,5])],[(0,[]),(1,[0,1,5])],[4],[],[[false]]⟩
def g59T:FunT:=⟨59,[.a (.c (.imm (.sl false (.int .u64)))),.a (.c (.imm (.sl false (.int .u64))))],sB,[sD,sD],fun x=>g59 m x.1 x.2.1⟩
noncomputable def g59C:Code:=codeOf f59
noncomputable def g59B0:Code:=qo g59C 0 0
theorem g59K:FL [g29T m]:=AllF.mem ⟨g29ok m,trivial⟩
def g59L0X:LT:=⟨0,[(0,.a (.c (.imm (.sl false (.int .u64))))),(1,.a (.c (.imm (.sl false (.int .u64))))),(5,sI)],[(.ret,[(4,sB)]),(.exit 0,[])],fun n x=>g59L0 m n x.1 x.2.1 x.2.2.1⟩
theorem g59L0ok {E} (hE:EO E 27 g59H) (n):LO E g59B0 ((g59L0X m).at n):=lk hE (g59K m) (g59L0X m) n
theorem g59ok:FO (g59T m):=f1' g59H (g59T m) func59 (g59K m) fun _ h=>g59L0ok m h m
def sparselaw38_awake_H:Hints:=⟨[J [],J' [(7,2),(8,2)] [1],J' [(0,2),(3,1)] [2,3],J' [(0,1),(2,1),(8,1),(14,1),(18,6)] [0]],[],[],[0],[],[[false]]⟩
abbrev sparselaw38_awake_A:List Sh:=[]
abbrev sparselaw38_awake_S:Sh:= sB
abbrev sparselaw38_awake_U:List Sh:=[]
def sparselaw38_awake_R:X7 sparselaw38_awake_A->Option (sparselaw38_awake_S.Val×X7 sparselaw38_awake_U):=fun(x:Unit)=>sparselaw38_awake m
def sparselaw38_awake_T:FunT:=⟨15,sparselaw38_awake_A,sparselaw38_awake_S,sparselaw38_awake_U,sparselaw38_awake_R m⟩
theorem sparselaw38_awake_ok:FO (sparselaw38_awake_T m):=fk sparselaw38_awake_H (sparselaw38_awake_T m) func15 (AllF.mem (l:=[g26T m,g12T m,g29T m,g59T m]) ⟨g26ok m,g12ok m,g29ok m,g59ok m,trivial⟩)
def sparselaw38_LanczosDiagonal_H:Hints:=⟨[J [0,1,2,3],J' [(0,1)] [0,1,2,3],J [0,1,2,3,9],J [0,1,2,3,9,10],J' [(0,1)] [0,1,2,3,9,10],J [0,1,2,3,9,10,11],J [0,1,2,3,9,10,11,12],J [0,1,2,3,9,10,11,12,33],J' [(0,1)] [0,1,2,3,9,10,11,12],J [0,1,2,3,9,10,11,12,13],J' [(3,3),(8,3)] [0,1,2,3,9,10,11,12,13],J [0,1,2,3,9,10,11,12,13,60],J' [(0,1)] [0,1,2,3,9,10,11,12],J' [(1,1)] [3,9,10,11],J' [(0,7),(1,1),(2,1),(6,1)] [11,14,15],J' [(0,1),(2,1),(5,1),(9,1),(15,1),(21,1)] [8]],[(0,[0,1,2,3,9,10,11,12])],[(0,[2,3,9,10,11]),(1,[0,1,2,3,9,10,11,12])],[8],[],[[false]]⟩
abbrev sparselaw38_LanczosDiagonal_A:List Sh:=[.a (.c (.imm (.int .u64))),sI,sI,sI]
abbrev sparselaw38_LanczosDiagonal_S:Sh:= sB
abbrev sparselaw38_LanczosDiagonal_U:List Sh:=[sD,sD,sD,sD]
def sparselaw38_LanczosDiagonal_R:X7 sparselaw38_LanczosDiagonal_A->Option (sparselaw38_LanczosDiagonal_S.Val×X7 sparselaw38_LanczosDiagonal_U):=fun(x:LI×Int×Int×Int×Unit)=>sparselaw38_LanczosDiagonal m x.1 x.2.1 x.2.2.1 x.2.2.2.1
def sparselaw38_LanczosDiagonal_T:FunT:=⟨6,sparselaw38_LanczosDiagonal_A,sparselaw38_LanczosDiagonal_S,sparselaw38_LanczosDiagonal_U,sparselaw38_LanczosDiagonal_R m⟩
noncomputable def sparselaw38_LanczosDiagonal_C:Code:=codeOf f6
noncomputable def sparselaw38_LanczosDiagonal_B0:Code:=qo sparselaw38_LanczosDiagonal_C 0 0
theorem sparselaw38_LanczosDiagonal_K:FL [g11T m,g25T m,g27T m,g26T m,g28T m,g12T m,g29T m,sparselaw38_awake_T m]:=AllF.mem ⟨g11ok m,g25ok m,g27ok m,g26ok m,g28ok m,g12ok m,g29ok m,sparselaw38_awake_ok m,trivial⟩
def sparselaw38_LanczosDiagonal_L0_X:LT:=⟨0,[(0,.a (.c (.imm (.int .u64)))),(1,sI),(2,sI),(3,sI),(9,sX 0 [iM 1,iM 2,.nm 3 (.int .u64),iM 4,iM 5,.nm 6 (.int .u64),iI]),(10,.a (.c (.nm 7 (.int .u64)))),(11,sU),(12,sI)],[(.exit 0,[(2,sI),(3,sI),(9,sX 0 [iM 1,iM 2,.nm 3 (.int .u64),iM 4,iM 5,.nm 6 (.int .u64),iI]),(10,.a (.c (.nm 7 (.int .u64)))),(11,sU)])],fun n (x:LI×Int×Int×Int×(LI×LI×LI×LI×LI×LI×Int×Unit)×LI×Int×Int×Unit)=>sparselaw38_LanczosDiagonal_L0 m n x.1 x.2.1 x.2.2.1 x.2.2.2.1 x.2.2.2.2.1.1 x.2.2.2.2.1.2.1 x.2.2.2.2.1.2.2.1 x.2.2.2.2.1.2.2.2.1 x.2.2.2.2.1.2.2.2.2.1 x.2.2.2.2.1.2.2.2.2.2.1 x.2.2.2.2.1.2.2.2.2.2.2.1 x.2.2.2.2.2.1 x.2.2.2.2.2.2.1 x.2.2.2.2.2.2.2.1⟩
theorem sparselaw38_LanczosDiagonal_L0_ok {E} (hE:EO E 99 sparselaw38_LanczosDiagonal_H) (n):LO E sparselaw38_LanczosDiagonal_B0 ((sparselaw38_LanczosDiagonal_L0_X m).at n):=lk hE (sparselaw38_LanczosDiagonal_K m) (sparselaw38_LanczosDiagonal_L0_X m) n
theorem sparselaw38_LanczosDiagonal_ok:FO (sparselaw38_LanczosDiagonal_T m):=f1' sparselaw38_LanczosDiagonal_H (sparselaw38_LanczosDiagonal_T m) func6 (sparselaw38_LanczosDiagonal_K m) fun _ h=>sparselaw38_LanczosDiagonal_L0_ok m h m
end
end Go.Vs.F
