/-The plain functions are what the code does (by program:gen.py). -/
import Derived.Test.YtkbgfnhdfmmfcaaGreatDoorFn
import Derived.Test.YtkbgfnhdfmmfcaaGreatDoorVc
import Derived.Test.YtkbgfnhdfmmfcaaGreatDoorProg
import Derived.KernelRfl
set_option linter.unusedVariables false
set_option maxRecDepth 100000
namespace Go.Vs.F
open Go.Proofs
open Tryz
section
theorem kR{p:Prop}(h:p:=by kernel_rfl):p:=h
abbrev hC1:Sh:=.a (.agg [(.imm (.int .i64)),(.imm (.int .i64)),(.imm (.int .u64)),(.imm (.int .i64)),(.imm (.int .i64)),(.imm (.int .u64)),(.int .i64)])
abbrev hO1:Sh:=.a (.c (.imm (.sl false (.pr (.pr .bool (.sl false (.int .u32))) (.pr .bool (.sl false (.int .u32)))))))
abbrev hQ1:Sh:=.a (.c (.dp 0 (.pr (.pr .bool (.sl false (.int .u32))) (.pr .bool (.sl false (.int .u32))))))
abbrev hU1:Sh:=.a (.c (.nm 1 (.pr (.pr .bool (.sl false (.int .u32))) (.pr .bool (.sl false (.int .u32))))))
abbrev hY1:Sh:=.a (.c (.imm (.sl false (.pr .bool (.pr (.pr .bool (.sl false (.int .u32))) (.int .i64))))))
abbrev h41:Sh:=.a (.c (.dp 0 (.pr .bool (.pr (.pr .bool (.sl false (.int .u32))) (.int .i64)))))
abbrev h51:Sh:=.a (.c (.dp 1 (.pr .bool (.pr (.pr .bool (.sl false (.int .u32))) (.int .i64)))))
abbrev h61:Sh:=.a (.c (.nm 2 (.pr .bool (.pr (.pr .bool (.sl false (.int .u32))) (.int .i64)))))
abbrev h71:Sh:=.a (.c (.nm 3 (.pr .bool (.pr (.pr .bool (.sl false (.int .u32))) (.int .i64)))))
abbrev h81:Sh:=.a (.c (.imm (.pr .bool (.pr (.pr .bool (.sl false (.int .u32))) (.int .i64)))))
abbrev h91:Sh:=.a (.agg [(.imm (.int .u64)),(.imm (.int .u64)),(.imm (.sl false (.int .u64)))])
abbrev hU2:Sh:=.a (.c (.nm 1 (.pr (.int .u64) (.pr (.int .u64) (.int .i64)))))
abbrev h52:Sh:=.a (.c (.nm 0 (.pr (.int .u64) (.pr (.int .u64) (.int .i64)))))
abbrev h62:Sh:=.a (.c (.imm (.sl false (.pr .bool (.sl false (.int .u32))))))
abbrev h82:Sh:=.a (.c (.imm (.pr (.int .u64) (.pr (.int .u64) (.int .i64)))))
abbrev h92:Sh:=.a (.agg [.bool,(.imm (.int .u32)),.bool,(.imm (.int .u32))])
abbrev hC3:Sh:=.a (.agg [.bool,.bool,(.imm (.int .u32)),(.int .i64),.bool])
abbrev hE3:Sh:=.a (.agg [.bool,.bool,(.nm 0 (.int .u32)),(.int .i64)])
abbrev hI3:Sh:=.a (.agg [.bool,.bool,(.imm (.int .u32)),(.int .i64)])
abbrev hM3:Sh:=.a (.c (.dp 0 (.pr .bool (.sl false (.int .u32)))))
abbrev hQ3:Sh:=.a (.c (.nm 1 (.pr .bool (.sl false (.int .u32)))))
abbrev hR3:Sh:=.a (.c (.nm 0 (.pr .bool (.sl false (.int .u32)))))
abbrev hT3:Sh:=.a (.c (.dp 1 (.pr .bool (.sl false (.int .u32)))))
abbrev hU3:Sh:=.a (.c (.imm (.pr .bool (.sl false (.int .u32)))))
abbrev hV3:Sh:=.a (.c (.iptr (some 299) (.int .i64) 0))
abbrev hX3:Sh:=.a (.c (.nm 1 (.sl false (.int .u64))))
abbrev hY3:Sh:=.a (.c (.imm (.sl false (.int .u64))))
abbrev ha3:Sh:=.a (.agg [.bool,(.imm (.int .u32))])
abbrev hm3:Sh:=.a (.c (.nm 0 (.int .u32)))
abbrev h33:Sh:=.a (.c (.nm 0 (.int .u64)))
abbrev h53:Sh:=.a (.c (.wn 0 (.int .u32)))
abbrev h73:Sh:=.a (.c (.nm 1 (.int .u32)))
abbrev h83:Sh:=.a (.c (.nm 2 (.int .u32)))
abbrev h93:Sh:=.a (.c (.nm 1 (.int .u64)))
abbrev hA4:Sh:=.a (.c (.nm 4 (.int .u64)))
abbrev hC4:Sh:=.a (.c (.imm (.int .u64)))
abbrev hE4:Sh:=.a (.c (.imm (.int .u32)))
abbrev hF4:Sh:=.a (.c (.int .u32))
abbrev hH4:Sh:=.a (.c (.fn 235))
abbrev hI4:Sh:=.a (.c (.fn 297))
abbrev hJ4:Sh:=.a (.c (.fn 196))
abbrev sD:Sh:=.a (.c .dead)
abbrev sI:Sh:=.a (.c (.int .i64))
abbrev sL:Sh:=.a (.c (.imm (.int .i64)))
abbrev sB:Sh:=.a (.c .bool)
abbrev sU:Sh:=.a (.c (.int .u64))
abbrev EO(E:Entry)(N:Nat)(H:Hints):=EOf prog E N H.pins
abbrev LO:=LoopOK prog
abbrev FO:=FunOK prog
abbrev FL(l:List FunT):=∀u∈l,FO u
abbrev sN(k:Nat):Sh:=.a (.c (.nm k (.int .i64)))
abbrev sX(k:Nat)(l:List ShC):Sh:=.a (.bx k l)
abbrev iI:ShC:=.int .i64
abbrev iU:ShC:=.int .u64
abbrev iL:ShC:=.imm (.int .i64)
abbrev iM(k:Nat):ShC:=.nm k (.int .i64)
def J(l:List Nat):Hint:=⟨[],l⟩
def J'(m:List (Nat×Nat))(l:List Nat):Hint:=⟨m,l⟩
def tt:TT:=[none,none,none,some ⟨(.int .i64),[.int .i64]⟩,some ⟨.bool,[.bool]⟩,some ⟨(.int .u8),[.int .u8]⟩,none,none,none,some ⟨.string,[.other]⟩,none,none,none,none,none,none,none,none,none,none,none,none,some ⟨(.slice 39 (.int .u64)),[.nil (.int .u64)]⟩,some ⟨(.slice 3 (.int .i64)),[.nil (.int .i64)]⟩,some ⟨(.slice 41 (.int .u64)),[.nil (.int .u64)]⟩,none,some ⟨(.struct [(0,1),(1,1),(2,1),(3,1),(4,1),(5,1),(6,1)]),[.nil (.int .i64),.nil (.int .i64),.nil (.int .u64),.nil (.int .i64),.nil (.int .i64),.nil (.int .u64),.int .i64]⟩,none,none,none,some ⟨(.slice 24 (.sl false (.int .u64))),[.nil (.sl false (.int .u64))]⟩,none,some ⟨(.struct [(0,1),(1,1),(2,1)]),[.nil (.int .u64),.nil (.int .u64),.nil (.sl false (.int .u64))]⟩,none,none,none,none,none,none,some ⟨(.int .u64),[.int .u64]⟩,none,some ⟨(.int .u64),[.int .u64]⟩,none,some ⟨(.slice 48 (.pr .bool (.pr (.pr .bool (.sl false (.int .u32))) (.int .i64)))),[.nil (.pr .bool (.pr (.pr .bool (.sl false (.int .u32))) (.int .i64)))]⟩,some ⟨(.slice 108 (.int .u32)),[.nil (.int .u32)]⟩,none,some ⟨(.struct [(0,1),(1,1)]),[.bool,.nil (.int .u32)]⟩,none,some ⟨(.struct [(0,1),(1,2),(3,1)]),[.bool,.bool,.nil (.int .u32),.int .i64]⟩,none,none,none,none,none,none,none,none,none,none,none,none,none,none,none,none,none,some ⟨(.slice 77 (.pr (.int .u64) (.pr (.int .u64) (.int .i64)))),[.nil (.pr (.int .u64) (.pr (.int .u64) (.int .i64)))]⟩,none,none,none,none,some ⟨(.struct [(0,1),(1,1)]),[.int .u64,.int .u64]⟩,none,none,none,none,none,some ⟨(.struct [(0,1),(1,1),(2,1)]),[.int .u64,.int .u64,.int .i64]⟩,none,none,none,none,none,none,none,none,some ⟨(.int .u64),[.int .u64]⟩,none,none,none,none,none,none,none,none,none,none,none,none,none,none,none,none,none,none,none,none,none,some ⟨(.int .u32),[.int .u32]⟩,none,none,none,none,none,none,none,none,none,none,none,none,none,none,none,none,none,some ⟨(.slice 43 (.sl false (.pr .bool (.pr (.pr .bool (.sl false (.int .u32))) (.int .i64))))),[.nil (.sl false (.pr .bool (.pr (.pr .bool (.sl false (.int .u32))) (.int .i64))))]⟩,none,none,none,none,none,none,none,none,none,none,none,none,none,none,none,none,none,none,none,none,none,none,none,some ⟨(.slice 4 .bool),[.nil .bool]⟩,none,none,none,none,none,none,none,none,none,none,none,none,none,none,none,none,none,none,none,none,none,none,none,none,none,none,none,none,none,none,none,none,none,none,none,none,none,none,none,none,none,none,none,none,none,none,none,none,none,none,none,none,none,none,none,none,none,none,none,none,none,none,none,none,none,none,none,none,none,some ⟨(.slice 43 (.sl false (.pr .bool (.pr (.pr .bool (.sl false (.int .u32))) (.int .i64))))),[.nil (.sl false (.pr .bool (.pr (.pr .bool (.sl false (.int .u32))) (.int .i64))))]⟩,none,none,none,none,some ⟨(.struct [(0,1),(1,2),(3,1),(4,1)]),[.bool,.bool,.nil (.int .u32),.int .i64,.bool]⟩,none,none,none,none,none,none,none,none,none,none,none,none,none,none,none,some ⟨(.slice 267 (.sl false (.pr .bool (.sl false (.int .u32))))),[.nil (.sl false (.pr .bool (.sl false (.int .u32))))]⟩,none,none,none,none,none,none,none,none,none,none,none,none,none,none,none,none,some ⟨(.tab 0 .u8 [0,1,28,2,29,14,24,3,30,22,20,15,25,17,4,8,31,27,13,23,21,19,16,7,26,12,18,6,11,5,10,9]),[.other,.other,.other,.other,.other,.other,.other,.other,.other,.other,.other,.other,.other,.other,.other,.other,.other,.other,.other,.other,.other,.other,.other,.other,.other,.other,.other,.other,.other,.other,.other,.other]⟩,none,none,none,none,none,none,none,none,some ⟨(.slice 46 (.pr .bool (.sl false (.int .u32)))),[.nil (.pr .bool (.sl false (.int .u32)))]⟩,none,none,none,none,none,none,none,none,none,none,none,none,none,some ⟨(.slice 287 (.sl false (.pr (.pr .bool (.sl false (.int .u32))) (.pr .bool (.sl false (.int .u32)))))),[.nil (.sl false (.pr (.pr .bool (.sl false (.int .u32))) (.pr .bool (.sl false (.int .u32)))))]⟩,none,none,none,none,some ⟨(.struct [(0,2),(2,2)]),[.bool,.nil (.int .u32),.bool,.nil (.int .u32)]⟩,some ⟨(.slice 286 (.pr (.pr .bool (.sl false (.int .u32))) (.pr .bool (.sl false (.int .u32))))),[.nil (.pr (.pr .bool (.sl false (.int .u32))) (.pr .bool (.sl false (.int .u32))))]⟩]
theorem htt:TTok prog tt:=qgz kR
theorem hmix:prog.follows .mixedOrders=true:=kR
theorem lk{N:Nat}{H:Hints}{E:Entry}(hE:EO E N H){D:List FunT}(hD:FL D){B:Code}(t:LT)(n:Nat)(hl:q0h B t.blk=[]:=by kernel_rfl)(hr:∀n x,qax (mkC (outVal t.outs) D) (mkLp (outVal t.outs) []) tt N H B t.blk (t.ins.enc x) (Kl (t.run n))=t.run (n+1) x:=by intro n x;kernel_rfl)(h0:∀x,t.run 0 x=none:=by intro x;kernel_rfl):LO E B (t.at n):=lok hmix htt hE hD (L:=[]) t (l:=[]) hl (fun _ _=>trivial) hr h0 n
theorem fk(H:Hints)(t:FunT){fn:Func}(hf:prog.funcs[t.f]? =some fn){D:List FunT}(hD:FL D)(hb:okB fn=true:=by kernel_rfl)(hl:q0h (codeOf fn) 0=[]:=by kernel_rfl)(hr: ∀x,fnK (mkC (t.res.Val×X7 t.outs) D) (mkLp (t.res.Val×X7 t.outs) []) tt H fn (encS t.args x) (Kd t.res t.outs)=t.run x:=by intro x;kernel_rfl):FO t:=fok hmix htt (H:=H) t hf hb hD (L:=[]) (l:=[]) hl (fun _ hE _ _=>trivial) hr
theorem f1'(H:Hints)(t:FunT){fn:Func}(hf:prog.funcs[t.f]? =some fn){D:List FunT}(hD:FL D){X:LT}{m:Nat}{B:Code}(h:∀E:Entry,EO E fn.ntmps H->LO E B (X.at m))(hb:okB fn=true:=by kernel_rfl)(hl:q0h (codeOf fn) 0=[(X.blk,B)]:=by kernel_rfl)(hr: ∀x,fnK (mkC (t.res.Val×X7 t.outs) D) (mkLp (t.res.Val×X7 t.outs) [X.at m]) tt H fn (encS t.args x) (Kd t.res t.outs)=t.run x:=by intro x;kernel_rfl)(hk:q50 [] [X.at m]=true:=by kernel_rfl):FO t:=fok hmix htt (H:=H) t hf hb hD (L:=[X.at m]) (l:=[(X.blk,B)]) hl (fun E hE _ _=>⟨qi ⟨yb (h E hE),trivial⟩,trivial⟩) hr hk
variable (m:Nat)
def g11H:Hints:=⟨[J [0,1],J' [(0,1),(2,1)] [4]],[],[],[4],[],[[false]]⟩
def g11T:FunT:=⟨11,[sI,sI],sI,[sD,sD],fun x=>g11 m x.1 x.2.1⟩
theorem g11ok:FO (g11T m):=fk g11H (g11T m) func11 noF
def g27H:Hints:=⟨[J [0,1],J [0,1,5],J [0,1,5,12],J' [(0,1),(2,1)] [5],J [5],J [4]],[],[],[4],[],[[false]]⟩
def g27T:FunT:=⟨27,[hC4,sI],sU,[sD,sD],fun x=>g27 m x.1 x.2.1⟩
theorem g27ok:FO (g27T m):=fk g27H (g27T m) func27 (AllF.mem (l:=[g11T m]) ⟨g11ok m,trivial⟩)
def g53H:Hints:=⟨[J [0],J' [(0,1)] [2]],[],[],[2],[],[[false]]⟩
def g53T:FunT:=⟨53,[sU],sB,[sD],fun x=>g53 m x.1⟩
theorem g53ok:FO (g53T m):=fk g53H (g53T m) func53 noF
def g132H:Hints:=⟨[J [0],J [0,3],J' [(2,1)] [0,3,17],J' [(0,1)] [0,3],J [0,3,4],J [0,3,4,5],J [0,3,4,5,22],J' [(0,1)] [0,3,4,5],J' [(0,1)] [0,3,4,5],J' [(0,1)] [2]],[(0,[0,3]),(2,[0,3,4,5])],[(0,[0,3]),(1,[0,3]),(2,[4]),(3,[0,3,4,5])],[2],[],[[true]]⟩
def g132T:FunT:=⟨132,[hE4],hm3,[sD],fun x=>g132 m x.1⟩
noncomputable def g132C:Code:=codeOf f132
noncomputable def g132B0:Code:=qo g132C 0 0
noncomputable def g132B2:Code:=qo g132C 0 1
def g132L1X:LT:=⟨2,[(0,hE4),(3,sI),(4,hm3),(5,sI)],[(.exit 2,[(4,hm3)])],fun n x=>g132L1 m n x.1 x.2.1 x.2.2.1 x.2.2.2.1⟩
theorem g132L1ok {E} (hE:EO E 33 g132H) (n):LO E g132B2 ((g132L1X m).at n):=lk hE noF (g132L1X m) n
def g132L0X:LT:=⟨0,[(0,hE4),(3,sI)],[(.exit 0,[(0,hE4),(3,sI)])],fun n x=>g132L0 m n x.1 x.2.1⟩
theorem g132L0ok {E} (hE:EO E 33 g132H) (n):LO E g132B0 ((g132L0X m).at n):=lk hE noF (g132L0X m) n
theorem g132ok:FO (g132T m):=
 fok hmix htt (H:=g132H) (g132T m) func132 kR noF (L:=[(g132L0X m).at m,(g132L1X m).at m]) (l:=[(0,g132B0),(2,g132B2)]) kR (fun _ hE _ _=>⟨qi ⟨yb (g132L0ok m hE m),nb rfl,trivial⟩,qi ⟨nb rfl,yb (g132L1ok m hE m),trivial⟩,trivial⟩) (fun x=>kR)
def g130H:Hints:=⟨[J [0,1,4],J' [(0,1)] [0,1,4],J' [(0,1),(1,1),(6,1)] [4]],[],[],[4],[],[[false,false]]⟩
def g130T:FunT:=⟨130,[sB,hE4],ha3,[sD,sD],fun x=>g130 m x.1 x.2.1⟩
theorem g130ok:FO (g130T m):=fk g130H (g130T m) func130 (AllF.mem (l:=[g132T m]) ⟨g132ok m,trivial⟩)
def g72H:Hints:=⟨[J [0,2],J [0,2,3],J [0,2,3,7],J [0,2,3],J' [(0,1)] [2]],[],[],[2],[],[[false,false]]⟩
def g72T:FunT:=⟨72,[sI],ha3,[sD],fun x=>g72 m x.1⟩
theorem g72ok:FO (g72T m):=fk g72H (g72T m) func72 (AllF.mem (l:=[g130T m]) ⟨g130ok m,trivial⟩)
def g126H:Hints:=⟨[J [1,2],J [2]],[],[],[2],[],[[false,false]]⟩
def g126T:FunT:=⟨126,[ha3],ha3,[sD],fun x=>g126 m x.1.1 x.1.2.1⟩
theorem g126ok:FO (g126T m):=fk g126H (g126T m) func126 (AllF.mem (l:=[g130T m]) ⟨g130ok m,trivial⟩)
def g62H:Hints:=⟨[J [0],J [0]],[],[],[0],[],[[false,false,true,false]]⟩
def g62T:FunT:=⟨62,[],hE3,[],fun x=>g62 m⟩
theorem g62ok:FO (g62T m):=fk g62H (g62T m) func62 noF
def g215H:Hints:=⟨[J [0],J [0,4],J [2],J [2]],[],[],[2],[],[[false]]⟩
def g215T:FunT:=⟨215,[hF4],sI,[sD],fun x=>g215 m x.1⟩
theorem g215ok:FO (g215T m):=fk g215H (g215T m) func215 noF
def g127H:Hints:=⟨[J [1],J [3],J [3,4],J [3,4,11],J' [(0,1)] [3,4],J [3,4,18],J' [(2,1)] [2],J [2]],[(0,[3,4])],[(0,[]),(1,[3,4])],[2],[],[[false]]⟩
def g127T:FunT:=⟨127,[ha3],sI,[sD],fun x=>g127 m x.1.1 x.1.2.1⟩
noncomputable def g127C:Code:=codeOf f127
noncomputable def g127B0:Code:=qo g127C 0 0
theorem g127K:FL [g132T m,g215T m]:=AllF.mem ⟨g132ok m,g215ok m,trivial⟩
def g127L0X:LT:=⟨0,[(3,hm3),(4,sI)],[(.ret,[(2,sI)]),(.exit 0,[])],fun n x=>g127L0 m n x.1 x.2.1⟩
theorem g127L0ok {E} (hE:EO E 27 g127H) (n):LO E g127B0 ((g127L0X m).at n):=lk hE (g127K m) (g127L0X m) n
theorem g127ok:FO (g127T m):=f1' g127H (g127T m) func127 (g127K m) fun _ h=>g127L0ok m h m
def g66H:Hints:=⟨[J [1,2],J [2]],[],[],[2],[],[[false,false]]⟩
def g66T:FunT:=⟨66,[ha3],ha3,[sD],fun x=>g66 m x.1.1 x.1.2.1⟩
theorem g66ok:FO (g66T m):=fk g66H (g66T m) func66 (AllF.mem (l:=[g130T m]) ⟨g130ok m,trivial⟩)
def g138H:Hints:=⟨[J [0,1],J [0,1,5],J [0,1,5,6],J [0,1,5,6,7],J [0,1,5,6,7,14],J' [(0,1)] [0,1,5,6,7],J' [(0,1)] [0,1,5,6,7],J' [(0,1)] [0,1,5,6,7],J' [(0,1)] [0,1,5,6,7],J' [(0,1),(1,1)] [4]],[(0,[0,1,5,6,7])],[(0,[5,6]),(1,[0,1,5,6,7])],[4],[],[[true]]⟩
def g138T:FunT:=⟨138,[hE4,sI],hm3,[sD,sD],fun x=>g138 m x.1 x.2.1⟩
noncomputable def g138C:Code:=codeOf f138
noncomputable def g138B0:Code:=qo g138C 0 0
def g138L0X:LT:=⟨0,[(0,hE4),(1,sI),(5,hm3),(6,sU),(7,sI)],[(.exit 0,[(5,hm3),(6,sU)])],fun n x=>g138L0 m n x.1 x.2.1 x.2.2.1 x.2.2.2.1 x.2.2.2.2.1⟩
theorem g138L0ok {E} (hE:EO E 39 g138H) (n):LO E g138B0 ((g138L0X m).at n):=lk hE noF (g138L0X m) n
theorem g138ok:FO (g138T m):=f1' g138H (g138T m) func138 noF fun _ h=>g138L0ok m h m
def g139H:Hints:=⟨[J [0,1],J [0,1,6],J [0,1,6,7],J' [(4,1)] [0,1,6,7,21],J' [(0,1)] [0,1,6,7],J' [(0,1),(1,1)] [0,1,6,7],J [0,1,6,8],J [0,1,6,8,9],J [0,1,6,8,9,10],J [0,1,6,8,9,10,39],J' [(0,1)] [0,1,6,8,9,10],J [0,1,6,8,9,10,11],J [0,1,6,8,9,10,11,51],J' [(0,1)] [0,1,6,8,9,10,11],J' [(4,1)] [0,1,6,8,9,10,11,75],J [0,1,6,8,9,10,11],J' [(0,1),(1,1)] [0,1,6,8,9,10],J' [(0,1),(1,1)] [4,5]],[(0,[0,1,6,7]),(2,[0,1,6,8,9,10])],[(0,[0,1,6]),(1,[0,1,6,7]),(2,[6,8]),(3,[0,1,6,8,9,10])],[4,5],[],[[true],[false]]⟩
def g139T:FunT:=⟨139,[hE4,sI],.tup [(.c (.nm 0 (.int .u32))),(.c .bool)],[sD,sD],fun x=>g139 m x.1 x.2.1⟩
noncomputable def g139C:Code:=codeOf f139
noncomputable def g139B0:Code:=qo g139C 0 0
noncomputable def g139B2:Code:=qo g139C 0 1
def g139L1X:LT:=⟨2,[(0,hE4),(1,sI),(6,sB),(8,hm3),(9,sI),(10,sI)],[(.exit 2,[(6,sB),(8,hm3)])],fun n x=>g139L1 m n x.1 x.2.1 x.2.2.1 x.2.2.2.1 x.2.2.2.2.1 x.2.2.2.2.2.1⟩
theorem g139L1ok {E} (hE:EO E 85 g139H) (n):LO E g139B2 ((g139L1X m).at n):=lk hE noF (g139L1X m) n
def g139L0X:LT:=⟨0,[(0,hE4),(1,sI),(6,sB),(7,sI)],[(.exit 0,[(0,hE4),(1,sI),(6,sB)])],fun n x=>g139L0 m n x.1 x.2.1 x.2.2.1 x.2.2.2.1⟩
theorem g139L0ok {E} (hE:EO E 85 g139H) (n):LO E g139B0 ((g139L0X m).at n):=lk hE noF (g139L0X m) n
theorem g139ok:FO (g139T m):=
 fok hmix htt (H:=g139H) (g139T m) func139 kR noF (L:=[(g139L0X m).at m,(g139L1X m).at m]) (l:=[(0,g139B0),(2,g139B2)]) kR (fun _ hE _ _=>⟨qi ⟨yb (g139L0ok m hE m),nb rfl,trivial⟩,qi ⟨nb rfl,yb (g139L1ok m hE m),trivial⟩,trivial⟩) (fun x=>kR)
def g134H:Hints:=⟨[J [1,2],J [2]],[],[],[2],[],[[false,false]]⟩
def g134T:FunT:=⟨134,[ha3],ha3,[sD],fun x=>g134 m x.1.1 x.1.2.1⟩
theorem g134ok:FO (g134T m):=fk g134H (g134T m) func134 (AllF.mem (l:=[g130T m]) ⟨g130ok m,trivial⟩)
def g135H:Hints:=⟨[J [0,1],J [0,1,5],J [0,1,5,6],J [0,1,5,6,7],J [0,1,5,6,7,14],J' [(0,1)] [0,1,5,6,7],J [0,1,5,6,7,20],J' [(0,1)] [0,1,5,6,7],J [0,1,5,6,7,31],J' [(0,1)] [0,1,5,6,7],J' [(0,1)] [0,1,5,6,7],J' [(0,1)] [0,1,5,6,7],J' [(0,1),(1,1)] [4]],[(0,[0,1,5,6,7])],[(0,[5,6]),(1,[0,1,5,6,7])],[4],[],[[true]]⟩
def g135T:FunT:=⟨135,[hE4,hE4],hm3,[sD,sD],fun x=>g135 m x.1 x.2.1⟩
noncomputable def g135C:Code:=codeOf f135
noncomputable def g135B0:Code:=qo g135C 0 0
def g135L0X:LT:=⟨0,[(0,hE4),(1,hE4),(5,hm3),(6,sU),(7,sI)],[(.exit 0,[(5,hm3),(6,sU)])],fun n x=>g135L0 m n x.1 x.2.1 x.2.2.1 x.2.2.2.1 x.2.2.2.2.1⟩
theorem g135L0ok {E} (hE:EO E 51 g135H) (n):LO E g135B0 ((g135L0X m).at n):=lk hE noF (g135L0X m) n
theorem g135ok:FO (g135T m):=f1' g135H (g135T m) func135 noF fun _ h=>g135L0ok m h m
def g136H:Hints:=⟨[J [0,1],J [0,1,10],J' [(0,1),(2,1)] [15],J [4],J [4],J [0,1,5],J [0,1,5,20],J' [(0,1)] [0,1,5],J [0,1,5,31],J' [(0,1),(4,1)] [40],J [4],J [4],J [4]],[(0,[0,1,5])],[(0,[]),(1,[0,1,5])],[4],[],[[false]]⟩
def g136T:FunT:=⟨136,[hE4,hE4],sI,[sD,sD],fun x=>g136 m x.1 x.2.1⟩
noncomputable def g136C:Code:=codeOf f136
noncomputable def g136B0:Code:=qo g136C 0 0
def g136L0X:LT:=⟨0,[(0,hE4),(1,hE4),(5,sI)],[(.ret,[(4,sI)]),(.exit 0,[])],fun n x=>g136L0 m n x.1 x.2.1 x.2.2.1⟩
theorem g136L0ok {E} (hE:EO E 41 g136H) (n):LO E g136B0 ((g136L0X m).at n):=lk hE noF (g136L0X m) n
theorem g136ok:FO (g136T m):=f1' g136H (g136T m) func136 noF fun _ h=>g136L0ok m h m
def g137H:Hints:=⟨[J [0,1],J [0,1,5],J [0,1,5,6],J [0,1,5,6,7],J [0,1,5,6,7,12],J' [(0,1)] [0,1,5,6,7],J' [(5,1)] [0,1,5,7,8],J [0,1,5,7,8,25],J' [(0,1)] [0,1,5,7,8],J' [(0,1)] [0,1,5,7,8],J' [(0,1)] [0,1,5,6,7],J' [(0,1)] [4]],[(0,[0,1,5,6,7])],[(0,[5]),(1,[0,1,5,6,7])],[4],[],[[true]]⟩
def g137T:FunT:=⟨137,[hE4,hE4],hm3,[sD,sD],fun x=>g137 m x.1 x.2.1⟩
noncomputable def g137C:Code:=codeOf f137
noncomputable def g137B0:Code:=qo g137C 0 0
def g137L0X:LT:=⟨0,[(0,hE4),(1,hE4),(5,hm3),(6,sU),(7,sI)],[(.exit 0,[(5,hm3)])],fun n x=>g137L0 m n x.1 x.2.1 x.2.2.1 x.2.2.2.1 x.2.2.2.2.1⟩
theorem g137L0ok {E} (hE:EO E 41 g137H) (n):LO E g137B0 ((g137L0X m).at n):=lk hE noF (g137L0X m) n
theorem g137ok:FO (g137T m):=f1' g137H (g137T m) func137 noF fun _ h=>g137L0ok m h m
def g70H:Hints:=⟨[J [2,3,4],J [2,3,4,5,6],J [2,3,4,5,6,17],J' [(2,1),(3,1)] [4],J [2,3,4,5,6,27],J' [(2,1),(3,1)] [4],J' [(2,1),(3,1)] [4]],[],[],[4],[],[[false,false]]⟩
def g70T:FunT:=⟨70,[ha3,ha3],ha3,[sD,sD],fun x=>g70 m x.1.1 x.1.2.1 x.2.1.1 x.2.1.2.1⟩
theorem g70ok:FO (g70T m):=fk g70H (g70T m) func70 (AllF.mem (l:=[g132T m,g135T m,g130T m,g136T m,g137T m]) ⟨g132ok m,g135ok m,g130ok m,g136ok m,g137ok m,trivial⟩)
def g140H:Hints:=⟨[J [2,3,4],J [4]],[],[],[4],[],[[false,false]]⟩
def g140T:FunT:=⟨140,[ha3,ha3],ha3,[sD,sD],fun x=>g140 m x.1.1 x.1.2.1 x.2.1.1 x.2.1.2.1⟩
theorem g140ok:FO (g140T m):=fk g140H (g140T m) func140 (AllF.mem (l:=[g134T m,g70T m]) ⟨g134ok m,g70ok m,trivial⟩)
def g71H:Hints:=⟨[J [1,2,4],J [1,2,4],J [1,2,4,11],J' [(4,1)] [4],J' [(2,1),(5,1)] [2,4,5,6],J' [(2,1)] [2,4,6,7],J' [(2,1),(3,1)] [4,7,35],J [4,7],J [4]],[],[],[4],[],[[false,false]]⟩
def g71T:FunT:=⟨71,[ha3,sI],ha3,[sD,sD],fun x=>g71 m x.1.1 x.1.2.1 x.2.1⟩
theorem g71ok:FO (g71T m):=fk g71H (g71T m) func71 (AllF.mem (l:=[g126T m,g138T m,g130T m,g139T m,g72T m,g140T m]) ⟨g126ok m,g138ok m,g130ok m,g139ok m,g72ok m,g140ok m,trivial⟩)
def g128H:Hints:=⟨[J [1,2,4],J [1,2,4,6],J [1,2,4],J' [(0,1)] [1,2,4],J' [(1,1)] [4]],[(0,[1,2,4])],[(0,[1,2,4]),(1,[1,2,4])],[4],[],[[false,false]]⟩
def g128T:FunT:=⟨128,[ha3,sI],ha3,[sD,sD],fun x=>g128 m x.1.1 x.1.2.1 x.2.1⟩
noncomputable def g128C:Code:=codeOf f128
noncomputable def g128B0:Code:=qo g128C 0 0
theorem g128K:FL [g71T m]:=AllF.mem ⟨g71ok m,trivial⟩
def g128L0X:LT:=⟨0,[(1,sI),(2,sX 0 [.bool,.imm (.int .u32)]),(4,sX 1 [.bool,.nm 2 (.int .u32)])],[(.exit 0,[(1,sI),(2,sX 0 [.bool,.imm (.int .u32)]),(4,sX 1 [.bool,.nm 2 (.int .u32)])])],fun n x=>g128L0 m n x.1 x.2.1.1 x.2.1.2.1 x.2.2.1.1 x.2.2.1.2.1⟩
theorem g128L0ok {E} (hE:EO E 15 g128H) (n):LO E g128B0 ((g128L0X m).at n):=lk hE (g128K m) (g128L0X m) n
theorem g128ok:FO (g128T m):=f1' g128H (g128T m) func128 (g128K m) fun _ h=>g128L0ok m h m
def g216H:Hints:=⟨[J [0,2],J [0,2,4],J' [(0,1)] [0],J [0,2],J [0,2,8],J' [(0,1)] [0,2],J' [(0,1)] [0,2],J' [(0,1),(1,1)] [2]],[],[],[2],[],[[false]]⟩
def g216T:FunT:=⟨216,[hF4],sI,[sD],fun x=>g216 m x.1⟩
theorem g216ok:FO (g216T m):=fk g216H (g216T m) func216 noF
def g129H:Hints:=⟨[J [1],J [3],J [3,9],J [2],J [2]],[],[],[2],[],[[false]]⟩
def g129T:FunT:=⟨129,[ha3],sI,[sD],fun x=>g129 m x.1.1 x.1.2.1⟩
theorem g129ok:FO (g129T m):=fk g129H (g129T m) func129 (AllF.mem (l:=[g132T m,g216T m]) ⟨g132ok m,g216ok m,trivial⟩)
def g63H:Hints:=⟨[J [1,2,4],J [1,2,4,5],J [1,2,4,5,13],J [4],J [1,2,4,5,16],J [4],J [1,2,4,5,6],J' [(0,1)] [2,4,5,6,7],J [2,4,5,6,7],J' [(1,1)] [2,4,5,7],J' [(2,1)] [2,4,5,7,36],J [4],J [4,5,7],J' [(1,1)] [4]],[],[],[4],[],[[false,false,false,false]]⟩
def g63T:FunT:=⟨63,[ha3,sI],hI3,[sD,sD],fun x=>g63 m x.1.1 x.1.2.1 x.2.1⟩
theorem g63ok:FO (g63T m):=fk g63H (g63T m) func63 (AllF.mem (l:=[g126T m,g62T m,g127T m,g66T m,g128T m,g129T m]) ⟨g126ok m,g62ok m,g127ok m,g66ok m,g128ok m,g129ok m,trivial⟩)
def g22H:Hints:=⟨[J [0,2],J' [(0,1)] [2]],[],[],[2],[],[[false,false,false,false]]⟩
def g22T:FunT:=⟨22,[sI],hI3,[sD],fun x=>g22 m x.1⟩
theorem g22ok:FO (g22T m):=fk g22H (g22T m) func22 (AllF.mem (l:=[g72T m,g63T m]) ⟨g72ok m,g63ok m,trivial⟩)
def g61H:Hints:=⟨[J [1,2],J [1,2,4],J [2],J [2]],[],[],[2],[],[[false,false,false,false]]⟩
def g61T:FunT:=⟨61,[hI3],hI3,[sD],fun x=>g61 m x.1.1 x.1.2.1 x.1.2.2.1 x.1.2.2.2.1⟩
theorem g61ok:FO (g61T m):=fk g61H (g61T m) func61 (AllF.mem (l:=[g62T m,g63T m]) ⟨g62ok m,g63ok m,trivial⟩)
def g69H:Hints:=⟨[J [1],J [1],J [1,5],J [2],J [10],J [2],J [2]],[],[(0,[])],[2],[],[[false]]⟩
def g69T:FunT:=⟨69,[ha3],sI,[sD],fun x=>g69 m x.1.1 x.1.2.1⟩
theorem g69ok:FO (g69T m):=fk g69H (g69T m) func69 (AllF.mem (l:=[g126T m]) ⟨g126ok m,trivial⟩)
def g78H:Hints:=⟨[J [0,1],J' [(0,1)] [1,5],J' [(0,1)] [4],J' [(0,1)] [4]],[],[],[4],[],[[false]]⟩
def g78T:FunT:=⟨78,[sB,sU],sU,[sD,sD],fun x=>g78 m x.1 x.2.1⟩
theorem g78ok:FO (g78T m):=fk g78H (g78T m) func78 noF
def g217H:Hints:=⟨[J [0,1],J' [(2,1),(5,1),(10,1),(13,1)] [0,21],J' [(0,1)] [4],J' [(0,1)] [4]],[],[],[4],[],[[false]]⟩
def g217T:FunT:=⟨217,[sB,sI],sU,[sD,sD],fun x=>g217 m x.1 x.2.1⟩
theorem g217ok:FO (g217T m):=fk g217H (g217T m) func217 (AllF.mem (l:=[g78T m]) ⟨g78ok m,trivial⟩)
def g260H:Hints:=⟨[J [1,2],J' [(3,1),(5,1)] [6],J' [(0,1)] [4]],[],[],[4],[],[[false]]⟩
def g260T:FunT:=⟨260,[ha3,sI],sB,[sD,sD],fun x=>g260 m x.1.1 x.1.2.1 x.2.1⟩
theorem g260ok:FO (g260T m):=fk g260H (g260T m) func260 (AllF.mem (l:=[g132T m,g139T m]) ⟨g132ok m,g139ok m,trivial⟩)
def g261H:Hints:=⟨[J [0,1,2,3],J' [(0,1)] [0,1,2,9],J [0,1,2,9,10],J' [(0,1)] [8],J [0,1,2,9,13],J' [(0,1)] [8],J [1,2,17],J [8],J' [(2,1),(5,1),(6,1)] [8]],[],[(0,[1,2])],[8],[],[[false]]⟩
def g261T:FunT:=⟨261,[sB,sI,sB,sI],sB,[sD,sD,sD,sD],fun x=>g261 m x.1 x.2.1 x.2.2.1 x.2.2.2.1⟩
theorem g261ok:FO (g261T m):=fk g261H (g261T m) func261 noF
def g218H:Hints:=⟨[J [0,2,3,4,6,10],J [0,2,3,4,6,10,11],J [0,2,3,4,6,10,11,12],J' [(0,1),(2,1)] [0,2,3,4,6,10,11,27],J [10],J [0,2,3,4,6,10,11,13],J [0,2,3,4,6,10,11,13,30],J [0,2,3,4,6,10,11,13,14],J' [(3,1)] [0,2,3,4,6,10,11,13,42],J [0,2,3,4,6,10,11,13],J' [(0,1),(1,1),(3,1)] [0,4,10,11,13,49],J [0,4,10,11,13],J' [(3,1)] [0,4,10,11,13,15],J' [(0,1),(1,1),(2,1),(3,1)] [10,11,62],J [10,11],J [10]],[],[],[10],[],[[false,false]]⟩
def g218T:FunT:=⟨218,[sB,ha3,sI,sB,sI],ha3,[sD,sD,sD,sD,sD],fun x=>g218 m x.1 x.2.1.1 x.2.1.2.1 x.2.2.1 x.2.2.2.1 x.2.2.2.2.1⟩
theorem g218ok:FO (g218T m):=fk g218H (g218T m) func218 (AllF.mem (l:=[g128T m,g260T m,g127T m,g69T m,g261T m,g72T m,g70T m]) ⟨g128ok m,g260ok m,g127ok m,g69ok m,g261ok m,g72ok m,g70ok m,trivial⟩)
def g219H:Hints:=⟨[J [1],J [1],J [1,11],J [2,3],J [1,4],J [1,4,5],J [1,4,5,16],J' [(0,1)] [1,4,5],J' [(0,1)] [1,4,5],J [4,31],J [4,33],J [2,3],J' [(0,1)] [2,3],J [4,40],J [2,3],J' [(0,1)] [2,3]],[(0,[1,4,5])],[(0,[1,4]),(1,[1,4,5])],[2,3],[],[[false],[false]]⟩
def g219T:FunT:=⟨219,[ha3],.tup [(.c (.int .i64)),(.c .bool)],[sD],fun x=>g219 m x.1.1 x.1.2.1⟩
noncomputable def g219C:Code:=codeOf f219
noncomputable def g219B0:Code:=qo g219C 0 0
theorem g219K:FL [g126T m]:=AllF.mem ⟨g126ok m,trivial⟩
def g219L0X:LT:=⟨0,[(1,sX 0 [.bool,.imm (.int .u32)]),(4,sU),(5,sI)],[(.exit 0,[(1,sX 0 [.bool,.imm (.int .u32)]),(4,sU)])],fun n x=>g219L0 m n x.1.1 x.1.2.1 x.2.1 x.2.2.1⟩
theorem g219L0ok {E} (hE:EO E 43 g219H) (n):LO E g219B0 ((g219L0X m).at n):=lk hE (g219K m) (g219L0X m) n
theorem g219ok:FO (g219T m):=f1' g219H (g219T m) func219 (g219K m) fun _ h=>g219L0ok m h m
def g142H:Hints:=⟨[J [0,2,3,4,6],J [0,2,3,4,6,11],J [0,2,3,4,6,11,22],J' [(0,1),(1,1)] [10],J' [(0,1)] [0,2,3,4,6,12],J [0,2,3,4,6,12,13],J [0,2,3,4,6,12,13,31],J' [(3,1),(5,1)] [0,4,12,13],J' [(1,1)] [0,4,12,13],J' [(2,1)] [0,4,12,14],J [0,4,12,14,51],J [0,4,12,14],J' [(0,1)] [0,4,12,14],J' [(2,1)] [0,4,12,14,54],J' [(0,1),(1,1)] [10],J [0,12,14,65],J' [(0,1),(1,1),(5,1)] [10],J' [(0,1),(1,1)] [10]],[],[(0,[0,14])],[10],[],[[false]]⟩
def g142T:FunT:=⟨142,[sB,ha3,sI,sB,sI],sU,[sD,sD,sD,sD,sD],fun x=>g142 m x.1 x.2.1.1 x.2.1.2.1 x.2.2.1 x.2.2.2.1 x.2.2.2.2.1⟩
theorem g142ok:FO (g142T m):=fk g142H (g142T m) func142 (AllF.mem (l:=[g129T m,g217T m,g218T m,g219T m,g78T m,g71T m]) ⟨g129ok m,g217ok m,g218ok m,g219ok m,g78ok m,g71ok m,trivial⟩)
def g74H:Hints:=⟨[J [1,2],J [1,2],J [1,2,8],J [4],J [1,2,12],J [4],J' [(8,1)] [4]],[],[],[4],[],[[false]]⟩
def g74T:FunT:=⟨74,[hI3,sI],sU,[sD,sD],fun x=>g74 m x.1.1 x.1.2.1 x.1.2.2.1 x.1.2.2.2.1 x.2.1⟩
theorem g74ok:FO (g74T m):=fk g74H (g74T m) func74 (AllF.mem (l:=[g61T m,g69T m,g66T m,g142T m]) ⟨g61ok m,g69ok m,g66ok m,g142ok m,trivial⟩)
def g26H:Hints:=⟨[J [0,1],J' [(0,1),(2,1)] [4]],[],[],[4],[],[[false]]⟩
def g26T:FunT:=⟨26,[sI,sI],sU,[sD,sD],fun x=>g26 m x.1 x.2.1⟩
theorem g26ok:FO (g26T m):=fk g26H (g26T m) func26 (AllF.mem (l:=[g22T m,g74T m]) ⟨g22ok m,g74ok m,trivial⟩)
def g125H:Hints:=⟨[J [0],J' [(0,1)] [2]],[],[],[2],[],[[false]]⟩
def g125T:FunT:=⟨125,[sU],sU,[sD],fun x=>g125 m x.1⟩
theorem g125ok:FO (g125T m):=fk g125H (g125T m) func125 (AllF.mem (l:=[g26T m]) ⟨g26ok m,trivial⟩)
def g60H:Hints:=⟨[J [0,1],J' [(0,1)] [0,7],J [0,7,8],J [4],J [0,7,18],J [4],J [0,28],J' [(0,1)] [5],J [5,33],J [4],J' [(0,1)] [4],J' [(0,1)] [4]],[],[(0,[0])],[4],[],[[false]]⟩
def g60T:FunT:=⟨60,[sU,sI],sU,[sD,sD],fun x=>g60 m x.1 x.2.1⟩
theorem g60ok:FO (g60T m):=fk g60H (g60T m) func60 (AllF.mem (l:=[g11T m,g53T m,g125T m]) ⟨g11ok m,g53ok m,g125ok m,trivial⟩)
def g16H:Hints:=⟨[J [0,1,2,3],J [0,1,2,3,9],J [0,1,2,3,9,10],J [0,1,2,3,9,10,14],J' [(0,1)] [0,1,2,3,9,10],J' [(0,1)] [0,1,2,3,9,10],J' [(0,1)] [8]],[(0,[0,1,2,3,9,10])],[(0,[9]),(1,[0,1,2,3,9,10])],[8],[],[[true]]⟩
def g16T:FunT:=⟨16,[hC4,sI,sI,sI],h33,[sD,sD,sD,sD],fun x=>g16 m x.1 x.2.1 x.2.2.1 x.2.2.2.1⟩
noncomputable def g16C:Code:=codeOf f16
noncomputable def g16B0:Code:=qo g16C 0 0
theorem g16K:FL [g27T m,g60T m]:=AllF.mem ⟨g27ok m,g60ok m,trivial⟩
def g16L0X:LT:=⟨0,[(0,hC4),(1,sI),(2,sI),(3,sI),(9,h33),(10,sI)],[(.exit 0,[(9,h33)])],fun n x=>g16L0 m n x.1 x.2.1 x.2.2.1 x.2.2.2.1 x.2.2.2.2.1 x.2.2.2.2.2.1⟩
theorem g16L0ok {E} (hE:EO E 28 g16H) (n):LO E g16B0 ((g16L0X m).at n):=lk hE (g16K m) (g16L0X m) n
theorem g16ok:FO (g16T m):=f1' g16H (g16T m) func16 (g16K m) fun _ h=>g16L0ok m h m
def g110H:Hints:=⟨[J [0],J [2,3]],[],[],[2,3],[],[[false],[false]]⟩
def g110T:FunT:=⟨110,[sU],.tup [(.c (.int .i64)),(.c (.int .u64))],[sD],fun x=>g110 m x.1⟩
theorem g110ok:FO (g110T m):=fk g110H (g110T m) func110 noF
def g47H:Hints:=⟨[J [0],J' [(0,1),(2,1)] [3],J' [(0,1)] [2]],[],[],[2],[],[[false]]⟩
def g47T:FunT:=⟨47,[sU],sB,[sD],fun x=>g47 m x.1⟩
theorem g47ok:FO (g47T m):=fk g47H (g47T m) func47 (AllF.mem (l:=[g110T m]) ⟨g110ok m,trivial⟩)
def g235H:Hints:=⟨[J [0],J' [(0,1)] [2]],[],[],[2],[],[[false]]⟩
def g235T:FunT:=⟨235,[sU],sB,[sD],fun x=>g235 m x.1⟩
theorem g235ok:FO (g235T m):=fk g235H (g235T m) func235 (AllF.mem (l:=[g47T m]) ⟨g47ok m,trivial⟩)
def g250H:Hints:=⟨[J [0,1],J [0,1,7,8],J [0,1,7,8,9],J [0,1,5,7,8],J [0,1,5,7,8,16],J' [(0,1)] [4],J' [(1,1)] [0,1,7,8],J [4]],[(0,[0,1,7,8])],[(0,[]),(1,[0,1,7,8])],[4],[],[[false]]⟩
def g250T:FunT:=⟨250,[hC4,hH4],sI,[sD,sD],fun x=>g250 m x.1⟩
noncomputable def g250C:Code:=codeOf f250
noncomputable def g250B0:Code:=qo g250C 0 0
theorem g250K:FL [g235T m]:=AllF.mem ⟨g235ok m,trivial⟩
def g250L0X:LT:=⟨0,[(0,hC4),(1,hH4),(7,sI),(8,sI)],[(.ret,[(4,sI)]),(.exit 0,[])],fun n x=>g250L0 m n x.1 x.2.2.1 x.2.2.2.1⟩
theorem g250L0ok {E} (hE:EO E 19 g250H) (n):LO E g250B0 ((g250L0X m).at n):=lk hE (g250K m) (g250L0X m) n
theorem g250ok:FO (g250T m):=f1' g250H (g250T m) func250 (g250K m) fun _ h=>g250L0ok m h m
def g195H:Hints:=⟨[J [0,1],J' [(0,1),(1,1)] [4]],[],[],[4],[],[[false]]⟩
def g195T:FunT:=⟨195,[hC4,hH4],sB,[sD,sD],fun x=>g195 m x.1⟩
theorem g195ok:FO (g195T m):=fk g195H (g195T m) func195 (AllF.mem (l:=[g250T m]) ⟨g250ok m,trivial⟩)
def g157H:Hints:=⟨[J [0,1],J [0,1,5],J [0,1,5,6],J [4],J [0,1,5,10],J [4],J' [(0,1),(3,1),(4,1)] [18],J [4],J [4]],[],[(0,[])],[4],[],[[false]]⟩
def g157T:FunT:=⟨157,[hC4,hC4],sI,[sD,sD],fun x=>g157 m x.1 x.2.1⟩
theorem g157ok:FO (g157T m):=fk g157H (g157T m) func157 (AllF.mem (l:=[g195T m]) ⟨g195ok m,trivial⟩)
def g228H:Hints:=⟨[J [0],J [0,3],J' [(2,1)] [0,3,15],J' [(0,1)] [0,3],J' [(0,1),(1,1)] [2]],[(0,[0,3])],[(0,[0,3]),(1,[0,3])],[2],[],[[false]]⟩
def g228T:FunT:=⟨228,[hE4],hE4,[sD],fun x=>g228 m x.1⟩
noncomputable def g228C:Code:=codeOf f228
noncomputable def g228B0:Code:=qo g228C 0 0
def g228L0X:LT:=⟨0,[(0,hE4),(3,sI)],[(.exit 0,[(0,hE4),(3,sI)])],fun n x=>g228L0 m n x.1 x.2.1⟩
theorem g228L0ok {E} (hE:EO E 21 g228H) (n):LO E g228B0 ((g228L0X m).at n):=lk hE noF (g228L0X m) n
theorem g228ok:FO (g228T m):=f1' g228H (g228T m) func228 noF fun _ h=>g228L0ok m h m
def g221H:Hints:=⟨[J [0,1,4],J' [(0,1)] [0,1,4],J [0,1,4,9],J [4],J' [(0,1),(1,1)] [4]],[],[],[4],[],[[false,false]]⟩
def g221T:FunT:=⟨221,[sB,hE4],ha3,[sD,sD],fun x=>g221 m x.1 x.2.1⟩
theorem g221ok:FO (g221T m):=fk g221H (g221T m) func221 (AllF.mem (l:=[g228T m]) ⟨g228ok m,trivial⟩)
def g146H:Hints:=⟨[J [0,2],J [0,2,3],J [0,2,3,7],J' [(0,1)] [0,2,3],J' [(0,1)] [2]],[],[],[2],[],[[false,false]]⟩
def g146T:FunT:=⟨146,[sI],ha3,[sD],fun x=>g146 m x.1⟩
theorem g146ok:FO (g146T m):=fk g146H (g146T m) func146 (AllF.mem (l:=[g221T m]) ⟨g221ok m,trivial⟩)
def g222H:Hints:=⟨[J [0],J [0]],[],[],[0],[],[[false,false,true,false]]⟩
def g222T:FunT:=⟨222,[],hE3,[],fun x=>g222 m⟩
theorem g222ok:FO (g222T m):=fk g222H (g222T m) func222 noF
def g233H:Hints:={regs:=[J [0],J [0],J [2],J [2]],heads:=[],exits:=[],rets:=[2],pins:=[],spec:=[[true]]}
abbrev g233A:List Sh:=[hE4]
abbrev g233S:Sh:= hm3
abbrev g233U:List Sh:=[sD]
def g233R:X7 g233A->Option (g233S.Val×X7 g233U):=fun x=>g233 m x.1
def g233T:FunT:=⟨233,g233A,g233S,g233U,g233R m⟩
noncomputable def g233C:Code:=codeOf f233
theorem g233ok:FO (g233T m):=
 qlv hmix htt (H:=g233H) (fn:=f233) (f:=233) (t:=(.int .u32)) (ty:=44) (e:=108) (ty2:=44) (k:=1) (cells:=[.nil (.int .u32)]) (A:=pA g233C) (X:=pX (pB (pA (pB g233C)))) (Y:=pB (pB g233C)) (o0:=pO 0 (pA (pA (pB g233C)))) (o1:=pO 1 (pA (pA (pB g233C)))) func233 kR kR kR kR kR kR kR kR kR (of_decide_eq_true kR) rfl kR kR kR (fun xs=>[(0,.sl .imm (.int .u32) xs)]) (fun xs=>[(2,.sl (.nm 0) (.int .u32) xs)]) (fun xs=>kR) (fun _=>rfl) (fun _=>rfl) (fun _=>rfl) kR (fun xs=>kR) (fun xs=>kR)
def g229H:Hints:=⟨[J [1,2],J [2]],[],[],[2],[],[[false,false]]⟩
def g229T:FunT:=⟨229,[ha3],ha3,[sD],fun x=>g229 m x.1.1 x.1.2.1⟩
theorem g229ok:FO (g229T m):=fk g229H (g229T m) func229 (AllF.mem (l:=[g233T m,g221T m]) ⟨g233ok m,g221ok m,trivial⟩)
def g226H:Hints:=⟨[J [1],J [1,3],J [2],J [9],J [2],J [2]],[],[(0,[])],[2],[],[[false]]⟩
def g226T:FunT:=⟨226,[ha3],sI,[sD],fun x=>g226 m x.1.1 x.1.2.1⟩
theorem g226ok:FO (g226T m):=fk g226H (g226T m) func226 (AllF.mem (l:=[g228T m]) ⟨g228ok m,trivial⟩)
def g230H:Hints:=⟨[J [1],J [6,7,8],J [6,7,8,9],J [3,4,6,7,8],J [3,4,6,7,8,14],J' [(0,1),(2,1)] [2],J' [(1,1)] [6,7,8],J [2]],[(0,[6,7,8])],[(0,[]),(1,[6,7,8])],[2],[],[[false]]⟩
def g230T:FunT:=⟨230,[ha3],sI,[sD],fun x=>g230 m x.1.1 x.1.2.1⟩
noncomputable def g230C:Code:=codeOf f230
noncomputable def g230B0:Code:=qo g230C 0 0
theorem g230K:FL [g215T m]:=AllF.mem ⟨g215ok m,trivial⟩
def g230L0X:LT:=⟨0,[(6,hE4),(7,sI),(8,sI)],[(.ret,[(2,sI)]),(.exit 0,[])],fun n x=>g230L0 m n x.1 x.2.1 x.2.2.1⟩
theorem g230L0ok {E} (hE:EO E 21 g230H) (n):LO E g230B0 ((g230L0X m).at n):=lk hE (g230K m) (g230L0X m) n
theorem g230ok:FO (g230T m):=f1' g230H (g230T m) func230 (g230K m) fun _ h=>g230L0ok m h m
def g269H:Hints:=⟨[J [0],J [0,5],J [2],J [2]],[],[],[2],[],[[false]]⟩
def g269T:FunT:=⟨269,[hE4],sI,[sD],fun x=>g269 m x.1⟩
theorem g269ok:FO (g269T m):=fk g269H (g269T m) func269 (AllF.mem (l:=[g216T m]) ⟨g216ok m,trivial⟩)
def g231H:Hints:=⟨[J [1],J [2]],[],[],[2],[],[[false]]⟩
def g231T:FunT:=⟨231,[ha3],sI,[sD],fun x=>g231 m x.1.1 x.1.2.1⟩
theorem g231ok:FO (g231T m):=fk g231H (g231T m) func231 (AllF.mem (l:=[g228T m,g269T m]) ⟨g228ok m,g269ok m,trivial⟩)
def g282H:Hints:=⟨[J [0,1],J [0,1,13],J [4],J [0,5,6],J [0,5,6,7],J' [(0,1)] [5,6,7,25,26,27],J [5,6,7,25,26,27,28],J [5,6,7,8,9,25,26,27],J' [(0,1)] [5,6,7,8,10,25,26,27],J [5,6,7,8,10,25,26,27],J' [(2,1),(5,1)] [5,6,7,25,26,27],J' [(1,1)] [5,6,7,25,26,27],J' [(0,1)] [4]],[(0,[5,6,7,25,26,27])],[(0,[7]),(1,[5,6,7,25,26,27])],[4],[],[[false]]⟩
def g282T:FunT:=⟨282,[hE4,sI],hE4,[sD,sD],fun x=>g282 m x.1 x.2.1⟩
noncomputable def g282C:Code:=codeOf f282
noncomputable def g282B0:Code:=qo g282C 0 0
theorem g282K:FL [g228T m]:=AllF.mem ⟨g228ok m,trivial⟩
def g282L0X:LT:=⟨0,[(5,sI),(6,sU),(7,hm3),(25,hE4),(26,sI),(27,sI)],[(.exit 0,[(7,hm3)])],fun n x=>g282L0 m n x.1 x.2.1 x.2.2.1 x.2.2.2.1 x.2.2.2.2.1 x.2.2.2.2.2.1⟩
theorem g282L0ok {E} (hE:EO E 59 g282H) (n):LO E g282B0 ((g282L0X m).at n):=lk hE (g282K m) (g282L0X m) n
theorem g282ok:FO (g282T m):=f1' g282H (g282T m) func282 (g282K m) fun _ h=>g282L0ok m h m
def g297H:Hints:=⟨[J [0],J' [(0,1)] [2]],[],[],[2],[],[[false]]⟩
def g297T:FunT:=⟨297,[hF4],sB,[sD],fun x=>g297 m x.1⟩
theorem g297ok:FO (g297T m):=fk g297H (g297T m) func297 noF
def g302H:Hints:=⟨[J [0,1],J [0,1,7,8],J [0,1,7,8,9],J [0,1,5,7,8],J [0,1,5,7,8,16],J' [(0,1)] [4],J' [(1,1)] [0,1,7,8],J [4]],[(0,[0,1,7,8])],[(0,[]),(1,[0,1,7,8])],[4],[],[[false]]⟩
def g302T:FunT:=⟨302,[hE4,hI4],sI,[sD,sD],fun x=>g302 m x.1⟩
noncomputable def g302C:Code:=codeOf f302
noncomputable def g302B0:Code:=qo g302C 0 0
theorem g302K:FL [g297T m]:=AllF.mem ⟨g297ok m,trivial⟩
def g302L0X:LT:=⟨0,[(0,hE4),(1,hI4),(7,sI),(8,sI)],[(.ret,[(4,sI)]),(.exit 0,[])],fun n x=>g302L0 m n x.1 x.2.2.1 x.2.2.2.1⟩
theorem g302L0ok {E} (hE:EO E 19 g302H) (n):LO E g302B0 ((g302L0X m).at n):=lk hE (g302K m) (g302L0X m) n
theorem g302ok:FO (g302T m):=f1' g302H (g302T m) func302 (g302K m) fun _ h=>g302L0ok m h m
def g296H:Hints:=⟨[J [0,1],J' [(0,1),(1,1)] [4]],[],[],[4],[],[[false]]⟩
def g296T:FunT:=⟨296,[hE4,hI4],sB,[sD,sD],fun x=>g296 m x.1⟩
theorem g296ok:FO (g296T m):=fk g296H (g296T m) func296 (AllF.mem (l:=[g302T m]) ⟨g302ok m,trivial⟩)
def g283H:Hints:=⟨[J [0,1],J [0,6,7],J [0,6,7,20],J' [(0,1)] [4,5],J' [(4,1)] [0,6,7,8],J [0,6,7,8,9],J [0,6,7,8,9,45,46],J [0,6,7,8,9,45,46,47],J [0,6,7,8,9,10,45,46],J [0,6,7,8,9,10,11,45,46],J [0,6,7,8,9,10,11,45,46,62],J' [(0,1)] [0,6,7,8,9,10,11,45,46],J' [(1,1),(2,1)] [0,6,7,8,9,45,46],J' [(1,1)] [0,6,7,8,9,45,46],J' [(0,1),(2,1)] [4,5]],[(0,[0,6,7,8,9,45,46])],[(0,[8,9]),(1,[0,6,7,8,9,45,46])],[4,5],[],[[false],[false]]⟩
def g283T:FunT:=⟨283,[hE4,sI],.tup [(.c (.imm (.int .u32))),(.c .bool)],[sD,sD],fun x=>g283 m x.1 x.2.1⟩
noncomputable def g283C:Code:=codeOf f283
noncomputable def g283B0:Code:=qo g283C 0 0
theorem g283K:FL [g296T m,g228T m]:=AllF.mem ⟨g296ok m,g228ok m,trivial⟩
def g283L0X:LT:=⟨0,[(0,hE4),(6,sI),(7,sU),(8,sB),(9,hm3),(45,sI),(46,sI)],[(.exit 0,[(8,sB),(9,hm3)])],fun n x=>g283L0 m n x.1 x.2.1 x.2.2.1 x.2.2.2.1 x.2.2.2.2.1 x.2.2.2.2.2.1 x.2.2.2.2.2.2.1⟩
theorem g283L0ok {E} (hE:EO E 86 g283H) (n):LO E g283B0 ((g283L0X m).at n):=lk hE (g283K m) (g283L0X m) n
theorem g283ok:FO (g283T m):=f1' g283H (g283T m) func283 (g283K m) fun _ h=>g283L0ok m h m
def g264H:Hints:=⟨[J [0,1],J [0,1,14],J' [(0,1),(1,1)] [0,1],J [0,1,5],J [0,1,5,6],J' [(0,1)] [1,5,6,21,22,23],J [1,5,6,21,22,23,24],J [1,5,6,7,8,21,22,23],J' [(0,1),(2,1)] [1,5,7,9,21,22,23],J [1,5,7,9,21,22,23,35],J' [(0,1),(2,1)] [1,5,9,21,22,23],J' [(0,1)] [1,5,9,21,22,23],J' [(0,1)] [1,5,6,21,22,23],J' [(1,1)] [1,5,6,21,22,23],J' [(0,1),(1,1)] [4]],[(0,[1,5,6,21,22,23])],[(0,[5,6]),(1,[1,5,6,21,22,23])],[4],[],[[false]]⟩
def g264T:FunT:=⟨264,[hE4,hE4],hE4,[sD,sD],fun x=>g264 m x.1 x.2.1⟩
noncomputable def g264C:Code:=codeOf f264
noncomputable def g264B0:Code:=qo g264C 0 0
theorem g264K:FL [g228T m]:=AllF.mem ⟨g228ok m,trivial⟩
def g264L0X:LT:=⟨0,[(1,hE4),(5,hm3),(6,sU),(21,hE4),(22,sI),(23,sI)],[(.exit 0,[(5,hm3),(6,sU)])],fun n x=>g264L0 m n x.1 x.2.1 x.2.2.1 x.2.2.2.1 x.2.2.2.2.1 x.2.2.2.2.2.1⟩
theorem g264L0ok {E} (hE:EO E 58 g264H) (n):LO E g264B0 ((g264L0X m).at n):=lk hE (g264K m) (g264L0X m) n
theorem g264ok:FO (g264T m):=f1' g264H (g264T m) func264 (g264K m) fun _ h=>g264L0ok m h m
def g266H:Hints:=⟨[J [1,2,4],J' [(2,1)] [1,2,4,14],J [4,5],J [1,2,4,6],J [1,2,4,6,20],J' [(2,1),(3,1)] [4,5],J' [(0,1),(1,1),(4,1)] [2,4,7,8],J' [(2,1),(3,1)] [2,4,7,38],J' [(0,1)] [2,4,7],J' [(2,1)] [4,5]],[],[],[4,5],[],[[false,false],[false]]⟩
def g266T:FunT:=⟨266,[ha3,sI],.tup [(.agg [.bool,(.imm (.int .u32))]),(.c (.int .i64))],[sD,sD],fun x=>g266 m x.1.1 x.1.2.1 x.2.1⟩
theorem g266ok:FO (g266T m):=fk g266H (g266T m) func266 (AllF.mem (l:=[g228T m,g282T m,g221T m,g283T m,g264T m]) ⟨g228ok m,g282ok m,g221ok m,g283ok m,g264ok m,trivial⟩)
def g232H:Hints:=⟨[J [1,2,4],J [1,2,4,6],J' [(2,1)] [1,2,4],J' [(0,1)] [1,2,4],J' [(1,1),(4,1)] [2,4],J [4]],[(0,[1,2,4])],[(0,[1,2,4]),(1,[1,2,4])],[4],[],[[false,false]]⟩
def g232T:FunT:=⟨232,[ha3,sI],ha3,[sD,sD],fun x=>g232 m x.1.1 x.1.2.1 x.2.1⟩
noncomputable def g232C:Code:=codeOf f232
noncomputable def g232B0:Code:=qo g232C 0 0
theorem g232K:FL [g266T m]:=AllF.mem ⟨g266ok m,trivial⟩
def g232L0X:LT:=⟨0,[(1,sI),(2,sX 0 [.bool,.imm (.int .u32)]),(4,sX 1 [.bool,.nm 2 (.int .u32)])],[(.exit 0,[(1,sI),(2,sX 0 [.bool,.imm (.int .u32)]),(4,sX 1 [.bool,.nm 2 (.int .u32)])])],fun n x=>g232L0 m n x.1 x.2.1.1 x.2.1.2.1 x.2.2.1.1 x.2.2.1.2.1⟩
theorem g232L0ok {E} (hE:EO E 22 g232H) (n):LO E g232B0 ((g232L0X m).at n):=lk hE (g232K m) (g232L0X m) n
theorem g232ok:FO (g232T m):=f1' g232H (g232T m) func232 (g232K m) fun _ h=>g232L0ok m h m
def g154H:Hints:=⟨[J [1,2],J [1,2,7],J [2,3],J [1,2,4],J [1,2,4,14],J [2,3],J [1,2,4,5],J' [(6,1)] [1,2,4,5,30],J [2,3],J [2,3]],[],[],[2,3],[],[[false,false,false,false],[false]]⟩
def g154T:FunT:=⟨154,[hI3],.tup [(.agg [.bool,.bool,(.imm (.int .u32)),(.int .i64)]),(.c .bool)],[sD],fun x=>g154 m x.1.1 x.1.2.1 x.1.2.2.1 x.1.2.2.2.1⟩
theorem g154ok:FO (g154T m):=fk g154H (g154T m) func154 (AllF.mem (l:=[g222T m,g229T m,g226T m,g230T m,g231T m,g232T m]) ⟨g222ok m,g229ok m,g226ok m,g230ok m,g231ok m,g232ok m,trivial⟩)
def g145H:Hints:=⟨[J [1,2,4],J' [(1,1),(4,1)] [4,5],J [4]],[],[],[4],[],[[false,false,false,false]]⟩
def g145T:FunT:=⟨145,[ha3,sI],hI3,[sD,sD],fun x=>g145 m x.1.1 x.1.2.1 x.2.1⟩
theorem g145ok:FO (g145T m):=fk g145H (g145T m) func145 (AllF.mem (l:=[g154T m]) ⟨g154ok m,trivial⟩)
def g81H:Hints:=⟨[J [0,2],J' [(0,1)] [2]],[],[],[2],[],[[false,false,false,false]]⟩
def g81T:FunT:=⟨81,[sI],hI3,[sD],fun x=>g81 m x.1⟩
theorem g81ok:FO (g81T m):=fk g81H (g81T m) func81 (AllF.mem (l:=[g146T m,g145T m]) ⟨g146ok m,g145ok m,trivial⟩)
def g45H:Hints:=⟨[J [0],J' [(0,1),(2,1)] [3,4],J' [(2,1)] [3,4,10],J [2],J [3,4,17],J [2],J' [(0,1),(2,1),(3,1)] [20],J [2],J [2]],[],[(0,[])],[2],[],[[false]]⟩
def g45T:FunT:=⟨45,[sU],sI,[sD],fun x=>g45 m x.1⟩
theorem g45ok:FO (g45T m):=fk g45H (g45T m) func45 (AllF.mem (l:=[g110T m]) ⟨g110ok m,trivial⟩)
def g236H:Hints:=⟨[J [0],J' [(0,1)] [5,6,7],J [5,6,7,8],J [4,5,6,7],J' [(0,1)] [5,6,7,13],J [2],J' [(1,1)] [5,6,7],J [2]],[(0,[5,6,7])],[(0,[]),(1,[5,6,7])],[2],[],[[false]]⟩
def g236T:FunT:=⟨236,[hC4],sB,[sD],fun x=>g236 m x.1⟩
noncomputable def g236C:Code:=codeOf f236
noncomputable def g236B0:Code:=qo g236C 0 0
theorem g236K:FL [g45T m]:=AllF.mem ⟨g45ok m,trivial⟩
def g236L0X:LT:=⟨0,[(5,hC4),(6,sI),(7,sI)],[(.ret,[(2,sB)]),(.exit 0,[])],fun n x=>g236L0 m n x.1 x.2.1 x.2.2.1⟩
theorem g236L0ok {E} (hE:EO E 15 g236H) (n):LO E g236B0 ((g236L0X m).at n):=lk hE (g236K m) (g236L0X m) n
theorem g236ok:FO (g236T m):=f1' g236H (g236T m) func236 (g236K m) fun _ h=>g236L0ok m h m
def g158H:Hints:=⟨[J [0],J [0,5],J [2],J' [(0,1)] [2]],[],[],[2],[],[[false]]⟩
def g158T:FunT:=⟨158,[sU],sU,[sD],fun x=>g158 m x.1⟩
theorem g158ok:FO (g158T m):=fk g158H (g158T m) func158 (AllF.mem (l:=[g236T m]) ⟨g236ok m,trivial⟩)
def g211H:Hints:=⟨[J [0],J' [(0,1)] [2]],[],[],[2],[],[[false]]⟩
def g211T:FunT:=⟨211,[sU],sB,[sD],fun x=>g211 m x.1⟩
theorem g211ok:FO (g211T m):=fk g211H (g211T m) func211 noF
def g212H:Hints:=⟨[J [1,2],J [2]],[],[],[2],[],[[false,false]]⟩
def g212T:FunT:=⟨212,[ha3],ha3,[sD],fun x=>g212 m x.1.1 x.1.2.1⟩
theorem g212ok:FO (g212T m):=fk g212H (g212T m) func212 (AllF.mem (l:=[g233T m,g221T m]) ⟨g233ok m,g221ok m,trivial⟩)
def g112H:Hints:=⟨[J [0,2],J' [(2,1)] [0,2,3,4],J [0,2,3,4,11],J' [(0,1)] [0,2,3,4],J' [(0,1)] [0,2,3,4],J [0,2,3,4,11,16],J [2],J [0,2,3,4,19],J [0,2,3,4],J' [(0,1)] [0,2,3,5],J' [(0,1)] [2,3,5,25],J [2,3,5],J' [(1,1)] [2]],[],[(0,[0,2,3,4])],[2],[],[[false,false,false,false]]⟩
def g112T:FunT:=⟨112,[sU],hI3,[sD],fun x=>g112 m x.1⟩
theorem g112ok:FO (g112T m):=fk g112H (g112T m) func112 (AllF.mem (l:=[g110T m,g146T m,g211T m,g212T m,g145T m]) ⟨g110ok m,g146ok m,g211ok m,g212ok m,g145ok m,trivial⟩)
def g151H:Hints:=⟨[J [2,3,4,5],J' [(2,1)] [3,4,5,6],J' [(2,1)] [4,5,6,7],J' [(2,1),(3,1),(4,1)] [4,5,6]],[],[],[4,5,6],[],[[false,false,false,false],[false,false,false,false],[false]]⟩
def g151T:FunT:=⟨151,[hI3,hI3],.tup [(.agg [.bool,.bool,(.imm (.int .u32)),(.int .i64)]),(.agg [.bool,.bool,(.imm (.int .u32)),(.int .i64)]),(.c .bool)],[sD,sD],fun x=>g151 m x.1.1 x.1.2.1 x.1.2.2.1 x.1.2.2.2.1 x.2.1.1 x.2.1.2.1 x.2.1.2.2.1 x.2.1.2.2.2.1⟩
theorem g151ok:FO (g151T m):=fk g151H (g151T m) func151 (AllF.mem (l:=[g154T m]) ⟨g154ok m,trivial⟩)
def g225H:Hints:=⟨[J [1,2,4],J' [(1,1),(3,1)] [2,4],J [4]],[],[],[4],[],[[false,false]]⟩
def g225T:FunT:=⟨225,[ha3,sI],ha3,[sD,sD],fun x=>g225 m x.1.1 x.1.2.1 x.2.1⟩
theorem g225ok:FO (g225T m):=fk g225H (g225T m) func225 (AllF.mem (l:=[g266T m]) ⟨g266ok m,trivial⟩)
def g152H:Hints:=⟨[J [2,3,4,5],J [2,3,4,5,6],J [4,5,6]],[],[],[4,5,6],[],[[false,false],[false,false],[false]]⟩
def g152T:FunT:=⟨152,[hI3,hI3],.tup [(.agg [.bool,(.imm (.int .u32))]),(.agg [.bool,(.imm (.int .u32))]),(.c (.int .i64))],[sD,sD],fun x=>g152 m x.1.1 x.1.2.1 x.1.2.2.1 x.1.2.2.2.1 x.2.1.1 x.2.1.2.1 x.2.1.2.2.1 x.2.1.2.2.2.1⟩
theorem g152ok:FO (g152T m):=fk g152H (g152T m) func152 (AllF.mem (l:=[g225T m]) ⟨g225ok m,trivial⟩)
def g284H:Hints:=⟨[J [0],J [2]],[],[],[2],[],[[false]]⟩
def g284T:FunT:=⟨284,[sI],sB,[sD],fun x=>g284 m x.1⟩
theorem g284ok:FO (g284T m):=fk g284H (g284T m) func284 noF
def g267H:Hints:=⟨[J [0,1],J [0,1,5],J [0,1,5,6],J' [(0,1)] [0,1,6,11],J' [(0,1)] [12],J [4],J [4],J' [(0,1)] [0,1,13],J [4],J [0,1,16],J [4],J' [(0,1),(1,1)] [19],J [4],J [4]],[],[],[4],[],[[false]]⟩
def g267T:FunT:=⟨267,[sI,sI],sI,[sD,sD],fun x=>g267 m x.1 x.2.1⟩
theorem g267ok:FO (g267T m):=fk g267H (g267T m) func267 (AllF.mem (l:=[g284T m]) ⟨g284ok m,trivial⟩)
def g285H:Hints:=⟨[J [0],J [2]],[],[],[2],[],[[false]]⟩
def g285T:FunT:=⟨285,[hF4],sB,[sD],fun x=>g285 m x.1⟩
theorem g285ok:FO (g285T m):=fk g285H (g285T m) func285 noF
def g268H:Hints:=⟨[J [0,1],J [0,1,5],J [0,1,5,6],J' [(0,1)] [0,1,6,11],J' [(0,1)] [12],J [4],J [4],J' [(0,1)] [0,1,13],J [4],J [0,1,16],J [4],J' [(0,1),(1,1)] [19],J [4],J [4]],[],[],[4],[],[[false]]⟩
def g268T:FunT:=⟨268,[hF4,hF4],sI,[sD,sD],fun x=>g268 m x.1 x.2.1⟩
theorem g268ok:FO (g268T m):=fk g268H (g268T m) func268 (AllF.mem (l:=[g285T m]) ⟨g285ok m,trivial⟩)
def g227H:Hints:=⟨[J [0,1],J [0,1,10],J' [(0,1),(2,1)] [4],J [0,1,5],J [0,1,5,20],J' [(0,1)] [0,1,5],J [0,1,5,31],J' [(0,1),(4,1)] [4],J [4]],[(0,[0,1,5])],[(0,[]),(1,[0,1,5])],[4],[],[[false]]⟩
def g227T:FunT:=⟨227,[hE4,hE4],sI,[sD,sD],fun x=>g227 m x.1 x.2.1⟩
noncomputable def g227C:Code:=codeOf f227
noncomputable def g227B0:Code:=qo g227C 0 0
theorem g227K:FL [g267T m,g268T m]:=AllF.mem ⟨g267ok m,g268ok m,trivial⟩
def g227L0X:LT:=⟨0,[(0,hE4),(1,hE4),(5,sI)],[(.ret,[(4,sI)]),(.exit 0,[])],fun n x=>g227L0 m n x.1 x.2.1 x.2.2.1⟩
theorem g227L0ok {E} (hE:EO E 41 g227H) (n):LO E g227B0 ((g227L0X m).at n):=lk hE (g227K m) (g227L0X m) n
theorem g227ok:FO (g227T m):=f1' g227H (g227T m) func227 (g227K m) fun _ h=>g227L0ok m h m
def g265H:Hints:=⟨[J [0,1],J [0,1,5],J [0,1,5,6],J' [(0,1)] [1,5,6,13,14,15],J [1,5,6,13,14,15,16],J [1,5,6,7,8,13,14,15],J' [(0,1),(2,1)] [1,5,7,9,13,14,15],J [1,5,7,9,13,14,15,27],J' [(0,1)] [1,5,7,9,13,14,15],J' [(1,1)] [1,5,9,13,14,15],J' [(0,1)] [1,5,6,13,14,15],J' [(1,1)] [1,5,6,13,14,15],J' [(0,1)] [4]],[(0,[1,5,6,13,14,15])],[(0,[5]),(1,[1,5,6,13,14,15])],[4],[],[[false]]⟩
def g265T:FunT:=⟨265,[hE4,hE4],hE4,[sD,sD],fun x=>g265 m x.1 x.2.1⟩
noncomputable def g265C:Code:=codeOf f265
noncomputable def g265B0:Code:=qo g265C 0 0
theorem g265K:FL [g228T m]:=AllF.mem ⟨g228ok m,trivial⟩
def g265L0X:LT:=⟨0,[(1,hE4),(5,hm3),(6,sU),(13,hE4),(14,sI),(15,sI)],[(.exit 0,[(5,hm3)])],fun n x=>g265L0 m n x.1 x.2.1 x.2.2.1 x.2.2.2.1 x.2.2.2.2.1 x.2.2.2.2.2.1⟩
theorem g265L0ok {E} (hE:EO E 47 g265H) (n):LO E g265B0 ((g265L0X m).at n):=lk hE (g265K m) (g265L0X m) n
theorem g265ok:FO (g265T m):=f1' g265H (g265T m) func265 (g265K m) fun _ h=>g265L0ok m h m
def g224H:Hints:=⟨[J [2,3,4],J [2,3,4,5,6],J [2,3,4,5,6,13],J' [(2,1),(3,1)] [4],J [2,3,4,5,6,25],J' [(2,1),(3,1)] [4],J' [(2,1),(3,1)] [4]],[],[(0,[3,4,5,6])],[4],[],[[false,false]]⟩
def g224T:FunT:=⟨224,[ha3,ha3],ha3,[sD,sD],fun x=>g224 m x.1.1 x.1.2.1 x.2.1.1 x.2.1.2.1⟩
theorem g224ok:FO (g224T m):=fk g224H (g224T m) func224 (AllF.mem (l:=[g228T m,g264T m,g221T m,g227T m,g265T m]) ⟨g228ok m,g264ok m,g221ok m,g227ok m,g265ok m,trivial⟩)
def g149H:Hints:=⟨[J [2,3,4],J' [(3,1)] [2,3,4,5],J' [(0,1)] [2,3,4,17],J [4],J' [(3,1)] [4,6,7,8],J' [(3,1)] [4]],[],[],[4],[],[[false,false,false,false]]⟩
def g149T:FunT:=⟨149,[hI3,hI3],hI3,[sD,sD],fun x=>g149 m x.1.1 x.1.2.1 x.1.2.2.1 x.1.2.2.2.1 x.2.1.1 x.2.1.2.1 x.2.1.2.2.1 x.2.1.2.2.2.1⟩
theorem g149ok:FO (g149T m):=fk g149H (g149T m) func149 (AllF.mem (l:=[g151T m,g222T m,g152T m,g224T m,g145T m]) ⟨g151ok m,g222ok m,g152ok m,g224ok m,g145ok m,trivial⟩)
def g150H:Hints:=⟨[J [1,2],J' [(2,1)] [1,2,3],J' [(0,1)] [1,2,9],J [1,2],J [2]],[],[],[2],[],[[false,false,false,false]]⟩
def g150T:FunT:=⟨150,[hI3],hI3,[sD],fun x=>g150 m x.1.1 x.1.2.1 x.1.2.2.1 x.1.2.2.2.1⟩
theorem g150ok:FO (g150T m):=fk g150H (g150T m) func150 (AllF.mem (l:=[g154T m,g212T m]) ⟨g154ok m,g212ok m,trivial⟩)
def g83H:Hints:=⟨[J [2,3,4],J [4]],[],[],[4],[],[[false,false,false,false]]⟩
def g83T:FunT:=⟨83,[hI3,hI3],hI3,[sD,sD],fun x=>g83 m x.1.1 x.1.2.1 x.1.2.2.1 x.1.2.2.2.1 x.2.1.1 x.2.1.2.1 x.2.1.2.2.1 x.2.1.2.2.2.1⟩
theorem g83ok:FO (g83T m):=fk g83H (g83T m) func83 (AllF.mem (l:=[g150T m,g149T m]) ⟨g150ok m,g149ok m,trivial⟩)
def g206H:Hints:=⟨[J [1,2],J' [(2,1)] [1,2],J [2]],[],[],[2],[],[[false,false,false,false]]⟩
def g206T:FunT:=⟨206,[hI3],hI3,[sD],fun x=>g206 m x.1.1 x.1.2.1 x.1.2.2.1 x.1.2.2.2.1⟩
theorem g206ok:FO (g206T m):=fk g206H (g206T m) func206 (AllF.mem (l:=[g154T m]) ⟨g154ok m,trivial⟩)
def g193H:Hints:=⟨[J [1],J' [(2,1)] [1],J [2]],[],[],[2],[],[[false]]⟩
def g193T:FunT:=⟨193,[hI3],sI,[sD],fun x=>g193 m x.1.1 x.1.2.1 x.1.2.2.1 x.1.2.2.2.1⟩
theorem g193ok:FO (g193T m):=fk g193H (g193T m) func193 (AllF.mem (l:=[g154T m,g226T m]) ⟨g154ok m,g226ok m,trivial⟩)
def g155H:Hints:=⟨[J [1,2],J [2]],[],[],[2],[],[[false,false]]⟩
def g155T:FunT:=⟨155,[ha3],ha3,[sD],fun x=>g155 m x.1.1 x.1.2.1⟩
theorem g155ok:FO (g155T m):=fk g155H (g155T m) func155 (AllF.mem (l:=[g233T m,g221T m]) ⟨g233ok m,g221ok m,trivial⟩)
def g208H:Hints:=⟨[J [1,2],J [2]],[],[],[2],[],[[false,false,false,false,false]]⟩
def g208T:FunT:=⟨208,[hI3],hC3,[sD],fun x=>g208 m x.1.1 x.1.2.1 x.1.2.2.1 x.1.2.2.2.1⟩
theorem g208ok:FO (g208T m):=fk g208H (g208T m) func208 (AllF.mem (l:=[g155T m]) ⟨g155ok m,trivial⟩)
def g252H:Hints:=⟨[J [1],J [2]],[],[],[2],[],[[false]]⟩
def g252T:FunT:=⟨252,[hC3],sI,[sD],fun x=>g252 m x.1.1 x.1.2.1 x.1.2.2.1 x.1.2.2.2.1 x.1.2.2.2.2.1⟩
theorem g252ok:FO (g252T m):=fk g252H (g252T m) func252 (AllF.mem (l:=[g231T m]) ⟨g231ok m,trivial⟩)
def g293H:Hints:=⟨[J [2,3,4],J [2,3,4],J [4]],[],[],[4],[],[[false,false]]⟩
def g293T:FunT:=⟨293,[ha3,ha3],ha3,[sD,sD],fun x=>g293 m x.1.1 x.1.2.1 x.2.1.1 x.2.1.2.1⟩
theorem g293ok:FO (g293T m):=fk g293H (g293T m) func293 (AllF.mem (l:=[g224T m]) ⟨g224ok m,trivial⟩)
def g153H:Hints:=⟨[J [2,3],J [2,3,5,6],J [2,3,5,6,11],J [4],J' [(1,1)] [2,3,5,15],J [4],J' [(0,1)] [4]],[],[(0,[2,3,5])],[4],[],[[false]]⟩
def g153T:FunT:=⟨153,[ha3,ha3],sI,[sD,sD],fun x=>g153 m x.1.1 x.1.2.1 x.2.1.1 x.2.1.2.1⟩
theorem g153ok:FO (g153T m):=fk g153H (g153T m) func153 (AllF.mem (l:=[g226T m,g228T m,g227T m]) ⟨g226ok m,g228ok m,g227ok m,trivial⟩)
def g277H:Hints:=⟨[J [1,2,4],J [1,2,4,7],J' [(1,1)] [1,2,4,14],J [4,5,6],J [1,2,4],J [1,2,4,8],J' [(2,1)] [2,4,5,8],J' [(2,1)] [2,4,5,8,37],J [2,4,5,8],J' [(1,1),(5,1)] [4,5,6]],[],[],[4,5,6],[],[[false,false],[false],[false]]⟩
def g277T:FunT:=⟨277,[hC3,sI],.tup [(.agg [.bool,(.imm (.int .u32))]),(.c (.int .i64)),(.c .bool)],[sD,sD],fun x=>g277 m x.1.1 x.1.2.1 x.1.2.2.1 x.1.2.2.2.1 x.1.2.2.2.2.1 x.2.1⟩
theorem g277ok:FO (g277T m):=fk g277H (g277T m) func277 (AllF.mem (l:=[g231T m,g232T m,g225T m,g293T m,g146T m,g153T m,g226T m]) ⟨g231ok m,g232ok m,g225ok m,g293ok m,g146ok m,g153ok m,g226ok m,trivial⟩)
def g254H:Hints:=⟨[J [1,2,3,6],J [1,2,3,6,7,8,9],J [1,2,3,6,7,8,9,16],J' [(3,1)] [2,3,6,7,8,9],J' [(1,1),(6,1)] [2,3,6,7,8,9],J [2,3,6,7,8,9,10],J' [(2,1),(5,1),(10,1)] [3,6,7,10],J' [(0,1)] [2,3,6,7,8,10,49],J [2,3,6,7,8,10,51],J [3,6,7,10],J [2,3,6,7,8,10,56],J [3,6,7,10],J' [(0,1)] [3,6,7,8,10,62],J' [(0,1)] [3,6,7,65],J [3,6,7],J [6,7,70],J [6,7],J [6]],[],[(0,[3,6,7,10])],[6],[],[[false,false]]⟩
def g254T:FunT:=⟨254,[hC3,sI,sI],ha3,[sD,sD,sD],fun x=>g254 m x.1.1 x.1.2.1 x.1.2.2.1 x.1.2.2.2.1 x.1.2.2.2.2.1 x.2.1 x.2.2.1⟩
theorem g254ok:FO (g254T m):=fk g254H (g254T m) func254 (AllF.mem (l:=[g225T m,g212T m,g277T m,g146T m,g224T m,g226T m,g230T m]) ⟨g225ok m,g212ok m,g277ok m,g146ok m,g224ok m,g226ok m,g230ok m,trivial⟩)
def g253H:Hints:=⟨[J [1],J [1,4],J [1,4,13],J [2,3],J [1,4,5],J' [(0,1)] [1,5,14,15,16],J [1,5,14,15,16,17],J [1,5,6,7,14,15,16],J' [(0,1),(1,1),(3,1)] [1,5,14,15,16],J' [(1,1)] [1,5,14,15,16],J' [(2,1),(6,1)] [1,5,29],J' [(0,1)] [2,3],J' [(2,1),(6,1)] [5,45],J' [(0,1)] [2,3],J [2,3]],[(0,[1,5,14,15,16])],[(0,[1,5]),(1,[1,5,14,15,16]),(2,[])],[2,3],[],[[false],[false]]⟩
def g253T:FunT:=⟨253,[ha3],.tup [(.c (.int .i64)),(.c .bool)],[sD],fun x=>g253 m x.1.1 x.1.2.1⟩
noncomputable def g253C:Code:=codeOf f253
noncomputable def g253B0:Code:=qo g253C 0 0
theorem g253K:FL [g228T m]:=AllF.mem ⟨g228ok m,trivial⟩
def g253L0X:LT:=⟨0,[(1,sX 0 [.bool,.imm (.int .u32)]),(5,sU),(14,hE4),(15,sI),(16,sI)],[(.exit 0,[(1,sX 0 [.bool,.imm (.int .u32)]),(5,sU)])],fun n x=>g253L0 m n x.1.1 x.1.2.1 x.2.1 x.2.2.1 x.2.2.2.1 x.2.2.2.2.1⟩
theorem g253L0ok {E} (hE:EO E 59 g253H) (n):LO E g253B0 ((g253L0X m).at n):=lk hE (g253K m) (g253L0X m) n
theorem g253ok:FO (g253T m):=f1' g253H (g253T m) func253 (g253K m) fun _ h=>g253L0ok m h m
def g255H:Hints:=⟨[J [0,1],J' [(0,1)] [0,5],J' [(0,1)] [4],J' [(0,1)] [4]],[],[],[4],[],[[false]]⟩
def g255T:FunT:=⟨255,[sU,sB],sU,[sD,sD],fun x=>g255 m x.1 x.2.1⟩
theorem g255ok:FO (g255T m):=fk g255H (g255T m) func255 noF
def g256H:Hints:=⟨[J [0,1],J' [(2,1),(5,1),(10,1),(13,1)] [0,21],J' [(0,1)] [4],J' [(0,1)] [4]],[],[],[4],[],[[false]]⟩
def g256T:FunT:=⟨256,[sB,sI],sU,[sD,sD],fun x=>g256 m x.1 x.2.1⟩
theorem g256ok:FO (g256T m):=fk g256H (g256T m) func256 (AllF.mem (l:=[g255T m]) ⟨g255ok m,trivial⟩)
def g207H:Hints:=⟨[J [1,2],J [1,2,5],J' [(6,1)] [1,2,5,6],J' [(0,1)] [1,2,5,8],J [1,2,5,8,25],J' [(0,1)] [1,2,5,8],J [1,2,5,8,29],J' [(0,1)] [4],J [1,2,5,8,36],J' [(2,1)] [4],J' [(0,1),(4,1)] [4]],[],[],[4],[],[[false]]⟩
def g207T:FunT:=⟨207,[hC3,sI],sU,[sD,sD],fun x=>g207 m x.1.1 x.1.2.1 x.1.2.2.1 x.1.2.2.2.1 x.1.2.2.2.2.1 x.2.1⟩
theorem g207ok:FO (g207T m):=fk g207H (g207T m) func207 (AllF.mem (l:=[g252T m,g254T m,g155T m,g253T m,g256T m,g255T m]) ⟨g252ok m,g254ok m,g155ok m,g253ok m,g256ok m,g255ok m,trivial⟩)
def g107H:Hints:=⟨[J [1,2],J [1,2],J [1,2,7],J [4],J [1,2,10],J [4],J' [(2,1)] [4]],[],[(0,[1,2])],[4],[],[[false]]⟩
def g107T:FunT:=⟨107,[hI3,sI],sU,[sD,sD],fun x=>g107 m x.1.1 x.1.2.1 x.1.2.2.1 x.1.2.2.2.1 x.2.1⟩
theorem g107ok:FO (g107T m):=fk g107H (g107T m) func107 (AllF.mem (l:=[g206T m,g193T m,g208T m,g207T m]) ⟨g206ok m,g193ok m,g208ok m,g207ok m,trivial⟩)
def g237H:Hints:=⟨[J [0],J [0,3],J' [(0,1)] [3,8],J' [(0,1)] [2],J' [(0,1)] [2]],[],[],[2],[],[[false]]⟩
def g237T:FunT:=⟨237,[sU],sI,[sD],fun x=>g237 m x.1⟩
theorem g237ok:FO (g237T m):=fk g237H (g237T m) func237 (AllF.mem (l:=[g211T m]) ⟨g211ok m,trivial⟩)
def g159H:Hints:=⟨[J [0,1],J [0,1,11],J [4,5],J' [(0,1),(2,1)] [6,7],J [6,7,16],J [4,5],J' [(0,1),(1,1)] [20],J [4,5],J [4,5]],[],[(0,[])],[4,5],[],[[false],[false]]⟩
def g159T:FunT:=⟨159,[sU,sU],.tup [(.c (.int .i64)),(.c .bool)],[sD,sD],fun x=>g159 m x.1 x.2.1⟩
theorem g159ok:FO (g159T m):=fk g159H (g159T m) func159 (AllF.mem (l:=[g236T m,g237T m]) ⟨g236ok m,g237ok m,trivial⟩)
def g88H:Hints:=⟨[J [0,1,4],J [0,1,4,6],J [0,1,4,6,21],J' [(1,1)] [4,5],J [0,1,4,7],J' [(0,1)] [1,4,7,24,25,26],J [1,4,7,24,25,26,27],J [1,4,7,8,9,24,25,26],J [1,4,7,8,9,10,24,25,26],J [1,4,7,8,9,10,24,25,26,33],J [1,4,7,8,9,10,24,25,26],J [1,4,7,8,9,10,24,25,26,46],J [1,4,7,8,9,10,24,25,26],J [1,4,7,8,9,10,11,24,25,26],J' [(0,1)] [1,4,7,8,11,12,24,25,26],J' [(4,1)] [1,4,7,8,11,12,13,24,25,26],J' [(2,1),(3,1)] [1,4,7,8,11,12,24,25,26,77],J' [(0,1)] [1,4,7,8,12,24,25,26],J' [(4,1)] [1,4,7,8,12,15,24,25,26],J' [(0,1),(2,1),(3,1)] [1,4,7,12,24,25,26,92],J' [(0,1)] [1,4,7,24,25,26],J' [(1,1)] [1,4,7,24,25,26],J [4,5]],[(0,[1,4,7,24,25,26])],[(0,[4,7]),(1,[1,4,7,24,25,26])],[4,5],[],[[false,false],[false]]⟩
def g88T:FunT:=⟨88,[hC4,hC4],.tup [(.agg [(.int .u64),(.int .u64)]),(.c (.int .i64))],[sD,sD],fun x=>g88 m x.1 x.2.1⟩
noncomputable def g88C:Code:=codeOf f88
noncomputable def g88B0:Code:=qo g88C 0 0
theorem g88K:FL [g157T m,g81T m,g158T m,g112T m,g149T m,g83T m,g107T m,g159T m]:=AllF.mem ⟨g157ok m,g81ok m,g158ok m,g112ok m,g149ok m,g83ok m,g107ok m,g159ok m,trivial⟩
def g88L0X:LT:=⟨0,[(1,hC4),(4,sX 0 [iU,iU]),(7,sX 1 [iU,iU]),(24,hC4),(25,sI),(26,sI)],[(.exit 0,[(4,sX 0 [iU,iU]),(7,sX 1 [iU,iU])])],fun n x=>g88L0 m n x.1 x.2.1.1 x.2.1.2.1 x.2.2.1.1 x.2.2.1.2.1 x.2.2.2.1 x.2.2.2.2.1 x.2.2.2.2.2.1⟩
theorem g88L0ok {E} (hE:EO E 97 g88H) (n):LO E g88B0 ((g88L0X m).at n):=lk hE (g88K m) (g88L0X m) n
theorem g88ok:FO (g88T m):=f1' g88H (g88T m) func88 (g88K m) fun _ h=>g88L0ok m h m
def g160H:Hints:=⟨[J [0,1],J [4]],[],[],[4],[],[[false]]⟩
def g160T:FunT:=⟨160,[sI,sI],sI,[sD,sD],fun x=>g160 m x.1 x.2.1⟩
theorem g160ok:FO (g160T m):=fk g160H (g160T m) func160 noF
def g238H:Hints:=⟨[J [0],J [0,5],J [2],J' [(0,1)] [2]],[],[],[2],[],[[false]]⟩
def g238T:FunT:=⟨238,[sU],sU,[sD],fun x=>g238 m x.1⟩
theorem g238ok:FO (g238T m):=fk g238H (g238T m) func238 (AllF.mem (l:=[g236T m]) ⟨g236ok m,trivial⟩)
def g161H:Hints:=⟨[J [0],J' [(2,1)] [0,4],J [2,3],J [0,11],J' [(0,1)] [2,3],J' [(0,1)] [2,3]],[],[(0,[0])],[2,3],[],[[false],[false]]⟩
def g161T:FunT:=⟨161,[sI],.tup [(.c (.int .u64)),(.c .bool)],[sD],fun x=>g161 m x.1⟩
theorem g161ok:FO (g161T m):=fk g161H (g161T m) func161 (AllF.mem (l:=[g238T m]) ⟨g238ok m,trivial⟩)
def g241H:Hints:=⟨[J [0,1,2],J' [(2,4)] [0,1,2,7],J [0,1,2,7,15,16],J [0,1,2,7,15,16,17],J [0,1,2,7,8,15,16],J' [(6,4)] [0,1,2,7,8,15,16],J [0,1,2,7,15,16],J' [(1,1)] [0,1,2,7,15,16],J' [(0,1)] [7,40,41,42],J [7,40,41,42,43],J [7,9,10,40,41,42],J [7,40,41,42],J' [(1,1)] [7,40,41,42],J' [(0,1)] [6]],[(0,[0,1,2,7,15,16]),(2,[7,40,41,42])],[(0,[1,7]),(1,[0,1,2,7,15,16]),(2,[7]),(3,[7,40,41,42])],[6],[],[[false]]⟩
def g241T:FunT:=⟨241,[hC4,hC4,sU],hY1,[sD,sD,sD],fun x=>g241 m x.1 x.2.1 x.2.2.1⟩
noncomputable def g241C:Code:=codeOf f241
noncomputable def g241B0:Code:=qo g241C 0 0
noncomputable def g241B2:Code:=qo g241C 0 1
theorem g241K:FL [g112T m,g83T m]:=AllF.mem ⟨g112ok m,g83ok m,trivial⟩
def g241L1X:LT:=⟨2,[(7,h41),(40,hC4),(41,sI),(42,sI)],[(.exit 2,[(7,h41)])],fun n x=>g241L1 m n x.1 x.2.1 x.2.2.1 x.2.2.2.1⟩
theorem g241L1ok {E} (hE:EO E 67 g241H) (n):LO E g241B2 ((g241L1X m).at n):=lk hE (g241K m) (g241L1X m) n
def g241L0X:LT:=⟨0,[(0,hC4),(1,hC4),(2,sU),(7,h41),(15,sI),(16,sI)],[(.exit 0,[(1,hC4),(7,h41)])],fun n x=>g241L0 m n x.1 x.2.1 x.2.2.1 x.2.2.2.1 x.2.2.2.2.1 x.2.2.2.2.2.1⟩
theorem g241L0ok {E} (hE:EO E 67 g241H) (n):LO E g241B0 ((g241L0X m).at n):=lk hE (g241K m) (g241L0X m) n
theorem g241ok:FO (g241T m):=
 fok hmix htt (H:=g241H) (g241T m) func241 kR (g241K m) (L:=[(g241L0X m).at m,(g241L1X m).at m]) (l:=[(0,g241B0),(2,g241B2)]) kR (fun _ hE _ _=>⟨qi ⟨yb (g241L0ok m hE m),nb rfl,trivial⟩,qi ⟨nb rfl,yb (g241L1ok m hE m),trivial⟩,trivial⟩) (fun x=>kR)
def g274H:Hints:=⟨[J [1,2,4],J' [(2,1)] [1,2,4,5],J' [(0,1)] [1,2,4,12],J [4],J' [(4,1)] [4]],[],[],[4],[],[[false,false,false,false]]⟩
def g274T:FunT:=⟨274,[hI3,sI],hI3,[sD,sD],fun x=>g274 m x.1.1 x.1.2.1 x.1.2.2.1 x.1.2.2.2.1 x.2.1⟩
theorem g274ok:FO (g274T m):=fk g274H (g274T m) func274 (AllF.mem (l:=[g154T m,g222T m,g145T m]) ⟨g154ok m,g222ok m,g145ok m,trivial⟩)
def g273H:Hints:=⟨[J [1,2],J' [(2,1)] [1,2,4],J' [(0,1)] [1,2,13],J [2,3],J' [(5,1)] [2,5],J [2,3]],[],[],[2,3],[],[[false,false],[false]]⟩
def g273T:FunT:=⟨273,[hI3],.tup [(.agg [.bool,(.imm (.int .u32))]),(.c .bool)],[sD],fun x=>g273 m x.1.1 x.1.2.1 x.1.2.2.1 x.1.2.2.2.1⟩
theorem g273ok:FO (g273T m):=fk g273H (g273T m) func273 (AllF.mem (l:=[g154T m,g266T m]) ⟨g154ok m,g266ok m,trivial⟩)
def g240H:Hints:=⟨[J [0],J [0,3],J [0,3,15,16,17],J [0,3,15,16,17,18],J [0,3,5,15,16,17],J' [(0,1)] [0,3,15,16,17,21,22,23],J [0,3,15,16,17,21,22,23,24],J [0,3,7,15,16,17,21,22,23],J [0,3,7,15,16,17,21,22,23],J [0,3,7,15,16,17,21,22,23,31],J' [(0,1)] [0,3,15,16,17,21,22,23],J' [(1,1)] [0,3,15,16,17,21,22,23],J' [(1,1)] [0,3,15,16,17],J' [(2,4)] [0,3,8],J' [(0,1)] [3,8,41,42,43],J [3,8,41,42,43,44],J [3,8,9,10,41,42,43],J' [(0,1)] [3,8,9,41,42,43,48,49,50],J [3,8,9,41,42,43,48,49,50,51],J [3,8,9,12,41,42,43,48,49,50],J' [(5,1)] [3,8,9,13,41,42,43,48,49,50],J' [(5,4),(11,4)] [3,8,9,41,42,43,48,49,50],J' [(1,1)] [3,8,9,41,42,43,48,49,50],J' [(1,1)] [3,8,41,42,43],J' [(0,1)] [2]],[(0,[0,3,15,16,17]),(2,[0,3,15,16,17,21,22,23]),(4,[3,8,41,42,43]),(6,[3,8,9,41,42,43,48,49,50])],[(0,[0,3]),(1,[0,3,15,16,17]),(2,[0,3,15,16,17]),(3,[0,3,15,16,17,21,22,23]),(4,[8]),(5,[3,8,41,42,43]),(6,[3,8,41,42,43]),(7,[3,8,9,41,42,43,48,49,50])],[2],[],[[false]]⟩
def g240T:FunT:=⟨240,[hY1],h62,[sD],fun x=>g240 m x.1⟩
noncomputable def g240C:Code:=codeOf f240
noncomputable def g240B0:Code:=qo g240C 0 0
noncomputable def g240B2:Code:=qo g240B0 0 0
noncomputable def g240B4:Code:=qo g240C 0 1
noncomputable def g240B6:Code:=qo g240B4 4 0
theorem g240K:FL [g206T m,g193T m,g274T m,g273T m,g229T m]:=AllF.mem ⟨g206ok m,g193ok m,g274ok m,g273ok m,g229ok m,trivial⟩
def g240L3X:LT:=⟨6,[(3,sI),(8,hM3),(9,sI),(41,hY1),(42,sI),(43,sI),(48,h81),(49,sI),(50,sI)],[(.exit 6,[(3,sI),(8,hM3),(41,hY1),(42,sI),(43,sI)])],fun n x=>g240L3 m n x.1 x.2.1 x.2.2.1 x.2.2.2.1 x.2.2.2.2.1 x.2.2.2.2.2.1 x.2.2.2.2.2.2.1 x.2.2.2.2.2.2.2.1 x.2.2.2.2.2.2.2.2.1⟩
theorem g240L3ok {E} (hE:EO E 76 g240H) (n):LO E g240B6 ((g240L3X m).at n):=lk hE (g240K m) (g240L3X m) n
def g240L2X:LT:=⟨4,[(3,sI),(8,hM3),(41,hY1),(42,sI),(43,sI)],[(.exit 4,[(8,hM3)])],fun n x=>g240L2 m n x.1 x.2.1 x.2.2.1 x.2.2.2.1 x.2.2.2.2.1⟩
theorem g240L2ok {E} (hE:EO E 76 g240H) (n):LO E g240B4 ((g240L2X m).at n):=
 lok hmix htt hE (g240K m) (L:=[(g240L3X m).at m]) (g240L2X m) (l:=[(6,g240B6)]) kR (fun _ _=>⟨qi ⟨yb (g240L3ok m hE m),trivial⟩,trivial⟩) (fun n x=>kR) (fun _=>kR) n
def g240L1X:LT:=⟨2,[(0,hY1),(3,sI),(15,hY1),(16,sI),(17,sI),(21,h81),(22,sI),(23,sI)],[(.exit 2,[(0,hY1),(3,sI),(15,hY1),(16,sI),(17,sI)])],fun n x=>g240L1 m n x.1 x.2.1 x.2.2.1 x.2.2.2.1 x.2.2.2.2.1 x.2.2.2.2.2.1 x.2.2.2.2.2.2.1 x.2.2.2.2.2.2.2.1⟩
theorem g240L1ok {E} (hE:EO E 76 g240H) (n):LO E g240B2 ((g240L1X m).at n):=lk hE (g240K m) (g240L1X m) n
def g240L0X:LT:=⟨0,[(0,hY1),(3,sI),(15,hY1),(16,sI),(17,sI)],[(.exit 0,[(0,hY1),(3,sI)])],fun n x=>g240L0 m n x.1 x.2.1 x.2.2.1 x.2.2.2.1 x.2.2.2.2.1⟩
theorem g240L0ok {E} (hE:EO E 76 g240H) (n):LO E g240B0 ((g240L0X m).at n):=
 lok hmix htt hE (g240K m) (L:=[(g240L1X m).at m]) (g240L0X m) (l:=[(2,g240B2)]) kR (fun _ _=>⟨qi ⟨yb (g240L1ok m hE m),trivial⟩,trivial⟩) (fun n x=>kR) (fun _=>kR) n
theorem g240ok:FO (g240T m):=
 fok hmix htt (H:=g240H) (g240T m) func240 kR (g240K m) (L:=[(g240L0X m).at m,(g240L2X m).at m]) (l:=[(0,g240B0),(4,g240B4)]) kR (fun _ hE _ _=>⟨qi ⟨yb (g240L0ok m hE m),nb rfl,trivial⟩,qi ⟨nb rfl,yb (g240L2ok m hE m),trivial⟩,trivial⟩) (fun x=>kR)
def g287H:Hints:=⟨[J [0],J [0,5],J [2],J' [(0,1)] [2]],[],[],[2],[],[[false]]⟩
def g287T:FunT:=⟨287,[h62],sI,[sD],fun x=>g287 m x.1⟩
theorem g287ok:FO (g287T m):=fk g287H (g287T m) func287 noF
def g299H:Hints:=⟨[J [0,1],J' [(0,1)] [3]],[],[],[3],[],[[false]]⟩
def g299T:FunT:=⟨299,[hU3,.a (.c (.iptr none (.int .i64) 0))],sB,[sD,sD],fun x=>g299 m x.1 x.2.1⟩
theorem g299ok:FO (g299T m):=fk g299H (g299T m) func299 noF
def g303H:Hints:=⟨[J [0,1],J [0,1,7,8],J [0,1,7,8,9],J [0,1,5,7,8],J [0,1,5,7,8,16],J' [(0,1)] [4],J' [(1,1)] [0,1,7,8],J [4]],[(0,[0,1,7,8])],[(0,[]),(1,[0,1,7,8])],[4],[],[[false]]⟩
def g303T:FunT:=⟨303,[h62,hV3],sI,[sD,sD],fun x=>g303 m x.1 x.2.1⟩
noncomputable def g303C:Code:=codeOf f303
noncomputable def g303B0:Code:=qo g303C 0 0
theorem g303K:FL [g299T m]:=AllF.mem ⟨g299ok m,trivial⟩
def g303L0X:LT:=⟨0,[(0,h62),(1,hV3),(7,sI),(8,sI)],[(.ret,[(4,sI)]),(.exit 0,[])],fun n x=>g303L0 m n x.1 x.2.1 x.2.2.1 x.2.2.2.1⟩
theorem g303L0ok {E} (hE:EO E 19 g303H) (n):LO E g303B0 ((g303L0X m).at n):=lk hE (g303K m) (g303L0X m) n
theorem g303ok:FO (g303T m):=f1' g303H (g303T m) func303 (g303K m) fun _ h=>g303L0ok m h m
def g298H:Hints:=⟨[J [0,1],J' [(0,1),(1,1)] [4]],[],[],[4],[],[[false]]⟩
def g298T:FunT:=⟨298,[h62,hV3],sB,[sD,sD],fun x=>g298 m x.1 x.2.1⟩
theorem g298ok:FO (g298T m):=fk g298H (g298T m) func298 (AllF.mem (l:=[g303T m]) ⟨g303ok m,trivial⟩)
def g286H:Hints:=⟨[J [0],J [0,3],J [0,3,6],J [2],J' [(0,1),(3,1)] [10],J [2],J [2]],[],[(0,[])],[2],[],[[false]]⟩
def g286T:FunT:=⟨286,[h62],sI,[sD],fun x=>g286 m x.1⟩
theorem g286ok:FO (g286T m):=fk g286H (g286T m) func286 (AllF.mem (l:=[g287T m,g298T m]) ⟨g287ok m,g298ok m,trivial⟩)
def g270H:Hints:=⟨[J [0],J [0,3],J' [(2,1)] [3,14],J [2],J' [(0,1)] [2]],[],[],[2],[],[[false]]⟩
def g270T:FunT:=⟨270,[h62],sI,[sD],fun x=>g270 m x.1⟩
theorem g270ok:FO (g270T m):=fk g270H (g270T m) func270 (AllF.mem (l:=[g286T m,g287T m]) ⟨g286ok m,g287ok m,trivial⟩)
def g272H:Hints:=⟨[J [0,1],J' [(0,6)] [0,1,5],J' [(0,1)] [1,5,11,12,13],J [1,5,11,12,13,14],J [1,5,6,7,11,12,13],J [1,5,6,7,8,11,12,13],J' [(0,1)] [1,5,6,8,11,12,13,18,19,20],J [1,5,6,8,11,12,13,18,19,20,21],J [1,5,6,8,10,11,12,13,18,19,20],J' [(0,1)] [1,5,6,8,11,12,13,18,19,20],J' [(1,1)] [1,5,6,8,11,12,13,18,19,20],J [1,5,6,8,11,12,13,33],J' [(0,1),(2,1)] [1,5,8,11,12,13],J' [(0,1),(1,1),(2,6),(3,6)] [1,5,11,12,13],J' [(1,1)] [1,5,11,12,13],J' [(0,1)] [4]],[(0,[1,5,11,12,13]),(2,[1,5,6,8,11,12,13,18,19,20])],[(0,[5]),(1,[1,5,11,12,13]),(2,[1,5,6,8,11,12,13]),(3,[1,5,6,8,11,12,13,18,19,20])],[4],[],[[false]]⟩
def g272T:FunT:=⟨272,[h62,hU3],h62,[sD,sD],fun x=>g272 m x.1 x.2.1⟩
noncomputable def g272C:Code:=codeOf f272
noncomputable def g272B0:Code:=qo g272C 0 0
noncomputable def g272B2:Code:=qo g272B0 0 0
theorem g272K:FL [g229T m]:=AllF.mem ⟨g229ok m,trivial⟩
def g272L1X:LT:=⟨2,[(1,hU3),(5,hM3),(6,sI),(8,hQ3),(11,h62),(12,sI),(13,sI),(18,hU3),(19,sI),(20,sI)],[(.exit 2,[(1,hU3),(5,hM3),(6,sI),(8,hQ3),(11,h62),(12,sI),(13,sI)])],fun n x=>g272L1 m n x.1 x.2.1 x.2.2.1 x.2.2.2.1 x.2.2.2.2.1 x.2.2.2.2.2.1 x.2.2.2.2.2.2.1 x.2.2.2.2.2.2.2.1 x.2.2.2.2.2.2.2.2.1 x.2.2.2.2.2.2.2.2.2.1⟩
theorem g272L1ok {E} (hE:EO E 48 g272H) (n):LO E g272B2 ((g272L1X m).at n):=lk hE (g272K m) (g272L1X m) n
def g272L0X:LT:=⟨0,[(1,hU3),(5,hM3),(11,h62),(12,sI),(13,sI)],[(.exit 0,[(5,hM3)])],fun n x=>g272L0 m n x.1 x.2.1 x.2.2.1 x.2.2.2.1 x.2.2.2.2.1⟩
theorem g272L0ok {E} (hE:EO E 48 g272H) (n):LO E g272B0 ((g272L0X m).at n):=
 lok hmix htt hE (g272K m) (L:=[(g272L1X m).at m]) (g272L0X m) (l:=[(2,g272B2)]) kR (fun _ _=>⟨qi ⟨yb (g272L1ok m hE m),trivial⟩,trivial⟩) (fun n x=>kR) (fun _=>kR) n
theorem g272ok:FO (g272T m):=f1' g272H (g272T m) func272 (g272K m) fun _ h=>g272L0ok m h m
def g263H:Hints:=⟨[J [0,1],J' [(3,1)] [0,1,19],J [4],J [0,1,5],J' [(0,1)] [1,5,26,27,28],J [1,5,26,27,28,29],J [1,5,6,7,26,27,28],J [1,5,6,7,8,26,27,28],J [1,5,6,7,8,26,27,28,33,34,35],J [1,5,6,7,8,26,27,28,33,34,35,36],J [1,5,6,7,8,9,10,26,27,28,33,34,35],J' [(2,1),(13,1)] [1,5,6,7,9,11,26,27,28,33,34,35],J' [(2,1)] [1,5,6,7,11,26,27,28,33,34,35],J' [(0,1)] [1,5,6,7,8,26,27,28,33,34,35],J' [(1,1)] [1,5,6,7,8,26,27,28,33,34,35],J' [(1,1),(5,1)] [1,5,26,27,28],J' [(1,1)] [1,5,26,27,28],J' [(0,1)] [4]],[(0,[1,5,26,27,28]),(2,[1,5,6,7,8,26,27,28,33,34,35])],[(0,[5]),(1,[1,5,26,27,28]),(2,[1,5,6,8,26,27,28]),(3,[1,5,6,7,8,26,27,28,33,34,35])],[4],[],[[false]]⟩
def g263T:FunT:=⟨263,[hE4,hE4],hE4,[sD,sD],fun x=>g263 m x.1 x.2.1⟩
noncomputable def g263C:Code:=codeOf f263
noncomputable def g263B0:Code:=qo g263C 0 0
noncomputable def g263B2:Code:=qo g263B0 0 0
theorem g263K:FL [g228T m]:=AllF.mem ⟨g228ok m,trivial⟩
def g263L1X:LT:=⟨2,[(1,hE4),(5,hm3),(6,sI),(7,hF4),(8,sU),(26,hE4),(27,sI),(28,sI),(33,hE4),(34,sI),(35,sI)],[(.exit 2,[(1,hE4),(5,hm3),(6,sI),(8,sU),(26,hE4),(27,sI),(28,sI)])],fun n x=>g263L1 m n x.1 x.2.1 x.2.2.1 x.2.2.2.1 x.2.2.2.2.1 x.2.2.2.2.2.1 x.2.2.2.2.2.2.1 x.2.2.2.2.2.2.2.1 x.2.2.2.2.2.2.2.2.1 x.2.2.2.2.2.2.2.2.2.1 x.2.2.2.2.2.2.2.2.2.2.1⟩
theorem g263L1ok {E} (hE:EO E 77 g263H) (n):LO E g263B2 ((g263L1X m).at n):=lk hE (g263K m) (g263L1X m) n
def g263L0X:LT:=⟨0,[(1,hE4),(5,hm3),(26,hE4),(27,sI),(28,sI)],[(.exit 0,[(5,hm3)])],fun n x=>g263L0 m n x.1 x.2.1 x.2.2.1 x.2.2.2.1 x.2.2.2.2.1⟩
theorem g263L0ok {E} (hE:EO E 77 g263H) (n):LO E g263B0 ((g263L0X m).at n):=
 lok hmix htt hE (g263K m) (L:=[(g263L1X m).at m]) (g263L0X m) (l:=[(2,g263B2)]) kR (fun _ _=>⟨qi ⟨yb (g263L1ok m hE m),trivial⟩,trivial⟩) (fun n x=>kR) (fun _=>kR) n
theorem g263ok:FO (g263T m):=f1' g263H (g263T m) func263 (g263K m) fun _ h=>g263L0ok m h m
def g223H:Hints:=⟨[J [2,3,4],J [4]],[],[],[4],[],[[false,false]]⟩
def g223T:FunT:=⟨223,[ha3,ha3],ha3,[sD,sD],fun x=>g223 m x.1.1 x.1.2.1 x.2.1.1 x.2.1.2.1⟩
theorem g223ok:FO (g223T m):=fk g223H (g223T m) func223 (AllF.mem (l:=[g228T m,g263T m,g221T m]) ⟨g228ok m,g263ok m,g221ok m,trivial⟩)
end
end Go.Vs.F
