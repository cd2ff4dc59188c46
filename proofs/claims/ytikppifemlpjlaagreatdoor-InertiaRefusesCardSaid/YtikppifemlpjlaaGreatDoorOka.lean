import Derived.Test.YtikppifemlpjlaaGreatDoorFn
import Derived.Test.YtikppifemlpjlaaGreatDoorVc
import Derived.Test.YtikppifemlpjlaaGreatDoorProg
import Derived.KernelRfl
set_option linter.unusedVariables false
set_option maxRecDepth 100000
set_option linter.defProp false
namespace Go.Vs.F
open Go.Proofs
open Tryz
section
def kR{p:Prop}(h:p:=by kernel_rfl):p:=h
@[reducible]def cC(R:Type):ShC->Type
 |.dead=>R
 |.bconst _=>R
 |.nilp=>R
 |.fn _=>R
 |.nl _=>R
 |.ref _ _ _=>R
 |.drw _ _=>R
 |.bool=>Bool->R
 |.int _=>Int->R
 |.imm t=>List (Den t)->R
 |.nm _ t=>List (Den t)->R
 |.dp _ t=>List (List (Den t))->R
 |s=>s.Val->R
def uC{R:Type}:(s:ShC)->cC R s->s.Val->R
 |.dead,f,_=>f
 |.bconst _,f,_=>f
 |.nilp,f,_=>f
 |.fn _,f,_=>f
 |.nl _,f,_=>f
 |.ref _ _ _,f,_=>f
 |.drw _ _,f,_=>f
 |.bool,f,x=>f x
 |.int _,f,x=>f x
 |.imm _,f,x=>f x
 |.nm _ _,f,x=>f x
 |.dp _ _,f,x=>f x
 |.lit,f,x=>f x
 |.refw _ _ _,f,x=>f x
 |.ptr _ _ _ _,f,x=>f x
 |.iptr _ _ _,f,x=>f x
 |.drr _ _,f,x=>f x
 |.wn _ _,f,x=>f x
@[reducible]def cL(R:Type):List ShC->Type
 |[]=>R
 |s::r=>cC (cL R r) s
def uL{R:Type}:(l:List ShC)->cL R l->valL ShC.Val l->R
 |[],f,_=>f
 |s::r,f,x=>uL r (uC s f x.1) x.2
@[reducible]def cS(R:Type):Sh->Type
 |.a (.c s)=>cC R s
 |.a (.bx _ l)=>cL R l
 |.a (.agg l)=>cL R l
 |s=>s.Val->R
def uS{R:Type}:(s:Sh)->cS R s->s.Val->R
 |.a (.c s),f,x=>uC s f x
 |.a (.bx _ l),f,x=>uL l f x
 |.a (.agg l),f,x=>uL l f x
 |.tup _,f,x=>f x
 |.altA _ _,f,x=>f x
 |.altT _ _,f,x=>f x
@[reducible]def cT(R:Type):List Sh->Type
 |[]=>R
 |s::r=>cS (cT R r) s
def un{R:Type}:{l:List Sh}->cT R l->valL Sh.Val l->R
 |[],f,_=>f
 |s::_,f,x=>un (uS s f x.1) x.2
@[reducible]def cQ(R:Type):SS->Type
 |[]=>R
 |s::r=>cS (cQ R r) s.2
def uq{R:Type}:{l:SS}->cQ R l->SS.Val l->R
 |[],f,_=>f
 |s::_,f,x=>uq (uS s.2 f x.1) x.2
abbrev hC1:Sh:=.a (.c (.dp 1 (.pr (.pr .bool (.pr (.pr .bool (.sl false (.int .u32))) (.int .i64))) (.pr .bool (.pr (.pr .bool (.sl false (.int .u32))) (.int .i64))))))
abbrev hO1:Sh:=.a (.c (.nm 2 (.pr (.pr .bool (.pr (.pr .bool (.sl false (.int .u32))) (.int .i64))) (.pr .bool (.pr (.pr .bool (.sl false (.int .u32))) (.int .i64))))))
abbrev hY1:Sh:=.a (.c (.imm (.sl false (.pr (.pr .bool (.sl false (.int .u32))) (.pr .bool (.sl false (.int .u32)))))))
abbrev h41:Sh:=.a (.agg [.bool,.bool,(.imm (.int .u32)),(.int .i64),.bool,.bool,(.imm (.int .u32)),(.int .i64)])
abbrev h51:Sh:=.a (.c (.dp 0 (.pr (.pr .bool (.sl false (.int .u32))) (.pr .bool (.sl false (.int .u32))))))
abbrev h61:Sh:=.a (.c (.nm 1 (.pr (.pr .bool (.sl false (.int .u32))) (.pr .bool (.sl false (.int .u32))))))
abbrev h71:Sh:=.a (.agg [(.int .i64),(.int .i64),(.imm (.int .i64)),(.imm (.int .i64)),(.imm (.int .u64))])
abbrev h81:Sh:=.a (.c (.imm (.sl false (.pr .bool (.pr (.pr .bool (.sl false (.int .u32))) (.int .i64))))))
abbrev h91:Sh:=.a (.c (.dp 0 (.pr .bool (.pr (.pr .bool (.sl false (.int .u32))) (.int .i64)))))
abbrev hU2:Sh:=.a (.c (.dp 1 (.pr .bool (.pr (.pr .bool (.sl false (.int .u32))) (.int .i64)))))
abbrev h52:Sh:=.a (.c (.nm 2 (.pr .bool (.pr (.pr .bool (.sl false (.int .u32))) (.int .i64)))))
abbrev h62:Sh:=.a (.c (.nm 5 (.pr .bool (.pr (.pr .bool (.sl false (.int .u32))) (.int .i64)))))
abbrev h82:Sh:=.a (.c (.imm (.pr .bool (.pr (.pr .bool (.sl false (.int .u32))) (.int .i64)))))
abbrev h92:Sh:=.a (.c (.imm (.sl false (.pr .bool (.sl false (.int .u32))))))
abbrev hC3:Sh:=.a (.agg [.bool,(.imm (.int .u32)),.bool,(.imm (.int .u32))])
abbrev hE3:Sh:=.a (.agg [.bool,.bool,(.imm (.int .u32)),(.int .i64),.bool])
abbrev hI3:Sh:=.a (.agg [.bool,.bool,(.nm 0 (.int .u32)),(.int .i64)])
abbrev hM3:Sh:=.a (.agg [.bool,.bool,(.imm (.int .u32)),(.int .i64)])
abbrev hQ3:Sh:=.a (.c (.dp 0 (.pr .bool (.sl false (.int .u32)))))
abbrev hR3:Sh:=.a (.c (.nm 1 (.pr .bool (.sl false (.int .u32)))))
abbrev hT3:Sh:=.a (.c (.nm 0 (.pr .bool (.sl false (.int .u32)))))
abbrev hU3:Sh:=.a (.c (.dp 1 (.pr .bool (.sl false (.int .u32)))))
abbrev hV3:Sh:=.a (.c (.imm (.pr .bool (.sl false (.int .u32)))))
abbrev hX3:Sh:=.a (.c (.iptr (some 175) (.int .i64) 0))
abbrev hY3:Sh:=.a (.agg [.bool,(.imm (.int .u32))])
abbrev ha3:Sh:=.a (.c (.nm 0 (.int .u32)))
abbrev hm3:Sh:=.a (.c (.wn 0 (.int .u32)))
abbrev h33:Sh:=.a (.c (.nm 1 (.int .u32)))
abbrev h53:Sh:=.a (.c (.nm 2 (.int .u32)))
abbrev h73:Sh:=.a (.c (.imm (.int .u64)))
abbrev h83:Sh:=.a (.c (.imm (.int .u32)))
abbrev h93:Sh:=.a (.c (.nm 2 .bool))
abbrev hA4:Sh:=.a (.c (.int .u32))
abbrev hC4:Sh:=.a (.c (.fn 102))
abbrev hE4:Sh:=.a (.c (.fn 203))
abbrev sD:Sh:=.a (.c .dead)
abbrev sI:Sh:=.a (.c (.int .i64))
abbrev sL:Sh:=.a (.c (.imm (.int .i64)))
abbrev sB:Sh:=.a (.c .bool)
abbrev sU:Sh:=.a (.c (.int .u64))
abbrev EO(E:Entry)(N:Nat)(H:Hints):=EOf prog E N H.pins
abbrev LO:=LoopOK prog
abbrev FO:=FunOK prog
abbrev FL(l:List FunT):=∀u∈l,FO u
abbrev sN(k:Nat):Sh:=.a (.c (.nm k (.int .i64)))
abbrev sX(k:Nat)(l:List ShC):Sh:=.a (.bx k l)
abbrev iI:ShC:=.int .i64
abbrev iU:ShC:=.int .u64
abbrev iL:ShC:=.imm (.int .i64)
abbrev iM(k:Nat):ShC:=.nm k (.int .i64)
def J(l:List Nat):Hint:=⟨[],l⟩
def J'(m:List (Nat×Nat))(l:List Nat):Hint:=⟨m,l⟩
def tt:TT:=[none,none,none,some ⟨(.int .i64),[.int .i64]⟩,some ⟨.bool,[.bool]⟩,some ⟨(.int .u8),[.int .u8]⟩,none,none,none,some ⟨.string,[.other]⟩,none,none,none,none,none,none,none,none,none,none,none,none,some ⟨(.slice 23 (.int .u64)),[.nil (.int .u64)]⟩,some ⟨(.int .u64),[.int .u64]⟩,some ⟨(.slice 3 (.int .i64)),[.nil (.int .i64)]⟩,some ⟨(.slice 28 (.int .u64)),[.nil (.int .u64)]⟩,none,some ⟨(.struct [(0,1),(1,1),(2,1),(3,1),(4,1)]),[.int .i64,.int .i64,.nil (.int .i64),.nil (.int .i64),.nil (.int .u64)]⟩,some ⟨(.int .u64),[.int .u64]⟩,none,none,none,some ⟨(.struct [(0,1),(1,1),(2,1)]),[.int .i64,.int .i64,.int .i64]⟩,none,none,none,none,none,none,none,none,none,none,none,none,none,none,none,none,none,none,none,none,none,none,none,none,some ⟨(.slice 76 (.pr .bool (.pr (.pr .bool (.sl false (.int .u32))) (.int .i64)))),[.nil (.pr .bool (.pr (.pr .bool (.sl false (.int .u32))) (.int .i64)))]⟩,none,some ⟨(.struct [(0,1),(1,1),(2,1)]),[.int .i64,.int .i64,.nil (.pr .bool (.pr (.pr .bool (.sl false (.int .u32))) (.int .i64)))]⟩,none,none,none,none,none,none,none,none,some ⟨(.slice 57 (.sl false (.pr .bool (.pr (.pr .bool (.sl false (.int .u32))) (.int .i64))))),[.nil (.sl false (.pr .bool (.pr (.pr .bool (.sl false (.int .u32))) (.int .i64))))]⟩,none,some ⟨(.slice 71 (.sl false (.pr (.pr .bool (.pr (.pr .bool (.sl false (.int .u32))) (.int .i64))) (.pr .bool (.pr (.pr .bool (.sl false (.int .u32))) (.int .i64)))))),[.nil (.sl false (.pr (.pr .bool (.pr (.pr .bool (.sl false (.int .u32))) (.int .i64))) (.pr .bool (.pr (.pr .bool (.sl false (.int .u32))) (.int .i64)))))]⟩,some ⟨(.slice 78 (.pr (.pr .bool (.pr (.pr .bool (.sl false (.int .u32))) (.int .i64))) (.pr .bool (.pr (.pr .bool (.sl false (.int .u32))) (.int .i64))))),[.nil (.pr (.pr .bool (.pr (.pr .bool (.sl false (.int .u32))) (.int .i64))) (.pr .bool (.pr (.pr .bool (.sl false (.int .u32))) (.int .i64))))]⟩,some ⟨(.slice 132 (.int .u32)),[.nil (.int .u32)]⟩,none,some ⟨(.struct [(0,1),(1,1)]),[.bool,.nil (.int .u32)]⟩,none,some ⟨(.struct [(0,1),(1,2),(3,1)]),[.bool,.bool,.nil (.int .u32),.int .i64]⟩,none,some ⟨(.struct [(0,4),(4,4)]),[.bool,.bool,.nil (.int .u32),.int .i64,.bool,.bool,.nil (.int .u32),.int .i64]⟩,some ⟨(.slice 4 .bool),[.nil .bool]⟩,none,none,none,none,none,some ⟨(.int .u64),[.int .u64]⟩,none,none,none,some ⟨(.slice 126 (.sl false (.pr .bool (.sl false (.int .u32))))),[.nil (.sl false (.pr .bool (.sl false (.int .u32))))]⟩,none,none,none,none,none,none,none,none,none,none,none,none,none,some ⟨(.slice 106 (.sl false (.pr (.pr .bool (.pr (.pr .bool (.sl false (.int .u32))) (.int .i64))) (.pr .bool (.pr (.pr .bool (.sl false (.int .u32))) (.int .i64)))))),[.nil (.sl false (.pr (.pr .bool (.pr (.pr .bool (.sl false (.int .u32))) (.int .i64))) (.pr .bool (.pr (.pr .bool (.sl false (.int .u32))) (.int .i64)))))]⟩,none,some ⟨(.struct [(0,1),(1,1),(2,1)]),[.nil (.sl false (.pr (.pr .bool (.pr (.pr .bool (.sl false (.int .u32))) (.int .i64))) (.pr .bool (.pr (.pr .bool (.sl false (.int .u32))) (.int .i64))))),.nil .bool,.int .i64]⟩,some ⟨(.slice 108 (.pr (.pr .bool (.pr (.pr .bool (.sl false (.int .u32))) (.int .i64))) (.pr .bool (.pr (.pr .bool (.sl false (.int .u32))) (.int .i64))))),[.nil (.pr (.pr .bool (.pr (.pr .bool (.sl false (.int .u32))) (.int .i64))) (.pr .bool (.pr (.pr .bool (.sl false (.int .u32))) (.int .i64))))]⟩,none,some ⟨(.struct [(0,4),(4,4)]),[.bool,.bool,.nil (.int .u32),.int .i64,.bool,.bool,.nil (.int .u32),.int .i64]⟩,none,none,none,none,none,none,none,none,none,some ⟨(.slice 124 (.sl false (.pr (.pr .bool (.sl false (.int .u32))) (.pr .bool (.sl false (.int .u32)))))),[.nil (.sl false (.pr (.pr .bool (.sl false (.int .u32))) (.pr .bool (.sl false (.int .u32)))))]⟩,none,none,none,none,some ⟨(.struct [(0,2),(2,2)]),[.bool,.nil (.int .u32),.bool,.nil (.int .u32)]⟩,some ⟨(.slice 123 (.pr (.pr .bool (.sl false (.int .u32))) (.pr .bool (.sl false (.int .u32))))),[.nil (.pr (.pr .bool (.sl false (.int .u32))) (.pr .bool (.sl false (.int .u32))))]⟩,none,some ⟨(.slice 74 (.pr .bool (.sl false (.int .u32)))),[.nil (.pr .bool (.sl false (.int .u32)))]⟩,none,none,none,none,none,some ⟨(.int .u32),[.int .u32]⟩,none,none,none,none,none,none,none,none,none,none,none,none,none,none,none,none,none,none,none,none,none,none,none,none,none,none,none,none,none,none,none,none,none,none,none,none,none,none,none,none,none,none,none,none,none,none,none,none,none,none,none,none,none,none,none,none,none,none,none,none,none,none,none,none,some ⟨(.struct [(0,1),(1,2),(3,1),(4,1)]),[.bool,.bool,.nil (.int .u32),.int .i64,.bool]⟩,none,none,none,none,some ⟨(.tab 0 .u8 [0,1,28,2,29,14,24,3,30,22,20,15,25,17,4,8,31,27,13,23,21,19,16,7,26,12,18,6,11,5,10,9]),[.other,.other,.other,.other,.other,.other,.other,.other,.other,.other,.other,.other,.other,.other,.other,.other,.other,.other,.other,.other,.other,.other,.other,.other,.other,.other,.other,.other,.other,.other,.other,.other]⟩]
def htt:TTok prog tt:=qhi kR
def hmix:prog.follows .mixedOrders=true:=kR
def lk{N:Nat}{H:Hints}{E:Entry}(hE:EO E N H){D:List FunT}(hD:FL D){B:Code}(t:LT)(n:Nat)(hl:Jv B t.blk=[]:=by kernel_rfl)(hr:∀n x,qbk (mkC (outVal t.outs) D) (mkLp (outVal t.outs) []) tt N H B t.blk (t.ins.enc x) (Kl (t.run n))=t.run (n+1) x:=by intro n x;kernel_rfl)(h0:∀x,t.run 0 x=none:=by intro x;kernel_rfl):LO E B (t.at n):=lok hmix htt hE hD (L:=[]) t (l:=[]) hl (λ_ _=>trivial) hr h0 n
def fk(H:Hints)(t:FunT){fn:Func}(hf:prog.funcs[t.f]? =some fn){D:List FunT}(hD:FL D)(hb:okB fn=true:=by kernel_rfl)(hl:Jv (codeOf fn) 0=[]:=by kernel_rfl)(hr: ∀x,fnK (mkC (t.res.Val×Xc t.outs) D) (mkLp (t.res.Val×Xc t.outs) []) tt H fn (encS t.args x) (Kd t.res t.outs)=t.run x:=by intro x;kernel_rfl):FO t:=fok hmix htt (H:=H) t hf hb hD (L:=[]) (l:=[]) hl (λ_ hE _ _=>trivial) hr
def f1'(H:Hints)(t:FunT){fn:Func}(hf:prog.funcs[t.f]? =some fn){D:List FunT}(hD:FL D){X:LT}{m:Nat}{B:Code}(h:∀E:Entry,EO E fn.ntmps H->LO E B (X.at m))(hb:okB fn=true:=by kernel_rfl)(hl:Jv (codeOf fn) 0=[(X.blk,B)]:=by kernel_rfl)(hr: ∀x,fnK (mkC (t.res.Val×Xc t.outs) D) (mkLp (t.res.Val×Xc t.outs) [X.at m]) tt H fn (encS t.args x) (Kd t.res t.outs)=t.run x:=by intro x;kernel_rfl)(hk:q3a [] [X.at m]=true:=by kernel_rfl):FO t:=fok hmix htt (H:=H) t hf hb hD (L:=[X.at m]) (l:=[(X.blk,B)]) hl (λE hE _ _=>⟨qi ⟨yb (h E hE),trivial⟩,trivial⟩) hr hk
variable (m:Nat)
def g14H:Hints:=⟨[J [0,1],J' [(0,1),(2,1)] [4]],[],[],[4],[],[[false]]⟩
def g14T:FunT:=⟨14,[sI,sI],sI,[sD,sD],un (g14 m)⟩
def g14ok:FO (g14T m):=fk g14H (g14T m) func14 noF
def g32H:Hints:=⟨[J [0,1],J [0,1,5],J [0,1,5,12],J' [(0,1),(2,1)] [5],J [5],J [4]],[],[],[4],[],[[false]]⟩
def g32T:FunT:=⟨32,[h73,sI],sU,[sD,sD],un (g32 m)⟩
def g32ok:FO (g32T m):=fk g32H (g32T m) func32 (AllF.mem (l:=[g14T m]) ⟨g14ok m,trivial⟩)
def g23H:Hints:=⟨[J [0],J' [(0,1)] [2]],[],[],[2],[],[[false]]⟩
def g23T:FunT:=⟨23,[sU],sB,[sD],un (g23 m)⟩
def g23ok:FO (g23T m):=fk g23H (g23T m) func23 noF
def g166H:Hints:=⟨[J [0],J [0,3],J' [(2,1)] [0,3,17],J' [(0,1)] [0,3],J [0,3,4],J [0,3,4,5],J [0,3,4,5,22],J' [(0,1)] [0,3,4,5],J' [(0,1)] [0,3,4,5],J' [(0,1)] [2]],[(0,[0,3]),(2,[0,3,4,5])],[(0,[0,3]),(1,[0,3]),(2,[4]),(3,[0,3,4,5])],[2],[],[[true]]⟩
def g166T:FunT:=⟨166,[h83],ha3,[sD],un (g166 m)⟩
noncomputable def g166C:Code:=codeOf f166
noncomputable def g166B0:Code:=qm g166C 0 0
noncomputable def g166B2:Code:=qm g166C 0 1
def g166L1X:LT:=⟨2,[(0,h83),(3,sI),(4,ha3),(5,sI)],[(.exit 2,[(4,ha3)])],λn=>uq (g166L1 m n)⟩
def g166L1ok {E} (hE:EO E 33 g166H) (n):LO E g166B2 ((g166L1X m).at n):=lk hE noF (g166L1X m) n
def g166L0X:LT:=⟨0,[(0,h83),(3,sI)],[(.exit 0,[(0,h83),(3,sI)])],λn=>uq (g166L0 m n)⟩
def g166L0ok {E} (hE:EO E 33 g166H) (n):LO E g166B0 ((g166L0X m).at n):=lk hE noF (g166L0X m) n
def g166ok:FO (g166T m):=
 fok hmix htt (H:=g166H) (g166T m) func166 kR noF (L:=[(g166L0X m).at m,(g166L1X m).at m]) (l:=[(0,g166B0),(2,g166B2)]) kR (λ_ hE _ _=>⟨qi ⟨yb (g166L0ok m hE m),nb rfl,trivial⟩,qi ⟨nb rfl,yb (g166L1ok m hE m),trivial⟩,trivial⟩) (λx=>kR)
def g127H:Hints:=⟨[J [0,1,4],J' [(0,1)] [0,1,4],J' [(0,1),(1,1),(6,1)] [4]],[],[],[4],[],[[false,false]]⟩
def g127T:FunT:=⟨127,[sB,h83],hY3,[sD,sD],un (g127 m)⟩
def g127ok:FO (g127T m):=fk g127H (g127T m) func127 (AllF.mem (l:=[g166T m]) ⟨g166ok m,trivial⟩)
def g123H:Hints:=⟨[J [0,2],J [0,2,3],J [0,2,3,7],J [0,2,3],J' [(0,1)] [2]],[],[],[2],[],[[false,false]]⟩
def g123T:FunT:=⟨123,[sI],hY3,[sD],un (g123 m)⟩
def g123ok:FO (g123T m):=fk g123H (g123T m) func123 (AllF.mem (l:=[g127T m]) ⟨g127ok m,trivial⟩)
def g117H:Hints:=⟨[J [1,2],J [2]],[],[],[2],[],[[false,false]]⟩
def g117T:FunT:=⟨117,[hY3],hY3,[sD],un (g117 m)⟩
def g117ok:FO (g117T m):=fk g117H (g117T m) func117 (AllF.mem (l:=[g127T m]) ⟨g127ok m,trivial⟩)
def g83H:Hints:=⟨[J [0],J [0]],[],[],[0],[],[[false,false,true,false]]⟩
def g83T:FunT:=⟨83,[],hI3,[],λx=>g83 m⟩
def g83ok:FO (g83T m):=fk g83H (g83T m) func83 noF
def g173H:Hints:=⟨[J [0],J [0,4],J [2],J [2]],[],[],[2],[],[[false]]⟩
def g173T:FunT:=⟨173,[hA4],sI,[sD],un (g173 m)⟩
def g173ok:FO (g173T m):=fk g173H (g173T m) func173 noF
def g135H:Hints:=⟨[J [1],J [3],J [3,4],J [3,4,11],J' [(0,1)] [3,4],J [3,4,18],J' [(2,1)] [2],J [2]],[(0,[3,4])],[(0,[]),(1,[3,4])],[2],[],[[false]]⟩
def g135T:FunT:=⟨135,[hY3],sI,[sD],un (g135 m)⟩
noncomputable def g135C:Code:=codeOf f135
noncomputable def g135B0:Code:=qm g135C 0 0
def g135K:FL [g166T m,g173T m]:=AllF.mem ⟨g166ok m,g173ok m,trivial⟩
def g135L0X:LT:=⟨0,[(3,ha3),(4,sI)],[(.ret,[(2,sI)]),(.exit 0,[])],λn=>uq (g135L0 m n)⟩
def g135L0ok {E} (hE:EO E 27 g135H) (n):LO E g135B0 ((g135L0X m).at n):=lk hE (g135K m) (g135L0X m) n
def g135ok:FO (g135T m):=f1' g135H (g135T m) func135 (g135K m) λ_ h=>g135L0ok m h m
def g82H:Hints:=⟨[J [1,2],J [2]],[],[],[2],[],[[false,false]]⟩
def g82T:FunT:=⟨82,[hY3],hY3,[sD],un (g82 m)⟩
def g82ok:FO (g82T m):=fk g82H (g82T m) func82 (AllF.mem (l:=[g127T m]) ⟨g127ok m,trivial⟩)
def g128H:Hints:=⟨[J [0,1],J [0,1,5],J [0,1,5,6],J [0,1,5,6,7],J [0,1,5,6,7,14],J' [(0,1)] [0,1,5,6,7],J' [(0,1)] [0,1,5,6,7],J' [(0,1)] [0,1,5,6,7],J' [(0,1)] [0,1,5,6,7],J' [(0,1),(1,1)] [4]],[(0,[0,1,5,6,7])],[(0,[5,6]),(1,[0,1,5,6,7])],[4],[],[[true]]⟩
def g128T:FunT:=⟨128,[h83,sI],ha3,[sD,sD],un (g128 m)⟩
noncomputable def g128C:Code:=codeOf f128
noncomputable def g128B0:Code:=qm g128C 0 0
def g128L0X:LT:=⟨0,[(0,h83),(1,sI),(5,ha3),(6,sU),(7,sI)],[(.exit 0,[(5,ha3),(6,sU)])],λn=>uq (g128L0 m n)⟩
def g128L0ok {E} (hE:EO E 39 g128H) (n):LO E g128B0 ((g128L0X m).at n):=lk hE noF (g128L0X m) n
def g128ok:FO (g128T m):=f1' g128H (g128T m) func128 noF λ_ h=>g128L0ok m h m
def g129H:Hints:=⟨[J [0,1],J [0,1,6],J [0,1,6,7],J' [(4,1)] [0,1,6,7,21],J' [(0,1)] [0,1,6,7],J' [(0,1),(1,1)] [0,1,6,7],J [0,1,6,8],J [0,1,6,8,9],J [0,1,6,8,9,10],J [0,1,6,8,9,10,39],J' [(0,1)] [0,1,6,8,9,10],J [0,1,6,8,9,10,11],J [0,1,6,8,9,10,11,51],J' [(0,1)] [0,1,6,8,9,10,11],J' [(4,1)] [0,1,6,8,9,10,11,75],J [0,1,6,8,9,10,11],J' [(0,1),(1,1)] [0,1,6,8,9,10],J' [(0,1),(1,1)] [4,5]],[(0,[0,1,6,7]),(2,[0,1,6,8,9,10])],[(0,[0,1,6]),(1,[0,1,6,7]),(2,[6,8]),(3,[0,1,6,8,9,10])],[4,5],[],[[true],[false]]⟩
def g129T:FunT:=⟨129,[h83,sI],.tup [(.c (.nm 0 (.int .u32))),(.c .bool)],[sD,sD],un (g129 m)⟩
noncomputable def g129C:Code:=codeOf f129
noncomputable def g129B0:Code:=qm g129C 0 0
noncomputable def g129B2:Code:=qm g129C 0 1
def g129L1X:LT:=⟨2,[(0,h83),(1,sI),(6,sB),(8,ha3),(9,sI),(10,sI)],[(.exit 2,[(6,sB),(8,ha3)])],λn=>uq (g129L1 m n)⟩
def g129L1ok {E} (hE:EO E 85 g129H) (n):LO E g129B2 ((g129L1X m).at n):=lk hE noF (g129L1X m) n
def g129L0X:LT:=⟨0,[(0,h83),(1,sI),(6,sB),(7,sI)],[(.exit 0,[(0,h83),(1,sI),(6,sB)])],λn=>uq (g129L0 m n)⟩
def g129L0ok {E} (hE:EO E 85 g129H) (n):LO E g129B0 ((g129L0X m).at n):=lk hE noF (g129L0X m) n
def g129ok:FO (g129T m):=
 fok hmix htt (H:=g129H) (g129T m) func129 kR noF (L:=[(g129L0X m).at m,(g129L1X m).at m]) (l:=[(0,g129B0),(2,g129B2)]) kR (λ_ hE _ _=>⟨qi ⟨yb (g129L0ok m hE m),nb rfl,trivial⟩,qi ⟨nb rfl,yb (g129L1ok m hE m),trivial⟩,trivial⟩) (λx=>kR)
def g164H:Hints:=⟨[J [1,2],J [2]],[],[],[2],[],[[false,false]]⟩
def g164T:FunT:=⟨164,[hY3],hY3,[sD],un (g164 m)⟩
def g164ok:FO (g164T m):=fk g164H (g164T m) func164 (AllF.mem (l:=[g127T m]) ⟨g127ok m,trivial⟩)
def g193H:Hints:=⟨[J [0,1],J [0,1,5],J [0,1,5,6],J [0,1,5,6,7],J [0,1,5,6,7,14],J' [(0,1)] [0,1,5,6,7],J [0,1,5,6,7,20],J' [(0,1)] [0,1,5,6,7],J [0,1,5,6,7,31],J' [(0,1)] [0,1,5,6,7],J' [(0,1)] [0,1,5,6,7],J' [(0,1)] [0,1,5,6,7],J' [(0,1),(1,1)] [4]],[(0,[0,1,5,6,7])],[(0,[5,6]),(1,[0,1,5,6,7])],[4],[],[[true]]⟩
def g193T:FunT:=⟨193,[h83,h83],ha3,[sD,sD],un (g193 m)⟩
noncomputable def g193C:Code:=codeOf f193
noncomputable def g193B0:Code:=qm g193C 0 0
def g193L0X:LT:=⟨0,[(0,h83),(1,h83),(5,ha3),(6,sU),(7,sI)],[(.exit 0,[(5,ha3),(6,sU)])],λn=>uq (g193L0 m n)⟩
def g193L0ok {E} (hE:EO E 51 g193H) (n):LO E g193B0 ((g193L0X m).at n):=lk hE noF (g193L0X m) n
def g193ok:FO (g193T m):=f1' g193H (g193T m) func193 noF λ_ h=>g193L0ok m h m
def g194H:Hints:=⟨[J [0,1],J [0,1,10],J' [(0,1),(2,1)] [15],J [4],J [4],J [0,1,5],J [0,1,5,20],J' [(0,1)] [0,1,5],J [0,1,5,31],J' [(0,1),(4,1)] [40],J [4],J [4],J [4]],[(0,[0,1,5])],[(0,[]),(1,[0,1,5])],[4],[],[[false]]⟩
def g194T:FunT:=⟨194,[h83,h83],sI,[sD,sD],un (g194 m)⟩
noncomputable def g194C:Code:=codeOf f194
noncomputable def g194B0:Code:=qm g194C 0 0
def g194L0X:LT:=⟨0,[(0,h83),(1,h83),(5,sI)],[(.ret,[(4,sI)]),(.exit 0,[])],λn=>uq (g194L0 m n)⟩
def g194L0ok {E} (hE:EO E 41 g194H) (n):LO E g194B0 ((g194L0X m).at n):=lk hE noF (g194L0X m) n
def g194ok:FO (g194T m):=f1' g194H (g194T m) func194 noF λ_ h=>g194L0ok m h m
def g195H:Hints:=⟨[J [0,1],J [0,1,5],J [0,1,5,6],J [0,1,5,6,7],J [0,1,5,6,7,12],J' [(0,1)] [0,1,5,6,7],J' [(5,1)] [0,1,5,7,8],J [0,1,5,7,8,25],J' [(0,1)] [0,1,5,7,8],J' [(0,1)] [0,1,5,7,8],J' [(0,1)] [0,1,5,6,7],J' [(0,1)] [4]],[(0,[0,1,5,6,7])],[(0,[5]),(1,[0,1,5,6,7])],[4],[],[[true]]⟩
def g195T:FunT:=⟨195,[h83,h83],ha3,[sD,sD],un (g195 m)⟩
noncomputable def g195C:Code:=codeOf f195
noncomputable def g195B0:Code:=qm g195C 0 0
def g195L0X:LT:=⟨0,[(0,h83),(1,h83),(5,ha3),(6,sU),(7,sI)],[(.exit 0,[(5,ha3)])],λn=>uq (g195L0 m n)⟩
def g195L0ok {E} (hE:EO E 41 g195H) (n):LO E g195B0 ((g195L0X m).at n):=lk hE noF (g195L0X m) n
def g195ok:FO (g195T m):=f1' g195H (g195T m) func195 noF λ_ h=>g195L0ok m h m
def g163H:Hints:=⟨[J [2,3,4],J [2,3,4,5,6],J [2,3,4,5,6,17],J' [(2,1),(3,1)] [4],J [2,3,4,5,6,27],J' [(2,1),(3,1)] [4],J' [(2,1),(3,1)] [4]],[],[],[4],[],[[false,false]]⟩
def g163T:FunT:=⟨163,[hY3,hY3],hY3,[sD,sD],un (g163 m)⟩
def g163ok:FO (g163T m):=fk g163H (g163T m) func163 (AllF.mem (l:=[g166T m,g193T m,g127T m,g194T m,g195T m]) ⟨g166ok m,g193ok m,g127ok m,g194ok m,g195ok m,trivial⟩)
def g126H:Hints:=⟨[J [2,3,4],J [4]],[],[],[4],[],[[false,false]]⟩
def g126T:FunT:=⟨126,[hY3,hY3],hY3,[sD,sD],un (g126 m)⟩
def g126ok:FO (g126T m):=fk g126H (g126T m) func126 (AllF.mem (l:=[g164T m,g163T m]) ⟨g164ok m,g163ok m,trivial⟩)
def g80H:Hints:=⟨[J [1,2,4],J [1,2,4],J [1,2,4,11],J' [(4,1)] [4],J' [(2,1),(5,1)] [2,4,5,6],J' [(2,1)] [2,4,6,7],J' [(2,1),(3,1)] [4,7,35],J [4,7],J [4]],[],[],[4],[],[[false,false]]⟩
def g80T:FunT:=⟨80,[hY3,sI],hY3,[sD,sD],un (g80 m)⟩
def g80ok:FO (g80T m):=fk g80H (g80T m) func80 (AllF.mem (l:=[g117T m,g128T m,g127T m,g129T m,g123T m,g126T m]) ⟨g117ok m,g128ok m,g127ok m,g129ok m,g123ok m,g126ok m,trivial⟩)
def g136H:Hints:=⟨[J [1,2,4],J [1,2,4,6],J [1,2,4],J' [(0,1)] [1,2,4],J' [(1,1)] [4]],[(0,[1,2,4])],[(0,[1,2,4]),(1,[1,2,4])],[4],[],[[false,false]]⟩
def g136T:FunT:=⟨136,[hY3,sI],hY3,[sD,sD],un (g136 m)⟩
noncomputable def g136C:Code:=codeOf f136
noncomputable def g136B0:Code:=qm g136C 0 0
def g136K:FL [g80T m]:=AllF.mem ⟨g80ok m,trivial⟩
def g136L0X:LT:=⟨0,[(1,sI),(2,sX 0 [.bool,.imm (.int .u32)]),(4,sX 1 [.bool,.nm 2 (.int .u32)])],[(.exit 0,[(1,sI),(2,sX 0 [.bool,.imm (.int .u32)]),(4,sX 1 [.bool,.nm 2 (.int .u32)])])],λn=>uq (g136L0 m n)⟩
def g136L0ok {E} (hE:EO E 15 g136H) (n):LO E g136B0 ((g136L0X m).at n):=lk hE (g136K m) (g136L0X m) n
def g136ok:FO (g136T m):=f1' g136H (g136T m) func136 (g136K m) λ_ h=>g136L0ok m h m
def g170H:Hints:=⟨[J [0,2],J [0,2,4],J' [(0,1)] [0],J [0,2],J [0,2,8],J' [(0,1)] [0,2],J' [(0,1)] [0,2],J' [(0,1),(1,1)] [2]],[],[],[2],[],[[false]]⟩
def g170T:FunT:=⟨170,[hA4],sI,[sD],un (g170 m)⟩
def g170ok:FO (g170T m):=fk g170H (g170T m) func170 noF
def g130H:Hints:=⟨[J [1],J [3],J [3,9],J [2],J [2]],[],[],[2],[],[[false]]⟩
def g130T:FunT:=⟨130,[hY3],sI,[sD],un (g130 m)⟩
def g130ok:FO (g130T m):=fk g130H (g130T m) func130 (AllF.mem (l:=[g166T m,g170T m]) ⟨g166ok m,g170ok m,trivial⟩)
def g84H:Hints:=⟨[J [1,2,4],J [1,2,4,5],J [1,2,4,5,13],J [4],J [1,2,4,5,16],J [4],J [1,2,4,5,6],J' [(0,1)] [2,4,5,6,7],J [2,4,5,6,7],J' [(1,1)] [2,4,5,7],J' [(2,1)] [2,4,5,7,36],J [4],J [4,5,7],J' [(1,1)] [4]],[],[],[4],[],[[false,false,false,false]]⟩
def g84T:FunT:=⟨84,[hY3,sI],hM3,[sD,sD],un (g84 m)⟩
def g84ok:FO (g84T m):=fk g84H (g84T m) func84 (AllF.mem (l:=[g117T m,g83T m,g135T m,g82T m,g136T m,g130T m]) ⟨g117ok m,g83ok m,g135ok m,g82ok m,g136ok m,g130ok m,trivial⟩)
def g148H:Hints:=⟨[J [0,2],J' [(0,1)] [2]],[],[],[2],[],[[false,false,false,false]]⟩
def g148T:FunT:=⟨148,[sI],hM3,[sD],un (g148 m)⟩
def g148ok:FO (g148T m):=fk g148H (g148T m) func148 (AllF.mem (l:=[g123T m,g84T m]) ⟨g123ok m,g84ok m,trivial⟩)
def g68H:Hints:=⟨[J [1,2],J [1,2,4],J [2],J [2]],[],[],[2],[],[[false,false,false,false]]⟩
def g68T:FunT:=⟨68,[hM3],hM3,[sD],un (g68 m)⟩
def g68ok:FO (g68T m):=fk g68H (g68T m) func68 (AllF.mem (l:=[g83T m,g84T m]) ⟨g83ok m,g84ok m,trivial⟩)
def g69H:Hints:=⟨[J [1],J [1],J [1,5],J [2],J [10],J [2],J [2]],[],[(0,[])],[2],[],[[false]]⟩
def g69T:FunT:=⟨69,[hY3],sI,[sD],un (g69 m)⟩
def g69ok:FO (g69T m):=fk g69H (g69T m) func69 (AllF.mem (l:=[g117T m]) ⟨g117ok m,trivial⟩)
def g134H:Hints:=⟨[J [0,1],J' [(0,1)] [1,5],J' [(0,1)] [4],J' [(0,1)] [4]],[],[],[4],[],[[false]]⟩
def g134T:FunT:=⟨134,[sB,sU],sU,[sD,sD],un (g134 m)⟩
def g134ok:FO (g134T m):=fk g134H (g134T m) func134 noF
def g131H:Hints:=⟨[J [0,1],J' [(2,1),(5,1),(10,1),(13,1)] [0,21],J' [(0,1)] [4],J' [(0,1)] [4]],[],[],[4],[],[[false]]⟩
def g131T:FunT:=⟨131,[sB,sI],sU,[sD,sD],un (g131 m)⟩
def g131ok:FO (g131T m):=fk g131H (g131T m) func131 (AllF.mem (l:=[g134T m]) ⟨g134ok m,trivial⟩)
def g171H:Hints:=⟨[J [1,2],J' [(3,1),(5,1)] [6],J' [(0,1)] [4]],[],[],[4],[],[[false]]⟩
def g171T:FunT:=⟨171,[hY3,sI],sB,[sD,sD],un (g171 m)⟩
def g171ok:FO (g171T m):=fk g171H (g171T m) func171 (AllF.mem (l:=[g166T m,g129T m]) ⟨g166ok m,g129ok m,trivial⟩)
def g172H:Hints:=⟨[J [0,1,2,3],J' [(0,1)] [0,1,2,9],J [0,1,2,9,10],J' [(0,1)] [8],J [0,1,2,9,13],J' [(0,1)] [8],J [1,2,17],J [8],J' [(2,1),(5,1),(6,1)] [8]],[],[(0,[1,2])],[8],[],[[false]]⟩
def g172T:FunT:=⟨172,[sB,sI,sB,sI],sB,[sD,sD,sD,sD],un (g172 m)⟩
def g172ok:FO (g172T m):=fk g172H (g172T m) func172 noF
def g132H:Hints:=⟨[J [0,2,3,4,6,10],J [0,2,3,4,6,10,11],J [0,2,3,4,6,10,11,12],J' [(0,1),(2,1)] [0,2,3,4,6,10,11,27],J [10],J [0,2,3,4,6,10,11,13],J [0,2,3,4,6,10,11,13,30],J [0,2,3,4,6,10,11,13,14],J' [(3,1)] [0,2,3,4,6,10,11,13,42],J [0,2,3,4,6,10,11,13],J' [(0,1),(1,1),(3,1)] [0,4,10,11,13,49],J [0,4,10,11,13],J' [(3,1)] [0,4,10,11,13,15],J' [(0,1),(1,1),(2,1),(3,1)] [10,11,62],J [10,11],J [10]],[],[],[10],[],[[false,false]]⟩
def g132T:FunT:=⟨132,[sB,hY3,sI,sB,sI],hY3,[sD,sD,sD,sD,sD],un (g132 m)⟩
def g132ok:FO (g132T m):=fk g132H (g132T m) func132 (AllF.mem (l:=[g136T m,g171T m,g135T m,g69T m,g172T m,g123T m,g163T m]) ⟨g136ok m,g171ok m,g135ok m,g69ok m,g172ok m,g123ok m,g163ok m,trivial⟩)
def g133H:Hints:=⟨[J [1],J [1],J [1,11],J [2,3],J [1,4],J [1,4,5],J [1,4,5,16],J' [(0,1)] [1,4,5],J' [(0,1)] [1,4,5],J [4,31],J [4,33],J [2,3],J' [(0,1)] [2,3],J [4,40],J [2,3],J' [(0,1)] [2,3]],[(0,[1,4,5])],[(0,[1,4]),(1,[1,4,5])],[2,3],[],[[false],[false]]⟩
def g133T:FunT:=⟨133,[hY3],.tup [(.c (.int .i64)),(.c .bool)],[sD],un (g133 m)⟩
noncomputable def g133C:Code:=codeOf f133
noncomputable def g133B0:Code:=qm g133C 0 0
def g133K:FL [g117T m]:=AllF.mem ⟨g117ok m,trivial⟩
def g133L0X:LT:=⟨0,[(1,sX 0 [.bool,.imm (.int .u32)]),(4,sU),(5,sI)],[(.exit 0,[(1,sX 0 [.bool,.imm (.int .u32)]),(4,sU)])],λn=>uq (g133L0 m n)⟩
def g133L0ok {E} (hE:EO E 43 g133H) (n):LO E g133B0 ((g133L0X m).at n):=lk hE (g133K m) (g133L0X m) n
def g133ok:FO (g133T m):=f1' g133H (g133T m) func133 (g133K m) λ_ h=>g133L0ok m h m
def g81H:Hints:=⟨[J [0,2,3,4,6],J [0,2,3,4,6,11],J [0,2,3,4,6,11,22],J' [(0,1),(1,1)] [10],J' [(0,1)] [0,2,3,4,6,12],J [0,2,3,4,6,12,13],J [0,2,3,4,6,12,13,31],J' [(3,1),(5,1)] [0,4,12,13],J' [(1,1)] [0,4,12,13],J' [(2,1)] [0,4,12,14],J [0,4,12,14,51],J [0,4,12,14],J' [(0,1)] [0,4,12,14],J' [(2,1)] [0,4,12,14,54],J' [(0,1),(1,1)] [10],J [0,12,14,65],J' [(0,1),(1,1),(5,1)] [10],J' [(0,1),(1,1)] [10]],[],[(0,[0,14])],[10],[],[[false]]⟩
def g81T:FunT:=⟨81,[sB,hY3,sI,sB,sI],sU,[sD,sD,sD,sD,sD],un (g81 m)⟩
def g81ok:FO (g81T m):=fk g81H (g81T m) func81 (AllF.mem (l:=[g130T m,g131T m,g132T m,g133T m,g134T m,g80T m]) ⟨g130ok m,g131ok m,g132ok m,g133ok m,g134ok m,g80ok m,trivial⟩)
def g47H:Hints:=⟨[J [1,2],J [1,2],J [1,2,8],J [4],J [1,2,12],J [4],J' [(8,1)] [4]],[],[],[4],[],[[false]]⟩
def g47T:FunT:=⟨47,[hM3,sI],sU,[sD,sD],un (g47 m)⟩
def g47ok:FO (g47T m):=fk g47H (g47T m) func47 (AllF.mem (l:=[g68T m,g69T m,g82T m,g81T m]) ⟨g68ok m,g69ok m,g82ok m,g81ok m,trivial⟩)
def g96H:Hints:=⟨[J [0,1],J' [(0,1),(2,1)] [4]],[],[],[4],[],[[false]]⟩
def g96T:FunT:=⟨96,[sI,sI],sU,[sD,sD],un (g96 m)⟩
def g96ok:FO (g96T m):=fk g96H (g96T m) func96 (AllF.mem (l:=[g148T m,g47T m]) ⟨g148ok m,g47ok m,trivial⟩)
def g53H:Hints:=⟨[J [0],J' [(0,1)] [2]],[],[],[2],[],[[false]]⟩
def g53T:FunT:=⟨53,[sU],sU,[sD],un (g53 m)⟩
def g53ok:FO (g53T m):=fk g53H (g53T m) func53 (AllF.mem (l:=[g96T m]) ⟨g96ok m,trivial⟩)
def g21H:Hints:=⟨[J [0,1],J' [(0,1)] [0,7],J [0,7,8],J [4],J [0,7,18],J [4],J [0,28],J' [(0,1)] [5],J [5,33],J [4],J' [(0,1)] [4],J' [(0,1)] [4]],[],[(0,[0])],[4],[],[[false]]⟩
def g21T:FunT:=⟨21,[sU,sI],sU,[sD,sD],un (g21 m)⟩
def g21ok:FO (g21T m):=fk g21H (g21T m) func21 (AllF.mem (l:=[g14T m,g23T m,g53T m]) ⟨g14ok m,g23ok m,g53ok m,trivial⟩)
def g25H:Hints:=⟨[J [0,1,2,3,8],J [0,1,2,3,8,9],J [0,1,2,3,8,9,10],J [0,1,2,3,8,9,10,19],J' [(0,1)] [0,1,2,3,8,9,10],J [0,1,2,3,8,9,10,11],J [0,1,2,3,8,9,10,11,24],J' [(0,1)] [0,1,2,3,8,9,10,11],J [0,1,2,3,8,9,10,11,12],J [0,1,2,3,8,9,10,11,12,38],J' [(1,1)] [0,1,2,3,8,9,10,11,12],J' [(2,1),(6,3)] [0,1,2,3,8,9,10,11],J' [(1,1)] [0,1,2,3,8,9,10],J' [(0,1)] [8]],[(0,[0,1,2,3,8,9,10]),(2,[0,1,2,3,8,9,10,11])],[(0,[8,9]),(1,[0,1,2,3,8,9,10]),(2,[0,1,2,3,8,9,10]),(3,[0,1,2,3,8,9,10,11])],[8],[],[[false,false,true,true,true]]⟩
def g25T:FunT:=⟨25,[h73,sI,sI,sI],.a (.agg [(.int .i64),(.int .i64),(.nm 0 (.int .i64)),(.nm 1 (.int .i64)),(.nm 2 (.int .u64))]),[sD,sD,sD,sD],un (g25 m)⟩
noncomputable def g25C:Code:=codeOf f25
noncomputable def g25B0:Code:=qm g25C 0 0
noncomputable def g25B2:Code:=qm g25B0 0 0
def g25K:FL [g32T m,g21T m]:=AllF.mem ⟨g32ok m,g21ok m,trivial⟩
def g25L1X:LT:=⟨2,[(0,h73),(1,sI),(2,sI),(3,sI),(8,sX 0 [iI,iI,iM 1,iM 2,.nm 3 (.int .u64)]),(9,sX 4 [iI,iI,iM 5,iM 6,.nm 7 (.int .u64)]),(10,sI),(11,sI)],[(.exit 2,[(0,h73),(1,sI),(2,sI),(3,sI),(8,sX 0 [iI,iI,iM 1,iM 2,.nm 3 (.int .u64)]),(9,sX 4 [iI,iI,iM 5,iM 6,.nm 7 (.int .u64)]),(10,sI)])],λn=>uq (g25L1 m n)⟩
def g25L1ok {E} (hE:EO E 62 g25H) (n):LO E g25B2 ((g25L1X m).at n):=lk hE (g25K m) (g25L1X m) n
def g25L0X:LT:=⟨0,[(0,h73),(1,sI),(2,sI),(3,sI),(8,sX 0 [iI,iI,iM 1,iM 2,.nm 3 (.int .u64)]),(9,sX 4 [iI,iI,iM 5,iM 6,.nm 7 (.int .u64)]),(10,sI)],[(.exit 0,[(8,sX 0 [iI,iI,iM 1,iM 2,.nm 3 (.int .u64)]),(9,sX 4 [iI,iI,iM 5,iM 6,.nm 7 (.int .u64)])])],λn=>uq (g25L0 m n)⟩
def g25L0ok {E} (hE:EO E 62 g25H) (n):LO E g25B0 ((g25L0X m).at n):=
 lok hmix htt hE (g25K m) (L:=[(g25L1X m).at m]) (g25L0X m) (l:=[(2,g25B2)]) kR (λ_ _=>⟨qi ⟨yb (g25L1ok m hE m),trivial⟩,trivial⟩) (λn x=>kR) (λ_=>kR) n
def g25ok:FO (g25T m):=f1' g25H (g25T m) func25 (g25K m) λ_ h=>g25L0ok m h m
def g99H:Hints:=⟨[J [0,1,2],J' [(1,1),(3,1),(5,1)] [6]],[],[],[6],[],[[false]]⟩
def g99T:FunT:=⟨99,[sI,sI,sI],sB,[sD,sD,sD],un (g99 m)⟩
def g99ok:FO (g99T m):=fk g99H (g99T m) func99 noF
def g198H:Hints:=⟨[J [0],J [2]],[],[],[2],[],[[false]]⟩
def g198T:FunT:=⟨198,[sI],sB,[sD],un (g198 m)⟩
def g198ok:FO (g198T m):=fk g198H (g198T m) func198 noF
def g186H:Hints:=⟨[J [0,1],J' [(2,1),(7,1)] [4]],[],[],[4],[],[[false]]⟩
def g186T:FunT:=⟨186,[sI,sI],sB,[sD,sD],un (g186 m)⟩
def g186ok:FO (g186T m):=fk g186H (g186T m) func186 (AllF.mem (l:=[g198T m]) ⟨g198ok m,trivial⟩)
def g153H:Hints:=⟨[J [0],J [0,3],J [0,3,8],J' [(0,1)] [0,3],J [0,3,20],J [2],J [2]],[(0,[0,3])],[(0,[]),(1,[0,3])],[2],[],[[false]]⟩
def g153T:FunT:=⟨153,[sL],sB,[sD],un (g153 m)⟩
noncomputable def g153C:Code:=codeOf f153
noncomputable def g153B0:Code:=qm g153C 0 0
def g153K:FL [g186T m]:=AllF.mem ⟨g186ok m,trivial⟩
def g153L0X:LT:=⟨0,[(0,sL),(3,sI)],[(.ret,[(2,sB)]),(.exit 0,[])],λn=>uq (g153L0 m n)⟩
def g153L0ok {E} (hE:EO E 21 g153H) (n):LO E g153B0 ((g153L0X m).at n):=lk hE (g153K m) (g153L0X m) n
def g153ok:FO (g153T m):=f1' g153H (g153T m) func153 (g153K m) λ_ h=>g153L0ok m h m
def g100H:Hints:=⟨[J [1],J' [(7,1),(14,1),(20,1),(32,1)] [1,47],J [2],J [1,49,50],J [1,49,50,51],J [1,3,49,50],J [1,3,4,49,50],J [1,4,49,50,66,67,68],J [1,4,49,50,66,67,68,69],J [1,4,6,49,50,66,67,68],J' [(1,1),(3,1)] [1,6,49,50,66,67,68,80],J [2],J' [(0,1)] [1,4,49,50,66,67,68],J' [(1,1)] [1,4,49,50,66,67,68],J' [(1,1)] [1,49,50],J [2]],[(0,[1,49,50]),(2,[1,4,49,50,66,67,68])],[(0,[]),(1,[1,49,50]),(2,[1,49,50]),(3,[1,4,49,50,66,67,68])],[2],[],[[false]]⟩
def g100T:FunT:=⟨100,[h71],sB,[sD],un (g100 m)⟩
noncomputable def g100C:Code:=codeOf f100
noncomputable def g100B0:Code:=qm g100C 0 0
noncomputable def g100B2:Code:=qm g100B0 0 0
def g100K:FL [g153T m]:=AllF.mem ⟨g153ok m,trivial⟩
def g100L1X:LT:=⟨2,[(1,sX 0 [iI,iI,iL,iL,.imm (.int .u64)]),(4,sI),(49,sI),(50,sI),(66,sL),(67,sI),(68,sI)],[(.ret,[(2,sB)]),(.exit 2,[(1,sX 0 [iI,iI,iL,iL,.imm (.int .u64)]),(49,sI),(50,sI)])],λn=>uq (g100L1 m n)⟩
def g100L1ok {E} (hE:EO E 84 g100H) (n):LO E g100B2 ((g100L1X m).at n):=lk hE (g100K m) (g100L1X m) n
def g100L0X:LT:=⟨0,[(1,sX 0 [iI,iI,iL,iL,.imm (.int .u64)]),(49,sI),(50,sI)],[(.ret,[(2,sB)]),(.exit 0,[])],λn=>uq (g100L0 m n)⟩
def g100L0ok {E} (hE:EO E 84 g100H) (n):LO E g100B0 ((g100L0X m).at n):=
 lok hmix htt hE (g100K m) (L:=[(g100L1X m).at m]) (g100L0X m) (l:=[(2,g100B2)]) kR (λ_ _=>⟨qi ⟨yb (g100L1ok m hE m),trivial⟩,trivial⟩) (λn x=>kR) (λ_=>kR) n
def g100ok:FO (g100T m):=f1' g100H (g100T m) func100 (g100K m) λ_ h=>g100L0ok m h m
def g103H:Hints:=⟨[J [0],J [2,3]],[],[],[2,3],[],[[false],[false]]⟩
def g103T:FunT:=⟨103,[sU],.tup [(.c (.int .i64)),(.c (.int .u64))],[sD],un (g103 m)⟩
def g103ok:FO (g103T m):=fk g103H (g103T m) func103 noF
def g61H:Hints:=⟨[J [0],J' [(0,1),(2,1)] [3],J' [(0,1)] [2]],[],[],[2],[],[[false]]⟩
def g61T:FunT:=⟨61,[sU],sB,[sD],un (g61 m)⟩
def g61ok:FO (g61T m):=fk g61H (g61T m) func61 (AllF.mem (l:=[g103T m]) ⟨g103ok m,trivial⟩)
def g102H:Hints:=⟨[J [0],J' [(0,1)] [2]],[],[],[2],[],[[false]]⟩
def g102T:FunT:=⟨102,[sU],sB,[sD],un (g102 m)⟩
def g102ok:FO (g102T m):=fk g102H (g102T m) func102 (AllF.mem (l:=[g61T m]) ⟨g61ok m,trivial⟩)
def g154H:Hints:=⟨[J [0,1],J [0,1,7,8],J [0,1,7,8,9],J [0,1,5,7,8],J [0,1,5,7,8,16],J' [(0,1)] [4],J' [(1,1)] [0,1,7,8],J [4]],[(0,[0,1,7,8])],[(0,[]),(1,[0,1,7,8])],[4],[],[[false]]⟩
def g154T:FunT:=⟨154,[h73,hC4],sI,[sD,sD],un (g154 m)⟩
noncomputable def g154C:Code:=codeOf f154
noncomputable def g154B0:Code:=qm g154C 0 0
def g154K:FL [g102T m]:=AllF.mem ⟨g102ok m,trivial⟩
def g154L0X:LT:=⟨0,[(0,h73),(1,hC4),(7,sI),(8,sI)],[(.ret,[(4,sI)]),(.exit 0,[])],λn=>uq (g154L0 m n)⟩
def g154L0ok {E} (hE:EO E 19 g154H) (n):LO E g154B0 ((g154L0X m).at n):=lk hE (g154K m) (g154L0X m) n
def g154ok:FO (g154T m):=f1' g154H (g154T m) func154 (g154K m) λ_ h=>g154L0ok m h m
def g101H:Hints:=⟨[J [0,1],J' [(0,1),(1,1)] [4]],[],[],[4],[],[[false]]⟩
def g101T:FunT:=⟨101,[h73,hC4],sB,[sD,sD],un (g101 m)⟩
def g101ok:FO (g101T m):=fk g101H (g101T m) func101 (AllF.mem (l:=[g154T m]) ⟨g154ok m,trivial⟩)
def g59H:Hints:=⟨[J [1],J' [(4,1),(10,1)] [1,3],J [2],J [1,20],J [2],J [24],J [2],J [2]],[],[(0,[])],[2],[],[[false]]⟩
def g59T:FunT:=⟨59,[h71],sI,[sD],un (g59 m)⟩
def g59ok:FO (g59T m):=fk g59H (g59T m) func59 (AllF.mem (l:=[g99T m,g100T m,g101T m]) ⟨g99ok m,g100ok m,g101ok m,trivial⟩)
def g60H:Hints:=⟨[J [0],J' [(0,1),(2,1)] [3,4],J' [(2,1)] [3,4,10],J [2],J [3,4,17],J [2],J' [(0,1),(2,1),(3,1)] [20],J [2],J [2]],[],[(0,[])],[2],[],[[false]]⟩
def g60T:FunT:=⟨60,[sU],sI,[sD],un (g60 m)⟩
def g60ok:FO (g60T m):=fk g60H (g60T m) func60 (AllF.mem (l:=[g103T m]) ⟨g103ok m,trivial⟩)
def g33H:Hints:=⟨[J [1,2,3],J [1,2,3,7],J [1,2,3,7,11],J' [(0,1)] [6],J [1,2,3,13],J [6],J [1,2,19],J [6],J' [(3,1),(4,1),(6,1)] [23],J [6],J [6]],[],[(0,[])],[6],[],[[false]]⟩
def g33T:FunT:=⟨33,[h71,sU,sB],sI,[sD,sD,sD],un (g33 m)⟩
def g33ok:FO (g33T m):=fk g33H (g33T m) func33 (AllF.mem (l:=[g59T m,g60T m,g61T m]) ⟨g59ok m,g60ok m,g61ok m,trivial⟩)
def g140H:Hints:=⟨[J [0],J [0,3],J' [(2,1)] [0,3,15],J' [(0,1)] [0,3],J' [(0,1),(1,1)] [2]],[(0,[0,3])],[(0,[0,3]),(1,[0,3])],[2],[],[[false]]⟩
def g140T:FunT:=⟨140,[h83],h83,[sD],un (g140 m)⟩
noncomputable def g140C:Code:=codeOf f140
noncomputable def g140B0:Code:=qm g140C 0 0
def g140L0X:LT:=⟨0,[(0,h83),(3,sI)],[(.exit 0,[(0,h83),(3,sI)])],λn=>uq (g140L0 m n)⟩
def g140L0ok {E} (hE:EO E 21 g140H) (n):LO E g140B0 ((g140L0X m).at n):=lk hE noF (g140L0X m) n
def g140ok:FO (g140T m):=f1' g140H (g140T m) func140 noF λ_ h=>g140L0ok m h m
def g146H:Hints:=⟨[J [0,1,4],J' [(0,1)] [0,1,4],J [0,1,4,9],J [4],J' [(0,1),(1,1)] [4]],[],[],[4],[],[[false,false]]⟩
def g146T:FunT:=⟨146,[sB,h83],hY3,[sD,sD],un (g146 m)⟩
def g146ok:FO (g146T m):=fk g146H (g146T m) func146 (AllF.mem (l:=[g140T m]) ⟨g140ok m,trivial⟩)
def g109H:Hints:=⟨[J [0,2],J [0,2,3],J [0,2,3,7],J' [(0,1)] [0,2,3],J' [(0,1)] [2]],[],[],[2],[],[[false,false]]⟩
def g109T:FunT:=⟨109,[sI],hY3,[sD],un (g109 m)⟩
def g109ok:FO (g109T m):=fk g109H (g109T m) func109 (AllF.mem (l:=[g146T m]) ⟨g146ok m,trivial⟩)
def g110H:Hints:=⟨[J [0],J' [(0,1)] [2]],[],[],[2],[],[[false]]⟩
def g110T:FunT:=⟨110,[sU],sB,[sD],un (g110 m)⟩
def g110ok:FO (g110T m):=fk g110H (g110T m) func110 noF
def g147H:Hints:={regs:=[J [0],J [0],J [2],J [2]],heads:=[],exits:=[],rets:=[2],pins:=[],spec:=[[true]]}
abbrev g147A:List Sh:=[h83]
abbrev g147S:Sh:= ha3
abbrev g147U:List Sh:=[sD]
def g147R:Xc g147A->Option (g147S.Val×Xc g147U):=λx=>g147 m x.1
def g147T:FunT:=⟨147,g147A,g147S,g147U,g147R m⟩
noncomputable def g147C:Code:=codeOf f147
def g147ok:FO (g147T m):=
 qna hmix htt (H:=g147H) (fn:=f147) (f:=147) (t:=(.int .u32)) (ty:=72) (e:=132) (ty2:=72) (k:=1) (cells:=[.nil (.int .u32)]) (A:=pA g147C) (X:=pX (pB (pA (pB g147C)))) (Y:=pB (pB g147C)) (o0:=pO 0 (pA (pA (pB g147C)))) (o1:=pO 1 (pA (pA (pB g147C)))) func147 kR kR kR kR kR kR kR kR kR (of_decide_eq_true kR) rfl kR kR kR (λxs=>[(0,.sl .imm (.int .u32) xs)]) (λxs=>[(2,.sl (.nm 0) (.int .u32) xs)]) (λxs=>kR) (λ_=>rfl) (λ_=>rfl) (λ_=>rfl) kR (λxs=>kR) (λxs=>kR)
def g111H:Hints:=⟨[J [1,2],J [2]],[],[],[2],[],[[false,false]]⟩
def g111T:FunT:=⟨111,[hY3],hY3,[sD],un (g111 m)⟩
def g111ok:FO (g111T m):=fk g111H (g111T m) func111 (AllF.mem (l:=[g147T m,g146T m]) ⟨g147ok m,g146ok m,trivial⟩)
def g145H:Hints:=⟨[J [0],J [0]],[],[],[0],[],[[false,false,true,false]]⟩
def g145T:FunT:=⟨145,[],hI3,[],λx=>g145 m⟩
def g145ok:FO (g145T m):=fk g145H (g145T m) func145 noF
def g95H:Hints:=⟨[J [1,2],J [2]],[],[],[2],[],[[false,false]]⟩
def g95T:FunT:=⟨95,[hY3],hY3,[sD],un (g95 m)⟩
def g95ok:FO (g95T m):=fk g95H (g95T m) func95 (AllF.mem (l:=[g147T m,g146T m]) ⟨g147ok m,g146ok m,trivial⟩)
def g91H:Hints:=⟨[J [1],J [1,3],J [2],J [9],J [2],J [2]],[],[(0,[])],[2],[],[[false]]⟩
def g91T:FunT:=⟨91,[hY3],sI,[sD],un (g91 m)⟩
def g91ok:FO (g91T m):=fk g91H (g91T m) func91 (AllF.mem (l:=[g140T m]) ⟨g140ok m,trivial⟩)
def g149H:Hints:=⟨[J [1],J [6,7,8],J [6,7,8,9],J [3,4,6,7,8],J [3,4,6,7,8,14],J' [(0,1),(2,1)] [2],J' [(1,1)] [6,7,8],J [2]],[(0,[6,7,8])],[(0,[]),(1,[6,7,8])],[2],[],[[false]]⟩
def g149T:FunT:=⟨149,[hY3],sI,[sD],un (g149 m)⟩
noncomputable def g149C:Code:=codeOf f149
noncomputable def g149B0:Code:=qm g149C 0 0
def g149K:FL [g173T m]:=AllF.mem ⟨g173ok m,trivial⟩
def g149L0X:LT:=⟨0,[(6,h83),(7,sI),(8,sI)],[(.ret,[(2,sI)]),(.exit 0,[])],λn=>uq (g149L0 m n)⟩
def g149L0ok {E} (hE:EO E 21 g149H) (n):LO E g149B0 ((g149L0X m).at n):=lk hE (g149K m) (g149L0X m) n
def g149ok:FO (g149T m):=f1' g149H (g149T m) func149 (g149K m) λ_ h=>g149L0ok m h m
def g184H:Hints:=⟨[J [0],J [0,5],J [2],J [2]],[],[],[2],[],[[false]]⟩
def g184T:FunT:=⟨184,[h83],sI,[sD],un (g184 m)⟩
def g184ok:FO (g184T m):=fk g184H (g184T m) func184 (AllF.mem (l:=[g170T m]) ⟨g170ok m,trivial⟩)
def g150H:Hints:=⟨[J [1],J [2]],[],[],[2],[],[[false]]⟩
def g150T:FunT:=⟨150,[hY3],sI,[sD],un (g150 m)⟩
def g150ok:FO (g150T m):=fk g150H (g150T m) func150 (AllF.mem (l:=[g140T m,g184T m]) ⟨g140ok m,g184ok m,trivial⟩)
def g182H:Hints:=⟨[J [0,1],J [0,1,13],J [4],J [0,5,6],J [0,5,6,7],J' [(0,1)] [5,6,7,25,26,27],J [5,6,7,25,26,27,28],J [5,6,7,8,9,25,26,27],J' [(0,1)] [5,6,7,8,10,25,26,27],J [5,6,7,8,10,25,26,27],J' [(2,1),(5,1)] [5,6,7,25,26,27],J' [(1,1)] [5,6,7,25,26,27],J' [(0,1)] [4]],[(0,[5,6,7,25,26,27])],[(0,[7]),(1,[5,6,7,25,26,27])],[4],[],[[false]]⟩
def g182T:FunT:=⟨182,[h83,sI],h83,[sD,sD],un (g182 m)⟩
noncomputable def g182C:Code:=codeOf f182
noncomputable def g182B0:Code:=qm g182C 0 0
def g182K:FL [g140T m]:=AllF.mem ⟨g140ok m,trivial⟩
def g182L0X:LT:=⟨0,[(5,sI),(6,sU),(7,ha3),(25,h83),(26,sI),(27,sI)],[(.exit 0,[(7,ha3)])],λn=>uq (g182L0 m n)⟩
def g182L0ok {E} (hE:EO E 59 g182H) (n):LO E g182B0 ((g182L0X m).at n):=lk hE (g182K m) (g182L0X m) n
def g182ok:FO (g182T m):=f1' g182H (g182T m) func182 (g182K m) λ_ h=>g182L0ok m h m
def g203H:Hints:=⟨[J [0],J' [(0,1)] [2]],[],[],[2],[],[[false]]⟩
def g203T:FunT:=⟨203,[hA4],sB,[sD],un (g203 m)⟩
def g203ok:FO (g203T m):=fk g203H (g203T m) func203 noF
def g210H:Hints:=⟨[J [0,1],J [0,1,7,8],J [0,1,7,8,9],J [0,1,5,7,8],J [0,1,5,7,8,16],J' [(0,1)] [4],J' [(1,1)] [0,1,7,8],J [4]],[(0,[0,1,7,8])],[(0,[]),(1,[0,1,7,8])],[4],[],[[false]]⟩
def g210T:FunT:=⟨210,[h83,hE4],sI,[sD,sD],un (g210 m)⟩
noncomputable def g210C:Code:=codeOf f210
noncomputable def g210B0:Code:=qm g210C 0 0
def g210K:FL [g203T m]:=AllF.mem ⟨g203ok m,trivial⟩
def g210L0X:LT:=⟨0,[(0,h83),(1,hE4),(7,sI),(8,sI)],[(.ret,[(4,sI)]),(.exit 0,[])],λn=>uq (g210L0 m n)⟩
def g210L0ok {E} (hE:EO E 19 g210H) (n):LO E g210B0 ((g210L0X m).at n):=lk hE (g210K m) (g210L0X m) n
def g210ok:FO (g210T m):=f1' g210H (g210T m) func210 (g210K m) λ_ h=>g210L0ok m h m
def g202H:Hints:=⟨[J [0,1],J' [(0,1),(1,1)] [4]],[],[],[4],[],[[false]]⟩
def g202T:FunT:=⟨202,[h83,hE4],sB,[sD,sD],un (g202 m)⟩
def g202ok:FO (g202T m):=fk g202H (g202T m) func202 (AllF.mem (l:=[g210T m]) ⟨g210ok m,trivial⟩)
def g183H:Hints:=⟨[J [0,1],J [0,6,7],J [0,6,7,20],J' [(0,1)] [4,5],J' [(4,1)] [0,6,7,8],J [0,6,7,8,9],J [0,6,7,8,9,45,46],J [0,6,7,8,9,45,46,47],J [0,6,7,8,9,10,45,46],J [0,6,7,8,9,10,11,45,46],J [0,6,7,8,9,10,11,45,46,62],J' [(0,1)] [0,6,7,8,9,10,11,45,46],J' [(1,1),(2,1)] [0,6,7,8,9,45,46],J' [(1,1)] [0,6,7,8,9,45,46],J' [(0,1),(2,1)] [4,5]],[(0,[0,6,7,8,9,45,46])],[(0,[8,9]),(1,[0,6,7,8,9,45,46])],[4,5],[],[[false],[false]]⟩
def g183T:FunT:=⟨183,[h83,sI],.tup [(.c (.imm (.int .u32))),(.c .bool)],[sD,sD],un (g183 m)⟩
noncomputable def g183C:Code:=codeOf f183
noncomputable def g183B0:Code:=qm g183C 0 0
def g183K:FL [g202T m,g140T m]:=AllF.mem ⟨g202ok m,g140ok m,trivial⟩
def g183L0X:LT:=⟨0,[(0,h83),(6,sI),(7,sU),(8,sB),(9,ha3),(45,sI),(46,sI)],[(.exit 0,[(8,sB),(9,ha3)])],λn=>uq (g183L0 m n)⟩
def g183L0ok {E} (hE:EO E 86 g183H) (n):LO E g183B0 ((g183L0X m).at n):=lk hE (g183K m) (g183L0X m) n
def g183ok:FO (g183T m):=f1' g183H (g183T m) func183 (g183K m) λ_ h=>g183L0ok m h m
def g178H:Hints:=⟨[J [0,1],J [0,1,14],J' [(0,1),(1,1)] [0,1],J [0,1,5],J [0,1,5,6],J' [(0,1)] [1,5,6,21,22,23],J [1,5,6,21,22,23,24],J [1,5,6,7,8,21,22,23],J' [(0,1),(2,1)] [1,5,7,9,21,22,23],J [1,5,7,9,21,22,23,35],J' [(0,1),(2,1)] [1,5,9,21,22,23],J' [(0,1)] [1,5,9,21,22,23],J' [(0,1)] [1,5,6,21,22,23],J' [(1,1)] [1,5,6,21,22,23],J' [(0,1),(1,1)] [4]],[(0,[1,5,6,21,22,23])],[(0,[5,6]),(1,[1,5,6,21,22,23])],[4],[],[[false]]⟩
def g178T:FunT:=⟨178,[h83,h83],h83,[sD,sD],un (g178 m)⟩
noncomputable def g178C:Code:=codeOf f178
noncomputable def g178B0:Code:=qm g178C 0 0
def g178K:FL [g140T m]:=AllF.mem ⟨g140ok m,trivial⟩
def g178L0X:LT:=⟨0,[(1,h83),(5,ha3),(6,sU),(21,h83),(22,sI),(23,sI)],[(.exit 0,[(5,ha3),(6,sU)])],λn=>uq (g178L0 m n)⟩
def g178L0ok {E} (hE:EO E 58 g178H) (n):LO E g178B0 ((g178L0X m).at n):=lk hE (g178K m) (g178L0X m) n
def g178ok:FO (g178T m):=f1' g178H (g178T m) func178 (g178K m) λ_ h=>g178L0ok m h m
def g144H:Hints:=⟨[J [1,2,4],J' [(2,1)] [1,2,4,14],J [4,5],J [1,2,4,6],J [1,2,4,6,20],J' [(2,1),(3,1)] [4,5],J' [(0,1),(1,1),(4,1)] [2,4,7,8],J' [(2,1),(3,1)] [2,4,7,38],J' [(0,1)] [2,4,7],J' [(2,1)] [4,5]],[],[],[4,5],[],[[false,false],[false]]⟩
def g144T:FunT:=⟨144,[hY3,sI],.tup [(.agg [.bool,(.imm (.int .u32))]),(.c (.int .i64))],[sD,sD],un (g144 m)⟩
def g144ok:FO (g144T m):=fk g144H (g144T m) func144 (AllF.mem (l:=[g140T m,g182T m,g146T m,g183T m,g178T m]) ⟨g140ok m,g182ok m,g146ok m,g183ok m,g178ok m,trivial⟩)
def g151H:Hints:=⟨[J [1,2,4],J [1,2,4,6],J' [(2,1)] [1,2,4],J' [(0,1)] [1,2,4],J' [(1,1),(4,1)] [2,4],J [4]],[(0,[1,2,4])],[(0,[1,2,4]),(1,[1,2,4])],[4],[],[[false,false]]⟩
def g151T:FunT:=⟨151,[hY3,sI],hY3,[sD,sD],un (g151 m)⟩
noncomputable def g151C:Code:=codeOf f151
noncomputable def g151B0:Code:=qm g151C 0 0
def g151K:FL [g144T m]:=AllF.mem ⟨g144ok m,trivial⟩
def g151L0X:LT:=⟨0,[(1,sI),(2,sX 0 [.bool,.imm (.int .u32)]),(4,sX 1 [.bool,.nm 2 (.int .u32)])],[(.exit 0,[(1,sI),(2,sX 0 [.bool,.imm (.int .u32)]),(4,sX 1 [.bool,.nm 2 (.int .u32)])])],λn=>uq (g151L0 m n)⟩
def g151L0ok {E} (hE:EO E 22 g151H) (n):LO E g151B0 ((g151L0X m).at n):=lk hE (g151K m) (g151L0X m) n
def g151ok:FO (g151T m):=f1' g151H (g151T m) func151 (g151K m) λ_ h=>g151L0ok m h m
def g97H:Hints:=⟨[J [1,2],J [1,2,7],J [2,3],J [1,2,4],J [1,2,4,14],J [2,3],J [1,2,4,5],J' [(6,1)] [1,2,4,5,30],J [2,3],J [2,3]],[],[],[2,3],[],[[false,false,false,false],[false]]⟩
def g97T:FunT:=⟨97,[hM3],.tup [(.agg [.bool,.bool,(.imm (.int .u32)),(.int .i64)]),(.c .bool)],[sD],un (g97 m)⟩
def g97ok:FO (g97T m):=fk g97H (g97T m) func97 (AllF.mem (l:=[g145T m,g95T m,g91T m,g149T m,g150T m,g151T m]) ⟨g145ok m,g95ok m,g91ok m,g149ok m,g150ok m,g151ok m,trivial⟩)
def g112H:Hints:=⟨[J [1,2,4],J' [(1,1),(4,1)] [4,5],J [4]],[],[],[4],[],[[false,false,false,false]]⟩
def g112T:FunT:=⟨112,[hY3,sI],hM3,[sD,sD],un (g112 m)⟩
def g112ok:FO (g112T m):=fk g112H (g112T m) func112 (AllF.mem (l:=[g97T m]) ⟨g97ok m,trivial⟩)
def g65H:Hints:=⟨[J [0,2],J' [(2,1)] [0,2,3,4],J [0,2,3,4,11],J' [(0,1)] [0,2,3,4],J' [(0,1)] [0,2,3,4],J [0,2,3,4,11,16],J [2],J [0,2,3,4,19],J [0,2,3,4],J' [(0,1)] [0,2,3,5],J' [(0,1)] [2,3,5,25],J [2,3,5],J' [(1,1)] [2]],[],[(0,[0,2,3,4])],[2],[],[[false,false,false,false]]⟩
def g65T:FunT:=⟨65,[sU],hM3,[sD],un (g65 m)⟩
def g65ok:FO (g65T m):=fk g65H (g65T m) func65 (AllF.mem (l:=[g103T m,g109T m,g110T m,g111T m,g112T m]) ⟨g103ok m,g109ok m,g110ok m,g111ok m,g112ok m,trivial⟩)
def g114H:Hints:=⟨[J [1,2],J' [(2,1)] [1,2,3],J' [(0,1)] [1,2,9],J [1,2],J [2]],[],[],[2],[],[[false,false,false,false]]⟩
def g114T:FunT:=⟨114,[hM3],hM3,[sD],un (g114 m)⟩
def g114ok:FO (g114T m):=fk g114H (g114T m) func114 (AllF.mem (l:=[g97T m,g111T m]) ⟨g97ok m,g111ok m,trivial⟩)
def g161H:Hints:=⟨[J [2,3,4,5],J' [(2,1)] [3,4,5,6],J' [(2,1)] [4,5,6,7],J' [(2,1),(3,1),(4,1)] [4,5,6]],[],[],[4,5,6],[],[[false,false,false,false],[false,false,false,false],[false]]⟩
def g161T:FunT:=⟨161,[hM3,hM3],.tup [(.agg [.bool,.bool,(.imm (.int .u32)),(.int .i64)]),(.agg [.bool,.bool,(.imm (.int .u32)),(.int .i64)]),(.c .bool)],[sD,sD],un (g161 m)⟩
def g161ok:FO (g161T m):=fk g161H (g161T m) func161 (AllF.mem (l:=[g97T m]) ⟨g97ok m,trivial⟩)
def g192H:Hints:=⟨[J [1,2,4],J' [(1,1),(3,1)] [2,4],J [4]],[],[],[4],[],[[false,false]]⟩
def g192T:FunT:=⟨192,[hY3,sI],hY3,[sD,sD],un (g192 m)⟩
def g192ok:FO (g192T m):=fk g192H (g192T m) func192 (AllF.mem (l:=[g144T m]) ⟨g144ok m,trivial⟩)
def g162H:Hints:=⟨[J [2,3,4,5],J [2,3,4,5,6],J [4,5,6]],[],[],[4,5,6],[],[[false,false],[false,false],[false]]⟩
def g162T:FunT:=⟨162,[hM3,hM3],.tup [(.agg [.bool,(.imm (.int .u32))]),(.agg [.bool,(.imm (.int .u32))]),(.c (.int .i64))],[sD,sD],un (g162 m)⟩
def g162ok:FO (g162T m):=fk g162H (g162T m) func162 (AllF.mem (l:=[g192T m]) ⟨g192ok m,trivial⟩)
def g176H:Hints:=⟨[J [0,1],J [0,1,5],J [0,1,5,6],J' [(0,1)] [0,1,6,11],J' [(0,1)] [12],J [4],J [4],J' [(0,1)] [0,1,13],J [4],J [0,1,16],J [4],J' [(0,1),(1,1)] [19],J [4],J [4]],[],[],[4],[],[[false]]⟩
def g176T:FunT:=⟨176,[sI,sI],sI,[sD,sD],un (g176 m)⟩
def g176ok:FO (g176T m):=fk g176H (g176T m) func176 (AllF.mem (l:=[g198T m]) ⟨g198ok m,trivial⟩)
def g199H:Hints:=⟨[J [0],J [2]],[],[],[2],[],[[false]]⟩
def g199T:FunT:=⟨199,[hA4],sB,[sD],un (g199 m)⟩
def g199ok:FO (g199T m):=fk g199H (g199T m) func199 noF
def g177H:Hints:=⟨[J [0,1],J [0,1,5],J [0,1,5,6],J' [(0,1)] [0,1,6,11],J' [(0,1)] [12],J [4],J [4],J' [(0,1)] [0,1,13],J [4],J [0,1,16],J [4],J' [(0,1),(1,1)] [19],J [4],J [4]],[],[],[4],[],[[false]]⟩
def g177T:FunT:=⟨177,[hA4,hA4],sI,[sD,sD],un (g177 m)⟩
def g177ok:FO (g177T m):=fk g177H (g177T m) func177 (AllF.mem (l:=[g199T m]) ⟨g199ok m,trivial⟩)
def g139H:Hints:=⟨[J [0,1],J [0,1,10],J' [(0,1),(2,1)] [4],J [0,1,5],J [0,1,5,20],J' [(0,1)] [0,1,5],J [0,1,5,31],J' [(0,1),(4,1)] [4],J [4]],[(0,[0,1,5])],[(0,[]),(1,[0,1,5])],[4],[],[[false]]⟩
def g139T:FunT:=⟨139,[h83,h83],sI,[sD,sD],un (g139 m)⟩
noncomputable def g139C:Code:=codeOf f139
noncomputable def g139B0:Code:=qm g139C 0 0
def g139K:FL [g176T m,g177T m]:=AllF.mem ⟨g176ok m,g177ok m,trivial⟩
def g139L0X:LT:=⟨0,[(0,h83),(1,h83),(5,sI)],[(.ret,[(4,sI)]),(.exit 0,[])],λn=>uq (g139L0 m n)⟩
def g139L0ok {E} (hE:EO E 41 g139H) (n):LO E g139B0 ((g139L0X m).at n):=lk hE (g139K m) (g139L0X m) n
def g139ok:FO (g139T m):=f1' g139H (g139T m) func139 (g139K m) λ_ h=>g139L0ok m h m
def g179H:Hints:=⟨[J [0,1],J [0,1,5],J [0,1,5,6],J' [(0,1)] [1,5,6,13,14,15],J [1,5,6,13,14,15,16],J [1,5,6,7,8,13,14,15],J' [(0,1),(2,1)] [1,5,7,9,13,14,15],J [1,5,7,9,13,14,15,27],J' [(0,1)] [1,5,7,9,13,14,15],J' [(1,1)] [1,5,9,13,14,15],J' [(0,1)] [1,5,6,13,14,15],J' [(1,1)] [1,5,6,13,14,15],J' [(0,1)] [4]],[(0,[1,5,6,13,14,15])],[(0,[5]),(1,[1,5,6,13,14,15])],[4],[],[[false]]⟩
def g179T:FunT:=⟨179,[h83,h83],h83,[sD,sD],un (g179 m)⟩
noncomputable def g179C:Code:=codeOf f179
noncomputable def g179B0:Code:=qm g179C 0 0
def g179K:FL [g140T m]:=AllF.mem ⟨g140ok m,trivial⟩
def g179L0X:LT:=⟨0,[(1,h83),(5,ha3),(6,sU),(13,h83),(14,sI),(15,sI)],[(.exit 0,[(5,ha3)])],λn=>uq (g179L0 m n)⟩
def g179L0ok {E} (hE:EO E 47 g179H) (n):LO E g179B0 ((g179L0X m).at n):=lk hE (g179K m) (g179L0X m) n
def g179ok:FO (g179T m):=f1' g179H (g179T m) func179 (g179K m) λ_ h=>g179L0ok m h m
def g141H:Hints:=⟨[J [2,3,4],J [2,3,4,5,6],J [2,3,4,5,6,13],J' [(2,1),(3,1)] [4],J [2,3,4,5,6,25],J' [(2,1),(3,1)] [4],J' [(2,1),(3,1)] [4]],[],[(0,[3,4,5,6])],[4],[],[[false,false]]⟩
def g141T:FunT:=⟨141,[hY3,hY3],hY3,[sD,sD],un (g141 m)⟩
def g141ok:FO (g141T m):=fk g141H (g141T m) func141 (AllF.mem (l:=[g140T m,g178T m,g146T m,g139T m,g179T m]) ⟨g140ok m,g178ok m,g146ok m,g139ok m,g179ok m,trivial⟩)
def g113H:Hints:=⟨[J [2,3,4],J' [(3,1)] [2,3,4,5],J' [(0,1)] [2,3,4,17],J [4],J' [(3,1)] [4,6,7,8],J' [(3,1)] [4]],[],[],[4],[],[[false,false,false,false]]⟩
def g113T:FunT:=⟨113,[hM3,hM3],hM3,[sD,sD],un (g113 m)⟩
def g113ok:FO (g113T m):=fk g113H (g113T m) func113 (AllF.mem (l:=[g161T m,g145T m,g162T m,g141T m,g112T m]) ⟨g161ok m,g145ok m,g162ok m,g141ok m,g112ok m,trivial⟩)
def g66H:Hints:=⟨[J [2,3,4],J [4]],[],[],[4],[],[[false,false,false,false]]⟩
def g66T:FunT:=⟨66,[hM3,hM3],hM3,[sD,sD],un (g66 m)⟩
def g66ok:FO (g66T m):=fk g66H (g66T m) func66 (AllF.mem (l:=[g114T m,g113T m]) ⟨g114ok m,g113ok m,trivial⟩)
def g35H:Hints:=⟨[J [1,2],J' [(2,4)] [1,2,5],J [1,2,5,15,16],J [1,2,5,15,16,17],J [1,2,5,6,15,16],J' [(1,1),(6,4)] [1,2,5,15,16],J' [(1,1)] [1,2,5,15,16],J [1,2,5,27,28],J [1,2,5,27,28,29],J [1,2,5,7,27,28],J [1,2,5,7,8,27,28],J [1,2,5,7,8,27,28,43],J' [(0,1)] [1,2,5,7,8,27,28],J [1,2,5,7,8,9,27,28],J [1,2,5,7,8,9,27,28,53],J [1,2,5,7,8,27,28],J' [(1,1)] [1,2,5,27,28],J [1,5,80,81],J [1,5,80,81,82],J [1,5,10,80,81],J [1,5,80,81],J' [(1,1)] [1,5,80,81],J' [(0,1)] [4]],[(0,[1,2,5,15,16]),(2,[1,2,5,27,28]),(4,[1,2,5,7,8,27,28]),(6,[1,5,80,81])],[(0,[1,2,5]),(1,[1,2,5,15,16]),(2,[1,5]),(3,[1,2,5,27,28]),(4,[1,2,5,27,28]),(5,[1,2,5,7,8,27,28]),(6,[5]),(7,[1,5,80,81])],[4],[],[[false]]⟩
def g35T:FunT:=⟨35,[h71,sU],h81,[sD,sD],un (g35 m)⟩
noncomputable def g35C:Code:=codeOf f35
noncomputable def g35B0:Code:=qm g35C 0 0
noncomputable def g35B2:Code:=qm g35C 0 1
noncomputable def g35B4:Code:=qm g35B2 2 0
noncomputable def g35B6:Code:=qm g35C 0 2
def g35K:FL [g65T m,g66T m]:=AllF.mem ⟨g65ok m,g66ok m,trivial⟩
def g35L3X:LT:=⟨6,[(1,sU),(5,h91),(80,sI),(81,sI)],[(.exit 6,[(5,h91)])],λn=>uq (g35L3 m n)⟩
def g35L3ok {E} (hE:EO E 102 g35H) (n):LO E g35B6 ((g35L3X m).at n):=lk hE (g35K m) (g35L3X m) n
def g35L2X:LT:=⟨4,[(1,sU),(2,sX 0 [iI,iI,iL,iL,.imm (.int .u64)]),(5,hU2),(7,sI),(8,sI),(27,sI),(28,sI)],[(.exit 4,[(1,sU),(2,sX 0 [iI,iI,iL,iL,.imm (.int .u64)]),(5,hU2),(27,sI),(28,sI)])],λn=>uq (g35L2 m n)⟩
def g35L2ok {E} (hE:EO E 102 g35H) (n):LO E g35B4 ((g35L2X m).at n):=lk hE (g35K m) (g35L2X m) n
def g35L1X:LT:=⟨2,[(1,sU),(2,sX 0 [iI,iI,iL,iL,.imm (.int .u64)]),(5,hU2),(27,sI),(28,sI)],[(.exit 2,[(1,sU),(5,h91)])],λn=>uq (g35L1 m n)⟩
def g35L1ok {E} (hE:EO E 102 g35H) (n):LO E g35B2 ((g35L1X m).at n):=
 lok hmix htt hE (g35K m) (L:=[(g35L2X m).at m]) (g35L1X m) (l:=[(4,g35B4)]) kR (λ_ _=>⟨qi ⟨yb (g35L2ok m hE m),trivial⟩,trivial⟩) (λn x=>kR) (λ_=>kR) n
def g35L0X:LT:=⟨0,[(1,sU),(2,sX 0 [iI,iI,iL,iL,.imm (.int .u64)]),(5,hU2),(15,sI),(16,sI)],[(.exit 0,[(1,sU),(2,sX 0 [iI,iI,iL,iL,.imm (.int .u64)]),(5,hU2)])],λn=>uq (g35L0 m n)⟩
def g35L0ok {E} (hE:EO E 102 g35H) (n):LO E g35B0 ((g35L0X m).at n):=lk hE (g35K m) (g35L0X m) n
def g35ok:FO (g35T m):=
 fok hmix htt (H:=g35H) (g35T m) func35 kR (g35K m) (L:=[(g35L0X m).at m,(g35L1X m).at m,(g35L3X m).at m]) (l:=[(0,g35B0),(2,g35B2),(6,g35B6)]) kR (λ_ hE _ _=>⟨qi ⟨yb (g35L0ok m hE m),nb rfl,nb rfl,trivial⟩,qi ⟨nb rfl,yb (g35L1ok m hE m),nb rfl,trivial⟩,qi ⟨nb rfl,nb rfl,yb (g35L3ok m hE m),trivial⟩,trivial⟩) (λx=>kR)
def g56H:Hints:=⟨[J [1,2],J' [(2,1)] [1,2],J [2]],[],[],[2],[],[[false,false,false,false]]⟩
def g56T:FunT:=⟨56,[hM3],hM3,[sD],un (g56 m)⟩
def g56ok:FO (g56T m):=fk g56H (g56T m) func56 (AllF.mem (l:=[g97T m]) ⟨g97ok m,trivial⟩)
def g92H:Hints:=⟨[J [1],J' [(2,1)] [1],J [2]],[],[],[2],[],[[false]]⟩
def g92T:FunT:=⟨92,[hM3],sI,[sD],un (g92 m)⟩
def g92ok:FO (g92T m):=fk g92H (g92T m) func92 (AllF.mem (l:=[g97T m,g91T m]) ⟨g97ok m,g91ok m,trivial⟩)
def g94H:Hints:=⟨[J [1,2,4],J' [(2,1)] [1,2,4,5],J' [(0,1)] [1,2,4,12],J [4],J' [(4,1)] [4]],[],[],[4],[],[[false,false,false,false]]⟩
def g94T:FunT:=⟨94,[hM3,sI],hM3,[sD,sD],un (g94 m)⟩
def g94ok:FO (g94T m):=fk g94H (g94T m) func94 (AllF.mem (l:=[g97T m,g145T m,g112T m]) ⟨g97ok m,g145ok m,g112ok m,trivial⟩)
def g93H:Hints:=⟨[J [1,2],J' [(2,1)] [1,2,4],J' [(0,1)] [1,2,13],J [2,3],J' [(5,1)] [2,5],J [2,3]],[],[],[2,3],[],[[false,false],[false]]⟩
def g93T:FunT:=⟨93,[hM3],.tup [(.agg [.bool,(.imm (.int .u32))]),(.c .bool)],[sD],un (g93 m)⟩
def g93ok:FO (g93T m):=fk g93H (g93T m) func93 (AllF.mem (l:=[g97T m,g144T m]) ⟨g97ok m,g144ok m,trivial⟩)
def g52H:Hints:=⟨[J [0],J [0,3],J [0,3,15,16,17],J [0,3,15,16,17,18],J [0,3,5,15,16,17],J' [(0,1)] [0,3,15,16,17,21,22,23],J [0,3,15,16,17,21,22,23,24],J [0,3,7,15,16,17,21,22,23],J [0,3,7,15,16,17,21,22,23],J [0,3,7,15,16,17,21,22,23,31],J' [(0,1)] [0,3,15,16,17,21,22,23],J' [(1,1)] [0,3,15,16,17,21,22,23],J' [(1,1)] [0,3,15,16,17],J' [(2,4)] [0,3,8],J' [(0,1)] [3,8,41,42,43],J [3,8,41,42,43,44],J [3,8,9,10,41,42,43],J' [(0,1)] [3,8,9,41,42,43,48,49,50],J [3,8,9,41,42,43,48,49,50,51],J [3,8,9,12,41,42,43,48,49,50],J' [(5,1)] [3,8,9,13,41,42,43,48,49,50],J' [(5,4),(11,4)] [3,8,9,41,42,43,48,49,50],J' [(1,1)] [3,8,9,41,42,43,48,49,50],J' [(1,1)] [3,8,41,42,43],J' [(0,1)] [2]],[(0,[0,3,15,16,17]),(2,[0,3,15,16,17,21,22,23]),(4,[3,8,41,42,43]),(6,[3,8,9,41,42,43,48,49,50])],[(0,[0,3]),(1,[0,3,15,16,17]),(2,[0,3,15,16,17]),(3,[0,3,15,16,17,21,22,23]),(4,[8]),(5,[3,8,41,42,43]),(6,[3,8,41,42,43]),(7,[3,8,9,41,42,43,48,49,50])],[2],[],[[false]]⟩
def g52T:FunT:=⟨52,[h81],h92,[sD],un (g52 m)⟩
noncomputable def g52C:Code:=codeOf f52
noncomputable def g52B0:Code:=qm g52C 0 0
noncomputable def g52B2:Code:=qm g52B0 0 0
noncomputable def g52B4:Code:=qm g52C 0 1
noncomputable def g52B6:Code:=qm g52B4 4 0
def g52K:FL [g56T m,g92T m,g94T m,g93T m,g95T m]:=AllF.mem ⟨g56ok m,g92ok m,g94ok m,g93ok m,g95ok m,trivial⟩
def g52L3X:LT:=⟨6,[(3,sI),(8,hQ3),(9,sI),(41,h81),(42,sI),(43,sI),(48,h82),(49,sI),(50,sI)],[(.exit 6,[(3,sI),(8,hQ3),(41,h81),(42,sI),(43,sI)])],λn=>uq (g52L3 m n)⟩
def g52L3ok {E} (hE:EO E 76 g52H) (n):LO E g52B6 ((g52L3X m).at n):=lk hE (g52K m) (g52L3X m) n
def g52L2X:LT:=⟨4,[(3,sI),(8,hQ3),(41,h81),(42,sI),(43,sI)],[(.exit 4,[(8,hQ3)])],λn=>uq (g52L2 m n)⟩
def g52L2ok {E} (hE:EO E 76 g52H) (n):LO E g52B4 ((g52L2X m).at n):=
 lok hmix htt hE (g52K m) (L:=[(g52L3X m).at m]) (g52L2X m) (l:=[(6,g52B6)]) kR (λ_ _=>⟨qi ⟨yb (g52L3ok m hE m),trivial⟩,trivial⟩) (λn x=>kR) (λ_=>kR) n
def g52L1X:LT:=⟨2,[(0,h81),(3,sI),(15,h81),(16,sI),(17,sI),(21,h82),(22,sI),(23,sI)],[(.exit 2,[(0,h81),(3,sI),(15,h81),(16,sI),(17,sI)])],λn=>uq (g52L1 m n)⟩
def g52L1ok {E} (hE:EO E 76 g52H) (n):LO E g52B2 ((g52L1X m).at n):=lk hE (g52K m) (g52L1X m) n
def g52L0X:LT:=⟨0,[(0,h81),(3,sI),(15,h81),(16,sI),(17,sI)],[(.exit 0,[(0,h81),(3,sI)])],λn=>uq (g52L0 m n)⟩
def g52L0ok {E} (hE:EO E 76 g52H) (n):LO E g52B0 ((g52L0X m).at n):=
 lok hmix htt hE (g52K m) (L:=[(g52L1X m).at m]) (g52L0X m) (l:=[(2,g52B2)]) kR (λ_ _=>⟨qi ⟨yb (g52L1ok m hE m),trivial⟩,trivial⟩) (λn x=>kR) (λ_=>kR) n
def g52ok:FO (g52T m):=
 fok hmix htt (H:=g52H) (g52T m) func52 kR (g52K m) (L:=[(g52L0X m).at m,(g52L2X m).at m]) (l:=[(0,g52B0),(4,g52B4)]) kR (λ_ hE _ _=>⟨qi ⟨yb (g52L0ok m hE m),nb rfl,trivial⟩,qi ⟨nb rfl,yb (g52L2ok m hE m),trivial⟩,trivial⟩) (λx=>kR)
def g138H:Hints:=⟨[J [0],J [0,5],J [2],J' [(0,1)] [2]],[],[],[2],[],[[false]]⟩
def g138T:FunT:=⟨138,[h92],sI,[sD],un (g138 m)⟩
def g138ok:FO (g138T m):=fk g138H (g138T m) func138 noF
def g175H:Hints:=⟨[J [0,1],J' [(0,1)] [3]],[],[],[3],[],[[false]]⟩
def g175T:FunT:=⟨175,[hV3,.a (.c (.iptr none (.int .i64) 0))],sB,[sD,sD],un (g175 m)⟩
def g175ok:FO (g175T m):=fk g175H (g175T m) func175 noF
def g197H:Hints:=⟨[J [0,1],J [0,1,7,8],J [0,1,7,8,9],J [0,1,5,7,8],J [0,1,5,7,8,16],J' [(0,1)] [4],J' [(1,1)] [0,1,7,8],J [4]],[(0,[0,1,7,8])],[(0,[]),(1,[0,1,7,8])],[4],[],[[false]]⟩
def g197T:FunT:=⟨197,[h92,hX3],sI,[sD,sD],un (g197 m)⟩
noncomputable def g197C:Code:=codeOf f197
noncomputable def g197B0:Code:=qm g197C 0 0
def g197K:FL [g175T m]:=AllF.mem ⟨g175ok m,trivial⟩
def g197L0X:LT:=⟨0,[(0,h92),(1,hX3),(7,sI),(8,sI)],[(.ret,[(4,sI)]),(.exit 0,[])],λn=>uq (g197L0 m n)⟩
def g197L0ok {E} (hE:EO E 19 g197H) (n):LO E g197B0 ((g197L0X m).at n):=lk hE (g197K m) (g197L0X m) n
def g197ok:FO (g197T m):=f1' g197H (g197T m) func197 (g197K m) λ_ h=>g197L0ok m h m
def g174H:Hints:=⟨[J [0,1],J' [(0,1),(1,1)] [4]],[],[],[4],[],[[false]]⟩
def g174T:FunT:=⟨174,[h92,hX3],sB,[sD,sD],un (g174 m)⟩
def g174ok:FO (g174T m):=fk g174H (g174T m) func174 (AllF.mem (l:=[g197T m]) ⟨g197ok m,trivial⟩)
def g137H:Hints:=⟨[J [0],J [0,3],J [0,3,6],J [2],J' [(0,1),(3,1)] [10],J [2],J [2]],[],[(0,[])],[2],[],[[false]]⟩
def g137T:FunT:=⟨137,[h92],sI,[sD],un (g137 m)⟩
def g137ok:FO (g137T m):=fk g137H (g137T m) func137 (AllF.mem (l:=[g138T m,g174T m]) ⟨g138ok m,g174ok m,trivial⟩)
def g87H:Hints:=⟨[J [0],J [0,3],J' [(2,1)] [3,14],J [2],J' [(0,1)] [2]],[],[],[2],[],[[false]]⟩
def g87T:FunT:=⟨87,[h92],sI,[sD],un (g87 m)⟩
def g87ok:FO (g87T m):=fk g87H (g87T m) func87 (AllF.mem (l:=[g137T m,g138T m]) ⟨g137ok m,g138ok m,trivial⟩)
def g88H:Hints:=⟨[J [2,3],J [2,3,5,6],J [2,3,5,6,11],J [4],J' [(1,1)] [2,3,5,15],J [4],J' [(0,1)] [4]],[],[(0,[2,3,5])],[4],[],[[false]]⟩
def g88T:FunT:=⟨88,[hY3,hY3],sI,[sD,sD],un (g88 m)⟩
def g88ok:FO (g88T m):=fk g88H (g88T m) func88 (AllF.mem (l:=[g91T m,g140T m,g139T m]) ⟨g91ok m,g140ok m,g139ok m,trivial⟩)
def g90H:Hints:=⟨[J [0,1],J' [(0,6)] [0,1,5],J' [(0,1)] [1,5,11,12,13],J [1,5,11,12,13,14],J [1,5,6,7,11,12,13],J [1,5,6,7,8,11,12,13],J' [(0,1)] [1,5,6,8,11,12,13,18,19,20],J [1,5,6,8,11,12,13,18,19,20,21],J [1,5,6,8,10,11,12,13,18,19,20],J' [(0,1)] [1,5,6,8,11,12,13,18,19,20],J' [(1,1)] [1,5,6,8,11,12,13,18,19,20],J [1,5,6,8,11,12,13,33],J' [(0,1),(2,1)] [1,5,8,11,12,13],J' [(0,1),(1,1),(2,6),(3,6)] [1,5,11,12,13],J' [(1,1)] [1,5,11,12,13],J' [(0,1)] [4]],[(0,[1,5,11,12,13]),(2,[1,5,6,8,11,12,13,18,19,20])],[(0,[5]),(1,[1,5,11,12,13]),(2,[1,5,6,8,11,12,13]),(3,[1,5,6,8,11,12,13,18,19,20])],[4],[],[[false]]⟩
def g90T:FunT:=⟨90,[h92,hV3],h92,[sD,sD],un (g90 m)⟩
noncomputable def g90C:Code:=codeOf f90
noncomputable def g90B0:Code:=qm g90C 0 0
noncomputable def g90B2:Code:=qm g90B0 0 0
def g90K:FL [g95T m]:=AllF.mem ⟨g95ok m,trivial⟩
def g90L1X:LT:=⟨2,[(1,hV3),(5,hQ3),(6,sI),(8,hR3),(11,h92),(12,sI),(13,sI),(18,hV3),(19,sI),(20,sI)],[(.exit 2,[(1,hV3),(5,hQ3),(6,sI),(8,hR3),(11,h92),(12,sI),(13,sI)])],λn=>uq (g90L1 m n)⟩
def g90L1ok {E} (hE:EO E 48 g90H) (n):LO E g90B2 ((g90L1X m).at n):=lk hE (g90K m) (g90L1X m) n
def g90L0X:LT:=⟨0,[(1,hV3),(5,hQ3),(11,h92),(12,sI),(13,sI)],[(.exit 0,[(5,hQ3)])],λn=>uq (g90L0 m n)⟩
def g90L0ok {E} (hE:EO E 48 g90H) (n):LO E g90B0 ((g90L0X m).at n):=
 lok hmix htt hE (g90K m) (L:=[(g90L1X m).at m]) (g90L0X m) (l:=[(2,g90B2)]) kR (λ_ _=>⟨qi ⟨yb (g90L1ok m hE m),trivial⟩,trivial⟩) (λn x=>kR) (λ_=>kR) n
def g90ok:FO (g90T m):=f1' g90H (g90T m) func90 (g90K m) λ_ h=>g90L0ok m h m
def g200H:Hints:=⟨[J [0,1],J' [(3,1)] [0,1,19],J [4],J [0,1,5],J' [(0,1)] [1,5,26,27,28],J [1,5,26,27,28,29],J [1,5,6,7,26,27,28],J [1,5,6,7,8,26,27,28],J [1,5,6,7,8,26,27,28,33,34,35],J [1,5,6,7,8,26,27,28,33,34,35,36],J [1,5,6,7,8,9,10,26,27,28,33,34,35],J' [(2,1),(13,1)] [1,5,6,7,9,11,26,27,28,33,34,35],J' [(2,1)] [1,5,6,7,11,26,27,28,33,34,35],J' [(0,1)] [1,5,6,7,8,26,27,28,33,34,35],J' [(1,1)] [1,5,6,7,8,26,27,28,33,34,35],J' [(1,1),(5,1)] [1,5,26,27,28],J' [(1,1)] [1,5,26,27,28],J' [(0,1)] [4]],[(0,[1,5,26,27,28]),(2,[1,5,6,7,8,26,27,28,33,34,35])],[(0,[5]),(1,[1,5,26,27,28]),(2,[1,5,6,8,26,27,28]),(3,[1,5,6,7,8,26,27,28,33,34,35])],[4],[],[[false]]⟩
def g200T:FunT:=⟨200,[h83,h83],h83,[sD,sD],un (g200 m)⟩
noncomputable def g200C:Code:=codeOf f200
noncomputable def g200B0:Code:=qm g200C 0 0
noncomputable def g200B2:Code:=qm g200B0 0 0
def g200K:FL [g140T m]:=AllF.mem ⟨g140ok m,trivial⟩
def g200L1X:LT:=⟨2,[(1,h83),(5,ha3),(6,sI),(7,hA4),(8,sU),(26,h83),(27,sI),(28,sI),(33,h83),(34,sI),(35,sI)],[(.exit 2,[(1,h83),(5,ha3),(6,sI),(8,sU),(26,h83),(27,sI),(28,sI)])],λn=>uq (g200L1 m n)⟩
def g200L1ok {E} (hE:EO E 77 g200H) (n):LO E g200B2 ((g200L1X m).at n):=lk hE (g200K m) (g200L1X m) n
def g200L0X:LT:=⟨0,[(1,h83),(5,ha3),(26,h83),(27,sI),(28,sI)],[(.exit 0,[(5,ha3)])],λn=>uq (g200L0 m n)⟩
def g200L0ok {E} (hE:EO E 77 g200H) (n):LO E g200B0 ((g200L0X m).at n):=
 lok hmix htt hE (g200K m) (L:=[(g200L1X m).at m]) (g200L0X m) (l:=[(2,g200B2)]) kR (λ_ _=>⟨qi ⟨yb (g200L1ok m hE m),trivial⟩,trivial⟩) (λn x=>kR) (λ_=>kR) n
def g200ok:FO (g200T m):=f1' g200H (g200T m) func200 (g200K m) λ_ h=>g200L0ok m h m
def g180H:Hints:=⟨[J [2,3,4],J [4]],[],[],[4],[],[[false,false]]⟩
def g180T:FunT:=⟨180,[hY3,hY3],hY3,[sD,sD],un (g180 m)⟩
def g180ok:FO (g180T m):=fk g180H (g180T m) func180 (AllF.mem (l:=[g140T m,g200T m,g146T m]) ⟨g140ok m,g200ok m,g146ok m,trivial⟩)
def g142H:Hints:=⟨[J [0,1],J' [(0,6)] [0,1,5],J' [(0,1)] [1,5,13,14,15],J [1,5,13,14,15,16],J [1,5,7,13,14,15],J [1,5,7,8,13,14,15],J [1,5,7,8,13,14,15,20,21],J [1,5,7,8,13,14,15,20,21,22],J [1,5,7,8,9,13,14,15,20,21],J' [(0,2)] [1,5,7,8,9,10,13,14,15,20,21],J [1,5,7,8,9,10,13,14,15,20,21,24,25,26],J [1,5,7,8,9,10,13,14,15,20,21,24,25,26,27],J [1,5,7,8,9,10,11,12,13,14,15,20,21,24,25,26],J' [(0,2),(3,1)] [1,5,7,8,9,10,13,14,15,20,21,24,25,26],J' [(1,1)] [1,5,7,8,9,10,13,14,15,20,21,24,25,26],J' [(0,1)] [1,5,7,8,13,14,15,20,21],J' [(1,1)] [1,5,7,8,13,14,15,20,21],J' [(0,1),(1,1),(2,6),(3,6)] [1,5,13,14,15],J' [(1,1)] [1,5,13,14,15],J' [(0,1)] [4]],[(0,[1,5,13,14,15]),(2,[1,5,7,8,13,14,15,20,21]),(4,[1,5,7,8,9,10,13,14,15,20,21,24,25,26])],[(0,[5]),(1,[1,5,13,14,15]),(2,[1,5,8,13,14,15]),(3,[1,5,7,8,13,14,15,20,21]),(4,[1,5,7,8,10,13,14,15,20,21]),(5,[1,5,7,8,9,10,13,14,15,20,21,24,25,26])],[4],[],[[true]]⟩
def g142T:FunT:=⟨142,[h92,h92],hQ3,[sD,sD],un (g142 m)⟩
noncomputable def g142C:Code:=codeOf f142
noncomputable def g142B0:Code:=qm g142C 0 0
noncomputable def g142B2:Code:=qm g142B0 0 0
noncomputable def g142B4:Code:=qm g142B2 2 0
def g142K:FL [g180T m,g141T m]:=AllF.mem ⟨g180ok m,g141ok m,trivial⟩
def g142L2X:LT:=⟨4,[(1,h92),(5,hQ3),(7,hV3),(8,hR3),(9,sI),(10,sX 2 [.bool,.imm (.int .u32)]),(13,h92),(14,sI),(15,sI),(20,sI),(21,sI),(24,hV3),(25,sI),(26,sI)],[(.exit 4,[(1,h92),(5,hQ3),(7,hV3),(8,hR3),(10,sX 2 [.bool,.imm (.int .u32)]),(13,h92),(14,sI),(15,sI),(20,sI),(21,sI)])],λn=>uq (g142L2 m n)⟩
def g142L2ok {E} (hE:EO E 54 g142H) (n):LO E g142B4 ((g142L2X m).at n):=lk hE (g142K m) (g142L2X m) n
def g142L1X:LT:=⟨2,[(1,h92),(5,hQ3),(7,hV3),(8,hR3),(13,h92),(14,sI),(15,sI),(20,sI),(21,sI)],[(.exit 2,[(1,h92),(5,hQ3),(8,hR3),(13,h92),(14,sI),(15,sI)])],λn=>uq (g142L1 m n)⟩
def g142L1ok {E} (hE:EO E 54 g142H) (n):LO E g142B2 ((g142L1X m).at n):=
 lok hmix htt hE (g142K m) (L:=[(g142L2X m).at m]) (g142L1X m) (l:=[(4,g142B4)]) kR (λ_ _=>⟨qi ⟨yb (g142L2ok m hE m),trivial⟩,trivial⟩) (λn x=>kR) (λ_=>kR) n
def g142L0X:LT:=⟨0,[(1,h92),(5,hQ3),(13,h92),(14,sI),(15,sI)],[(.exit 0,[(5,hQ3)])],λn=>uq (g142L0 m n)⟩
def g142L0ok {E} (hE:EO E 54 g142H) (n):LO E g142B0 ((g142L0X m).at n):=
 lok hmix htt hE (g142K m) (L:=[(g142L1X m).at m]) (g142L0X m) (l:=[(2,g142B2)]) kR (λ_ _=>⟨qi ⟨yb (g142L1ok m hE m),trivial⟩,trivial⟩) (λn x=>kR) (λ_=>kR) n
def g142ok:FO (g142T m):=f1' g142H (g142T m) func142 (g142K m) λ_ h=>g142L0ok m h m
end
end Go.Vs.F
