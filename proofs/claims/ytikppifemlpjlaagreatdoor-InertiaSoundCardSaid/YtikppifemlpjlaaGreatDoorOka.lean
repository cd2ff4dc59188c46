/-The plain functions are what the code does (by program:gen.py). -/
import Derived.Test.YtikppifemlpjlaaGreatDoorFn
import Derived.Test.YtikppifemlpjlaaGreatDoorVc
import Derived.Test.YtikppifemlpjlaaGreatDoorProg
import Derived.KernelRfl
set_option linter.unusedVariables false
set_option maxRecDepth 100000
namespace Go.Vs.F
open Go.Proofs
open Tryz
section
theorem kR{p:Prop}(h:p:=by kernel_rfl):p:=h
abbrev sD:Sh:=.a (.c .dead)
abbrev sI:Sh:=.a (.c (.int .i64))
abbrev sL:Sh:=.a (.c (.imm (.int .i64)))
abbrev sB:Sh:=.a (.c .bool)
abbrev sU:Sh:=.a (.c (.int .u64))
abbrev EO(E:Entry)(N:Nat)(H:Hints):=EOf prog E N H.pins
abbrev LO:=LoopOK prog
abbrev FO:=FunOK prog
abbrev FL(l:List FunT):=∀u∈l,FO u
abbrev sN(k:Nat):Sh:=.a (.c (.nm k (.int .i64)))
abbrev sX(k:Nat)(l:List ShC):Sh:=.a (.bx k l)
abbrev iI:ShC:=.int .i64
abbrev iU:ShC:=.int .u64
abbrev iL:ShC:=.imm (.int .i64)
abbrev iM(k:Nat):ShC:=.nm k (.int .i64)
def J(l:List Nat):Hint:=⟨[],l⟩
def J'(m:List (Nat×Nat))(l:List Nat):Hint:=⟨m,l⟩
def tt:TT:=[none,none,none,some ⟨(.int .i64),[.int .i64]⟩,some ⟨.bool,[.bool]⟩,some ⟨(.int .u8),[.int .u8]⟩,none,none,none,some ⟨.string,[.other]⟩,none,none,none,none,none,none,none,none,none,none,none,none,some ⟨(.slice 23 (.int .u64)),[.nil (.int .u64)]⟩,some ⟨(.int .u64),[.int .u64]⟩,some ⟨(.slice 3 (.int .i64)),[.nil (.int .i64)]⟩,some ⟨(.slice 28 (.int .u64)),[.nil (.int .u64)]⟩,none,some ⟨(.struct [(0,1),(1,1),(2,1),(3,1),(4,1)]),[.int .i64,.int .i64,.nil (.int .i64),.nil (.int .i64),.nil (.int .u64)]⟩,some ⟨(.int .u64),[.int .u64]⟩,none,none,none,some ⟨(.struct [(0,1),(1,1),(2,1)]),[.int .i64,.int .i64,.int .i64]⟩,none,none,none,none,none,none,none,none,none,none,none,none,none,none,none,none,none,none,none,none,none,none,none,none,some ⟨(.slice 76 (.pr .bool (.pr (.pr .bool (.sl false (.int .u32))) (.int .i64)))),[.nil (.pr .bool (.pr (.pr .bool (.sl false (.int .u32))) (.int .i64)))]⟩,none,none,none,none,none,none,none,none,none,none,some ⟨(.slice 57 (.sl false (.pr .bool (.pr (.pr .bool (.sl false (.int .u32))) (.int .i64))))),[.nil (.sl false (.pr .bool (.pr (.pr .bool (.sl false (.int .u32))) (.int .i64))))]⟩,none,some ⟨(.slice 71 (.sl false (.pr (.pr .bool (.pr (.pr .bool (.sl false (.int .u32))) (.int .i64))) (.pr .bool (.pr (.pr .bool (.sl false (.int .u32))) (.int .i64)))))),[.nil (.sl false (.pr (.pr .bool (.pr (.pr .bool (.sl false (.int .u32))) (.int .i64))) (.pr .bool (.pr (.pr .bool (.sl false (.int .u32))) (.int .i64)))))]⟩,some ⟨(.slice 78 (.pr (.pr .bool (.pr (.pr .bool (.sl false (.int .u32))) (.int .i64))) (.pr .bool (.pr (.pr .bool (.sl false (.int .u32))) (.int .i64))))),[.nil (.pr (.pr .bool (.pr (.pr .bool (.sl false (.int .u32))) (.int .i64))) (.pr .bool (.pr (.pr .bool (.sl false (.int .u32))) (.int .i64))))]⟩,some ⟨(.slice 132 (.int .u32)),[.nil (.int .u32)]⟩,none,some ⟨(.struct [(0,1),(1,1)]),[.bool,.nil (.int .u32)]⟩,none,some ⟨(.struct [(0,1),(1,2),(3,1)]),[.bool,.bool,.nil (.int .u32),.int .i64]⟩,none,some ⟨(.struct [(0,4),(4,4)]),[.bool,.bool,.nil (.int .u32),.int .i64,.bool,.bool,.nil (.int .u32),.int .i64]⟩,some ⟨(.slice 4 .bool),[.nil .bool]⟩,none,none,none,none,none,some ⟨(.int .u64),[.int .u64]⟩,none,none,none,some ⟨(.slice 126 (.sl false (.pr .bool (.sl false (.int .u32))))),[.nil (.sl false (.pr .bool (.sl false (.int .u32))))]⟩,none,none,none,none,none,none,none,none,none,none,none,none,none,some ⟨(.slice 106 (.sl false (.pr (.pr .bool (.pr (.pr .bool (.sl false (.int .u32))) (.int .i64))) (.pr .bool (.pr (.pr .bool (.sl false (.int .u32))) (.int .i64)))))),[.nil (.sl false (.pr (.pr .bool (.pr (.pr .bool (.sl false (.int .u32))) (.int .i64))) (.pr .bool (.pr (.pr .bool (.sl false (.int .u32))) (.int .i64)))))]⟩,none,some ⟨(.struct [(0,1),(1,1),(2,1)]),[.nil (.sl false (.pr (.pr .bool (.pr (.pr .bool (.sl false (.int .u32))) (.int .i64))) (.pr .bool (.pr (.pr .bool (.sl false (.int .u32))) (.int .i64))))),.nil .bool,.int .i64]⟩,some ⟨(.slice 108 (.pr (.pr .bool (.pr (.pr .bool (.sl false (.int .u32))) (.int .i64))) (.pr .bool (.pr (.pr .bool (.sl false (.int .u32))) (.int .i64))))),[.nil (.pr (.pr .bool (.pr (.pr .bool (.sl false (.int .u32))) (.int .i64))) (.pr .bool (.pr (.pr .bool (.sl false (.int .u32))) (.int .i64))))]⟩,none,some ⟨(.struct [(0,4),(4,4)]),[.bool,.bool,.nil (.int .u32),.int .i64,.bool,.bool,.nil (.int .u32),.int .i64]⟩,none,none,none,none,none,none,none,none,none,some ⟨(.slice 124 (.sl false (.pr (.pr .bool (.sl false (.int .u32))) (.pr .bool (.sl false (.int .u32)))))),[.nil (.sl false (.pr (.pr .bool (.sl false (.int .u32))) (.pr .bool (.sl false (.int .u32)))))]⟩,none,none,none,none,some ⟨(.struct [(0,2),(2,2)]),[.bool,.nil (.int .u32),.bool,.nil (.int .u32)]⟩,some ⟨(.slice 123 (.pr (.pr .bool (.sl false (.int .u32))) (.pr .bool (.sl false (.int .u32))))),[.nil (.pr (.pr .bool (.sl false (.int .u32))) (.pr .bool (.sl false (.int .u32))))]⟩,none,some ⟨(.slice 74 (.pr .bool (.sl false (.int .u32)))),[.nil (.pr .bool (.sl false (.int .u32)))]⟩,none,none,none,none,none,some ⟨(.int .u32),[.int .u32]⟩,none,none,none,none,none,none,none,none,none,none,none,none,none,none,none,none,none,none,none,none,none,none,none,none,none,none,none,none,none,none,none,none,none,none,none,none,none,none,none,none,none,none,none,none,none,none,none,none,none,none,none,none,none,none,none,none,none,none,none,none,none,none,none,none,some ⟨(.struct [(0,1),(1,2),(3,1),(4,1)]),[.bool,.bool,.nil (.int .u32),.int .i64,.bool]⟩,none,none,none,none,some ⟨(.tab 0 .u8 [0,1,28,2,29,14,24,3,30,22,20,15,25,17,4,8,31,27,13,23,21,19,16,7,26,12,18,6,11,5,10,9]),[.other,.other,.other,.other,.other,.other,.other,.other,.other,.other,.other,.other,.other,.other,.other,.other,.other,.other,.other,.other,.other,.other,.other,.other,.other,.other,.other,.other,.other,.other,.other,.other]⟩]
theorem htt:TTok prog tt:=qew kR
theorem hmix:prog.follows .mixedOrders=true:=kR
theorem lk{N:Nat}{H:Hints}{E:Entry}(hE:EO E N H){D:List FunT}(hD:FL D){B:Code}(t:LT)(n:Nat)(hl:Jv B t.blk=[]:=by kernel_rfl)(hr:∀n x,q9z (mkC (outVal t.outs) D) (mkLp (outVal t.outs) []) tt N H B t.blk (t.ins.enc x) (Kl (t.run n))=t.run (n+1) x:=by intro n x;kernel_rfl)(h0:∀x,t.run 0 x=none:=by intro x;kernel_rfl):LO E B (t.at n):=lok hmix htt hE hD (L:=[]) t (l:=[]) hl (fun _ _=>trivial) hr h0 n
theorem fk(H:Hints)(t:FunT){fn:Func}(hf:prog.funcs[t.f]? =some fn){D:List FunT}(hD:FL D)(hb:okB fn=true:=by kernel_rfl)(hl:Jv (codeOf fn) 0=[]:=by kernel_rfl)(hr: ∀x,fnK (mkC (t.res.Val×X4 t.outs) D) (mkLp (t.res.Val×X4 t.outs) []) tt H fn (encS t.args x) (Kd t.res t.outs)=t.run x:=by intro x;kernel_rfl):FO t:=fok hmix htt (H:=H) t hf hb hD (L:=[]) (l:=[]) hl (fun _ hE _ _=>trivial) hr
theorem f1'(H:Hints)(t:FunT){fn:Func}(hf:prog.funcs[t.f]? =some fn){D:List FunT}(hD:FL D){X:LT}{m:Nat}{B:Code}(h:∀E:Entry,EO E fn.ntmps H->LO E B (X.at m))(hb:okB fn=true:=by kernel_rfl)(hl:Jv (codeOf fn) 0=[(X.blk,B)]:=by kernel_rfl)(hr: ∀x,fnK (mkC (t.res.Val×X4 t.outs) D) (mkLp (t.res.Val×X4 t.outs) [X.at m]) tt H fn (encS t.args x) (Kd t.res t.outs)=t.run x:=by intro x;kernel_rfl)(hk:q3i [] [X.at m]=true:=by kernel_rfl):FO t:=fok hmix htt (H:=H) t hf hb hD (L:=[X.at m]) (l:=[(X.blk,B)]) hl (fun E hE _ _=>⟨qi ⟨yb (h E hE),trivial⟩,trivial⟩) hr hk
variable (m:Nat)
def g14H:Hints:=⟨[J [0,1],J' [(0,1),(2,1)] [4]],[],[],[4],[],[[false]]⟩
def g14T:FunT:=⟨14,[sI,sI],sI,[sD,sD],fun x=>g14 m x.1 x.2.1⟩
theorem g14ok:FO (g14T m):=fk g14H (g14T m) func14 noF
def g32H:Hints:=⟨[J [0,1],J [0,1,5],J [0,1,5,12],J' [(0,1),(2,1)] [5],J [5],J [4]],[],[],[4],[],[[false]]⟩
def g32T:FunT:=⟨32,[.a (.c (.imm (.int .u64))),sI],sU,[sD,sD],fun x=>g32 m x.1 x.2.1⟩
theorem g32ok:FO (g32T m):=fk g32H (g32T m) func32 (AllF.mem (l:=[g14T m]) ⟨g14ok m,trivial⟩)
def g23H:Hints:=⟨[J [0],J' [(0,1)] [2]],[],[],[2],[],[[false]]⟩
def g23T:FunT:=⟨23,[sU],sB,[sD],fun x=>g23 m x.1⟩
theorem g23ok:FO (g23T m):=fk g23H (g23T m) func23 noF
def g166H:Hints:=⟨[J [0],J [0,3],J' [(2,1)] [0,3,17],J' [(0,1)] [0,3],J [0,3,4],J [0,3,4,5],J [0,3,4,5,22],J' [(0,1)] [0,3,4,5],J' [(0,1)] [0,3,4,5],J' [(0,1)] [2]],[(0,[0,3]),(2,[0,3,4,5])],[(0,[0,3]),(1,[0,3]),(2,[4]),(3,[0,3,4,5])],[2],[],[[true]]⟩
def g166T:FunT:=⟨166,[.a (.c (.imm (.int .u32)))],.a (.c (.nm 0 (.int .u32))),[sD],fun x=>g166 m x.1⟩
noncomputable def g166C:Code:=codeOf f166
noncomputable def g166B0:Code:=qp g166C 0 0
noncomputable def g166B2:Code:=qp g166C 0 1
def g166L1X:LT:=⟨2,[(0,.a (.c (.imm (.int .u32)))),(3,sI),(4,.a (.c (.nm 0 (.int .u32)))),(5,sI)],[(.exit 2,[(4,.a (.c (.nm 0 (.int .u32))))])],fun n x=>g166L1 m n x.1 x.2.1 x.2.2.1 x.2.2.2.1⟩
theorem g166L1ok {E} (hE:EO E 33 g166H) (n):LO E g166B2 ((g166L1X m).at n):=lk hE noF (g166L1X m) n
def g166L0X:LT:=⟨0,[(0,.a (.c (.imm (.int .u32)))),(3,sI)],[(.exit 0,[(0,.a (.c (.imm (.int .u32)))),(3,sI)])],fun n x=>g166L0 m n x.1 x.2.1⟩
theorem g166L0ok {E} (hE:EO E 33 g166H) (n):LO E g166B0 ((g166L0X m).at n):=lk hE noF (g166L0X m) n
theorem g166ok:FO (g166T m):=
 fok hmix htt (H:=g166H) (g166T m) func166 kR noF (L:=[(g166L0X m).at m,(g166L1X m).at m]) (l:=[(0,g166B0),(2,g166B2)]) kR (fun _ hE _ _=>⟨qi ⟨yb (g166L0ok m hE m),nb rfl,trivial⟩,qi ⟨nb rfl,yb (g166L1ok m hE m),trivial⟩,trivial⟩) (fun x=>kR)
def g127H:Hints:=⟨[J [0,1,4],J' [(0,1)] [0,1,4],J' [(0,1),(1,1),(6,1)] [4]],[],[],[4],[],[[false,false]]⟩
def g127T:FunT:=⟨127,[sB,.a (.c (.imm (.int .u32)))],.a (.agg [.bool,(.imm (.int .u32))]),[sD,sD],fun x=>g127 m x.1 x.2.1⟩
theorem g127ok:FO (g127T m):=fk g127H (g127T m) func127 (AllF.mem (l:=[g166T m]) ⟨g166ok m,trivial⟩)
def g123H:Hints:=⟨[J [0,2],J [0,2,3],J [0,2,3,7],J [0,2,3],J' [(0,1)] [2]],[],[],[2],[],[[false,false]]⟩
def g123T:FunT:=⟨123,[sI],.a (.agg [.bool,(.imm (.int .u32))]),[sD],fun x=>g123 m x.1⟩
theorem g123ok:FO (g123T m):=fk g123H (g123T m) func123 (AllF.mem (l:=[g127T m]) ⟨g127ok m,trivial⟩)
def g117H:Hints:=⟨[J [1,2],J [2]],[],[],[2],[],[[false,false]]⟩
def g117T:FunT:=⟨117,[.a (.agg [.bool,(.imm (.int .u32))])],.a (.agg [.bool,(.imm (.int .u32))]),[sD],fun x=>g117 m x.1.1 x.1.2.1⟩
theorem g117ok:FO (g117T m):=fk g117H (g117T m) func117 (AllF.mem (l:=[g127T m]) ⟨g127ok m,trivial⟩)
def g83H:Hints:=⟨[J [0],J [0]],[],[],[0],[],[[false,false,true,false]]⟩
def g83T:FunT:=⟨83,[],.a (.agg [.bool,.bool,(.nm 0 (.int .u32)),(.int .i64)]),[],fun x=>g83 m⟩
theorem g83ok:FO (g83T m):=fk g83H (g83T m) func83 noF
def g173H:Hints:=⟨[J [0],J [0,4],J [2],J [2]],[],[],[2],[],[[false]]⟩
def g173T:FunT:=⟨173,[.a (.c (.int .u32))],sI,[sD],fun x=>g173 m x.1⟩
theorem g173ok:FO (g173T m):=fk g173H (g173T m) func173 noF
def g135H:Hints:=⟨[J [1],J [3],J [3,4],J [3,4,11],J' [(0,1)] [3,4],J [3,4,18],J' [(2,1)] [2],J [2]],[(0,[3,4])],[(0,[]),(1,[3,4])],[2],[],[[false]]⟩
def g135T:FunT:=⟨135,[.a (.agg [.bool,(.imm (.int .u32))])],sI,[sD],fun x=>g135 m x.1.1 x.1.2.1⟩
noncomputable def g135C:Code:=codeOf f135
noncomputable def g135B0:Code:=qp g135C 0 0
theorem g135K:FL [g166T m,g173T m]:=AllF.mem ⟨g166ok m,g173ok m,trivial⟩
def g135L0X:LT:=⟨0,[(3,.a (.c (.nm 0 (.int .u32)))),(4,sI)],[(.ret,[(2,sI)]),(.exit 0,[])],fun n x=>g135L0 m n x.1 x.2.1⟩
theorem g135L0ok {E} (hE:EO E 27 g135H) (n):LO E g135B0 ((g135L0X m).at n):=lk hE (g135K m) (g135L0X m) n
theorem g135ok:FO (g135T m):=f1' g135H (g135T m) func135 (g135K m) fun _ h=>g135L0ok m h m
def g82H:Hints:=⟨[J [1,2],J [2]],[],[],[2],[],[[false,false]]⟩
def g82T:FunT:=⟨82,[.a (.agg [.bool,(.imm (.int .u32))])],.a (.agg [.bool,(.imm (.int .u32))]),[sD],fun x=>g82 m x.1.1 x.1.2.1⟩
theorem g82ok:FO (g82T m):=fk g82H (g82T m) func82 (AllF.mem (l:=[g127T m]) ⟨g127ok m,trivial⟩)
def g128H:Hints:=⟨[J [0,1],J [0,1,5],J [0,1,5,6],J [0,1,5,6,7],J [0,1,5,6,7,14],J' [(0,1)] [0,1,5,6,7],J' [(0,1)] [0,1,5,6,7],J' [(0,1)] [0,1,5,6,7],J' [(0,1)] [0,1,5,6,7],J' [(0,1),(1,1)] [4]],[(0,[0,1,5,6,7])],[(0,[5,6]),(1,[0,1,5,6,7])],[4],[],[[true]]⟩
def g128T:FunT:=⟨128,[.a (.c (.imm (.int .u32))),sI],.a (.c (.nm 0 (.int .u32))),[sD,sD],fun x=>g128 m x.1 x.2.1⟩
noncomputable def g128C:Code:=codeOf f128
noncomputable def g128B0:Code:=qp g128C 0 0
def g128L0X:LT:=⟨0,[(0,.a (.c (.imm (.int .u32)))),(1,sI),(5,.a (.c (.nm 0 (.int .u32)))),(6,sU),(7,sI)],[(.exit 0,[(5,.a (.c (.nm 0 (.int .u32)))),(6,sU)])],fun n x=>g128L0 m n x.1 x.2.1 x.2.2.1 x.2.2.2.1 x.2.2.2.2.1⟩
theorem g128L0ok {E} (hE:EO E 39 g128H) (n):LO E g128B0 ((g128L0X m).at n):=lk hE noF (g128L0X m) n
theorem g128ok:FO (g128T m):=f1' g128H (g128T m) func128 noF fun _ h=>g128L0ok m h m
def g129H:Hints:=⟨[J [0,1],J [0,1,6],J [0,1,6,7],J' [(4,1)] [0,1,6,7,21],J' [(0,1)] [0,1,6,7],J' [(0,1),(1,1)] [0,1,6,7],J [0,1,6,8],J [0,1,6,8,9],J [0,1,6,8,9,10],J [0,1,6,8,9,10,39],J' [(0,1)] [0,1,6,8,9,10],J [0,1,6,8,9,10,11],J [0,1,6,8,9,10,11,51],J' [(0,1)] [0,1,6,8,9,10,11],J' [(4,1)] [0,1,6,8,9,10,11,75],J [0,1,6,8,9,10,11],J' [(0,1),(1,1)] [0,1,6,8,9,10],J' [(0,1),(1,1)] [4,5]],[(0,[0,1,6,7]),(2,[0,1,6,8,9,10])],[(0,[0,1,6]),(1,[0,1,6,7]),(2,[6,8]),(3,[0,1,6,8,9,10])],[4,5],[],[[true],[false]]⟩
def g129T:FunT:=⟨129,[.a (.c (.imm (.int .u32))),sI],.tup [(.c (.nm 0 (.int .u32))),(.c .bool)],[sD,sD],fun x=>g129 m x.1 x.2.1⟩
noncomputable def g129C:Code:=codeOf f129
noncomputable def g129B0:Code:=qp g129C 0 0
noncomputable def g129B2:Code:=qp g129C 0 1
def g129L1X:LT:=⟨2,[(0,.a (.c (.imm (.int .u32)))),(1,sI),(6,sB),(8,.a (.c (.nm 0 (.int .u32)))),(9,sI),(10,sI)],[(.exit 2,[(6,sB),(8,.a (.c (.nm 0 (.int .u32))))])],fun n x=>g129L1 m n x.1 x.2.1 x.2.2.1 x.2.2.2.1 x.2.2.2.2.1 x.2.2.2.2.2.1⟩
theorem g129L1ok {E} (hE:EO E 85 g129H) (n):LO E g129B2 ((g129L1X m).at n):=lk hE noF (g129L1X m) n
def g129L0X:LT:=⟨0,[(0,.a (.c (.imm (.int .u32)))),(1,sI),(6,sB),(7,sI)],[(.exit 0,[(0,.a (.c (.imm (.int .u32)))),(1,sI),(6,sB)])],fun n x=>g129L0 m n x.1 x.2.1 x.2.2.1 x.2.2.2.1⟩
theorem g129L0ok {E} (hE:EO E 85 g129H) (n):LO E g129B0 ((g129L0X m).at n):=lk hE noF (g129L0X m) n
theorem g129ok:FO (g129T m):=
 fok hmix htt (H:=g129H) (g129T m) func129 kR noF (L:=[(g129L0X m).at m,(g129L1X m).at m]) (l:=[(0,g129B0),(2,g129B2)]) kR (fun _ hE _ _=>⟨qi ⟨yb (g129L0ok m hE m),nb rfl,trivial⟩,qi ⟨nb rfl,yb (g129L1ok m hE m),trivial⟩,trivial⟩) (fun x=>kR)
def g164H:Hints:=⟨[J [1,2],J [2]],[],[],[2],[],[[false,false]]⟩
def g164T:FunT:=⟨164,[.a (.agg [.bool,(.imm (.int .u32))])],.a (.agg [.bool,(.imm (.int .u32))]),[sD],fun x=>g164 m x.1.1 x.1.2.1⟩
theorem g164ok:FO (g164T m):=fk g164H (g164T m) func164 (AllF.mem (l:=[g127T m]) ⟨g127ok m,trivial⟩)
def g193H:Hints:=⟨[J [0,1],J [0,1,5],J [0,1,5,6],J [0,1,5,6,7],J [0,1,5,6,7,14],J' [(0,1)] [0,1,5,6,7],J [0,1,5,6,7,20],J' [(0,1)] [0,1,5,6,7],J [0,1,5,6,7,31],J' [(0,1)] [0,1,5,6,7],J' [(0,1)] [0,1,5,6,7],J' [(0,1)] [0,1,5,6,7],J' [(0,1),(1,1)] [4]],[(0,[0,1,5,6,7])],[(0,[5,6]),(1,[0,1,5,6,7])],[4],[],[[true]]⟩
def g193T:FunT:=⟨193,[.a (.c (.imm (.int .u32))),.a (.c (.imm (.int .u32)))],.a (.c (.nm 0 (.int .u32))),[sD,sD],fun x=>g193 m x.1 x.2.1⟩
noncomputable def g193C:Code:=codeOf f193
noncomputable def g193B0:Code:=qp g193C 0 0
def g193L0X:LT:=⟨0,[(0,.a (.c (.imm (.int .u32)))),(1,.a (.c (.imm (.int .u32)))),(5,.a (.c (.nm 0 (.int .u32)))),(6,sU),(7,sI)],[(.exit 0,[(5,.a (.c (.nm 0 (.int .u32)))),(6,sU)])],fun n x=>g193L0 m n x.1 x.2.1 x.2.2.1 x.2.2.2.1 x.2.2.2.2.1⟩
theorem g193L0ok {E} (hE:EO E 51 g193H) (n):LO E g193B0 ((g193L0X m).at n):=lk hE noF (g193L0X m) n
theorem g193ok:FO (g193T m):=f1' g193H (g193T m) func193 noF fun _ h=>g193L0ok m h m
def g194H:Hints:=⟨[J [0,1],J [0,1,10],J' [(0,1),(2,1)] [15],J [4],J [4],J [0,1,5],J [0,1,5,20],J' [(0,1)] [0,1,5],J [0,1,5,31],J' [(0,1),(4,1)] [40],J [4],J [4],J [4]],[(0,[0,1,5])],[(0,[]),(1,[0,1,5])],[4],[],[[false]]⟩
def g194T:FunT:=⟨194,[.a (.c (.imm (.int .u32))),.a (.c (.imm (.int .u32)))],sI,[sD,sD],fun x=>g194 m x.1 x.2.1⟩
noncomputable def g194C:Code:=codeOf f194
noncomputable def g194B0:Code:=qp g194C 0 0
def g194L0X:LT:=⟨0,[(0,.a (.c (.imm (.int .u32)))),(1,.a (.c (.imm (.int .u32)))),(5,sI)],[(.ret,[(4,sI)]),(.exit 0,[])],fun n x=>g194L0 m n x.1 x.2.1 x.2.2.1⟩
theorem g194L0ok {E} (hE:EO E 41 g194H) (n):LO E g194B0 ((g194L0X m).at n):=lk hE noF (g194L0X m) n
theorem g194ok:FO (g194T m):=f1' g194H (g194T m) func194 noF fun _ h=>g194L0ok m h m
def g195H:Hints:=⟨[J [0,1],J [0,1,5],J [0,1,5,6],J [0,1,5,6,7],J [0,1,5,6,7,12],J' [(0,1)] [0,1,5,6,7],J' [(5,1)] [0,1,5,7,8],J [0,1,5,7,8,25],J' [(0,1)] [0,1,5,7,8],J' [(0,1)] [0,1,5,7,8],J' [(0,1)] [0,1,5,6,7],J' [(0,1)] [4]],[(0,[0,1,5,6,7])],[(0,[5]),(1,[0,1,5,6,7])],[4],[],[[true]]⟩
def g195T:FunT:=⟨195,[.a (.c (.imm (.int .u32))),.a (.c (.imm (.int .u32)))],.a (.c (.nm 0 (.int .u32))),[sD,sD],fun x=>g195 m x.1 x.2.1⟩
noncomputable def g195C:Code:=codeOf f195
noncomputable def g195B0:Code:=qp g195C 0 0
def g195L0X:LT:=⟨0,[(0,.a (.c (.imm (.int .u32)))),(1,.a (.c (.imm (.int .u32)))),(5,.a (.c (.nm 0 (.int .u32)))),(6,sU),(7,sI)],[(.exit 0,[(5,.a (.c (.nm 0 (.int .u32))))])],fun n x=>g195L0 m n x.1 x.2.1 x.2.2.1 x.2.2.2.1 x.2.2.2.2.1⟩
theorem g195L0ok {E} (hE:EO E 41 g195H) (n):LO E g195B0 ((g195L0X m).at n):=lk hE noF (g195L0X m) n
theorem g195ok:FO (g195T m):=f1' g195H (g195T m) func195 noF fun _ h=>g195L0ok m h m
def g163H:Hints:=⟨[J [2,3,4],J [2,3,4,5,6],J [2,3,4,5,6,17],J' [(2,1),(3,1)] [4],J [2,3,4,5,6,27],J' [(2,1),(3,1)] [4],J' [(2,1),(3,1)] [4]],[],[],[4],[],[[false,false]]⟩
def g163T:FunT:=⟨163,[.a (.agg [.bool,(.imm (.int .u32))]),.a (.agg [.bool,(.imm (.int .u32))])],.a (.agg [.bool,(.imm (.int .u32))]),[sD,sD],fun x=>g163 m x.1.1 x.1.2.1 x.2.1.1 x.2.1.2.1⟩
theorem g163ok:FO (g163T m):=fk g163H (g163T m) func163 (AllF.mem (l:=[g166T m,g193T m,g127T m,g194T m,g195T m]) ⟨g166ok m,g193ok m,g127ok m,g194ok m,g195ok m,trivial⟩)
def g126H:Hints:=⟨[J [2,3,4],J [4]],[],[],[4],[],[[false,false]]⟩
def g126T:FunT:=⟨126,[.a (.agg [.bool,(.imm (.int .u32))]),.a (.agg [.bool,(.imm (.int .u32))])],.a (.agg [.bool,(.imm (.int .u32))]),[sD,sD],fun x=>g126 m x.1.1 x.1.2.1 x.2.1.1 x.2.1.2.1⟩
theorem g126ok:FO (g126T m):=fk g126H (g126T m) func126 (AllF.mem (l:=[g164T m,g163T m]) ⟨g164ok m,g163ok m,trivial⟩)
def g80H:Hints:=⟨[J [1,2,4],J [1,2,4],J [1,2,4,11],J' [(4,1)] [4],J' [(2,1),(5,1)] [2,4,5,6],J' [(2,1)] [2,4,6,7],J' [(2,1),(3,1)] [4,7,35],J [4,7],J [4]],[],[],[4],[],[[false,false]]⟩
def g80T:FunT:=⟨80,[.a (.agg [.bool,(.imm (.int .u32))]),sI],.a (.agg [.bool,(.imm (.int .u32))]),[sD,sD],fun x=>g80 m x.1.1 x.1.2.1 x.2.1⟩
theorem g80ok:FO (g80T m):=fk g80H (g80T m) func80 (AllF.mem (l:=[g117T m,g128T m,g127T m,g129T m,g123T m,g126T m]) ⟨g117ok m,g128ok m,g127ok m,g129ok m,g123ok m,g126ok m,trivial⟩)
def g136H:Hints:=⟨[J [1,2,4],J [1,2,4,6],J [1,2,4],J' [(0,1)] [1,2,4],J' [(1,1)] [4]],[(0,[1,2,4])],[(0,[1,2,4]),(1,[1,2,4])],[4],[],[[false,false]]⟩
def g136T:FunT:=⟨136,[.a (.agg [.bool,(.imm (.int .u32))]),sI],.a (.agg [.bool,(.imm (.int .u32))]),[sD,sD],fun x=>g136 m x.1.1 x.1.2.1 x.2.1⟩
noncomputable def g136C:Code:=codeOf f136
noncomputable def g136B0:Code:=qp g136C 0 0
theorem g136K:FL [g80T m]:=AllF.mem ⟨g80ok m,trivial⟩
def g136L0X:LT:=⟨0,[(1,sI),(2,sX 0 [.bool,.imm (.int .u32)]),(4,sX 1 [.bool,.nm 2 (.int .u32)])],[(.exit 0,[(1,sI),(2,sX 0 [.bool,.imm (.int .u32)]),(4,sX 1 [.bool,.nm 2 (.int .u32)])])],fun n x=>g136L0 m n x.1 x.2.1.1 x.2.1.2.1 x.2.2.1.1 x.2.2.1.2.1⟩
theorem g136L0ok {E} (hE:EO E 15 g136H) (n):LO E g136B0 ((g136L0X m).at n):=lk hE (g136K m) (g136L0X m) n
theorem g136ok:FO (g136T m):=f1' g136H (g136T m) func136 (g136K m) fun _ h=>g136L0ok m h m
def g170H:Hints:=⟨[J [0,2],J [0,2,4],J' [(0,1)] [0],J [0,2],J [0,2,8],J' [(0,1)] [0,2],J' [(0,1)] [0,2],J' [(0,1),(1,1)] [2]],[],[],[2],[],[[false]]⟩
def g170T:FunT:=⟨170,[.a (.c (.int .u32))],sI,[sD],fun x=>g170 m x.1⟩
theorem g170ok:FO (g170T m):=fk g170H (g170T m) func170 noF
def g130H:Hints:=⟨[J [1],J [3],J [3,9],J [2],J [2]],[],[],[2],[],[[false]]⟩
def g130T:FunT:=⟨130,[.a (.agg [.bool,(.imm (.int .u32))])],sI,[sD],fun x=>g130 m x.1.1 x.1.2.1⟩
theorem g130ok:FO (g130T m):=fk g130H (g130T m) func130 (AllF.mem (l:=[g166T m,g170T m]) ⟨g166ok m,g170ok m,trivial⟩)
def g84H:Hints:=⟨[J [1,2,4],J [1,2,4,5],J [1,2,4,5,13],J [4],J [1,2,4,5,16],J [4],J [1,2,4,5,6],J' [(0,1)] [2,4,5,6,7],J [2,4,5,6,7],J' [(1,1)] [2,4,5,7],J' [(2,1)] [2,4,5,7,36],J [4],J [4,5,7],J' [(1,1)] [4]],[],[],[4],[],[[false,false,false,false]]⟩
def g84T:FunT:=⟨84,[.a (.agg [.bool,(.imm (.int .u32))]),sI],.a (.agg [.bool,.bool,(.imm (.int .u32)),(.int .i64)]),[sD,sD],fun x=>g84 m x.1.1 x.1.2.1 x.2.1⟩
theorem g84ok:FO (g84T m):=fk g84H (g84T m) func84 (AllF.mem (l:=[g117T m,g83T m,g135T m,g82T m,g136T m,g130T m]) ⟨g117ok m,g83ok m,g135ok m,g82ok m,g136ok m,g130ok m,trivial⟩)
def g148H:Hints:=⟨[J [0,2],J' [(0,1)] [2]],[],[],[2],[],[[false,false,false,false]]⟩
def g148T:FunT:=⟨148,[sI],.a (.agg [.bool,.bool,(.imm (.int .u32)),(.int .i64)]),[sD],fun x=>g148 m x.1⟩
theorem g148ok:FO (g148T m):=fk g148H (g148T m) func148 (AllF.mem (l:=[g123T m,g84T m]) ⟨g123ok m,g84ok m,trivial⟩)
def g68H:Hints:=⟨[J [1,2],J [1,2,4],J [2],J [2]],[],[],[2],[],[[false,false,false,false]]⟩
def g68T:FunT:=⟨68,[.a (.agg [.bool,.bool,(.imm (.int .u32)),(.int .i64)])],.a (.agg [.bool,.bool,(.imm (.int .u32)),(.int .i64)]),[sD],fun x=>g68 m x.1.1 x.1.2.1 x.1.2.2.1 x.1.2.2.2.1⟩
theorem g68ok:FO (g68T m):=fk g68H (g68T m) func68 (AllF.mem (l:=[g83T m,g84T m]) ⟨g83ok m,g84ok m,trivial⟩)
def g69H:Hints:=⟨[J [1],J [1],J [1,5],J [2],J [10],J [2],J [2]],[],[(0,[])],[2],[],[[false]]⟩
def g69T:FunT:=⟨69,[.a (.agg [.bool,(.imm (.int .u32))])],sI,[sD],fun x=>g69 m x.1.1 x.1.2.1⟩
theorem g69ok:FO (g69T m):=fk g69H (g69T m) func69 (AllF.mem (l:=[g117T m]) ⟨g117ok m,trivial⟩)
def g134H:Hints:=⟨[J [0,1],J' [(0,1)] [1,5],J' [(0,1)] [4],J' [(0,1)] [4]],[],[],[4],[],[[false]]⟩
def g134T:FunT:=⟨134,[sB,sU],sU,[sD,sD],fun x=>g134 m x.1 x.2.1⟩
theorem g134ok:FO (g134T m):=fk g134H (g134T m) func134 noF
def g131H:Hints:=⟨[J [0,1],J' [(2,1),(5,1),(10,1),(13,1)] [0,21],J' [(0,1)] [4],J' [(0,1)] [4]],[],[],[4],[],[[false]]⟩
def g131T:FunT:=⟨131,[sB,sI],sU,[sD,sD],fun x=>g131 m x.1 x.2.1⟩
theorem g131ok:FO (g131T m):=fk g131H (g131T m) func131 (AllF.mem (l:=[g134T m]) ⟨g134ok m,trivial⟩)
def g171H:Hints:=⟨[J [1,2],J' [(3,1),(5,1)] [6],J' [(0,1)] [4]],[],[],[4],[],[[false]]⟩
def g171T:FunT:=⟨171,[.a (.agg [.bool,(.imm (.int .u32))]),sI],sB,[sD,sD],fun x=>g171 m x.1.1 x.1.2.1 x.2.1⟩
theorem g171ok:FO (g171T m):=fk g171H (g171T m) func171 (AllF.mem (l:=[g166T m,g129T m]) ⟨g166ok m,g129ok m,trivial⟩)
def g172H:Hints:=⟨[J [0,1,2,3],J' [(0,1)] [0,1,2,9],J [0,1,2,9,10],J' [(0,1)] [8],J [0,1,2,9,13],J' [(0,1)] [8],J [1,2,17],J [8],J' [(2,1),(5,1),(6,1)] [8]],[],[(0,[1,2])],[8],[],[[false]]⟩
def g172T:FunT:=⟨172,[sB,sI,sB,sI],sB,[sD,sD,sD,sD],fun x=>g172 m x.1 x.2.1 x.2.2.1 x.2.2.2.1⟩
theorem g172ok:FO (g172T m):=fk g172H (g172T m) func172 noF
def g132H:Hints:=⟨[J [0,2,3,4,6,10],J [0,2,3,4,6,10,11],J [0,2,3,4,6,10,11,12],J' [(0,1),(2,1)] [0,2,3,4,6,10,11,27],J [10],J [0,2,3,4,6,10,11,13],J [0,2,3,4,6,10,11,13,30],J [0,2,3,4,6,10,11,13,14],J' [(3,1)] [0,2,3,4,6,10,11,13,42],J [0,2,3,4,6,10,11,13],J' [(0,1),(1,1),(3,1)] [0,4,10,11,13,49],J [0,4,10,11,13],J' [(3,1)] [0,4,10,11,13,15],J' [(0,1),(1,1),(2,1),(3,1)] [10,11,62],J [10,11],J [10]],[],[],[10],[],[[false,false]]⟩
def g132T:FunT:=⟨132,[sB,.a (.agg [.bool,(.imm (.int .u32))]),sI,sB,sI],.a (.agg [.bool,(.imm (.int .u32))]),[sD,sD,sD,sD,sD],fun x=>g132 m x.1 x.2.1.1 x.2.1.2.1 x.2.2.1 x.2.2.2.1 x.2.2.2.2.1⟩
theorem g132ok:FO (g132T m):=fk g132H (g132T m) func132 (AllF.mem (l:=[g136T m,g171T m,g135T m,g69T m,g172T m,g123T m,g163T m]) ⟨g136ok m,g171ok m,g135ok m,g69ok m,g172ok m,g123ok m,g163ok m,trivial⟩)
def g133H:Hints:=⟨[J [1],J [1],J [1,11],J [2,3],J [1,4],J [1,4,5],J [1,4,5,16],J' [(0,1)] [1,4,5],J' [(0,1)] [1,4,5],J [4,31],J [4,33],J [2,3],J' [(0,1)] [2,3],J [4,40],J [2,3],J' [(0,1)] [2,3]],[(0,[1,4,5])],[(0,[1,4]),(1,[1,4,5])],[2,3],[],[[false],[false]]⟩
def g133T:FunT:=⟨133,[.a (.agg [.bool,(.imm (.int .u32))])],.tup [(.c (.int .i64)),(.c .bool)],[sD],fun x=>g133 m x.1.1 x.1.2.1⟩
noncomputable def g133C:Code:=codeOf f133
noncomputable def g133B0:Code:=qp g133C 0 0
theorem g133K:FL [g117T m]:=AllF.mem ⟨g117ok m,trivial⟩
def g133L0X:LT:=⟨0,[(1,sX 0 [.bool,.imm (.int .u32)]),(4,sU),(5,sI)],[(.exit 0,[(1,sX 0 [.bool,.imm (.int .u32)]),(4,sU)])],fun n x=>g133L0 m n x.1.1 x.1.2.1 x.2.1 x.2.2.1⟩
theorem g133L0ok {E} (hE:EO E 43 g133H) (n):LO E g133B0 ((g133L0X m).at n):=lk hE (g133K m) (g133L0X m) n
theorem g133ok:FO (g133T m):=f1' g133H (g133T m) func133 (g133K m) fun _ h=>g133L0ok m h m
def g81H:Hints:=⟨[J [0,2,3,4,6],J [0,2,3,4,6,11],J [0,2,3,4,6,11,22],J' [(0,1),(1,1)] [10],J' [(0,1)] [0,2,3,4,6,12],J [0,2,3,4,6,12,13],J [0,2,3,4,6,12,13,31],J' [(3,1),(5,1)] [0,4,12,13],J' [(1,1)] [0,4,12,13],J' [(2,1)] [0,4,12,14],J [0,4,12,14,51],J [0,4,12,14],J' [(0,1)] [0,4,12,14],J' [(2,1)] [0,4,12,14,54],J' [(0,1),(1,1)] [10],J [0,12,14,65],J' [(0,1),(1,1),(5,1)] [10],J' [(0,1),(1,1)] [10]],[],[(0,[0,14])],[10],[],[[false]]⟩
def g81T:FunT:=⟨81,[sB,.a (.agg [.bool,(.imm (.int .u32))]),sI,sB,sI],sU,[sD,sD,sD,sD,sD],fun x=>g81 m x.1 x.2.1.1 x.2.1.2.1 x.2.2.1 x.2.2.2.1 x.2.2.2.2.1⟩
theorem g81ok:FO (g81T m):=fk g81H (g81T m) func81 (AllF.mem (l:=[g130T m,g131T m,g132T m,g133T m,g134T m,g80T m]) ⟨g130ok m,g131ok m,g132ok m,g133ok m,g134ok m,g80ok m,trivial⟩)
def g47H:Hints:=⟨[J [1,2],J [1,2],J [1,2,8],J [4],J [1,2,12],J [4],J' [(8,1)] [4]],[],[],[4],[],[[false]]⟩
def g47T:FunT:=⟨47,[.a (.agg [.bool,.bool,(.imm (.int .u32)),(.int .i64)]),sI],sU,[sD,sD],fun x=>g47 m x.1.1 x.1.2.1 x.1.2.2.1 x.1.2.2.2.1 x.2.1⟩
theorem g47ok:FO (g47T m):=fk g47H (g47T m) func47 (AllF.mem (l:=[g68T m,g69T m,g82T m,g81T m]) ⟨g68ok m,g69ok m,g82ok m,g81ok m,trivial⟩)
def g96H:Hints:=⟨[J [0,1],J' [(0,1),(2,1)] [4]],[],[],[4],[],[[false]]⟩
def g96T:FunT:=⟨96,[sI,sI],sU,[sD,sD],fun x=>g96 m x.1 x.2.1⟩
theorem g96ok:FO (g96T m):=fk g96H (g96T m) func96 (AllF.mem (l:=[g148T m,g47T m]) ⟨g148ok m,g47ok m,trivial⟩)
def g53H:Hints:=⟨[J [0],J' [(0,1)] [2]],[],[],[2],[],[[false]]⟩
def g53T:FunT:=⟨53,[sU],sU,[sD],fun x=>g53 m x.1⟩
theorem g53ok:FO (g53T m):=fk g53H (g53T m) func53 (AllF.mem (l:=[g96T m]) ⟨g96ok m,trivial⟩)
def g21H:Hints:=⟨[J [0,1],J' [(0,1)] [0,7],J [0,7,8],J [4],J [0,7,18],J [4],J [0,28],J' [(0,1)] [5],J [5,33],J [4],J' [(0,1)] [4],J' [(0,1)] [4]],[],[(0,[0])],[4],[],[[false]]⟩
def g21T:FunT:=⟨21,[sU,sI],sU,[sD,sD],fun x=>g21 m x.1 x.2.1⟩
theorem g21ok:FO (g21T m):=fk g21H (g21T m) func21 (AllF.mem (l:=[g14T m,g23T m,g53T m]) ⟨g14ok m,g23ok m,g53ok m,trivial⟩)
def g25H:Hints:=⟨[J [0,1,2,3,8],J [0,1,2,3,8,9],J [0,1,2,3,8,9,10],J [0,1,2,3,8,9,10,19],J' [(0,1)] [0,1,2,3,8,9,10],J [0,1,2,3,8,9,10,11],J [0,1,2,3,8,9,10,11,24],J' [(0,1)] [0,1,2,3,8,9,10,11],J [0,1,2,3,8,9,10,11,12],J [0,1,2,3,8,9,10,11,12,38],J' [(1,1)] [0,1,2,3,8,9,10,11,12],J' [(2,1),(6,3)] [0,1,2,3,8,9,10,11],J' [(1,1)] [0,1,2,3,8,9,10],J' [(0,1)] [8]],[(0,[0,1,2,3,8,9,10]),(2,[0,1,2,3,8,9,10,11])],[(0,[8,9]),(1,[0,1,2,3,8,9,10]),(2,[0,1,2,3,8,9,10]),(3,[0,1,2,3,8,9,10,11])],[8],[],[[false,false,true,true,true]]⟩
def g25T:FunT:=⟨25,[.a (.c (.imm (.int .u64))),sI,sI,sI],.a (.agg [(.int .i64),(.int .i64),(.nm 0 (.int .i64)),(.nm 1 (.int .i64)),(.nm 2 (.int .u64))]),[sD,sD,sD,sD],fun x=>g25 m x.1 x.2.1 x.2.2.1 x.2.2.2.1⟩
noncomputable def g25C:Code:=codeOf f25
noncomputable def g25B0:Code:=qp g25C 0 0
noncomputable def g25B2:Code:=qp g25B0 0 0
theorem g25K:FL [g32T m,g21T m]:=AllF.mem ⟨g32ok m,g21ok m,trivial⟩
def g25L1X:LT:=⟨2,[(0,.a (.c (.imm (.int .u64)))),(1,sI),(2,sI),(3,sI),(8,sX 0 [iI,iI,iM 1,iM 2,.nm 3 (.int .u64)]),(9,sX 4 [iI,iI,iM 5,iM 6,.nm 7 (.int .u64)]),(10,sI),(11,sI)],[(.exit 2,[(0,.a (.c (.imm (.int .u64)))),(1,sI),(2,sI),(3,sI),(8,sX 0 [iI,iI,iM 1,iM 2,.nm 3 (.int .u64)]),(9,sX 4 [iI,iI,iM 5,iM 6,.nm 7 (.int .u64)]),(10,sI)])],fun n x=>g25L1 m n x.1 x.2.1 x.2.2.1 x.2.2.2.1 x.2.2.2.2.1.1 x.2.2.2.2.1.2.1 x.2.2.2.2.1.2.2.1 x.2.2.2.2.1.2.2.2.1 x.2.2.2.2.1.2.2.2.2.1 x.2.2.2.2.2.1.1 x.2.2.2.2.2.1.2.1 x.2.2.2.2.2.1.2.2.1 x.2.2.2.2.2.1.2.2.2.1 x.2.2.2.2.2.1.2.2.2.2.1 x.2.2.2.2.2.2.1 x.2.2.2.2.2.2.2.1⟩
theorem g25L1ok {E} (hE:EO E 62 g25H) (n):LO E g25B2 ((g25L1X m).at n):=lk hE (g25K m) (g25L1X m) n
def g25L0X:LT:=⟨0,[(0,.a (.c (.imm (.int .u64)))),(1,sI),(2,sI),(3,sI),(8,sX 0 [iI,iI,iM 1,iM 2,.nm 3 (.int .u64)]),(9,sX 4 [iI,iI,iM 5,iM 6,.nm 7 (.int .u64)]),(10,sI)],[(.exit 0,[(8,sX 0 [iI,iI,iM 1,iM 2,.nm 3 (.int .u64)]),(9,sX 4 [iI,iI,iM 5,iM 6,.nm 7 (.int .u64)])])],fun n x=>g25L0 m n x.1 x.2.1 x.2.2.1 x.2.2.2.1 x.2.2.2.2.1.1 x.2.2.2.2.1.2.1 x.2.2.2.2.1.2.2.1 x.2.2.2.2.1.2.2.2.1 x.2.2.2.2.1.2.2.2.2.1 x.2.2.2.2.2.1.1 x.2.2.2.2.2.1.2.1 x.2.2.2.2.2.1.2.2.1 x.2.2.2.2.2.1.2.2.2.1 x.2.2.2.2.2.1.2.2.2.2.1 x.2.2.2.2.2.2.1⟩
theorem g25L0ok {E} (hE:EO E 62 g25H) (n):LO E g25B0 ((g25L0X m).at n):=
 lok hmix htt hE (g25K m) (L:=[(g25L1X m).at m]) (g25L0X m) (l:=[(2,g25B2)]) kR (fun _ _=>⟨qi ⟨yb (g25L1ok m hE m),trivial⟩,trivial⟩) (fun n x=>kR) (fun _=>kR) n
theorem g25ok:FO (g25T m):=f1' g25H (g25T m) func25 (g25K m) fun _ h=>g25L0ok m h m
def g86H:Hints:=⟨[J [0],J [0,3],J [0,3,7],J' [(0,1)] [0,3],J [0,3,15],J [2],J [2]],[(0,[0,3])],[(0,[]),(1,[0,3])],[2],[],[[false]]⟩
def g86T:FunT:=⟨86,[.a (.c (.imm (.int .u64)))],sB,[sD],fun x=>g86 m x.1⟩
noncomputable def g86C:Code:=codeOf f86
noncomputable def g86B0:Code:=qp g86C 0 0
theorem g86K:FL [g23T m]:=AllF.mem ⟨g23ok m,trivial⟩
def g86L0X:LT:=⟨0,[(0,.a (.c (.imm (.int .u64)))),(3,sI)],[(.ret,[(2,sB)]),(.exit 0,[])],fun n x=>g86L0 m n x.1 x.2.1⟩
theorem g86L0ok {E} (hE:EO E 16 g86H) (n):LO E g86B0 ((g86L0X m).at n):=lk hE (g86K m) (g86L0X m) n
theorem g86ok:FO (g86T m):=f1' g86H (g86T m) func86 (g86K m) fun _ h=>g86L0ok m h m
def g50H:Hints:=⟨[J [1],J' [(3,1),(8,1),(13,1),(18,1)] [1,30],J [2],J [1,3],J' [(5,1),(14,1),(21,1)] [1,64],J [2],J [1,4],J [1,4,68],J' [(0,1)] [1,4],J [1,4,82],J [2],J [1,5],J [1,5,86],J' [(0,1)] [1,5],J [1,5,6],J [1,5,6,101],J' [(0,1)] [1,5,6],J' [(6,1),(16,1),(24,1)] [1,5,6,142],J [2],J [146],J [2],J [2]],[(0,[1,4]),(2,[1,5]),(4,[1,5,6])],[(0,[1]),(1,[1,4]),(2,[1]),(3,[1,5]),(4,[1,5]),(5,[1,5,6])],[2],[],[[false]]⟩
def g50T:FunT:=⟨50,[.a (.agg [(.int .i64),(.int .i64),(.imm (.int .i64)),(.imm (.int .i64)),(.imm (.int .u64))])],sI,[sD],fun x=>g50 m x.1.1 x.1.2.1 x.1.2.2.1 x.1.2.2.2.1 x.1.2.2.2.2.1⟩
noncomputable def g50C:Code:=codeOf f50
noncomputable def g50B0:Code:=qp g50C 0 0
noncomputable def g50B2:Code:=qp g50C 0 1
noncomputable def g50B4:Code:=qp g50B2 2 0
theorem g50K:FL [g86T m]:=AllF.mem ⟨g86ok m,trivial⟩
def g50L2X:LT:=⟨4,[(1,sX 0 [iI,iI,iL,iL,.imm (.int .u64)]),(5,sI),(6,sI)],[(.ret,[(2,sI)]),(.exit 4,[(1,sX 0 [iI,iI,iL,iL,.imm (.int .u64)]),(5,sI)])],fun n x=>g50L2 m n x.1.1 x.1.2.1 x.1.2.2.1 x.1.2.2.2.1 x.1.2.2.2.2.1 x.2.1 x.2.2.1⟩
theorem g50L2ok {E} (hE:EO E 147 g50H) (n):LO E g50B4 ((g50L2X m).at n):=lk hE (g50K m) (g50L2X m) n
def g50L1X:LT:=⟨2,[(1,sX 0 [iI,iI,iL,iL,.imm (.int .u64)]),(5,sI)],[(.ret,[(2,sI)]),(.exit 2,[(1,sX 0 [iI,iI,iL,iL,.imm (.int .u64)])])],fun n x=>g50L1 m n x.1.1 x.1.2.1 x.1.2.2.1 x.1.2.2.2.1 x.1.2.2.2.2.1 x.2.1⟩
theorem g50L1ok {E} (hE:EO E 147 g50H) (n):LO E g50B2 ((g50L1X m).at n):=
 lok hmix htt hE (g50K m) (L:=[(g50L2X m).at m]) (g50L1X m) (l:=[(4,g50B4)]) kR (fun _ _=>⟨qi ⟨yb (g50L2ok m hE m),trivial⟩,trivial⟩) (fun n x=>kR) (fun _=>kR) n
def g50L0X:LT:=⟨0,[(1,sX 0 [iI,iI,iL,iL,.imm (.int .u64)]),(4,sI)],[(.ret,[(2,sI)]),(.exit 0,[(1,sX 0 [iI,iI,iL,iL,.imm (.int .u64)])])],fun n x=>g50L0 m n x.1.1 x.1.2.1 x.1.2.2.1 x.1.2.2.2.1 x.1.2.2.2.2.1 x.2.1⟩
theorem g50L0ok {E} (hE:EO E 147 g50H) (n):LO E g50B0 ((g50L0X m).at n):=lk hE (g50K m) (g50L0X m) n
theorem g50ok:FO (g50T m):=
 fok hmix htt (H:=g50H) (g50T m) func50 kR (g50K m) (L:=[(g50L0X m).at m,(g50L1X m).at m]) (l:=[(0,g50B0),(2,g50B2)]) kR (fun _ hE _ _=>⟨qi ⟨yb (g50L0ok m hE m),nb rfl,trivial⟩,qi ⟨nb rfl,yb (g50L1ok m hE m),trivial⟩,trivial⟩) (fun x=>kR)
def g19H:Hints:=⟨[J [1,2,3],J' [(3,1),(7,1)] [1,2,3,20],J [6],J [1,2,3,7],J [1,2,3,7,33],J' [(0,1)] [1,2,3,7],J [1,2,3,7,42],J' [(2,1)] [6],J [6]],[(0,[1,2,3,7])],[(0,[]),(1,[1,2,3,7])],[6],[],[[false]]⟩
def g19T:FunT:=⟨19,[.a (.agg [(.int .i64),(.int .i64),(.imm (.int .i64)),(.imm (.int .i64)),(.imm (.int .u64))]),sI,sI],sU,[sD,sD,sD],fun x=>g19 m x.1.1 x.1.2.1 x.1.2.2.1 x.1.2.2.2.1 x.1.2.2.2.2.1 x.2.1 x.2.2.1⟩
noncomputable def g19C:Code:=codeOf f19
noncomputable def g19B0:Code:=qp g19C 0 0
theorem g19K:FL [g50T m]:=AllF.mem ⟨g50ok m,trivial⟩
def g19L0X:LT:=⟨0,[(1,sI),(2,sI),(3,sX 0 [iI,iI,iL,iL,.imm (.int .u64)]),(7,sI)],[(.ret,[(6,sU)]),(.exit 0,[])],fun n x=>g19L0 m n x.1 x.2.1 x.2.2.1.1 x.2.2.1.2.1 x.2.2.1.2.2.1 x.2.2.1.2.2.2.1 x.2.2.1.2.2.2.2.1 x.2.2.2.1⟩
theorem g19L0ok {E} (hE:EO E 48 g19H) (n):LO E g19B0 ((g19L0X m).at n):=lk hE (g19K m) (g19L0X m) n
theorem g19ok:FO (g19T m):=f1' g19H (g19T m) func19 (g19K m) fun _ h=>g19L0ok m h m
def sparselaw39_pick_H:Hints:=⟨[J [0,1,2,3,4,10],J' [(0,1)] [0,1,2,3,4,10],J' [(0,1)] [0,1,2,3,4,10],J [0,1,2,3,4,10,19],J' [(0,1)] [0,1,2,3,4,10],J' [(0,1)] [1,2,3,4,10,12],J' [(1,1)] [1,3,4,10,12,13],J' [(0,1),(1,1)] [1,3,10,12,13,34],J [10,12,13],J' [(0,1),(1,1)] [10,11]],[],[],[10,11],[],[[false,false,true,true,true],[false]]⟩
abbrev sparselaw39_pick_A:List Sh:=[.a (.c (.imm (.int .u64))),sI,sI,sU,sB]
abbrev sparselaw39_pick_S:Sh:= .tup [(.agg [(.int .i64),(.int .i64),(.nm 0 (.int .i64)),(.nm 1 (.int .i64)),(.nm 2 (.int .u64))]),(.c (.int .u64))]
abbrev sparselaw39_pick_U:List Sh:=[sD,sD,sD,sD,sD]
def sparselaw39_pick_R:X4 sparselaw39_pick_A->Option (sparselaw39_pick_S.Val×X4 sparselaw39_pick_U):=fun(x:LI×Int×Int×Int×Bool×Unit)=>sparselaw39_pick m x.1 x.2.1 x.2.2.1 x.2.2.2.1 x.2.2.2.2.1
def sparselaw39_pick_T:FunT:=⟨11,sparselaw39_pick_A,sparselaw39_pick_S,sparselaw39_pick_U,sparselaw39_pick_R m⟩
theorem sparselaw39_pick_ok:FO (sparselaw39_pick_T m):=fk sparselaw39_pick_H (sparselaw39_pick_T m) func11 (AllF.mem (l:=[g14T m,g25T m,g21T m,g19T m]) ⟨g14ok m,g25ok m,g21ok m,g19ok m,trivial⟩)
def g99H:Hints:=⟨[J [0,1,2],J' [(1,1),(3,1),(5,1)] [6]],[],[],[6],[],[[false]]⟩
def g99T:FunT:=⟨99,[sI,sI,sI],sB,[sD,sD,sD],fun x=>g99 m x.1 x.2.1 x.2.2.1⟩
theorem g99ok:FO (g99T m):=fk g99H (g99T m) func99 noF
def g198H:Hints:=⟨[J [0],J [2]],[],[],[2],[],[[false]]⟩
def g198T:FunT:=⟨198,[sI],sB,[sD],fun x=>g198 m x.1⟩
theorem g198ok:FO (g198T m):=fk g198H (g198T m) func198 noF
def g186H:Hints:=⟨[J [0,1],J' [(2,1),(7,1)] [4]],[],[],[4],[],[[false]]⟩
def g186T:FunT:=⟨186,[sI,sI],sB,[sD,sD],fun x=>g186 m x.1 x.2.1⟩
theorem g186ok:FO (g186T m):=fk g186H (g186T m) func186 (AllF.mem (l:=[g198T m]) ⟨g198ok m,trivial⟩)
def g153H:Hints:=⟨[J [0],J [0,3],J [0,3,8],J' [(0,1)] [0,3],J [0,3,20],J [2],J [2]],[(0,[0,3])],[(0,[]),(1,[0,3])],[2],[],[[false]]⟩
def g153T:FunT:=⟨153,[sL],sB,[sD],fun x=>g153 m x.1⟩
noncomputable def g153C:Code:=codeOf f153
noncomputable def g153B0:Code:=qp g153C 0 0
theorem g153K:FL [g186T m]:=AllF.mem ⟨g186ok m,trivial⟩
def g153L0X:LT:=⟨0,[(0,sL),(3,sI)],[(.ret,[(2,sB)]),(.exit 0,[])],fun n x=>g153L0 m n x.1 x.2.1⟩
theorem g153L0ok {E} (hE:EO E 21 g153H) (n):LO E g153B0 ((g153L0X m).at n):=lk hE (g153K m) (g153L0X m) n
theorem g153ok:FO (g153T m):=f1' g153H (g153T m) func153 (g153K m) fun _ h=>g153L0ok m h m
def g100H:Hints:=⟨[J [1],J' [(7,1),(14,1),(20,1),(32,1)] [1,47],J [2],J [1,49,50],J [1,49,50,51],J [1,3,49,50],J [1,3,4,49,50],J [1,4,49,50,66,67,68],J [1,4,49,50,66,67,68,69],J [1,4,6,49,50,66,67,68],J' [(1,1),(3,1)] [1,6,49,50,66,67,68,80],J [2],J' [(0,1)] [1,4,49,50,66,67,68],J' [(1,1)] [1,4,49,50,66,67,68],J' [(1,1)] [1,49,50],J [2]],[(0,[1,49,50]),(2,[1,4,49,50,66,67,68])],[(0,[]),(1,[1,49,50]),(2,[1,49,50]),(3,[1,4,49,50,66,67,68])],[2],[],[[false]]⟩
def g100T:FunT:=⟨100,[.a (.agg [(.int .i64),(.int .i64),(.imm (.int .i64)),(.imm (.int .i64)),(.imm (.int .u64))])],sB,[sD],fun x=>g100 m x.1.1 x.1.2.1 x.1.2.2.1 x.1.2.2.2.1 x.1.2.2.2.2.1⟩
noncomputable def g100C:Code:=codeOf f100
noncomputable def g100B0:Code:=qp g100C 0 0
noncomputable def g100B2:Code:=qp g100B0 0 0
theorem g100K:FL [g153T m]:=AllF.mem ⟨g153ok m,trivial⟩
def g100L1X:LT:=⟨2,[(1,sX 0 [iI,iI,iL,iL,.imm (.int .u64)]),(4,sI),(49,sI),(50,sI),(66,sL),(67,sI),(68,sI)],[(.ret,[(2,sB)]),(.exit 2,[(1,sX 0 [iI,iI,iL,iL,.imm (.int .u64)]),(49,sI),(50,sI)])],fun n x=>g100L1 m n x.1.1 x.1.2.1 x.1.2.2.1 x.1.2.2.2.1 x.1.2.2.2.2.1 x.2.1 x.2.2.1 x.2.2.2.1 x.2.2.2.2.1 x.2.2.2.2.2.1 x.2.2.2.2.2.2.1⟩
theorem g100L1ok {E} (hE:EO E 84 g100H) (n):LO E g100B2 ((g100L1X m).at n):=lk hE (g100K m) (g100L1X m) n
def g100L0X:LT:=⟨0,[(1,sX 0 [iI,iI,iL,iL,.imm (.int .u64)]),(49,sI),(50,sI)],[(.ret,[(2,sB)]),(.exit 0,[])],fun n x=>g100L0 m n x.1.1 x.1.2.1 x.1.2.2.1 x.1.2.2.2.1 x.1.2.2.2.2.1 x.2.1 x.2.2.1⟩
theorem g100L0ok {E} (hE:EO E 84 g100H) (n):LO E g100B0 ((g100L0X m).at n):=
 lok hmix htt hE (g100K m) (L:=[(g100L1X m).at m]) (g100L0X m) (l:=[(2,g100B2)]) kR (fun _ _=>⟨qi ⟨yb (g100L1ok m hE m),trivial⟩,trivial⟩) (fun n x=>kR) (fun _=>kR) n
theorem g100ok:FO (g100T m):=f1' g100H (g100T m) func100 (g100K m) fun _ h=>g100L0ok m h m
def g103H:Hints:=⟨[J [0],J [2,3]],[],[],[2,3],[],[[false],[false]]⟩
def g103T:FunT:=⟨103,[sU],.tup [(.c (.int .i64)),(.c (.int .u64))],[sD],fun x=>g103 m x.1⟩
theorem g103ok:FO (g103T m):=fk g103H (g103T m) func103 noF
def g61H:Hints:=⟨[J [0],J' [(0,1),(2,1)] [3],J' [(0,1)] [2]],[],[],[2],[],[[false]]⟩
def g61T:FunT:=⟨61,[sU],sB,[sD],fun x=>g61 m x.1⟩
theorem g61ok:FO (g61T m):=fk g61H (g61T m) func61 (AllF.mem (l:=[g103T m]) ⟨g103ok m,trivial⟩)
def g102H:Hints:=⟨[J [0],J' [(0,1)] [2]],[],[],[2],[],[[false]]⟩
def g102T:FunT:=⟨102,[sU],sB,[sD],fun x=>g102 m x.1⟩
theorem g102ok:FO (g102T m):=fk g102H (g102T m) func102 (AllF.mem (l:=[g61T m]) ⟨g61ok m,trivial⟩)
def g154H:Hints:=⟨[J [0,1],J [0,1,7,8],J [0,1,7,8,9],J [0,1,5,7,8],J [0,1,5,7,8,16],J' [(0,1)] [4],J' [(1,1)] [0,1,7,8],J [4]],[(0,[0,1,7,8])],[(0,[]),(1,[0,1,7,8])],[4],[],[[false]]⟩
def g154T:FunT:=⟨154,[.a (.c (.imm (.int .u64))),.a (.c (.fn 102))],sI,[sD,sD],fun x=>g154 m x.1⟩
noncomputable def g154C:Code:=codeOf f154
noncomputable def g154B0:Code:=qp g154C 0 0
theorem g154K:FL [g102T m]:=AllF.mem ⟨g102ok m,trivial⟩
def g154L0X:LT:=⟨0,[(0,.a (.c (.imm (.int .u64)))),(1,.a (.c (.fn 102))),(7,sI),(8,sI)],[(.ret,[(4,sI)]),(.exit 0,[])],fun n x=>g154L0 m n x.1 x.2.2.1 x.2.2.2.1⟩
theorem g154L0ok {E} (hE:EO E 19 g154H) (n):LO E g154B0 ((g154L0X m).at n):=lk hE (g154K m) (g154L0X m) n
theorem g154ok:FO (g154T m):=f1' g154H (g154T m) func154 (g154K m) fun _ h=>g154L0ok m h m
def g101H:Hints:=⟨[J [0,1],J' [(0,1),(1,1)] [4]],[],[],[4],[],[[false]]⟩
def g101T:FunT:=⟨101,[.a (.c (.imm (.int .u64))),.a (.c (.fn 102))],sB,[sD,sD],fun x=>g101 m x.1⟩
theorem g101ok:FO (g101T m):=fk g101H (g101T m) func101 (AllF.mem (l:=[g154T m]) ⟨g154ok m,trivial⟩)
def g59H:Hints:=⟨[J [1],J' [(4,1),(10,1)] [1,3],J [2],J [1,20],J [2],J [24],J [2],J [2]],[],[(0,[])],[2],[],[[false]]⟩
def g59T:FunT:=⟨59,[.a (.agg [(.int .i64),(.int .i64),(.imm (.int .i64)),(.imm (.int .i64)),(.imm (.int .u64))])],sI,[sD],fun x=>g59 m x.1.1 x.1.2.1 x.1.2.2.1 x.1.2.2.2.1 x.1.2.2.2.2.1⟩
theorem g59ok:FO (g59T m):=fk g59H (g59T m) func59 (AllF.mem (l:=[g99T m,g100T m,g101T m]) ⟨g99ok m,g100ok m,g101ok m,trivial⟩)
def g60H:Hints:=⟨[J [0],J' [(0,1),(2,1)] [3,4],J' [(2,1)] [3,4,10],J [2],J [3,4,17],J [2],J' [(0,1),(2,1),(3,1)] [20],J [2],J [2]],[],[(0,[])],[2],[],[[false]]⟩
def g60T:FunT:=⟨60,[sU],sI,[sD],fun x=>g60 m x.1⟩
theorem g60ok:FO (g60T m):=fk g60H (g60T m) func60 (AllF.mem (l:=[g103T m]) ⟨g103ok m,trivial⟩)
def g33H:Hints:=⟨[J [1,2,3],J [1,2,3,7],J [1,2,3,7,11],J' [(0,1)] [6],J [1,2,3,13],J [6],J [1,2,19],J [6],J' [(3,1),(4,1),(6,1)] [23],J [6],J [6]],[],[(0,[])],[6],[],[[false]]⟩
def g33T:FunT:=⟨33,[.a (.agg [(.int .i64),(.int .i64),(.imm (.int .i64)),(.imm (.int .i64)),(.imm (.int .u64))]),sU,sB],sI,[sD,sD,sD],fun x=>g33 m x.1.1 x.1.2.1 x.1.2.2.1 x.1.2.2.2.1 x.1.2.2.2.2.1 x.2.1 x.2.2.1⟩
theorem g33ok:FO (g33T m):=fk g33H (g33T m) func33 (AllF.mem (l:=[g59T m,g60T m,g61T m]) ⟨g59ok m,g60ok m,g61ok m,trivial⟩)
def g140H:Hints:=⟨[J [0],J [0,3],J' [(2,1)] [0,3,15],J' [(0,1)] [0,3],J' [(0,1),(1,1)] [2]],[(0,[0,3])],[(0,[0,3]),(1,[0,3])],[2],[],[[false]]⟩
def g140T:FunT:=⟨140,[.a (.c (.imm (.int .u32)))],.a (.c (.imm (.int .u32))),[sD],fun x=>g140 m x.1⟩
noncomputable def g140C:Code:=codeOf f140
noncomputable def g140B0:Code:=qp g140C 0 0
def g140L0X:LT:=⟨0,[(0,.a (.c (.imm (.int .u32)))),(3,sI)],[(.exit 0,[(0,.a (.c (.imm (.int .u32)))),(3,sI)])],fun n x=>g140L0 m n x.1 x.2.1⟩
theorem g140L0ok {E} (hE:EO E 21 g140H) (n):LO E g140B0 ((g140L0X m).at n):=lk hE noF (g140L0X m) n
theorem g140ok:FO (g140T m):=f1' g140H (g140T m) func140 noF fun _ h=>g140L0ok m h m
def g146H:Hints:=⟨[J [0,1,4],J' [(0,1)] [0,1,4],J [0,1,4,9],J [4],J' [(0,1),(1,1)] [4]],[],[],[4],[],[[false,false]]⟩
def g146T:FunT:=⟨146,[sB,.a (.c (.imm (.int .u32)))],.a (.agg [.bool,(.imm (.int .u32))]),[sD,sD],fun x=>g146 m x.1 x.2.1⟩
theorem g146ok:FO (g146T m):=fk g146H (g146T m) func146 (AllF.mem (l:=[g140T m]) ⟨g140ok m,trivial⟩)
def g109H:Hints:=⟨[J [0,2],J [0,2,3],J [0,2,3,7],J' [(0,1)] [0,2,3],J' [(0,1)] [2]],[],[],[2],[],[[false,false]]⟩
def g109T:FunT:=⟨109,[sI],.a (.agg [.bool,(.imm (.int .u32))]),[sD],fun x=>g109 m x.1⟩
theorem g109ok:FO (g109T m):=fk g109H (g109T m) func109 (AllF.mem (l:=[g146T m]) ⟨g146ok m,trivial⟩)
def g110H:Hints:=⟨[J [0],J' [(0,1)] [2]],[],[],[2],[],[[false]]⟩
def g110T:FunT:=⟨110,[sU],sB,[sD],fun x=>g110 m x.1⟩
theorem g110ok:FO (g110T m):=fk g110H (g110T m) func110 noF
def g147H:Hints:={regs:=[J [0],J [0],J [2],J [2]],heads:=[],exits:=[],rets:=[2],pins:=[],spec:=[[true]]}
abbrev g147A:List Sh:=[.a (.c (.imm (.int .u32)))]
abbrev g147S:Sh:= .a (.c (.nm 0 (.int .u32)))
abbrev g147U:List Sh:=[sD]
def g147R:X4 g147A->Option (g147S.Val×X4 g147U):=fun x=>g147 m x.1
def g147T:FunT:=⟨147,g147A,g147S,g147U,g147R m⟩
noncomputable def g147C:Code:=codeOf f147
theorem g147ok:FO (g147T m):=
 qj6 hmix htt (H:=g147H) (fn:=f147) (f:=147) (t:=(.int .u32)) (ty:=72) (e:=132) (ty2:=72) (k:=1) (cells:=[.nil (.int .u32)]) (A:=pA g147C) (X:=pX (pB (pA (pB g147C)))) (Y:=pB (pB g147C)) (o0:=pO 0 (pA (pA (pB g147C)))) (o1:=pO 1 (pA (pA (pB g147C)))) func147 kR kR kR kR kR kR kR kR kR (of_decide_eq_true kR) rfl kR kR kR (fun xs=>[(0,.sl .imm (.int .u32) xs)]) (fun xs=>[(2,.sl (.nm 0) (.int .u32) xs)]) (fun xs=>kR) (fun _=>rfl) (fun _=>rfl) (fun _=>rfl) kR (fun xs=>kR) (fun xs=>kR)
def g111H:Hints:=⟨[J [1,2],J [2]],[],[],[2],[],[[false,false]]⟩
def g111T:FunT:=⟨111,[.a (.agg [.bool,(.imm (.int .u32))])],.a (.agg [.bool,(.imm (.int .u32))]),[sD],fun x=>g111 m x.1.1 x.1.2.1⟩
theorem g111ok:FO (g111T m):=fk g111H (g111T m) func111 (AllF.mem (l:=[g147T m,g146T m]) ⟨g147ok m,g146ok m,trivial⟩)
def g145H:Hints:=⟨[J [0],J [0]],[],[],[0],[],[[false,false,true,false]]⟩
def g145T:FunT:=⟨145,[],.a (.agg [.bool,.bool,(.nm 0 (.int .u32)),(.int .i64)]),[],fun x=>g145 m⟩
theorem g145ok:FO (g145T m):=fk g145H (g145T m) func145 noF
def g95H:Hints:=⟨[J [1,2],J [2]],[],[],[2],[],[[false,false]]⟩
def g95T:FunT:=⟨95,[.a (.agg [.bool,(.imm (.int .u32))])],.a (.agg [.bool,(.imm (.int .u32))]),[sD],fun x=>g95 m x.1.1 x.1.2.1⟩
theorem g95ok:FO (g95T m):=fk g95H (g95T m) func95 (AllF.mem (l:=[g147T m,g146T m]) ⟨g147ok m,g146ok m,trivial⟩)
def g91H:Hints:=⟨[J [1],J [1,3],J [2],J [9],J [2],J [2]],[],[(0,[])],[2],[],[[false]]⟩
def g91T:FunT:=⟨91,[.a (.agg [.bool,(.imm (.int .u32))])],sI,[sD],fun x=>g91 m x.1.1 x.1.2.1⟩
theorem g91ok:FO (g91T m):=fk g91H (g91T m) func91 (AllF.mem (l:=[g140T m]) ⟨g140ok m,trivial⟩)
def g149H:Hints:=⟨[J [1],J [6,7,8],J [6,7,8,9],J [3,4,6,7,8],J [3,4,6,7,8,14],J' [(0,1),(2,1)] [2],J' [(1,1)] [6,7,8],J [2]],[(0,[6,7,8])],[(0,[]),(1,[6,7,8])],[2],[],[[false]]⟩
def g149T:FunT:=⟨149,[.a (.agg [.bool,(.imm (.int .u32))])],sI,[sD],fun x=>g149 m x.1.1 x.1.2.1⟩
noncomputable def g149C:Code:=codeOf f149
noncomputable def g149B0:Code:=qp g149C 0 0
theorem g149K:FL [g173T m]:=AllF.mem ⟨g173ok m,trivial⟩
def g149L0X:LT:=⟨0,[(6,.a (.c (.imm (.int .u32)))),(7,sI),(8,sI)],[(.ret,[(2,sI)]),(.exit 0,[])],fun n x=>g149L0 m n x.1 x.2.1 x.2.2.1⟩
theorem g149L0ok {E} (hE:EO E 21 g149H) (n):LO E g149B0 ((g149L0X m).at n):=lk hE (g149K m) (g149L0X m) n
theorem g149ok:FO (g149T m):=f1' g149H (g149T m) func149 (g149K m) fun _ h=>g149L0ok m h m
def g184H:Hints:=⟨[J [0],J [0,5],J [2],J [2]],[],[],[2],[],[[false]]⟩
def g184T:FunT:=⟨184,[.a (.c (.imm (.int .u32)))],sI,[sD],fun x=>g184 m x.1⟩
theorem g184ok:FO (g184T m):=fk g184H (g184T m) func184 (AllF.mem (l:=[g170T m]) ⟨g170ok m,trivial⟩)
def g150H:Hints:=⟨[J [1],J [2]],[],[],[2],[],[[false]]⟩
def g150T:FunT:=⟨150,[.a (.agg [.bool,(.imm (.int .u32))])],sI,[sD],fun x=>g150 m x.1.1 x.1.2.1⟩
theorem g150ok:FO (g150T m):=fk g150H (g150T m) func150 (AllF.mem (l:=[g140T m,g184T m]) ⟨g140ok m,g184ok m,trivial⟩)
def g182H:Hints:=⟨[J [0,1],J [0,1,13],J [4],J [0,5,6],J [0,5,6,7],J' [(0,1)] [5,6,7,25,26,27],J [5,6,7,25,26,27,28],J [5,6,7,8,9,25,26,27],J' [(0,1)] [5,6,7,8,10,25,26,27],J [5,6,7,8,10,25,26,27],J' [(2,1),(5,1)] [5,6,7,25,26,27],J' [(1,1)] [5,6,7,25,26,27],J' [(0,1)] [4]],[(0,[5,6,7,25,26,27])],[(0,[7]),(1,[5,6,7,25,26,27])],[4],[],[[false]]⟩
def g182T:FunT:=⟨182,[.a (.c (.imm (.int .u32))),sI],.a (.c (.imm (.int .u32))),[sD,sD],fun x=>g182 m x.1 x.2.1⟩
noncomputable def g182C:Code:=codeOf f182
noncomputable def g182B0:Code:=qp g182C 0 0
theorem g182K:FL [g140T m]:=AllF.mem ⟨g140ok m,trivial⟩
def g182L0X:LT:=⟨0,[(5,sI),(6,sU),(7,.a (.c (.nm 0 (.int .u32)))),(25,.a (.c (.imm (.int .u32)))),(26,sI),(27,sI)],[(.exit 0,[(7,.a (.c (.nm 0 (.int .u32))))])],fun n x=>g182L0 m n x.1 x.2.1 x.2.2.1 x.2.2.2.1 x.2.2.2.2.1 x.2.2.2.2.2.1⟩
theorem g182L0ok {E} (hE:EO E 59 g182H) (n):LO E g182B0 ((g182L0X m).at n):=lk hE (g182K m) (g182L0X m) n
theorem g182ok:FO (g182T m):=f1' g182H (g182T m) func182 (g182K m) fun _ h=>g182L0ok m h m
def g203H:Hints:=⟨[J [0],J' [(0,1)] [2]],[],[],[2],[],[[false]]⟩
def g203T:FunT:=⟨203,[.a (.c (.int .u32))],sB,[sD],fun x=>g203 m x.1⟩
theorem g203ok:FO (g203T m):=fk g203H (g203T m) func203 noF
def g210H:Hints:=⟨[J [0,1],J [0,1,7,8],J [0,1,7,8,9],J [0,1,5,7,8],J [0,1,5,7,8,16],J' [(0,1)] [4],J' [(1,1)] [0,1,7,8],J [4]],[(0,[0,1,7,8])],[(0,[]),(1,[0,1,7,8])],[4],[],[[false]]⟩
def g210T:FunT:=⟨210,[.a (.c (.imm (.int .u32))),.a (.c (.fn 203))],sI,[sD,sD],fun x=>g210 m x.1⟩
noncomputable def g210C:Code:=codeOf f210
noncomputable def g210B0:Code:=qp g210C 0 0
theorem g210K:FL [g203T m]:=AllF.mem ⟨g203ok m,trivial⟩
def g210L0X:LT:=⟨0,[(0,.a (.c (.imm (.int .u32)))),(1,.a (.c (.fn 203))),(7,sI),(8,sI)],[(.ret,[(4,sI)]),(.exit 0,[])],fun n x=>g210L0 m n x.1 x.2.2.1 x.2.2.2.1⟩
theorem g210L0ok {E} (hE:EO E 19 g210H) (n):LO E g210B0 ((g210L0X m).at n):=lk hE (g210K m) (g210L0X m) n
theorem g210ok:FO (g210T m):=f1' g210H (g210T m) func210 (g210K m) fun _ h=>g210L0ok m h m
def g202H:Hints:=⟨[J [0,1],J' [(0,1),(1,1)] [4]],[],[],[4],[],[[false]]⟩
def g202T:FunT:=⟨202,[.a (.c (.imm (.int .u32))),.a (.c (.fn 203))],sB,[sD,sD],fun x=>g202 m x.1⟩
theorem g202ok:FO (g202T m):=fk g202H (g202T m) func202 (AllF.mem (l:=[g210T m]) ⟨g210ok m,trivial⟩)
def g183H:Hints:=⟨[J [0,1],J [0,6,7],J [0,6,7,20],J' [(0,1)] [4,5],J' [(4,1)] [0,6,7,8],J [0,6,7,8,9],J [0,6,7,8,9,45,46],J [0,6,7,8,9,45,46,47],J [0,6,7,8,9,10,45,46],J [0,6,7,8,9,10,11,45,46],J [0,6,7,8,9,10,11,45,46,62],J' [(0,1)] [0,6,7,8,9,10,11,45,46],J' [(1,1),(2,1)] [0,6,7,8,9,45,46],J' [(1,1)] [0,6,7,8,9,45,46],J' [(0,1),(2,1)] [4,5]],[(0,[0,6,7,8,9,45,46])],[(0,[8,9]),(1,[0,6,7,8,9,45,46])],[4,5],[],[[false],[false]]⟩
def g183T:FunT:=⟨183,[.a (.c (.imm (.int .u32))),sI],.tup [(.c (.imm (.int .u32))),(.c .bool)],[sD,sD],fun x=>g183 m x.1 x.2.1⟩
noncomputable def g183C:Code:=codeOf f183
noncomputable def g183B0:Code:=qp g183C 0 0
theorem g183K:FL [g202T m,g140T m]:=AllF.mem ⟨g202ok m,g140ok m,trivial⟩
def g183L0X:LT:=⟨0,[(0,.a (.c (.imm (.int .u32)))),(6,sI),(7,sU),(8,sB),(9,.a (.c (.nm 0 (.int .u32)))),(45,sI),(46,sI)],[(.exit 0,[(8,sB),(9,.a (.c (.nm 0 (.int .u32))))])],fun n x=>g183L0 m n x.1 x.2.1 x.2.2.1 x.2.2.2.1 x.2.2.2.2.1 x.2.2.2.2.2.1 x.2.2.2.2.2.2.1⟩
theorem g183L0ok {E} (hE:EO E 86 g183H) (n):LO E g183B0 ((g183L0X m).at n):=lk hE (g183K m) (g183L0X m) n
theorem g183ok:FO (g183T m):=f1' g183H (g183T m) func183 (g183K m) fun _ h=>g183L0ok m h m
def g178H:Hints:=⟨[J [0,1],J [0,1,14],J' [(0,1),(1,1)] [0,1],J [0,1,5],J [0,1,5,6],J' [(0,1)] [1,5,6,21,22,23],J [1,5,6,21,22,23,24],J [1,5,6,7,8,21,22,23],J' [(0,1),(2,1)] [1,5,7,9,21,22,23],J [1,5,7,9,21,22,23,35],J' [(0,1),(2,1)] [1,5,9,21,22,23],J' [(0,1)] [1,5,9,21,22,23],J' [(0,1)] [1,5,6,21,22,23],J' [(1,1)] [1,5,6,21,22,23],J' [(0,1),(1,1)] [4]],[(0,[1,5,6,21,22,23])],[(0,[5,6]),(1,[1,5,6,21,22,23])],[4],[],[[false]]⟩
def g178T:FunT:=⟨178,[.a (.c (.imm (.int .u32))),.a (.c (.imm (.int .u32)))],.a (.c (.imm (.int .u32))),[sD,sD],fun x=>g178 m x.1 x.2.1⟩
noncomputable def g178C:Code:=codeOf f178
noncomputable def g178B0:Code:=qp g178C 0 0
theorem g178K:FL [g140T m]:=AllF.mem ⟨g140ok m,trivial⟩
def g178L0X:LT:=⟨0,[(1,.a (.c (.imm (.int .u32)))),(5,.a (.c (.nm 0 (.int .u32)))),(6,sU),(21,.a (.c (.imm (.int .u32)))),(22,sI),(23,sI)],[(.exit 0,[(5,.a (.c (.nm 0 (.int .u32)))),(6,sU)])],fun n x=>g178L0 m n x.1 x.2.1 x.2.2.1 x.2.2.2.1 x.2.2.2.2.1 x.2.2.2.2.2.1⟩
theorem g178L0ok {E} (hE:EO E 58 g178H) (n):LO E g178B0 ((g178L0X m).at n):=lk hE (g178K m) (g178L0X m) n
theorem g178ok:FO (g178T m):=f1' g178H (g178T m) func178 (g178K m) fun _ h=>g178L0ok m h m
def g144H:Hints:=⟨[J [1,2,4],J' [(2,1)] [1,2,4,14],J [4,5],J [1,2,4,6],J [1,2,4,6,20],J' [(2,1),(3,1)] [4,5],J' [(0,1),(1,1),(4,1)] [2,4,7,8],J' [(2,1),(3,1)] [2,4,7,38],J' [(0,1)] [2,4,7],J' [(2,1)] [4,5]],[],[],[4,5],[],[[false,false],[false]]⟩
def g144T:FunT:=⟨144,[.a (.agg [.bool,(.imm (.int .u32))]),sI],.tup [(.agg [.bool,(.imm (.int .u32))]),(.c (.int .i64))],[sD,sD],fun x=>g144 m x.1.1 x.1.2.1 x.2.1⟩
theorem g144ok:FO (g144T m):=fk g144H (g144T m) func144 (AllF.mem (l:=[g140T m,g182T m,g146T m,g183T m,g178T m]) ⟨g140ok m,g182ok m,g146ok m,g183ok m,g178ok m,trivial⟩)
def g151H:Hints:=⟨[J [1,2,4],J [1,2,4,6],J' [(2,1)] [1,2,4],J' [(0,1)] [1,2,4],J' [(1,1),(4,1)] [2,4],J [4]],[(0,[1,2,4])],[(0,[1,2,4]),(1,[1,2,4])],[4],[],[[false,false]]⟩
def g151T:FunT:=⟨151,[.a (.agg [.bool,(.imm (.int .u32))]),sI],.a (.agg [.bool,(.imm (.int .u32))]),[sD,sD],fun x=>g151 m x.1.1 x.1.2.1 x.2.1⟩
noncomputable def g151C:Code:=codeOf f151
noncomputable def g151B0:Code:=qp g151C 0 0
theorem g151K:FL [g144T m]:=AllF.mem ⟨g144ok m,trivial⟩
def g151L0X:LT:=⟨0,[(1,sI),(2,sX 0 [.bool,.imm (.int .u32)]),(4,sX 1 [.bool,.nm 2 (.int .u32)])],[(.exit 0,[(1,sI),(2,sX 0 [.bool,.imm (.int .u32)]),(4,sX 1 [.bool,.nm 2 (.int .u32)])])],fun n x=>g151L0 m n x.1 x.2.1.1 x.2.1.2.1 x.2.2.1.1 x.2.2.1.2.1⟩
theorem g151L0ok {E} (hE:EO E 22 g151H) (n):LO E g151B0 ((g151L0X m).at n):=lk hE (g151K m) (g151L0X m) n
theorem g151ok:FO (g151T m):=f1' g151H (g151T m) func151 (g151K m) fun _ h=>g151L0ok m h m
def g97H:Hints:=⟨[J [1,2],J [1,2,7],J [2,3],J [1,2,4],J [1,2,4,14],J [2,3],J [1,2,4,5],J' [(6,1)] [1,2,4,5,30],J [2,3],J [2,3]],[],[],[2,3],[],[[false,false,false,false],[false]]⟩
def g97T:FunT:=⟨97,[.a (.agg [.bool,.bool,(.imm (.int .u32)),(.int .i64)])],.tup [(.agg [.bool,.bool,(.imm (.int .u32)),(.int .i64)]),(.c .bool)],[sD],fun x=>g97 m x.1.1 x.1.2.1 x.1.2.2.1 x.1.2.2.2.1⟩
theorem g97ok:FO (g97T m):=fk g97H (g97T m) func97 (AllF.mem (l:=[g145T m,g95T m,g91T m,g149T m,g150T m,g151T m]) ⟨g145ok m,g95ok m,g91ok m,g149ok m,g150ok m,g151ok m,trivial⟩)
def g112H:Hints:=⟨[J [1,2,4],J' [(1,1),(4,1)] [4,5],J [4]],[],[],[4],[],[[false,false,false,false]]⟩
def g112T:FunT:=⟨112,[.a (.agg [.bool,(.imm (.int .u32))]),sI],.a (.agg [.bool,.bool,(.imm (.int .u32)),(.int .i64)]),[sD,sD],fun x=>g112 m x.1.1 x.1.2.1 x.2.1⟩
theorem g112ok:FO (g112T m):=fk g112H (g112T m) func112 (AllF.mem (l:=[g97T m]) ⟨g97ok m,trivial⟩)
def g65H:Hints:=⟨[J [0,2],J' [(2,1)] [0,2,3,4],J [0,2,3,4,11],J' [(0,1)] [0,2,3,4],J' [(0,1)] [0,2,3,4],J [0,2,3,4,11,16],J [2],J [0,2,3,4,19],J [0,2,3,4],J' [(0,1)] [0,2,3,5],J' [(0,1)] [2,3,5,25],J [2,3,5],J' [(1,1)] [2]],[],[(0,[0,2,3,4])],[2],[],[[false,false,false,false]]⟩
def g65T:FunT:=⟨65,[sU],.a (.agg [.bool,.bool,(.imm (.int .u32)),(.int .i64)]),[sD],fun x=>g65 m x.1⟩
theorem g65ok:FO (g65T m):=fk g65H (g65T m) func65 (AllF.mem (l:=[g103T m,g109T m,g110T m,g111T m,g112T m]) ⟨g103ok m,g109ok m,g110ok m,g111ok m,g112ok m,trivial⟩)
def g114H:Hints:=⟨[J [1,2],J' [(2,1)] [1,2,3],J' [(0,1)] [1,2,9],J [1,2],J [2]],[],[],[2],[],[[false,false,false,false]]⟩
def g114T:FunT:=⟨114,[.a (.agg [.bool,.bool,(.imm (.int .u32)),(.int .i64)])],.a (.agg [.bool,.bool,(.imm (.int .u32)),(.int .i64)]),[sD],fun x=>g114 m x.1.1 x.1.2.1 x.1.2.2.1 x.1.2.2.2.1⟩
theorem g114ok:FO (g114T m):=fk g114H (g114T m) func114 (AllF.mem (l:=[g97T m,g111T m]) ⟨g97ok m,g111ok m,trivial⟩)
def g161H:Hints:=⟨[J [2,3,4,5],J' [(2,1)] [3,4,5,6],J' [(2,1)] [4,5,6,7],J' [(2,1),(3,1),(4,1)] [4,5,6]],[],[],[4,5,6],[],[[false,false,false,false],[false,false,false,false],[false]]⟩
def g161T:FunT:=⟨161,[.a (.agg [.bool,.bool,(.imm (.int .u32)),(.int .i64)]),.a (.agg [.bool,.bool,(.imm (.int .u32)),(.int .i64)])],.tup [(.agg [.bool,.bool,(.imm (.int .u32)),(.int .i64)]),(.agg [.bool,.bool,(.imm (.int .u32)),(.int .i64)]),(.c .bool)],[sD,sD],fun x=>g161 m x.1.1 x.1.2.1 x.1.2.2.1 x.1.2.2.2.1 x.2.1.1 x.2.1.2.1 x.2.1.2.2.1 x.2.1.2.2.2.1⟩
theorem g161ok:FO (g161T m):=fk g161H (g161T m) func161 (AllF.mem (l:=[g97T m]) ⟨g97ok m,trivial⟩)
def g192H:Hints:=⟨[J [1,2,4],J' [(1,1),(3,1)] [2,4],J [4]],[],[],[4],[],[[false,false]]⟩
def g192T:FunT:=⟨192,[.a (.agg [.bool,(.imm (.int .u32))]),sI],.a (.agg [.bool,(.imm (.int .u32))]),[sD,sD],fun x=>g192 m x.1.1 x.1.2.1 x.2.1⟩
theorem g192ok:FO (g192T m):=fk g192H (g192T m) func192 (AllF.mem (l:=[g144T m]) ⟨g144ok m,trivial⟩)
def g162H:Hints:=⟨[J [2,3,4,5],J [2,3,4,5,6],J [4,5,6]],[],[],[4,5,6],[],[[false,false],[false,false],[false]]⟩
def g162T:FunT:=⟨162,[.a (.agg [.bool,.bool,(.imm (.int .u32)),(.int .i64)]),.a (.agg [.bool,.bool,(.imm (.int .u32)),(.int .i64)])],.tup [(.agg [.bool,(.imm (.int .u32))]),(.agg [.bool,(.imm (.int .u32))]),(.c (.int .i64))],[sD,sD],fun x=>g162 m x.1.1 x.1.2.1 x.1.2.2.1 x.1.2.2.2.1 x.2.1.1 x.2.1.2.1 x.2.1.2.2.1 x.2.1.2.2.2.1⟩
theorem g162ok:FO (g162T m):=fk g162H (g162T m) func162 (AllF.mem (l:=[g192T m]) ⟨g192ok m,trivial⟩)
def g176H:Hints:=⟨[J [0,1],J [0,1,5],J [0,1,5,6],J' [(0,1)] [0,1,6,11],J' [(0,1)] [12],J [4],J [4],J' [(0,1)] [0,1,13],J [4],J [0,1,16],J [4],J' [(0,1),(1,1)] [19],J [4],J [4]],[],[],[4],[],[[false]]⟩
def g176T:FunT:=⟨176,[sI,sI],sI,[sD,sD],fun x=>g176 m x.1 x.2.1⟩
theorem g176ok:FO (g176T m):=fk g176H (g176T m) func176 (AllF.mem (l:=[g198T m]) ⟨g198ok m,trivial⟩)
def g199H:Hints:=⟨[J [0],J [2]],[],[],[2],[],[[false]]⟩
def g199T:FunT:=⟨199,[.a (.c (.int .u32))],sB,[sD],fun x=>g199 m x.1⟩
theorem g199ok:FO (g199T m):=fk g199H (g199T m) func199 noF
def g177H:Hints:=⟨[J [0,1],J [0,1,5],J [0,1,5,6],J' [(0,1)] [0,1,6,11],J' [(0,1)] [12],J [4],J [4],J' [(0,1)] [0,1,13],J [4],J [0,1,16],J [4],J' [(0,1),(1,1)] [19],J [4],J [4]],[],[],[4],[],[[false]]⟩
def g177T:FunT:=⟨177,[.a (.c (.int .u32)),.a (.c (.int .u32))],sI,[sD,sD],fun x=>g177 m x.1 x.2.1⟩
theorem g177ok:FO (g177T m):=fk g177H (g177T m) func177 (AllF.mem (l:=[g199T m]) ⟨g199ok m,trivial⟩)
def g139H:Hints:=⟨[J [0,1],J [0,1,10],J' [(0,1),(2,1)] [4],J [0,1,5],J [0,1,5,20],J' [(0,1)] [0,1,5],J [0,1,5,31],J' [(0,1),(4,1)] [4],J [4]],[(0,[0,1,5])],[(0,[]),(1,[0,1,5])],[4],[],[[false]]⟩
def g139T:FunT:=⟨139,[.a (.c (.imm (.int .u32))),.a (.c (.imm (.int .u32)))],sI,[sD,sD],fun x=>g139 m x.1 x.2.1⟩
noncomputable def g139C:Code:=codeOf f139
noncomputable def g139B0:Code:=qp g139C 0 0
theorem g139K:FL [g176T m,g177T m]:=AllF.mem ⟨g176ok m,g177ok m,trivial⟩
def g139L0X:LT:=⟨0,[(0,.a (.c (.imm (.int .u32)))),(1,.a (.c (.imm (.int .u32)))),(5,sI)],[(.ret,[(4,sI)]),(.exit 0,[])],fun n x=>g139L0 m n x.1 x.2.1 x.2.2.1⟩
theorem g139L0ok {E} (hE:EO E 41 g139H) (n):LO E g139B0 ((g139L0X m).at n):=lk hE (g139K m) (g139L0X m) n
theorem g139ok:FO (g139T m):=f1' g139H (g139T m) func139 (g139K m) fun _ h=>g139L0ok m h m
def g179H:Hints:=⟨[J [0,1],J [0,1,5],J [0,1,5,6],J' [(0,1)] [1,5,6,13,14,15],J [1,5,6,13,14,15,16],J [1,5,6,7,8,13,14,15],J' [(0,1),(2,1)] [1,5,7,9,13,14,15],J [1,5,7,9,13,14,15,27],J' [(0,1)] [1,5,7,9,13,14,15],J' [(1,1)] [1,5,9,13,14,15],J' [(0,1)] [1,5,6,13,14,15],J' [(1,1)] [1,5,6,13,14,15],J' [(0,1)] [4]],[(0,[1,5,6,13,14,15])],[(0,[5]),(1,[1,5,6,13,14,15])],[4],[],[[false]]⟩
def g179T:FunT:=⟨179,[.a (.c (.imm (.int .u32))),.a (.c (.imm (.int .u32)))],.a (.c (.imm (.int .u32))),[sD,sD],fun x=>g179 m x.1 x.2.1⟩
noncomputable def g179C:Code:=codeOf f179
noncomputable def g179B0:Code:=qp g179C 0 0
theorem g179K:FL [g140T m]:=AllF.mem ⟨g140ok m,trivial⟩
def g179L0X:LT:=⟨0,[(1,.a (.c (.imm (.int .u32)))),(5,.a (.c (.nm 0 (.int .u32)))),(6,sU),(13,.a (.c (.imm (.int .u32)))),(14,sI),(15,sI)],[(.exit 0,[(5,.a (.c (.nm 0 (.int .u32))))])],fun n x=>g179L0 m n x.1 x.2.1 x.2.2.1 x.2.2.2.1 x.2.2.2.2.1 x.2.2.2.2.2.1⟩
theorem g179L0ok {E} (hE:EO E 47 g179H) (n):LO E g179B0 ((g179L0X m).at n):=lk hE (g179K m) (g179L0X m) n
theorem g179ok:FO (g179T m):=f1' g179H (g179T m) func179 (g179K m) fun _ h=>g179L0ok m h m
def g141H:Hints:=⟨[J [2,3,4],J [2,3,4,5,6],J [2,3,4,5,6,13],J' [(2,1),(3,1)] [4],J [2,3,4,5,6,25],J' [(2,1),(3,1)] [4],J' [(2,1),(3,1)] [4]],[],[(0,[3,4,5,6])],[4],[],[[false,false]]⟩
def g141T:FunT:=⟨141,[.a (.agg [.bool,(.imm (.int .u32))]),.a (.agg [.bool,(.imm (.int .u32))])],.a (.agg [.bool,(.imm (.int .u32))]),[sD,sD],fun x=>g141 m x.1.1 x.1.2.1 x.2.1.1 x.2.1.2.1⟩
theorem g141ok:FO (g141T m):=fk g141H (g141T m) func141 (AllF.mem (l:=[g140T m,g178T m,g146T m,g139T m,g179T m]) ⟨g140ok m,g178ok m,g146ok m,g139ok m,g179ok m,trivial⟩)
def g113H:Hints:=⟨[J [2,3,4],J' [(3,1)] [2,3,4,5],J' [(0,1)] [2,3,4,17],J [4],J' [(3,1)] [4,6,7,8],J' [(3,1)] [4]],[],[],[4],[],[[false,false,false,false]]⟩
def g113T:FunT:=⟨113,[.a (.agg [.bool,.bool,(.imm (.int .u32)),(.int .i64)]),.a (.agg [.bool,.bool,(.imm (.int .u32)),(.int .i64)])],.a (.agg [.bool,.bool,(.imm (.int .u32)),(.int .i64)]),[sD,sD],fun x=>g113 m x.1.1 x.1.2.1 x.1.2.2.1 x.1.2.2.2.1 x.2.1.1 x.2.1.2.1 x.2.1.2.2.1 x.2.1.2.2.2.1⟩
theorem g113ok:FO (g113T m):=fk g113H (g113T m) func113 (AllF.mem (l:=[g161T m,g145T m,g162T m,g141T m,g112T m]) ⟨g161ok m,g145ok m,g162ok m,g141ok m,g112ok m,trivial⟩)
def g66H:Hints:=⟨[J [2,3,4],J [4]],[],[],[4],[],[[false,false,false,false]]⟩
def g66T:FunT:=⟨66,[.a (.agg [.bool,.bool,(.imm (.int .u32)),(.int .i64)]),.a (.agg [.bool,.bool,(.imm (.int .u32)),(.int .i64)])],.a (.agg [.bool,.bool,(.imm (.int .u32)),(.int .i64)]),[sD,sD],fun x=>g66 m x.1.1 x.1.2.1 x.1.2.2.1 x.1.2.2.2.1 x.2.1.1 x.2.1.2.1 x.2.1.2.2.1 x.2.1.2.2.2.1⟩
theorem g66ok:FO (g66T m):=fk g66H (g66T m) func66 (AllF.mem (l:=[g114T m,g113T m]) ⟨g114ok m,g113ok m,trivial⟩)
def g35H:Hints:=⟨[J [1,2],J' [(2,4)] [1,2,5],J [1,2,5,15,16],J [1,2,5,15,16,17],J [1,2,5,6,15,16],J' [(1,1),(6,4)] [1,2,5,15,16],J' [(1,1)] [1,2,5,15,16],J [1,2,5,27,28],J [1,2,5,27,28,29],J [1,2,5,7,27,28],J [1,2,5,7,8,27,28],J [1,2,5,7,8,27,28,43],J' [(0,1)] [1,2,5,7,8,27,28],J [1,2,5,7,8,9,27,28],J [1,2,5,7,8,9,27,28,53],J [1,2,5,7,8,27,28],J' [(1,1)] [1,2,5,27,28],J [1,5,80,81],J [1,5,80,81,82],J [1,5,10,80,81],J [1,5,80,81],J' [(1,1)] [1,5,80,81],J' [(0,1)] [4]],[(0,[1,2,5,15,16]),(2,[1,2,5,27,28]),(4,[1,2,5,7,8,27,28]),(6,[1,5,80,81])],[(0,[1,2,5]),(1,[1,2,5,15,16]),(2,[1,5]),(3,[1,2,5,27,28]),(4,[1,2,5,27,28]),(5,[1,2,5,7,8,27,28]),(6,[5]),(7,[1,5,80,81])],[4],[],[[false]]⟩
def g35T:FunT:=⟨35,[.a (.agg [(.int .i64),(.int .i64),(.imm (.int .i64)),(.imm (.int .i64)),(.imm (.int .u64))]),sU],.a (.c (.imm (.sl false (.pr .bool (.pr (.pr .bool (.sl false (.int .u32))) (.int .i64)))))),[sD,sD],fun x=>g35 m x.1.1 x.1.2.1 x.1.2.2.1 x.1.2.2.2.1 x.1.2.2.2.2.1 x.2.1⟩
noncomputable def g35C:Code:=codeOf f35
noncomputable def g35B0:Code:=qp g35C 0 0
noncomputable def g35B2:Code:=qp g35C 0 1
noncomputable def g35B4:Code:=qp g35B2 2 0
noncomputable def g35B6:Code:=qp g35C 0 2
theorem g35K:FL [g65T m,g66T m]:=AllF.mem ⟨g65ok m,g66ok m,trivial⟩
def g35L3X:LT:=⟨6,[(1,sU),(5,.a (.c (.dp 0 (.pr .bool (.pr (.pr .bool (.sl false (.int .u32))) (.int .i64)))))),(80,sI),(81,sI)],[(.exit 6,[(5,.a (.c (.dp 0 (.pr .bool (.pr (.pr .bool (.sl false (.int .u32))) (.int .i64))))))])],fun n x=>g35L3 m n x.1 x.2.1 x.2.2.1 x.2.2.2.1⟩
theorem g35L3ok {E} (hE:EO E 102 g35H) (n):LO E g35B6 ((g35L3X m).at n):=lk hE (g35K m) (g35L3X m) n
def g35L2X:LT:=⟨4,[(1,sU),(2,sX 0 [iI,iI,iL,iL,.imm (.int .u64)]),(5,.a (.c (.dp 1 (.pr .bool (.pr (.pr .bool (.sl false (.int .u32))) (.int .i64)))))),(7,sI),(8,sI),(27,sI),(28,sI)],[(.exit 4,[(1,sU),(2,sX 0 [iI,iI,iL,iL,.imm (.int .u64)]),(5,.a (.c (.dp 1 (.pr .bool (.pr (.pr .bool (.sl false (.int .u32))) (.int .i64)))))),(27,sI),(28,sI)])],fun n x=>g35L2 m n x.1 x.2.1.1 x.2.1.2.1 x.2.1.2.2.1 x.2.1.2.2.2.1 x.2.1.2.2.2.2.1 x.2.2.1 x.2.2.2.1 x.2.2.2.2.1 x.2.2.2.2.2.1 x.2.2.2.2.2.2.1⟩
theorem g35L2ok {E} (hE:EO E 102 g35H) (n):LO E g35B4 ((g35L2X m).at n):=lk hE (g35K m) (g35L2X m) n
def g35L1X:LT:=⟨2,[(1,sU),(2,sX 0 [iI,iI,iL,iL,.imm (.int .u64)]),(5,.a (.c (.dp 1 (.pr .bool (.pr (.pr .bool (.sl false (.int .u32))) (.int .i64)))))),(27,sI),(28,sI)],[(.exit 2,[(1,sU),(5,.a (.c (.dp 0 (.pr .bool (.pr (.pr .bool (.sl false (.int .u32))) (.int .i64))))))])],fun n x=>g35L1 m n x.1 x.2.1.1 x.2.1.2.1 x.2.1.2.2.1 x.2.1.2.2.2.1 x.2.1.2.2.2.2.1 x.2.2.1 x.2.2.2.1 x.2.2.2.2.1⟩
theorem g35L1ok {E} (hE:EO E 102 g35H) (n):LO E g35B2 ((g35L1X m).at n):=
 lok hmix htt hE (g35K m) (L:=[(g35L2X m).at m]) (g35L1X m) (l:=[(4,g35B4)]) kR (fun _ _=>⟨qi ⟨yb (g35L2ok m hE m),trivial⟩,trivial⟩) (fun n x=>kR) (fun _=>kR) n
def g35L0X:LT:=⟨0,[(1,sU),(2,sX 0 [iI,iI,iL,iL,.imm (.int .u64)]),(5,.a (.c (.dp 1 (.pr .bool (.pr (.pr .bool (.sl false (.int .u32))) (.int .i64)))))),(15,sI),(16,sI)],[(.exit 0,[(1,sU),(2,sX 0 [iI,iI,iL,iL,.imm (.int .u64)]),(5,.a (.c (.dp 1 (.pr .bool (.pr (.pr .bool (.sl false (.int .u32))) (.int .i64))))))])],fun n x=>g35L0 m n x.1 x.2.1.1 x.2.1.2.1 x.2.1.2.2.1 x.2.1.2.2.2.1 x.2.1.2.2.2.2.1 x.2.2.1 x.2.2.2.1 x.2.2.2.2.1⟩
theorem g35L0ok {E} (hE:EO E 102 g35H) (n):LO E g35B0 ((g35L0X m).at n):=lk hE (g35K m) (g35L0X m) n
theorem g35ok:FO (g35T m):=
 fok hmix htt (H:=g35H) (g35T m) func35 kR (g35K m) (L:=[(g35L0X m).at m,(g35L1X m).at m,(g35L3X m).at m]) (l:=[(0,g35B0),(2,g35B2),(6,g35B6)]) kR (fun _ hE _ _=>⟨qi ⟨yb (g35L0ok m hE m),nb rfl,nb rfl,trivial⟩,qi ⟨nb rfl,yb (g35L1ok m hE m),nb rfl,trivial⟩,qi ⟨nb rfl,nb rfl,yb (g35L3ok m hE m),trivial⟩,trivial⟩) (fun x=>kR)
def g92H:Hints:=⟨[J [1],J' [(2,1)] [1],J [2]],[],[],[2],[],[[false]]⟩
def g92T:FunT:=⟨92,[.a (.agg [.bool,.bool,(.imm (.int .u32)),(.int .i64)])],sI,[sD],fun x=>g92 m x.1.1 x.1.2.1 x.1.2.2.1 x.1.2.2.2.1⟩
theorem g92ok:FO (g92T m):=fk g92H (g92T m) func92 (AllF.mem (l:=[g97T m,g91T m]) ⟨g97ok m,g91ok m,trivial⟩)
def g63H:Hints:=⟨[J [1],J [1,3],J [2],J [8],J [2],J [2]],[],[(0,[])],[2],[],[[false]]⟩
def g63T:FunT:=⟨63,[.a (.agg [.bool,.bool,(.imm (.int .u32)),(.int .i64),.bool,.bool,(.imm (.int .u32)),(.int .i64)])],sI,[sD],fun x=>g63 m x.1.1 x.1.2.1 x.1.2.2.1 x.1.2.2.2.1 x.1.2.2.2.2.1 x.1.2.2.2.2.2.1 x.1.2.2.2.2.2.2.1 x.1.2.2.2.2.2.2.2.1⟩
theorem g63ok:FO (g63T m):=fk g63H (g63T m) func63 (AllF.mem (l:=[g92T m]) ⟨g92ok m,trivial⟩)
def g187H:Hints:=⟨[J [1,2],J [2]],[],[],[2],[],[[false,false]]⟩
def g187T:FunT:=⟨187,[.a (.agg [.bool,(.imm (.int .u32))])],.a (.agg [.bool,(.imm (.int .u32))]),[sD],fun x=>g187 m x.1.1 x.1.2.1⟩
theorem g187ok:FO (g187T m):=fk g187H (g187T m) func187 (AllF.mem (l:=[g147T m,g146T m]) ⟨g147ok m,g146ok m,trivial⟩)
def g156H:Hints:=⟨[J [1,2],J' [(2,1)] [1,2,3],J' [(0,1)] [1,2,9],J [1,2],J [2]],[],[],[2],[],[[false,false,false,false]]⟩
def g156T:FunT:=⟨156,[.a (.agg [.bool,.bool,(.imm (.int .u32)),(.int .i64)])],.a (.agg [.bool,.bool,(.imm (.int .u32)),(.int .i64)]),[sD],fun x=>g156 m x.1.1 x.1.2.1 x.1.2.2.1 x.1.2.2.2.1⟩
theorem g156ok:FO (g156T m):=fk g156H (g156T m) func156 (AllF.mem (l:=[g97T m,g187T m]) ⟨g97ok m,g187ok m,trivial⟩)
def g88H:Hints:=⟨[J [2,3],J [2,3,5,6],J [2,3,5,6,11],J [4],J' [(1,1)] [2,3,5,15],J [4],J' [(0,1)] [4]],[],[(0,[2,3,5])],[4],[],[[false]]⟩
def g88T:FunT:=⟨88,[.a (.agg [.bool,(.imm (.int .u32))]),.a (.agg [.bool,(.imm (.int .u32))])],sI,[sD,sD],fun x=>g88 m x.1.1 x.1.2.1 x.2.1.1 x.2.1.2.1⟩
theorem g88ok:FO (g88T m):=fk g88H (g88T m) func88 (AllF.mem (l:=[g91T m,g140T m,g139T m]) ⟨g91ok m,g140ok m,g139ok m,trivial⟩)
def g155H:Hints:=⟨[J [2,3],J' [(3,1)] [2,3,6],J' [(0,1)] [2,3,18],J [4,5],J' [(3,1)] [7,8],J [4,5]],[],[],[4,5],[],[[false],[false]]⟩
def g155T:FunT:=⟨155,[.a (.agg [.bool,.bool,(.imm (.int .u32)),(.int .i64)]),.a (.agg [.bool,.bool,(.imm (.int .u32)),(.int .i64)])],.tup [(.c (.int .i64)),(.c .bool)],[sD,sD],fun x=>g155 m x.1.1 x.1.2.1 x.1.2.2.1 x.1.2.2.2.1 x.2.1.1 x.2.1.2.1 x.2.1.2.2.1 x.2.1.2.2.2.1⟩
theorem g155ok:FO (g155T m):=fk g155H (g155T m) func155 (AllF.mem (l:=[g161T m,g162T m,g88T m]) ⟨g161ok m,g162ok m,g88ok m,trivial⟩)
def g104H:Hints:=⟨[J [2,3],J' [(3,1)] [5],J' [(0,1)] [4]],[],[],[4],[],[[false]]⟩
def g104T:FunT:=⟨104,[.a (.agg [.bool,.bool,(.imm (.int .u32)),(.int .i64)]),.a (.agg [.bool,.bool,(.imm (.int .u32)),(.int .i64)])],sB,[sD,sD],fun x=>g104 m x.1.1 x.1.2.1 x.1.2.2.1 x.1.2.2.2.1 x.2.1.1 x.2.1.2.1 x.2.1.2.2.1 x.2.1.2.2.2.1⟩
theorem g104ok:FO (g104T m):=fk g104H (g104T m) func104 (AllF.mem (l:=[g155T m]) ⟨g155ok m,trivial⟩)
def g105H:Hints:=⟨[J [1,2],J [2,3,4],J [2,3,4,13],J [2],J [2]],[],[],[2],[],[[false,false,false,false]]⟩
def g105T:FunT:=⟨105,[.a (.agg [.bool,.bool,(.imm (.int .u32)),(.int .i64),.bool,.bool,(.imm (.int .u32)),(.int .i64)])],.a (.agg [.bool,.bool,(.imm (.int .u32)),(.int .i64)]),[sD],fun x=>g105 m x.1.1 x.1.2.1 x.1.2.2.1 x.1.2.2.2.1 x.1.2.2.2.2.1 x.1.2.2.2.2.2.1 x.1.2.2.2.2.2.2.1 x.1.2.2.2.2.2.2.2.1⟩
theorem g105ok:FO (g105T m):=fk g105H (g105T m) func105 (AllF.mem (l:=[g156T m,g104T m]) ⟨g156ok m,g104ok m,trivial⟩)
def g62H:Hints:=⟨[J [0],J [0,3],J [0,3,9,10],J [0,3,9,10,11],J [0,3,4,9,10],J' [(8,1)] [0,3,4,9,10,34],J' [(2,1)] [0,3,4,9,10,61],J' [(0,1)] [0,3,9,10],J' [(1,1)] [0,3,9,10],J' [(0,1)] [0,2]],[(0,[0,3,9,10])],[(0,[0,3]),(1,[0,3,9,10])],[0,2],[0],[[false]]⟩
def g62T:FunT:=⟨62,[sX 0 [.dp 1 (.pr (.pr .bool (.pr (.pr .bool (.sl false (.int .u32))) (.int .i64))) (.pr .bool (.pr (.pr .bool (.sl false (.int .u32))) (.int .i64)))),.nm 2 .bool,iI]],sI,[sX 0 [.dp 1 (.pr (.pr .bool (.pr (.pr .bool (.sl false (.int .u32))) (.int .i64))) (.pr .bool (.pr (.pr .bool (.sl false (.int .u32))) (.int .i64)))),.nm 2 .bool,iI]],fun x=>g62 m x.1.1 x.1.2.1 x.1.2.2.1⟩
noncomputable def g62C:Code:=codeOf f62
noncomputable def g62B0:Code:=qp g62C 0 0
theorem g62K:FL [g63T m,g105T m,g104T m]:=AllF.mem ⟨g63ok m,g105ok m,g104ok m,trivial⟩
def g62L0X:LT:=⟨0,[(0,sX 0 [.dp 1 (.pr (.pr .bool (.pr (.pr .bool (.sl false (.int .u32))) (.int .i64))) (.pr .bool (.pr (.pr .bool (.sl false (.int .u32))) (.int .i64)))),.nm 2 .bool,iI]),(3,sI),(9,sI),(10,sI)],[(.exit 0,[(0,sX 0 [.dp 1 (.pr (.pr .bool (.pr (.pr .bool (.sl false (.int .u32))) (.int .i64))) (.pr .bool (.pr (.pr .bool (.sl false (.int .u32))) (.int .i64)))),.nm 2 .bool,iI]),(3,sI)])],fun n x=>g62L0 m n x.1.1 x.1.2.1 x.1.2.2.1 x.2.1 x.2.2.1 x.2.2.2.1⟩
theorem g62L0ok {E} (hE:EO E 65 g62H) (n):LO E g62B0 ((g62L0X m).at n):=lk hE (g62K m) (g62L0X m) n
theorem g62ok:FO (g62T m):=f1' g62H (g62T m) func62 (g62K m) fun _ h=>g62L0ok m h m
def g200H:Hints:=⟨[J [0,1],J' [(3,1)] [0,1,19],J [4],J [0,1,5],J' [(0,1)] [1,5,26,27,28],J [1,5,26,27,28,29],J [1,5,6,7,26,27,28],J [1,5,6,7,8,26,27,28],J [1,5,6,7,8,26,27,28,33,34,35],J [1,5,6,7,8,26,27,28,33,34,35,36],J [1,5,6,7,8,9,10,26,27,28,33,34,35],J' [(2,1),(13,1)] [1,5,6,7,9,11,26,27,28,33,34,35],J' [(2,1)] [1,5,6,7,11,26,27,28,33,34,35],J' [(0,1)] [1,5,6,7,8,26,27,28,33,34,35],J' [(1,1)] [1,5,6,7,8,26,27,28,33,34,35],J' [(1,1),(5,1)] [1,5,26,27,28],J' [(1,1)] [1,5,26,27,28],J' [(0,1)] [4]],[(0,[1,5,26,27,28]),(2,[1,5,6,7,8,26,27,28,33,34,35])],[(0,[5]),(1,[1,5,26,27,28]),(2,[1,5,6,8,26,27,28]),(3,[1,5,6,7,8,26,27,28,33,34,35])],[4],[],[[false]]⟩
def g200T:FunT:=⟨200,[.a (.c (.imm (.int .u32))),.a (.c (.imm (.int .u32)))],.a (.c (.imm (.int .u32))),[sD,sD],fun x=>g200 m x.1 x.2.1⟩
noncomputable def g200C:Code:=codeOf f200
noncomputable def g200B0:Code:=qp g200C 0 0
noncomputable def g200B2:Code:=qp g200B0 0 0
theorem g200K:FL [g140T m]:=AllF.mem ⟨g140ok m,trivial⟩
def g200L1X:LT:=⟨2,[(1,.a (.c (.imm (.int .u32)))),(5,.a (.c (.nm 0 (.int .u32)))),(6,sI),(7,.a (.c (.int .u32))),(8,sU),(26,.a (.c (.imm (.int .u32)))),(27,sI),(28,sI),(33,.a (.c (.imm (.int .u32)))),(34,sI),(35,sI)],[(.exit 2,[(1,.a (.c (.imm (.int .u32)))),(5,.a (.c (.nm 0 (.int .u32)))),(6,sI),(8,sU),(26,.a (.c (.imm (.int .u32)))),(27,sI),(28,sI)])],fun n x=>g200L1 m n x.1 x.2.1 x.2.2.1 x.2.2.2.1 x.2.2.2.2.1 x.2.2.2.2.2.1 x.2.2.2.2.2.2.1 x.2.2.2.2.2.2.2.1 x.2.2.2.2.2.2.2.2.1 x.2.2.2.2.2.2.2.2.2.1 x.2.2.2.2.2.2.2.2.2.2.1⟩
theorem g200L1ok {E} (hE:EO E 77 g200H) (n):LO E g200B2 ((g200L1X m).at n):=lk hE (g200K m) (g200L1X m) n
def g200L0X:LT:=⟨0,[(1,.a (.c (.imm (.int .u32)))),(5,.a (.c (.nm 0 (.int .u32)))),(26,.a (.c (.imm (.int .u32)))),(27,sI),(28,sI)],[(.exit 0,[(5,.a (.c (.nm 0 (.int .u32))))])],fun n x=>g200L0 m n x.1 x.2.1 x.2.2.1 x.2.2.2.1 x.2.2.2.2.1⟩
theorem g200L0ok {E} (hE:EO E 77 g200H) (n):LO E g200B0 ((g200L0X m).at n):=
 lok hmix htt hE (g200K m) (L:=[(g200L1X m).at m]) (g200L0X m) (l:=[(2,g200B2)]) kR (fun _ _=>⟨qi ⟨yb (g200L1ok m hE m),trivial⟩,trivial⟩) (fun n x=>kR) (fun _=>kR) n
theorem g200ok:FO (g200T m):=f1' g200H (g200T m) func200 (g200K m) fun _ h=>g200L0ok m h m
def g180H:Hints:=⟨[J [2,3,4],J [4]],[],[],[4],[],[[false,false]]⟩
def g180T:FunT:=⟨180,[.a (.agg [.bool,(.imm (.int .u32))]),.a (.agg [.bool,(.imm (.int .u32))])],.a (.agg [.bool,(.imm (.int .u32))]),[sD,sD],fun x=>g180 m x.1.1 x.1.2.1 x.2.1.1 x.2.1.2.1⟩
theorem g180ok:FO (g180T m):=fk g180H (g180T m) func180 (AllF.mem (l:=[g140T m,g200T m,g146T m]) ⟨g140ok m,g200ok m,g146ok m,trivial⟩)
def g157H:Hints:=⟨[J [2,3,4],J' [(3,1)] [2,3,4,5],J' [(0,1)] [2,3,4,14],J [4],J [4]],[],[],[4],[],[[false,false,false,false]]⟩
def g157T:FunT:=⟨157,[.a (.agg [.bool,.bool,(.imm (.int .u32)),(.int .i64)]),.a (.agg [.bool,.bool,(.imm (.int .u32)),(.int .i64)])],.a (.agg [.bool,.bool,(.imm (.int .u32)),(.int .i64)]),[sD,sD],fun x=>g157 m x.1.1 x.1.2.1 x.1.2.2.1 x.1.2.2.2.1 x.2.1.1 x.2.1.2.1 x.2.1.2.2.1 x.2.1.2.2.2.1⟩
theorem g157ok:FO (g157T m):=fk g157H (g157T m) func157 (AllF.mem (l:=[g161T m,g145T m,g180T m,g112T m]) ⟨g161ok m,g145ok m,g180ok m,g112ok m,trivial⟩)
def g158H:Hints:=⟨[J [1],J' [(2,1)] [4],J' [(0,1)] [2]],[],[],[2],[],[[false]]⟩
def g158T:FunT:=⟨158,[.a (.agg [.bool,.bool,(.imm (.int .u32)),(.int .i64)])],sB,[sD],fun x=>g158 m x.1.1 x.1.2.1 x.1.2.2.1 x.1.2.2.2.1⟩
theorem g158ok:FO (g158T m):=fk g158H (g158T m) func158 (AllF.mem (l:=[g97T m]) ⟨g97ok m,trivial⟩)
def g106H:Hints:=⟨[J [2,3,4],J' [(0,2)] [2,3,4,6],J [4,6,29,30,31],J [4,6,29,30,31,32],J [4,6,7,8,29,30,31],J [4,6,7,8,29,30,31,38],J' [(0,1)] [4,5],J' [(2,1)] [4,6,7,8,29,30,31,47],J [4,6,7,8,29,30,31],J' [(0,1),(2,1)] [4,6,8,29,30,31,57],J [4,6,29,30,31],J' [(1,1)] [4,6,29,30,31],J [4,5]],[(0,[4,6,29,30,31])],[(0,[4,6]),(1,[4,6,29,30,31])],[4,5],[],[[false,false,false,false,false,false,false,false],[false]]⟩
def g106T:FunT:=⟨106,[.a (.agg [.bool,.bool,(.imm (.int .u32)),(.int .i64),.bool,.bool,(.imm (.int .u32)),(.int .i64)]),.a (.agg [.bool,.bool,(.imm (.int .u32)),(.int .i64),.bool,.bool,(.imm (.int .u32)),(.int .i64)])],.tup [(.agg [.bool,.bool,(.imm (.int .u32)),(.int .i64),.bool,.bool,(.imm (.int .u32)),(.int .i64)]),(.c .bool)],[sD,sD],fun x=>g106 m x.1.1 x.1.2.1 x.1.2.2.1 x.1.2.2.2.1 x.1.2.2.2.2.1 x.1.2.2.2.2.2.1 x.1.2.2.2.2.2.2.1 x.1.2.2.2.2.2.2.2.1 x.2.1.1 x.2.1.2.1 x.2.1.2.2.1 x.2.1.2.2.2.1 x.2.1.2.2.2.2.1 x.2.1.2.2.2.2.2.1 x.2.1.2.2.2.2.2.2.1 x.2.1.2.2.2.2.2.2.2.1⟩
noncomputable def g106C:Code:=codeOf f106
noncomputable def g106B0:Code:=qp g106C 0 0
theorem g106K:FL [g157T m,g158T m,g104T m]:=AllF.mem ⟨g157ok m,g158ok m,g104ok m,trivial⟩
def g106L0X:LT:=⟨0,[(4,sX 0 [.bool,.bool,.nm 1 (.int .u32),iI,.bool,.bool,.nm 2 (.int .u32),iI]),(6,sX 3 [.bool,.bool,.imm (.int .u32),iI,.bool,.bool,.imm (.int .u32),iI]),(29,.a (.c (.nm 4 (.pr .bool (.pr (.pr .bool (.sl false (.int .u32))) (.int .i64)))))),(30,sI),(31,sI)],[(.ret,[(4,sX 0 [.bool,.bool,.imm (.int .u32),iI,.bool,.bool,.imm (.int .u32),iI]),(5,sB)]),(.exit 0,[(4,sX 0 [.bool,.bool,.nm 1 (.int .u32),iI,.bool,.bool,.nm 2 (.int .u32),iI]),(6,sX 3 [.bool,.bool,.imm (.int .u32),iI,.bool,.bool,.imm (.int .u32),iI])])],fun n x=>g106L0 m n x.1.1 x.1.2.1 x.1.2.2.1 x.1.2.2.2.1 x.1.2.2.2.2.1 x.1.2.2.2.2.2.1 x.1.2.2.2.2.2.2.1 x.1.2.2.2.2.2.2.2.1 x.2.1.1 x.2.1.2.1 x.2.1.2.2.1 x.2.1.2.2.2.1 x.2.1.2.2.2.2.1 x.2.1.2.2.2.2.2.1 x.2.1.2.2.2.2.2.2.1 x.2.1.2.2.2.2.2.2.2.1 x.2.2.1 x.2.2.2.1 x.2.2.2.2.1⟩
theorem g106L0ok {E} (hE:EO E 62 g106H) (n):LO E g106B0 ((g106L0X m).at n):=lk hE (g106K m) (g106L0X m) n
theorem g106ok:FO (g106T m):=f1' g106H (g106T m) func106 (g106K m) fun _ h=>g106L0ok m h m
def g188H:Hints:=⟨[J [0],J' [(2,1)] [2]],[],[],[2],[],[[false]]⟩
def g188T:FunT:=⟨188,[sI],sB,[sD],fun x=>g188 m x.1⟩
theorem g188ok:FO (g188T m):=fk g188H (g188T m) func188 noF
def g207H:Hints:=⟨[J [0,1],J [0,1,6],J [0,1,6,7],J [0,1,6,7,8],J [0,1,6,7,8,17],J' [(0,1)] [0,1,6,7,8],J' [(0,1)] [0,1,6,8,9],J [0,1,6,8,9],J' [(0,1)] [0,1,6,7,8],J' [(0,1),(2,1)] [4,5]],[(0,[0,1,6,7,8])],[(0,[6,7]),(1,[0,1,6,7,8])],[4,5],[],[[false],[false]]⟩
def g207T:FunT:=⟨207,[.a (.c (.imm (.int .u32))),.a (.c (.int .u32))],.tup [(.c (.imm (.int .u32))),(.c (.int .u32))],[sD,sD],fun x=>g207 m x.1 x.2.1⟩
noncomputable def g207C:Code:=codeOf f207
noncomputable def g207B0:Code:=qp g207C 0 0
theorem g207K:FL [g140T m]:=AllF.mem ⟨g140ok m,trivial⟩
def g207L0X:LT:=⟨0,[(0,.a (.c (.imm (.int .u32)))),(1,.a (.c (.int .u32))),(6,.a (.c (.nm 0 (.int .u32)))),(7,sU),(8,sI)],[(.exit 0,[(6,.a (.c (.nm 0 (.int .u32)))),(7,sU)])],fun n x=>g207L0 m n x.1 x.2.1 x.2.2.1 x.2.2.2.1 x.2.2.2.2.1⟩
theorem g207L0ok {E} (hE:EO E 44 g207H) (n):LO E g207B0 ((g207L0X m).at n):=lk hE (g207K m) (g207L0X m) n
theorem g207ok:FO (g207T m):=f1' g207H (g207T m) func207 (g207K m) fun _ h=>g207L0ok m h m
def g208H:Hints:=⟨[J [0],J' [(0,1)] [2]],[],[],[2],[],[[false]]⟩
def g208T:FunT:=⟨208,[.a (.c (.int .u32))],sI,[sD],fun x=>g208 m x.1⟩
theorem g208ok:FO (g208T m):=fk g208H (g208T m) func208 (AllF.mem (l:=[g170T m]) ⟨g170ok m,trivial⟩)
end
end Go.Vs.F
