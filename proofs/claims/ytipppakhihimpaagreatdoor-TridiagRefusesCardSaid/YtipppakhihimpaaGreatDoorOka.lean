/-The plain functions are what the code does (by program:gen.py). -/
import Derived.Test.YtipppakhihimpaaGreatDoorFn
import Derived.Test.YtipppakhihimpaaGreatDoorVc
import Derived.Test.YtipppakhihimpaaGreatDoorProg
import Derived.KernelRfl
set_option linter.unusedVariables false
set_option maxRecDepth 100000
namespace Go.Vs.F
open Go.Proofs
open Tryz
section
theorem kR{p:Prop}(h:p:=by kernel_rfl):p:=h
abbrev sD:Sh:=.a (.c .dead)
abbrev sI:Sh:=.a (.c (.int .i64))
abbrev sL:Sh:=.a (.c (.imm (.int .i64)))
abbrev sB:Sh:=.a (.c .bool)
abbrev sU:Sh:=.a (.c (.int .u64))
abbrev EO(E:Entry)(N:Nat)(H:Hints):=EOf prog E N H.pins
abbrev LO:=qx prog
abbrev FO:=FunOK prog
abbrev FL(l:List FunT):=∀u∈l,FO u
abbrev sN(k:Nat):Sh:=.a (.c (.nm k (.int .i64)))
abbrev sX(k:Nat)(l:List ShC):Sh:=.a (.bx k l)
abbrev iI:ShC:=.int .i64
abbrev iU:ShC:=.int .u64
abbrev iL:ShC:=.imm (.int .i64)
abbrev iM(k:Nat):ShC:=.nm k (.int .i64)
def J(l:List Nat):Hint:=⟨[],l⟩
def J'(m:List (Nat×Nat))(l:List Nat):Hint:=⟨m,l⟩
def tt:TT:=[none,none,none,some ⟨(.int .i64),[.int .i64]⟩,some ⟨.bool,[.bool]⟩,some ⟨(.int .u8),[.int .u8]⟩,none,none,none,some ⟨.string,[.other]⟩,none,none,none,none,none,none,none,none,none,none,none,none,some ⟨(.slice 23 (.int .u64)),[.nil (.int .u64)]⟩,some ⟨(.int .u64),[.int .u64]⟩,some ⟨(.slice 28 (.int .u64)),[.nil (.int .u64)]⟩,none,none,none,some ⟨(.int .u64),[.int .u64]⟩,none,none,none,none,none,none,some ⟨(.slice 4 .bool),[.nil .bool]⟩,none,none,none,none,none,some ⟨(.struct [(0,1),(1,1),(2,1)]),[.int .u64,.int .u64,.int .i64]⟩,none,none,none,none,some ⟨(.struct [(0,1),(1,1)]),[.int .u64,.int .u64]⟩,none,none,none,none,none,some ⟨(.int .u64),[.int .u64]⟩,none,none,none,some ⟨(.slice 57 (.sl false (.pr .bool (.pr (.pr .bool (.sl false (.int .u32))) (.int .i64))))),[.nil (.sl false (.pr .bool (.pr (.pr .bool (.sl false (.int .u32))) (.int .i64))))]⟩,some ⟨(.slice 62 (.pr .bool (.pr (.pr .bool (.sl false (.int .u32))) (.int .i64)))),[.nil (.pr .bool (.pr (.pr .bool (.sl false (.int .u32))) (.int .i64)))]⟩,some ⟨(.slice 87 (.int .u32)),[.nil (.int .u32)]⟩,none,some ⟨(.struct [(0,1),(1,1)]),[.bool,.nil (.int .u32)]⟩,none,some ⟨(.struct [(0,1),(1,2),(3,1)]),[.bool,.bool,.nil (.int .u32),.int .i64]⟩,none,none,none,none,none,none,none,none,none,none,none,none,none,none,none,none,none,none,some ⟨(.slice 109 (.sl false (.pr .bool (.sl false (.int .u32))))),[.nil (.sl false (.pr .bool (.sl false (.int .u32))))]⟩,none,none,none,none,none,some ⟨(.int .u32),[.int .u32]⟩,none,none,none,none,none,none,none,none,none,none,none,none,none,none,some ⟨(.struct [(0,1),(1,2),(3,1),(4,1)]),[.bool,.bool,.nil (.int .u32),.int .i64,.bool]⟩,none,none,none,none,none,none,some ⟨(.slice 60 (.pr .bool (.sl false (.int .u32)))),[.nil (.pr .bool (.sl false (.int .u32)))]⟩,none,none,none,none,none,none,none,some ⟨(.slice 124 (.sl false (.pr (.pr .bool (.sl false (.int .u32))) (.pr .bool (.sl false (.int .u32)))))),[.nil (.sl false (.pr (.pr .bool (.sl false (.int .u32))) (.pr .bool (.sl false (.int .u32)))))]⟩,none,some ⟨(.slice 3 (.int .i64)),[.nil (.int .i64)]⟩,none,none,none,some ⟨(.struct [(0,2),(2,2)]),[.bool,.nil (.int .u32),.bool,.nil (.int .u32)]⟩,some ⟨(.slice 123 (.pr (.pr .bool (.sl false (.int .u32))) (.pr .bool (.sl false (.int .u32))))),[.nil (.pr (.pr .bool (.sl false (.int .u32))) (.pr .bool (.sl false (.int .u32))))]⟩,none,none,none,none,none,none,none,none,none,none,none,none,none,none,none,none,none,none,none,none,none,none,none,none,none,none,none,none,none,none,none,none,none,none,some ⟨(.tab 0 .u8 [0,1,28,2,29,14,24,3,30,22,20,15,25,17,4,8,31,27,13,23,21,19,16,7,26,12,18,6,11,5,10,9]),[.other,.other,.other,.other,.other,.other,.other,.other,.other,.other,.other,.other,.other,.other,.other,.other,.other,.other,.other,.other,.other,.other,.other,.other,.other,.other,.other,.other,.other,.other,.other,.other]⟩]
theorem htt:TTok prog tt:=qfc kR
theorem hmix:prog.follows .mixedOrders=true:=kR
theorem lk{N:Nat}{H:Hints}{E:Entry}(hE:EO E N H){D:List FunT}(hD:FL D){B:Code}(t:LT)(n:Nat)(hl:q19 B t.blk=[]:=by kernel_rfl)(hr:∀n x,qda (mkC (outVal t.outs) D) (mkLp (outVal t.outs) []) tt N H B t.blk (t.ins.enc x) (Kl (t.run n))=t.run (n+1) x:=by intro n x;kernel_rfl)(h0:∀x,t.run 0 x=none:=by intro x;kernel_rfl):LO E B (t.at n):=lok hmix htt hE hD (L:=[]) t (l:=[]) hl (fun _ _=>trivial) hr h0 n
theorem fk(H:Hints)(t:FunT){fn:Func}(hf:prog.funcs[t.f]? =some fn){D:List FunT}(hD:FL D)(hb:okB fn=true:=by kernel_rfl)(hl:q19 (codeOf fn) 0=[]:=by kernel_rfl)(hr: ∀x,fnK (mkC (t.res.Val×X3 t.outs) D) (mkLp (t.res.Val×X3 t.outs) []) tt H fn (encS t.args x) (Kd t.res t.outs)=t.run x:=by intro x;kernel_rfl):FO t:=fok hmix htt (H:=H) t hf hb hD (L:=[]) (l:=[]) hl (fun _ hE _ _=>trivial) hr
theorem f1'(H:Hints)(t:FunT){fn:Func}(hf:prog.funcs[t.f]? =some fn){D:List FunT}(hD:FL D){X:LT}{m:Nat}{B:Code}(h:∀E:Entry,EO E fn.ntmps H->LO E B (X.at m))(hb:okB fn=true:=by kernel_rfl)(hl:q19 (codeOf fn) 0=[(X.blk,B)]:=by kernel_rfl)(hr: ∀x,fnK (mkC (t.res.Val×X3 t.outs) D) (mkLp (t.res.Val×X3 t.outs) [X.at m]) tt H fn (encS t.args x) (Kd t.res t.outs)=t.run x:=by intro x;kernel_rfl):FO t:=fok hmix htt (H:=H) t hf hb hD (L:=[X.at m]) (l:=[(X.blk,B)]) hl (fun E hE _ _=>⟨qm ⟨yb (h E hE),trivial⟩,trivial⟩) hr
variable (m:Nat)
def g9H:Hints:=⟨[J [0,1],J' [(0,1),(2,1)] [4]],[],[],[4],[],[[false]]⟩
def g9T:FunT:=⟨9,[sI,sI],sI,[sD,sD],fun x=>g9 m x.1 x.2.1⟩
theorem g9ok:FO (g9T m):=fk g9H (g9T m) func9 noF
def g51H:Hints:=⟨[J [0,1],J [0,1,5],J [0,1,5,12],J' [(0,1),(2,1)] [5],J [5],J [4]],[],[],[4],[],[[false]]⟩
def g51T:FunT:=⟨51,[.a (.c (.imm (.int .u64))),sI],sU,[sD,sD],fun x=>g51 m x.1 x.2.1⟩
theorem g51ok:FO (g51T m):=fk g51H (g51T m) func51 (AllF.mem (l:=[g9T m]) ⟨g9ok m,trivial⟩)
def g30H:Hints:=⟨[J [0],J' [(0,1)] [2]],[],[],[2],[],[[false]]⟩
def g30T:FunT:=⟨30,[sU],sB,[sD],fun x=>g30 m x.1⟩
theorem g30ok:FO (g30T m):=fk g30H (g30T m) func30 noF
def g125H:Hints:=⟨[J [0],J [0,3],J' [(2,1)] [0,3,17],J' [(0,1)] [0,3],J [0,3,4],J [0,3,4,5],J [0,3,4,5,22],J' [(0,1)] [0,3,4,5],J' [(0,1)] [0,3,4,5],J' [(0,1)] [2]],[(0,[0,3]),(2,[0,3,4,5])],[(0,[0,3]),(1,[0,3]),(2,[4]),(3,[0,3,4,5])],[2],[],[[true]]⟩
def g125T:FunT:=⟨125,[.a (.c (.imm (.int .u32)))],.a (.c (.nm 0 (.int .u32))),[sD],fun x=>g125 m x.1⟩
noncomputable def g125C:Code:=codeOf f125
noncomputable def g125B0:Code:=Q5 g125C 0 0
noncomputable def g125B2:Code:=Q5 g125C 0 1
def g125L1X:LT:=⟨2,[(0,.a (.c (.imm (.int .u32)))),(3,sI),(4,.a (.c (.nm 0 (.int .u32)))),(5,sI)],[(.exit 2,[(4,.a (.c (.nm 0 (.int .u32))))])],fun n x=>g125L1 m n x.1 x.2.1 x.2.2.1 x.2.2.2.1⟩
theorem g125L1ok {E} (hE:EO E 33 g125H) (n):LO E g125B2 ((g125L1X m).at n):=lk hE noF (g125L1X m) n
def g125L0X:LT:=⟨0,[(0,.a (.c (.imm (.int .u32)))),(3,sI)],[(.exit 0,[(0,.a (.c (.imm (.int .u32)))),(3,sI)])],fun n x=>g125L0 m n x.1 x.2.1⟩
theorem g125L0ok {E} (hE:EO E 33 g125H) (n):LO E g125B0 ((g125L0X m).at n):=lk hE noF (g125L0X m) n
theorem g125ok:FO (g125T m):=
 fok hmix htt (H:=g125H) (g125T m) func125 kR noF (L:=[(g125L0X m).at m,(g125L1X m).at m]) (l:=[(0,g125B0),(2,g125B2)]) kR (fun _ hE _ _=>⟨qm ⟨yb (g125L0ok m hE m),nb rfl,trivial⟩,qm ⟨nb rfl,yb (g125L1ok m hE m),trivial⟩,trivial⟩) (fun x=>kR)
def g126H:Hints:=⟨[J [0,1,4],J' [(0,1)] [0,1,4],J' [(0,1),(1,1),(6,1)] [4]],[],[],[4],[],[[false,false]]⟩
def g126T:FunT:=⟨126,[sB,.a (.c (.imm (.int .u32)))],.a (.agg [.bool,(.imm (.int .u32))]),[sD,sD],fun x=>g126 m x.1 x.2.1⟩
theorem g126ok:FO (g126T m):=fk g126H (g126T m) func126 (AllF.mem (l:=[g125T m]) ⟨g125ok m,trivial⟩)
def g142H:Hints:=⟨[J [0,2],J [0,2,3],J [0,2,3,7],J [0,2,3],J' [(0,1)] [2]],[],[],[2],[],[[false,false]]⟩
def g142T:FunT:=⟨142,[sI],.a (.agg [.bool,(.imm (.int .u32))]),[sD],fun x=>g142 m x.1⟩
theorem g142ok:FO (g142T m):=fk g142H (g142T m) func142 (AllF.mem (l:=[g126T m]) ⟨g126ok m,trivial⟩)
def g101H:Hints:=⟨[J [1,2],J [2]],[],[],[2],[],[[false,false]]⟩
def g101T:FunT:=⟨101,[.a (.agg [.bool,(.imm (.int .u32))])],.a (.agg [.bool,(.imm (.int .u32))]),[sD],fun x=>g101 m x.1.1 x.1.2.1⟩
theorem g101ok:FO (g101T m):=fk g101H (g101T m) func101 (AllF.mem (l:=[g126T m]) ⟨g126ok m,trivial⟩)
def g61H:Hints:=⟨[J [0],J [0]],[],[],[0],[],[[false,false,true,false]]⟩
def g61T:FunT:=⟨61,[],.a (.agg [.bool,.bool,(.nm 0 (.int .u32)),(.int .i64)]),[],fun x=>g61 m⟩
theorem g61ok:FO (g61T m):=fk g61H (g61T m) func61 noF
def g140H:Hints:=⟨[J [0],J [0,4],J [2],J [2]],[],[],[2],[],[[false]]⟩
def g140T:FunT:=⟨140,[.a (.c (.int .u32))],sI,[sD],fun x=>g140 m x.1⟩
theorem g140ok:FO (g140T m):=fk g140H (g140T m) func140 noF
def g102H:Hints:=⟨[J [1],J [3],J [3,4],J [3,4,11],J' [(0,1)] [3,4],J [3,4,18],J' [(2,1)] [2],J [2]],[(0,[3,4])],[(0,[]),(1,[3,4])],[2],[],[[false]]⟩
def g102T:FunT:=⟨102,[.a (.agg [.bool,(.imm (.int .u32))])],sI,[sD],fun x=>g102 m x.1.1 x.1.2.1⟩
noncomputable def g102C:Code:=codeOf f102
noncomputable def g102B0:Code:=Q5 g102C 0 0
theorem g102K:FL [g125T m,g140T m]:=AllF.mem ⟨g125ok m,g140ok m,trivial⟩
def g102L0X:LT:=⟨0,[(3,.a (.c (.nm 0 (.int .u32)))),(4,sI)],[(.ret,[(2,sI)]),(.exit 0,[])],fun n x=>g102L0 m n x.1 x.2.1⟩
theorem g102L0ok {E} (hE:EO E 27 g102H) (n):LO E g102B0 ((g102L0X m).at n):=lk hE (g102K m) (g102L0X m) n
theorem g102ok:FO (g102T m):=f1' g102H (g102T m) func102 (g102K m) fun _ h=>g102L0ok m h m
def g86H:Hints:=⟨[J [1,2],J [2]],[],[],[2],[],[[false,false]]⟩
def g86T:FunT:=⟨86,[.a (.agg [.bool,(.imm (.int .u32))])],.a (.agg [.bool,(.imm (.int .u32))]),[sD],fun x=>g86 m x.1.1 x.1.2.1⟩
theorem g86ok:FO (g86T m):=fk g86H (g86T m) func86 (AllF.mem (l:=[g126T m]) ⟨g126ok m,trivial⟩)
def g147H:Hints:=⟨[J [0,1],J [0,1,5],J [0,1,5,6],J [0,1,5,6,7],J [0,1,5,6,7,14],J' [(0,1)] [0,1,5,6,7],J' [(0,1)] [0,1,5,6,7],J' [(0,1)] [0,1,5,6,7],J' [(0,1)] [0,1,5,6,7],J' [(0,1),(1,1)] [4]],[(0,[0,1,5,6,7])],[(0,[5,6]),(1,[0,1,5,6,7])],[4],[],[[true]]⟩
def g147T:FunT:=⟨147,[.a (.c (.imm (.int .u32))),sI],.a (.c (.nm 0 (.int .u32))),[sD,sD],fun x=>g147 m x.1 x.2.1⟩
noncomputable def g147C:Code:=codeOf f147
noncomputable def g147B0:Code:=Q5 g147C 0 0
def g147L0X:LT:=⟨0,[(0,.a (.c (.imm (.int .u32)))),(1,sI),(5,.a (.c (.nm 0 (.int .u32)))),(6,sU),(7,sI)],[(.exit 0,[(5,.a (.c (.nm 0 (.int .u32)))),(6,sU)])],fun n x=>g147L0 m n x.1 x.2.1 x.2.2.1 x.2.2.2.1 x.2.2.2.2.1⟩
theorem g147L0ok {E} (hE:EO E 39 g147H) (n):LO E g147B0 ((g147L0X m).at n):=lk hE noF (g147L0X m) n
theorem g147ok:FO (g147T m):=f1' g147H (g147T m) func147 noF fun _ h=>g147L0ok m h m
def g148H:Hints:=⟨[J [0,1],J [0,1,6],J [0,1,6,7],J' [(4,1)] [0,1,6,7,21],J' [(0,1)] [0,1,6,7],J' [(0,1),(1,1)] [0,1,6,7],J [0,1,6,8],J [0,1,6,8,9],J [0,1,6,8,9,10],J [0,1,6,8,9,10,39],J' [(0,1)] [0,1,6,8,9,10],J [0,1,6,8,9,10,11],J [0,1,6,8,9,10,11,51],J' [(0,1)] [0,1,6,8,9,10,11],J' [(4,1)] [0,1,6,8,9,10,11,75],J [0,1,6,8,9,10,11],J' [(0,1),(1,1)] [0,1,6,8,9,10],J' [(0,1),(1,1)] [4,5]],[(0,[0,1,6,7]),(2,[0,1,6,8,9,10])],[(0,[0,1,6]),(1,[0,1,6,7]),(2,[6,8]),(3,[0,1,6,8,9,10])],[4,5],[],[[true],[false]]⟩
def g148T:FunT:=⟨148,[.a (.c (.imm (.int .u32))),sI],.tup [(.c (.nm 0 (.int .u32))),(.c .bool)],[sD,sD],fun x=>g148 m x.1 x.2.1⟩
noncomputable def g148C:Code:=codeOf f148
noncomputable def g148B0:Code:=Q5 g148C 0 0
noncomputable def g148B2:Code:=Q5 g148C 0 1
def g148L1X:LT:=⟨2,[(0,.a (.c (.imm (.int .u32)))),(1,sI),(6,sB),(8,.a (.c (.nm 0 (.int .u32)))),(9,sI),(10,sI)],[(.exit 2,[(6,sB),(8,.a (.c (.nm 0 (.int .u32))))])],fun n x=>g148L1 m n x.1 x.2.1 x.2.2.1 x.2.2.2.1 x.2.2.2.2.1 x.2.2.2.2.2.1⟩
theorem g148L1ok {E} (hE:EO E 85 g148H) (n):LO E g148B2 ((g148L1X m).at n):=lk hE noF (g148L1X m) n
def g148L0X:LT:=⟨0,[(0,.a (.c (.imm (.int .u32)))),(1,sI),(6,sB),(7,sI)],[(.exit 0,[(0,.a (.c (.imm (.int .u32)))),(1,sI),(6,sB)])],fun n x=>g148L0 m n x.1 x.2.1 x.2.2.1 x.2.2.2.1⟩
theorem g148L0ok {E} (hE:EO E 85 g148H) (n):LO E g148B0 ((g148L0X m).at n):=lk hE noF (g148L0X m) n
theorem g148ok:FO (g148T m):=
 fok hmix htt (H:=g148H) (g148T m) func148 kR noF (L:=[(g148L0X m).at m,(g148L1X m).at m]) (l:=[(0,g148B0),(2,g148B2)]) kR (fun _ hE _ _=>⟨qm ⟨yb (g148L0ok m hE m),nb rfl,trivial⟩,qm ⟨nb rfl,yb (g148L1ok m hE m),trivial⟩,trivial⟩) (fun x=>kR)
def g100H:Hints:=⟨[J [1,2],J [2]],[],[],[2],[],[[false,false]]⟩
def g100T:FunT:=⟨100,[.a (.agg [.bool,(.imm (.int .u32))])],.a (.agg [.bool,(.imm (.int .u32))]),[sD],fun x=>g100 m x.1.1 x.1.2.1⟩
theorem g100ok:FO (g100T m):=fk g100H (g100T m) func100 (AllF.mem (l:=[g126T m]) ⟨g126ok m,trivial⟩)
def g127H:Hints:=⟨[J [0,1],J [0,1,5],J [0,1,5,6],J [0,1,5,6,7],J [0,1,5,6,7,14],J' [(0,1)] [0,1,5,6,7],J [0,1,5,6,7,20],J' [(0,1)] [0,1,5,6,7],J [0,1,5,6,7,31],J' [(0,1)] [0,1,5,6,7],J' [(0,1)] [0,1,5,6,7],J' [(0,1)] [0,1,5,6,7],J' [(0,1),(1,1)] [4]],[(0,[0,1,5,6,7])],[(0,[5,6]),(1,[0,1,5,6,7])],[4],[],[[true]]⟩
def g127T:FunT:=⟨127,[.a (.c (.imm (.int .u32))),.a (.c (.imm (.int .u32)))],.a (.c (.nm 0 (.int .u32))),[sD,sD],fun x=>g127 m x.1 x.2.1⟩
noncomputable def g127C:Code:=codeOf f127
noncomputable def g127B0:Code:=Q5 g127C 0 0
def g127L0X:LT:=⟨0,[(0,.a (.c (.imm (.int .u32)))),(1,.a (.c (.imm (.int .u32)))),(5,.a (.c (.nm 0 (.int .u32)))),(6,sU),(7,sI)],[(.exit 0,[(5,.a (.c (.nm 0 (.int .u32)))),(6,sU)])],fun n x=>g127L0 m n x.1 x.2.1 x.2.2.1 x.2.2.2.1 x.2.2.2.2.1⟩
theorem g127L0ok {E} (hE:EO E 51 g127H) (n):LO E g127B0 ((g127L0X m).at n):=lk hE noF (g127L0X m) n
theorem g127ok:FO (g127T m):=f1' g127H (g127T m) func127 noF fun _ h=>g127L0ok m h m
def g128H:Hints:=⟨[J [0,1],J [0,1,10],J' [(0,1),(2,1)] [15],J [4],J [4],J [0,1,5],J [0,1,5,20],J' [(0,1)] [0,1,5],J [0,1,5,31],J' [(0,1),(4,1)] [40],J [4],J [4],J [4]],[(0,[0,1,5])],[(0,[]),(1,[0,1,5])],[4],[],[[false]]⟩
def g128T:FunT:=⟨128,[.a (.c (.imm (.int .u32))),.a (.c (.imm (.int .u32)))],sI,[sD,sD],fun x=>g128 m x.1 x.2.1⟩
noncomputable def g128C:Code:=codeOf f128
noncomputable def g128B0:Code:=Q5 g128C 0 0
def g128L0X:LT:=⟨0,[(0,.a (.c (.imm (.int .u32)))),(1,.a (.c (.imm (.int .u32)))),(5,sI)],[(.ret,[(4,sI)]),(.exit 0,[])],fun n x=>g128L0 m n x.1 x.2.1 x.2.2.1⟩
theorem g128L0ok {E} (hE:EO E 41 g128H) (n):LO E g128B0 ((g128L0X m).at n):=lk hE noF (g128L0X m) n
theorem g128ok:FO (g128T m):=f1' g128H (g128T m) func128 noF fun _ h=>g128L0ok m h m
def g129H:Hints:=⟨[J [0,1],J [0,1,5],J [0,1,5,6],J [0,1,5,6,7],J [0,1,5,6,7,12],J' [(0,1)] [0,1,5,6,7],J' [(5,1)] [0,1,5,7,8],J [0,1,5,7,8,25],J' [(0,1)] [0,1,5,7,8],J' [(0,1)] [0,1,5,7,8],J' [(0,1)] [0,1,5,6,7],J' [(0,1)] [4]],[(0,[0,1,5,6,7])],[(0,[5]),(1,[0,1,5,6,7])],[4],[],[[true]]⟩
def g129T:FunT:=⟨129,[.a (.c (.imm (.int .u32))),.a (.c (.imm (.int .u32)))],.a (.c (.nm 0 (.int .u32))),[sD,sD],fun x=>g129 m x.1 x.2.1⟩
noncomputable def g129C:Code:=codeOf f129
noncomputable def g129B0:Code:=Q5 g129C 0 0
def g129L0X:LT:=⟨0,[(0,.a (.c (.imm (.int .u32)))),(1,.a (.c (.imm (.int .u32)))),(5,.a (.c (.nm 0 (.int .u32)))),(6,sU),(7,sI)],[(.exit 0,[(5,.a (.c (.nm 0 (.int .u32))))])],fun n x=>g129L0 m n x.1 x.2.1 x.2.2.1 x.2.2.2.1 x.2.2.2.2.1⟩
theorem g129L0ok {E} (hE:EO E 41 g129H) (n):LO E g129B0 ((g129L0X m).at n):=lk hE noF (g129L0X m) n
theorem g129ok:FO (g129T m):=f1' g129H (g129T m) func129 noF fun _ h=>g129L0ok m h m
def g85H:Hints:=⟨[J [2,3,4],J [2,3,4,5,6],J [2,3,4,5,6,17],J' [(2,1),(3,1)] [4],J [2,3,4,5,6,27],J' [(2,1),(3,1)] [4],J' [(2,1),(3,1)] [4]],[],[],[4],[],[[false,false]]⟩
def g85T:FunT:=⟨85,[.a (.agg [.bool,(.imm (.int .u32))]),.a (.agg [.bool,(.imm (.int .u32))])],.a (.agg [.bool,(.imm (.int .u32))]),[sD,sD],fun x=>g85 m x.1.1 x.1.2.1 x.2.1.1 x.2.1.2.1⟩
theorem g85ok:FO (g85T m):=fk g85H (g85T m) func85 (AllF.mem (l:=[g125T m,g127T m,g126T m,g128T m,g129T m]) ⟨g125ok m,g127ok m,g126ok m,g128ok m,g129ok m,trivial⟩)
def g146H:Hints:=⟨[J [2,3,4],J [4]],[],[],[4],[],[[false,false]]⟩
def g146T:FunT:=⟨146,[.a (.agg [.bool,(.imm (.int .u32))]),.a (.agg [.bool,(.imm (.int .u32))])],.a (.agg [.bool,(.imm (.int .u32))]),[sD,sD],fun x=>g146 m x.1.1 x.1.2.1 x.2.1.1 x.2.1.2.1⟩
theorem g146ok:FO (g146T m):=fk g146H (g146T m) func146 (AllF.mem (l:=[g100T m,g85T m]) ⟨g100ok m,g85ok m,trivial⟩)
def g109H:Hints:=⟨[J [1,2,4],J [1,2,4],J [1,2,4,11],J' [(4,1)] [4],J' [(2,1),(5,1)] [2,4,5,6],J' [(2,1)] [2,4,6,7],J' [(2,1),(3,1)] [4,7,35],J [4,7],J [4]],[],[],[4],[],[[false,false]]⟩
def g109T:FunT:=⟨109,[.a (.agg [.bool,(.imm (.int .u32))]),sI],.a (.agg [.bool,(.imm (.int .u32))]),[sD,sD],fun x=>g109 m x.1.1 x.1.2.1 x.2.1⟩
theorem g109ok:FO (g109T m):=fk g109H (g109T m) func109 (AllF.mem (l:=[g101T m,g147T m,g126T m,g148T m,g142T m,g146T m]) ⟨g101ok m,g147ok m,g126ok m,g148ok m,g142ok m,g146ok m,trivial⟩)
def g103H:Hints:=⟨[J [1,2,4],J [1,2,4,6],J [1,2,4],J' [(0,1)] [1,2,4],J' [(1,1)] [4]],[(0,[1,2,4])],[(0,[1,2,4]),(1,[1,2,4])],[4],[],[[false,false]]⟩
def g103T:FunT:=⟨103,[.a (.agg [.bool,(.imm (.int .u32))]),sI],.a (.agg [.bool,(.imm (.int .u32))]),[sD,sD],fun x=>g103 m x.1.1 x.1.2.1 x.2.1⟩
noncomputable def g103C:Code:=codeOf f103
noncomputable def g103B0:Code:=Q5 g103C 0 0
theorem g103K:FL [g109T m]:=AllF.mem ⟨g109ok m,trivial⟩
def g103L0X:LT:=⟨0,[(1,sI),(2,sX 0 [.bool,.imm (.int .u32)]),(4,sX 1 [.bool,.nm 2 (.int .u32)])],[(.exit 0,[(1,sI),(2,sX 0 [.bool,.imm (.int .u32)]),(4,sX 1 [.bool,.nm 2 (.int .u32)])])],fun n x=>g103L0 m n x.1 x.2.1.1 x.2.1.2.1 x.2.2.1.1 x.2.2.1.2.1⟩
theorem g103L0ok {E} (hE:EO E 15 g103H) (n):LO E g103B0 ((g103L0X m).at n):=lk hE (g103K m) (g103L0X m) n
theorem g103ok:FO (g103T m):=f1' g103H (g103T m) func103 (g103K m) fun _ h=>g103L0ok m h m
def g141H:Hints:=⟨[J [0,2],J [0,2,4],J' [(0,1)] [0],J [0,2],J [0,2,8],J' [(0,1)] [0,2],J' [(0,1)] [0,2],J' [(0,1),(1,1)] [2]],[],[],[2],[],[[false]]⟩
def g141T:FunT:=⟨141,[.a (.c (.int .u32))],sI,[sD],fun x=>g141 m x.1⟩
theorem g141ok:FO (g141T m):=fk g141H (g141T m) func141 noF
def g104H:Hints:=⟨[J [1],J [3],J [3,9],J [2],J [2]],[],[],[2],[],[[false]]⟩
def g104T:FunT:=⟨104,[.a (.agg [.bool,(.imm (.int .u32))])],sI,[sD],fun x=>g104 m x.1.1 x.1.2.1⟩
theorem g104ok:FO (g104T m):=fk g104H (g104T m) func104 (AllF.mem (l:=[g125T m,g141T m]) ⟨g125ok m,g141ok m,trivial⟩)
def g62H:Hints:=⟨[J [1,2,4],J [1,2,4,5],J [1,2,4,5,13],J [4],J [1,2,4,5,16],J [4],J [1,2,4,5,6],J' [(0,1)] [2,4,5,6,7],J [2,4,5,6,7],J' [(1,1)] [2,4,5,7],J' [(2,1)] [2,4,5,7,36],J [4],J [4,5,7],J' [(1,1)] [4]],[],[],[4],[],[[false,false,false,false]]⟩
def g62T:FunT:=⟨62,[.a (.agg [.bool,(.imm (.int .u32))]),sI],.a (.agg [.bool,.bool,(.imm (.int .u32)),(.int .i64)]),[sD,sD],fun x=>g62 m x.1.1 x.1.2.1 x.2.1⟩
theorem g62ok:FO (g62T m):=fk g62H (g62T m) func62 (AllF.mem (l:=[g101T m,g61T m,g102T m,g86T m,g103T m,g104T m]) ⟨g101ok m,g61ok m,g102ok m,g86ok m,g103ok m,g104ok m,trivial⟩)
def g110H:Hints:=⟨[J [0,2],J' [(0,1)] [2]],[],[],[2],[],[[false,false,false,false]]⟩
def g110T:FunT:=⟨110,[sI],.a (.agg [.bool,.bool,(.imm (.int .u32)),(.int .i64)]),[sD],fun x=>g110 m x.1⟩
theorem g110ok:FO (g110T m):=fk g110H (g110T m) func110 (AllF.mem (l:=[g142T m,g62T m]) ⟨g142ok m,g62ok m,trivial⟩)
def g83H:Hints:=⟨[J [1,2],J [1,2,4],J [2],J [2]],[],[],[2],[],[[false,false,false,false]]⟩
def g83T:FunT:=⟨83,[.a (.agg [.bool,.bool,(.imm (.int .u32)),(.int .i64)])],.a (.agg [.bool,.bool,(.imm (.int .u32)),(.int .i64)]),[sD],fun x=>g83 m x.1.1 x.1.2.1 x.1.2.2.1 x.1.2.2.2.1⟩
theorem g83ok:FO (g83T m):=fk g83H (g83T m) func83 (AllF.mem (l:=[g61T m,g62T m]) ⟨g61ok m,g62ok m,trivial⟩)
def g88H:Hints:=⟨[J [1],J [1],J [1,5],J [2],J [10],J [2],J [2]],[],[(0,[])],[2],[],[[false]]⟩
def g88T:FunT:=⟨88,[.a (.agg [.bool,(.imm (.int .u32))])],sI,[sD],fun x=>g88 m x.1.1 x.1.2.1⟩
theorem g88ok:FO (g88T m):=fk g88H (g88T m) func88 (AllF.mem (l:=[g101T m]) ⟨g101ok m,trivial⟩)
def g134H:Hints:=⟨[J [0,1],J' [(0,1)] [1,5],J' [(0,1)] [4],J' [(0,1)] [4]],[],[],[4],[],[[false]]⟩
def g134T:FunT:=⟨134,[sB,sU],sU,[sD,sD],fun x=>g134 m x.1 x.2.1⟩
theorem g134ok:FO (g134T m):=fk g134H (g134T m) func134 noF
def g131H:Hints:=⟨[J [0,1],J' [(2,1),(5,1),(10,1),(13,1)] [0,21],J' [(0,1)] [4],J' [(0,1)] [4]],[],[],[4],[],[[false]]⟩
def g131T:FunT:=⟨131,[sB,sI],sU,[sD,sD],fun x=>g131 m x.1 x.2.1⟩
theorem g131ok:FO (g131T m):=fk g131H (g131T m) func131 (AllF.mem (l:=[g134T m]) ⟨g134ok m,trivial⟩)
def g155H:Hints:=⟨[J [1,2],J' [(3,1),(5,1)] [6],J' [(0,1)] [4]],[],[],[4],[],[[false]]⟩
def g155T:FunT:=⟨155,[.a (.agg [.bool,(.imm (.int .u32))]),sI],sB,[sD,sD],fun x=>g155 m x.1.1 x.1.2.1 x.2.1⟩
theorem g155ok:FO (g155T m):=fk g155H (g155T m) func155 (AllF.mem (l:=[g125T m,g148T m]) ⟨g125ok m,g148ok m,trivial⟩)
def g156H:Hints:=⟨[J [0,1,2,3],J' [(0,1)] [0,1,2,9],J [0,1,2,9,10],J' [(0,1)] [8],J [0,1,2,9,13],J' [(0,1)] [8],J [1,2,17],J [8],J' [(2,1),(5,1),(6,1)] [8]],[],[(0,[1,2])],[8],[],[[false]]⟩
def g156T:FunT:=⟨156,[sB,sI,sB,sI],sB,[sD,sD,sD,sD],fun x=>g156 m x.1 x.2.1 x.2.2.1 x.2.2.2.1⟩
theorem g156ok:FO (g156T m):=fk g156H (g156T m) func156 noF
def g132H:Hints:=⟨[J [0,2,3,4,6,10],J [0,2,3,4,6,10,11],J [0,2,3,4,6,10,11,12],J' [(0,1),(2,1)] [0,2,3,4,6,10,11,27],J [10],J [0,2,3,4,6,10,11,13],J [0,2,3,4,6,10,11,13,30],J [0,2,3,4,6,10,11,13,14],J' [(3,1)] [0,2,3,4,6,10,11,13,42],J [0,2,3,4,6,10,11,13],J' [(0,1),(1,1),(3,1)] [0,4,10,11,13,49],J [0,4,10,11,13],J' [(3,1)] [0,4,10,11,13,15],J' [(0,1),(1,1),(2,1),(3,1)] [10,11,62],J [10,11],J [10]],[],[],[10],[],[[false,false]]⟩
def g132T:FunT:=⟨132,[sB,.a (.agg [.bool,(.imm (.int .u32))]),sI,sB,sI],.a (.agg [.bool,(.imm (.int .u32))]),[sD,sD,sD,sD,sD],fun x=>g132 m x.1 x.2.1.1 x.2.1.2.1 x.2.2.1 x.2.2.2.1 x.2.2.2.2.1⟩
theorem g132ok:FO (g132T m):=fk g132H (g132T m) func132 (AllF.mem (l:=[g103T m,g155T m,g102T m,g88T m,g156T m,g142T m,g85T m]) ⟨g103ok m,g155ok m,g102ok m,g88ok m,g156ok m,g142ok m,g85ok m,trivial⟩)
def g133H:Hints:=⟨[J [1],J [1],J [1,11],J [2,3],J [1,4],J [1,4,5],J [1,4,5,16],J' [(0,1)] [1,4,5],J' [(0,1)] [1,4,5],J [4,31],J [4,33],J [2,3],J' [(0,1)] [2,3],J [4,40],J [2,3],J' [(0,1)] [2,3]],[(0,[1,4,5])],[(0,[1,4]),(1,[1,4,5])],[2,3],[],[[false],[false]]⟩
def g133T:FunT:=⟨133,[.a (.agg [.bool,(.imm (.int .u32))])],.tup [(.c (.int .i64)),(.c .bool)],[sD],fun x=>g133 m x.1.1 x.1.2.1⟩
noncomputable def g133C:Code:=codeOf f133
noncomputable def g133B0:Code:=Q5 g133C 0 0
theorem g133K:FL [g101T m]:=AllF.mem ⟨g101ok m,trivial⟩
def g133L0X:LT:=⟨0,[(1,sX 0 [.bool,.imm (.int .u32)]),(4,sU),(5,sI)],[(.exit 0,[(1,sX 0 [.bool,.imm (.int .u32)]),(4,sU)])],fun n x=>g133L0 m n x.1.1 x.1.2.1 x.2.1 x.2.2.1⟩
theorem g133L0ok {E} (hE:EO E 43 g133H) (n):LO E g133B0 ((g133L0X m).at n):=lk hE (g133K m) (g133L0X m) n
theorem g133ok:FO (g133T m):=f1' g133H (g133T m) func133 (g133K m) fun _ h=>g133L0ok m h m
def g89H:Hints:=⟨[J [0,2,3,4,6],J [0,2,3,4,6,11],J [0,2,3,4,6,11,22],J' [(0,1),(1,1)] [10],J' [(0,1)] [0,2,3,4,6,12],J [0,2,3,4,6,12,13],J [0,2,3,4,6,12,13,31],J' [(3,1),(5,1)] [0,4,12,13],J' [(1,1)] [0,4,12,13],J' [(2,1)] [0,4,12,14],J [0,4,12,14,51],J [0,4,12,14],J' [(0,1)] [0,4,12,14],J' [(2,1)] [0,4,12,14,54],J' [(0,1),(1,1)] [10],J [0,12,14,65],J' [(0,1),(1,1),(5,1)] [10],J' [(0,1),(1,1)] [10]],[],[(0,[0,14])],[10],[],[[false]]⟩
def g89T:FunT:=⟨89,[sB,.a (.agg [.bool,(.imm (.int .u32))]),sI,sB,sI],sU,[sD,sD,sD,sD,sD],fun x=>g89 m x.1 x.2.1.1 x.2.1.2.1 x.2.2.1 x.2.2.2.1 x.2.2.2.2.1⟩
theorem g89ok:FO (g89T m):=fk g89H (g89T m) func89 (AllF.mem (l:=[g104T m,g131T m,g132T m,g133T m,g134T m,g109T m]) ⟨g104ok m,g131ok m,g132ok m,g133ok m,g134ok m,g109ok m,trivial⟩)
def g49H:Hints:=⟨[J [1,2],J [1,2],J [1,2,8],J [4],J [1,2,12],J [4],J' [(8,1)] [4]],[],[],[4],[],[[false]]⟩
def g49T:FunT:=⟨49,[.a (.agg [.bool,.bool,(.imm (.int .u32)),(.int .i64)]),sI],sU,[sD,sD],fun x=>g49 m x.1.1 x.1.2.1 x.1.2.2.1 x.1.2.2.2.1 x.2.1⟩
theorem g49ok:FO (g49T m):=fk g49H (g49T m) func49 (AllF.mem (l:=[g83T m,g88T m,g86T m,g89T m]) ⟨g83ok m,g88ok m,g86ok m,g89ok m,trivial⟩)
def g66H:Hints:=⟨[J [0,1],J' [(0,1),(2,1)] [4]],[],[],[4],[],[[false]]⟩
def g66T:FunT:=⟨66,[sI,sI],sU,[sD,sD],fun x=>g66 m x.1 x.2.1⟩
theorem g66ok:FO (g66T m):=fk g66H (g66T m) func66 (AllF.mem (l:=[g110T m,g49T m]) ⟨g110ok m,g49ok m,trivial⟩)
def g31H:Hints:=⟨[J [0],J' [(0,1)] [2]],[],[],[2],[],[[false]]⟩
def g31T:FunT:=⟨31,[sU],sU,[sD],fun x=>g31 m x.1⟩
theorem g31ok:FO (g31T m):=fk g31H (g31T m) func31 (AllF.mem (l:=[g66T m]) ⟨g66ok m,trivial⟩)
def g12H:Hints:=⟨[J [0,1],J' [(0,1)] [0,7],J [0,7,8],J [4],J [0,7,18],J [4],J [0,28],J' [(0,1)] [5],J [5,33],J [4],J' [(0,1)] [4],J' [(0,1)] [4]],[],[(0,[0])],[4],[],[[false]]⟩
def g12T:FunT:=⟨12,[sU,sI],sU,[sD,sD],fun x=>g12 m x.1 x.2.1⟩
theorem g12ok:FO (g12T m):=fk g12H (g12T m) func12 (AllF.mem (l:=[g9T m,g30T m,g31T m]) ⟨g9ok m,g30ok m,g31ok m,trivial⟩)
def g21H:Hints:=⟨[J [0,1,2,3],J [0,1,2,3,9],J [0,1,2,3,9,10],J [0,1,2,3,9,10,14],J' [(0,1)] [0,1,2,3,9,10],J' [(0,1)] [0,1,2,3,9,10],J' [(0,1)] [8]],[(0,[0,1,2,3,9,10])],[(0,[9]),(1,[0,1,2,3,9,10])],[8],[],[[true]]⟩
def g21T:FunT:=⟨21,[.a (.c (.imm (.int .u64))),sI,sI,sI],.a (.c (.nm 0 (.int .u64))),[sD,sD,sD,sD],fun x=>g21 m x.1 x.2.1 x.2.2.1 x.2.2.2.1⟩
noncomputable def g21C:Code:=codeOf f21
noncomputable def g21B0:Code:=Q5 g21C 0 0
theorem g21K:FL [g51T m,g12T m]:=AllF.mem ⟨g51ok m,g12ok m,trivial⟩
def g21L0X:LT:=⟨0,[(0,.a (.c (.imm (.int .u64)))),(1,sI),(2,sI),(3,sI),(9,.a (.c (.nm 0 (.int .u64)))),(10,sI)],[(.exit 0,[(9,.a (.c (.nm 0 (.int .u64))))])],fun n x=>g21L0 m n x.1 x.2.1 x.2.2.1 x.2.2.2.1 x.2.2.2.2.1 x.2.2.2.2.2.1⟩
theorem g21L0ok {E} (hE:EO E 28 g21H) (n):LO E g21B0 ((g21L0X m).at n):=lk hE (g21K m) (g21L0X m) n
theorem g21ok:FO (g21T m):=f1' g21H (g21T m) func21 (g21K m) fun _ h=>g21L0ok m h m
def g55H:Hints:=⟨[J [0],J [2,3]],[],[],[2,3],[],[[false],[false]]⟩
def g55T:FunT:=⟨55,[sU],.tup [(.c (.int .i64)),(.c (.int .u64))],[sD],fun x=>g55 m x.1⟩
theorem g55ok:FO (g55T m):=fk g55H (g55T m) func55 noF
def g53H:Hints:=⟨[J [0],J' [(0,1),(2,1)] [3],J' [(0,1)] [2]],[],[],[2],[],[[false]]⟩
def g53T:FunT:=⟨53,[sU],sB,[sD],fun x=>g53 m x.1⟩
theorem g53ok:FO (g53T m):=fk g53H (g53T m) func53 (AllF.mem (l:=[g55T m]) ⟨g55ok m,trivial⟩)
def g52H:Hints:=⟨[J [0],J' [(0,1)] [2]],[],[],[2],[],[[false]]⟩
def g52T:FunT:=⟨52,[sU],sB,[sD],fun x=>g52 m x.1⟩
theorem g52ok:FO (g52T m):=fk g52H (g52T m) func52 (AllF.mem (l:=[g53T m]) ⟨g53ok m,trivial⟩)
def g91H:Hints:=⟨[J [0,1],J [0,1,7,8],J [0,1,7,8,9],J [0,1,5,7,8],J [0,1,5,7,8,16],J' [(0,1)] [4],J' [(1,1)] [0,1,7,8],J [4]],[(0,[0,1,7,8])],[(0,[]),(1,[0,1,7,8])],[4],[],[[false]]⟩
def g91T:FunT:=⟨91,[.a (.c (.imm (.int .u64))),.a (.c (.fn 52))],sI,[sD,sD],fun x=>g91 m x.1⟩
noncomputable def g91C:Code:=codeOf f91
noncomputable def g91B0:Code:=Q5 g91C 0 0
theorem g91K:FL [g52T m]:=AllF.mem ⟨g52ok m,trivial⟩
def g91L0X:LT:=⟨0,[(0,.a (.c (.imm (.int .u64)))),(1,.a (.c (.fn 52))),(7,sI),(8,sI)],[(.ret,[(4,sI)]),(.exit 0,[])],fun n x=>g91L0 m n x.1 x.2.2.1 x.2.2.2.1⟩
theorem g91L0ok {E} (hE:EO E 19 g91H) (n):LO E g91B0 ((g91L0X m).at n):=lk hE (g91K m) (g91L0X m) n
theorem g91ok:FO (g91T m):=f1' g91H (g91T m) func91 (g91K m) fun _ h=>g91L0ok m h m
def g54H:Hints:=⟨[J [0,1],J' [(0,1),(1,1)] [4]],[],[],[4],[],[[false]]⟩
def g54T:FunT:=⟨54,[.a (.c (.imm (.int .u64))),.a (.c (.fn 52))],sB,[sD,sD],fun x=>g54 m x.1⟩
theorem g54ok:FO (g54T m):=fk g54H (g54T m) func54 (AllF.mem (l:=[g91T m]) ⟨g91ok m,trivial⟩)
def g22H:Hints:=⟨[J [0,1],J [0,1,5],J [0,1,5,6],J [4],J [0,1,5,10],J [4],J' [(0,1),(3,1),(4,1)] [18],J [4],J [4]],[],[(0,[])],[4],[],[[false]]⟩
def g22T:FunT:=⟨22,[.a (.c (.imm (.int .u64))),.a (.c (.imm (.int .u64)))],sI,[sD,sD],fun x=>g22 m x.1 x.2.1⟩
theorem g22ok:FO (g22T m):=fk g22H (g22T m) func22 (AllF.mem (l:=[g54T m]) ⟨g54ok m,trivial⟩)
def g23H:Hints:=⟨[J [0],J' [(0,1),(2,1)] [3,4],J' [(2,1)] [3,4,10],J [2],J [3,4,17],J [2],J' [(0,1),(2,1),(3,1)] [20],J [2],J [2]],[],[(0,[])],[2],[],[[false]]⟩
def g23T:FunT:=⟨23,[sU],sI,[sD],fun x=>g23 m x.1⟩
theorem g23ok:FO (g23T m):=fk g23H (g23T m) func23 (AllF.mem (l:=[g55T m]) ⟨g55ok m,trivial⟩)
def g114H:Hints:=⟨[J [0],J [0,3],J' [(2,1)] [0,3,15],J' [(0,1)] [0,3],J' [(0,1),(1,1)] [2]],[(0,[0,3])],[(0,[0,3]),(1,[0,3])],[2],[],[[false]]⟩
def g114T:FunT:=⟨114,[.a (.c (.imm (.int .u32)))],.a (.c (.imm (.int .u32))),[sD],fun x=>g114 m x.1⟩
noncomputable def g114C:Code:=codeOf f114
noncomputable def g114B0:Code:=Q5 g114C 0 0
def g114L0X:LT:=⟨0,[(0,.a (.c (.imm (.int .u32)))),(3,sI)],[(.exit 0,[(0,.a (.c (.imm (.int .u32)))),(3,sI)])],fun n x=>g114L0 m n x.1 x.2.1⟩
theorem g114L0ok {E} (hE:EO E 21 g114H) (n):LO E g114B0 ((g114L0X m).at n):=lk hE noF (g114L0X m) n
theorem g114ok:FO (g114T m):=f1' g114H (g114T m) func114 noF fun _ h=>g114L0ok m h m
def g112H:Hints:=⟨[J [0,1,4],J' [(0,1)] [0,1,4],J [0,1,4,9],J [4],J' [(0,1),(1,1)] [4]],[],[],[4],[],[[false,false]]⟩
def g112T:FunT:=⟨112,[sB,.a (.c (.imm (.int .u32)))],.a (.agg [.bool,(.imm (.int .u32))]),[sD,sD],fun x=>g112 m x.1 x.2.1⟩
theorem g112ok:FO (g112T m):=fk g112H (g112T m) func112 (AllF.mem (l:=[g114T m]) ⟨g114ok m,trivial⟩)
def g69H:Hints:=⟨[J [0,2],J [0,2,3],J [0,2,3,7],J' [(0,1)] [0,2,3],J' [(0,1)] [2]],[],[],[2],[],[[false,false]]⟩
def g69T:FunT:=⟨69,[sI],.a (.agg [.bool,(.imm (.int .u32))]),[sD],fun x=>g69 m x.1⟩
theorem g69ok:FO (g69T m):=fk g69H (g69T m) func69 (AllF.mem (l:=[g112T m]) ⟨g112ok m,trivial⟩)
def g74H:Hints:=⟨[J [0],J' [(0,1)] [2]],[],[],[2],[],[[false]]⟩
def g74T:FunT:=⟨74,[sU],sB,[sD],fun x=>g74 m x.1⟩
theorem g74ok:FO (g74T m):=fk g74H (g74T m) func74 noF
def g118H:Hints:={regs:=[J [0],J [0],J [2],J [2]],heads:=[],exits:=[],rets:=[2],pins:=[],spec:=[[true]]}
abbrev g118A:List Sh:=[.a (.c (.imm (.int .u32)))]
abbrev g118S:Sh:= .a (.c (.nm 0 (.int .u32)))
abbrev g118U:List Sh:=[sD]
def g118R:X3 g118A->Option (g118S.Val×X3 g118U):=fun x=>g118 m x.1
def g118T:FunT:=⟨118,g118A,g118S,g118U,g118R m⟩
noncomputable def g118C:Code:=codeOf f118
theorem g118ok:FO (g118T m):=
 qj3 hmix htt (H:=g118H) (fn:=f118) (f:=118) (t:=(.int .u32)) (ty:=58) (e:=87) (ty2:=58) (k:=1) (cells:=[.nil (.int .u32)]) (A:=pA g118C) (X:=pX (pB (pA (pB g118C)))) (Y:=pB (pB g118C)) (o0:=pO 0 (pA (pA (pB g118C)))) (o1:=pO 1 (pA (pA (pB g118C)))) func118 kR kR kR kR kR kR kR kR kR (of_decide_eq_true kR) rfl kR kR kR (fun xs=>[(0,.sl .imm (.int .u32) xs)]) (fun xs=>[(2,.sl (.nm 0) (.int .u32) xs)]) (fun xs=>kR) (fun _=>rfl) (fun _=>rfl) (fun _=>rfl) kR (fun xs=>kR) (fun xs=>kR)
def g75H:Hints:=⟨[J [1,2],J [2]],[],[],[2],[],[[false,false]]⟩
def g75T:FunT:=⟨75,[.a (.agg [.bool,(.imm (.int .u32))])],.a (.agg [.bool,(.imm (.int .u32))]),[sD],fun x=>g75 m x.1.1 x.1.2.1⟩
theorem g75ok:FO (g75T m):=fk g75H (g75T m) func75 (AllF.mem (l:=[g118T m,g112T m]) ⟨g118ok m,g112ok m,trivial⟩)
def g71H:Hints:=⟨[J [0],J [0]],[],[],[0],[],[[false,false,true,false]]⟩
def g71T:FunT:=⟨71,[],.a (.agg [.bool,.bool,(.nm 0 (.int .u32)),(.int .i64)]),[],fun x=>g71 m⟩
theorem g71ok:FO (g71T m):=fk g71H (g71T m) func71 noF
def g99H:Hints:=⟨[J [1,2],J [2]],[],[],[2],[],[[false,false]]⟩
def g99T:FunT:=⟨99,[.a (.agg [.bool,(.imm (.int .u32))])],.a (.agg [.bool,(.imm (.int .u32))]),[sD],fun x=>g99 m x.1.1 x.1.2.1⟩
theorem g99ok:FO (g99T m):=fk g99H (g99T m) func99 (AllF.mem (l:=[g118T m,g112T m]) ⟨g118ok m,g112ok m,trivial⟩)
def g96H:Hints:=⟨[J [1],J [1,3],J [2],J [9],J [2],J [2]],[],[(0,[])],[2],[],[[false]]⟩
def g96T:FunT:=⟨96,[.a (.agg [.bool,(.imm (.int .u32))])],sI,[sD],fun x=>g96 m x.1.1 x.1.2.1⟩
theorem g96ok:FO (g96T m):=fk g96H (g96T m) func96 (AllF.mem (l:=[g114T m]) ⟨g114ok m,trivial⟩)
def g149H:Hints:=⟨[J [1],J [6,7,8],J [6,7,8,9],J [3,4,6,7,8],J [3,4,6,7,8,14],J' [(0,1),(2,1)] [2],J' [(1,1)] [6,7,8],J [2]],[(0,[6,7,8])],[(0,[]),(1,[6,7,8])],[2],[],[[false]]⟩
def g149T:FunT:=⟨149,[.a (.agg [.bool,(.imm (.int .u32))])],sI,[sD],fun x=>g149 m x.1.1 x.1.2.1⟩
noncomputable def g149C:Code:=codeOf f149
noncomputable def g149B0:Code:=Q5 g149C 0 0
theorem g149K:FL [g140T m]:=AllF.mem ⟨g140ok m,trivial⟩
def g149L0X:LT:=⟨0,[(6,.a (.c (.imm (.int .u32)))),(7,sI),(8,sI)],[(.ret,[(2,sI)]),(.exit 0,[])],fun n x=>g149L0 m n x.1 x.2.1 x.2.2.1⟩
theorem g149L0ok {E} (hE:EO E 21 g149H) (n):LO E g149B0 ((g149L0X m).at n):=lk hE (g149K m) (g149L0X m) n
theorem g149ok:FO (g149T m):=f1' g149H (g149T m) func149 (g149K m) fun _ h=>g149L0ok m h m
def g166H:Hints:=⟨[J [0],J [0,5],J [2],J [2]],[],[],[2],[],[[false]]⟩
def g166T:FunT:=⟨166,[.a (.c (.imm (.int .u32)))],sI,[sD],fun x=>g166 m x.1⟩
theorem g166ok:FO (g166T m):=fk g166H (g166T m) func166 (AllF.mem (l:=[g141T m]) ⟨g141ok m,trivial⟩)
def g150H:Hints:=⟨[J [1],J [2]],[],[],[2],[],[[false]]⟩
def g150T:FunT:=⟨150,[.a (.agg [.bool,(.imm (.int .u32))])],sI,[sD],fun x=>g150 m x.1.1 x.1.2.1⟩
theorem g150ok:FO (g150T m):=fk g150H (g150T m) func150 (AllF.mem (l:=[g114T m,g166T m]) ⟨g114ok m,g166ok m,trivial⟩)
def g161H:Hints:=⟨[J [0,1],J [0,1,13],J [4],J [0,5,6],J [0,5,6,7],J' [(0,1)] [5,6,7,25,26,27],J [5,6,7,25,26,27,28],J [5,6,7,8,9,25,26,27],J' [(0,1)] [5,6,7,8,10,25,26,27],J [5,6,7,8,10,25,26,27],J' [(2,1),(5,1)] [5,6,7,25,26,27],J' [(1,1)] [5,6,7,25,26,27],J' [(0,1)] [4]],[(0,[5,6,7,25,26,27])],[(0,[7]),(1,[5,6,7,25,26,27])],[4],[],[[false]]⟩
def g161T:FunT:=⟨161,[.a (.c (.imm (.int .u32))),sI],.a (.c (.imm (.int .u32))),[sD,sD],fun x=>g161 m x.1 x.2.1⟩
noncomputable def g161C:Code:=codeOf f161
noncomputable def g161B0:Code:=Q5 g161C 0 0
theorem g161K:FL [g114T m]:=AllF.mem ⟨g114ok m,trivial⟩
def g161L0X:LT:=⟨0,[(5,sI),(6,sU),(7,.a (.c (.nm 0 (.int .u32)))),(25,.a (.c (.imm (.int .u32)))),(26,sI),(27,sI)],[(.exit 0,[(7,.a (.c (.nm 0 (.int .u32))))])],fun n x=>g161L0 m n x.1 x.2.1 x.2.2.1 x.2.2.2.1 x.2.2.2.2.1 x.2.2.2.2.2.1⟩
theorem g161L0ok {E} (hE:EO E 59 g161H) (n):LO E g161B0 ((g161L0X m).at n):=lk hE (g161K m) (g161L0X m) n
theorem g161ok:FO (g161T m):=f1' g161H (g161T m) func161 (g161K m) fun _ h=>g161L0ok m h m
def g174H:Hints:=⟨[J [0],J' [(0,1)] [2]],[],[],[2],[],[[false]]⟩
def g174T:FunT:=⟨174,[.a (.c (.int .u32))],sB,[sD],fun x=>g174 m x.1⟩
theorem g174ok:FO (g174T m):=fk g174H (g174T m) func174 noF
def g179H:Hints:=⟨[J [0,1],J [0,1,7,8],J [0,1,7,8,9],J [0,1,5,7,8],J [0,1,5,7,8,16],J' [(0,1)] [4],J' [(1,1)] [0,1,7,8],J [4]],[(0,[0,1,7,8])],[(0,[]),(1,[0,1,7,8])],[4],[],[[false]]⟩
def g179T:FunT:=⟨179,[.a (.c (.imm (.int .u32))),.a (.c (.fn 174))],sI,[sD,sD],fun x=>g179 m x.1⟩
noncomputable def g179C:Code:=codeOf f179
noncomputable def g179B0:Code:=Q5 g179C 0 0
theorem g179K:FL [g174T m]:=AllF.mem ⟨g174ok m,trivial⟩
def g179L0X:LT:=⟨0,[(0,.a (.c (.imm (.int .u32)))),(1,.a (.c (.fn 174))),(7,sI),(8,sI)],[(.ret,[(4,sI)]),(.exit 0,[])],fun n x=>g179L0 m n x.1 x.2.2.1 x.2.2.2.1⟩
theorem g179L0ok {E} (hE:EO E 19 g179H) (n):LO E g179B0 ((g179L0X m).at n):=lk hE (g179K m) (g179L0X m) n
theorem g179ok:FO (g179T m):=f1' g179H (g179T m) func179 (g179K m) fun _ h=>g179L0ok m h m
def g173H:Hints:=⟨[J [0,1],J' [(0,1),(1,1)] [4]],[],[],[4],[],[[false]]⟩
def g173T:FunT:=⟨173,[.a (.c (.imm (.int .u32))),.a (.c (.fn 174))],sB,[sD,sD],fun x=>g173 m x.1⟩
theorem g173ok:FO (g173T m):=fk g173H (g173T m) func173 (AllF.mem (l:=[g179T m]) ⟨g179ok m,trivial⟩)
def g162H:Hints:=⟨[J [0,1],J [0,6,7],J [0,6,7,20],J' [(0,1)] [4,5],J' [(4,1)] [0,6,7,8],J [0,6,7,8,9],J [0,6,7,8,9,45,46],J [0,6,7,8,9,45,46,47],J [0,6,7,8,9,10,45,46],J [0,6,7,8,9,10,11,45,46],J [0,6,7,8,9,10,11,45,46,62],J' [(0,1)] [0,6,7,8,9,10,11,45,46],J' [(1,1),(2,1)] [0,6,7,8,9,45,46],J' [(1,1)] [0,6,7,8,9,45,46],J' [(0,1),(2,1)] [4,5]],[(0,[0,6,7,8,9,45,46])],[(0,[8,9]),(1,[0,6,7,8,9,45,46])],[4,5],[],[[false],[false]]⟩
def g162T:FunT:=⟨162,[.a (.c (.imm (.int .u32))),sI],.tup [(.c (.imm (.int .u32))),(.c .bool)],[sD,sD],fun x=>g162 m x.1 x.2.1⟩
noncomputable def g162C:Code:=codeOf f162
noncomputable def g162B0:Code:=Q5 g162C 0 0
theorem g162K:FL [g173T m,g114T m]:=AllF.mem ⟨g173ok m,g114ok m,trivial⟩
def g162L0X:LT:=⟨0,[(0,.a (.c (.imm (.int .u32)))),(6,sI),(7,sU),(8,sB),(9,.a (.c (.nm 0 (.int .u32)))),(45,sI),(46,sI)],[(.exit 0,[(8,sB),(9,.a (.c (.nm 0 (.int .u32))))])],fun n x=>g162L0 m n x.1 x.2.1 x.2.2.1 x.2.2.2.1 x.2.2.2.2.1 x.2.2.2.2.2.1 x.2.2.2.2.2.2.1⟩
theorem g162L0ok {E} (hE:EO E 86 g162H) (n):LO E g162B0 ((g162L0X m).at n):=lk hE (g162K m) (g162L0X m) n
theorem g162ok:FO (g162T m):=f1' g162H (g162T m) func162 (g162K m) fun _ h=>g162L0ok m h m
def g115H:Hints:=⟨[J [0,1],J [0,1,14],J' [(0,1),(1,1)] [0,1],J [0,1,5],J [0,1,5,6],J' [(0,1)] [1,5,6,21,22,23],J [1,5,6,21,22,23,24],J [1,5,6,7,8,21,22,23],J' [(0,1),(2,1)] [1,5,7,9,21,22,23],J [1,5,7,9,21,22,23,35],J' [(0,1),(2,1)] [1,5,9,21,22,23],J' [(0,1)] [1,5,9,21,22,23],J' [(0,1)] [1,5,6,21,22,23],J' [(1,1)] [1,5,6,21,22,23],J' [(0,1),(1,1)] [4]],[(0,[1,5,6,21,22,23])],[(0,[5,6]),(1,[1,5,6,21,22,23])],[4],[],[[false]]⟩
def g115T:FunT:=⟨115,[.a (.c (.imm (.int .u32))),.a (.c (.imm (.int .u32)))],.a (.c (.imm (.int .u32))),[sD,sD],fun x=>g115 m x.1 x.2.1⟩
noncomputable def g115C:Code:=codeOf f115
noncomputable def g115B0:Code:=Q5 g115C 0 0
theorem g115K:FL [g114T m]:=AllF.mem ⟨g114ok m,trivial⟩
def g115L0X:LT:=⟨0,[(1,.a (.c (.imm (.int .u32)))),(5,.a (.c (.nm 0 (.int .u32)))),(6,sU),(21,.a (.c (.imm (.int .u32)))),(22,sI),(23,sI)],[(.exit 0,[(5,.a (.c (.nm 0 (.int .u32)))),(6,sU)])],fun n x=>g115L0 m n x.1 x.2.1 x.2.2.1 x.2.2.2.1 x.2.2.2.2.1 x.2.2.2.2.2.1⟩
theorem g115L0ok {E} (hE:EO E 58 g115H) (n):LO E g115B0 ((g115L0X m).at n):=lk hE (g115K m) (g115L0X m) n
theorem g115ok:FO (g115T m):=f1' g115H (g115T m) func115 (g115K m) fun _ h=>g115L0ok m h m
def g139H:Hints:=⟨[J [1,2,4],J' [(2,1)] [1,2,4,14],J [4,5],J [1,2,4,6],J [1,2,4,6,20],J' [(2,1),(3,1)] [4,5],J' [(0,1),(1,1),(4,1)] [2,4,7,8],J' [(2,1),(3,1)] [2,4,7,38],J' [(0,1)] [2,4,7],J' [(2,1)] [4,5]],[],[],[4,5],[],[[false,false],[false]]⟩
def g139T:FunT:=⟨139,[.a (.agg [.bool,(.imm (.int .u32))]),sI],.tup [(.agg [.bool,(.imm (.int .u32))]),(.c (.int .i64))],[sD,sD],fun x=>g139 m x.1.1 x.1.2.1 x.2.1⟩
theorem g139ok:FO (g139T m):=fk g139H (g139T m) func139 (AllF.mem (l:=[g114T m,g161T m,g112T m,g162T m,g115T m]) ⟨g114ok m,g161ok m,g112ok m,g162ok m,g115ok m,trivial⟩)
def g151H:Hints:=⟨[J [1,2,4],J [1,2,4,6],J' [(2,1)] [1,2,4],J' [(0,1)] [1,2,4],J' [(1,1),(4,1)] [2,4],J [4]],[(0,[1,2,4])],[(0,[1,2,4]),(1,[1,2,4])],[4],[],[[false,false]]⟩
def g151T:FunT:=⟨151,[.a (.agg [.bool,(.imm (.int .u32))]),sI],.a (.agg [.bool,(.imm (.int .u32))]),[sD,sD],fun x=>g151 m x.1.1 x.1.2.1 x.2.1⟩
noncomputable def g151C:Code:=codeOf f151
noncomputable def g151B0:Code:=Q5 g151C 0 0
theorem g151K:FL [g139T m]:=AllF.mem ⟨g139ok m,trivial⟩
def g151L0X:LT:=⟨0,[(1,sI),(2,sX 0 [.bool,.imm (.int .u32)]),(4,sX 1 [.bool,.nm 2 (.int .u32)])],[(.exit 0,[(1,sI),(2,sX 0 [.bool,.imm (.int .u32)]),(4,sX 1 [.bool,.nm 2 (.int .u32)])])],fun n x=>g151L0 m n x.1 x.2.1.1 x.2.1.2.1 x.2.2.1.1 x.2.2.1.2.1⟩
theorem g151L0ok {E} (hE:EO E 22 g151H) (n):LO E g151B0 ((g151L0X m).at n):=lk hE (g151K m) (g151L0X m) n
theorem g151ok:FO (g151T m):=f1' g151H (g151T m) func151 (g151K m) fun _ h=>g151L0ok m h m
def g111H:Hints:=⟨[J [1,2],J [1,2,7],J [2,3],J [1,2,4],J [1,2,4,14],J [2,3],J [1,2,4,5],J' [(6,1)] [1,2,4,5,30],J [2,3],J [2,3]],[],[],[2,3],[],[[false,false,false,false],[false]]⟩
def g111T:FunT:=⟨111,[.a (.agg [.bool,.bool,(.imm (.int .u32)),(.int .i64)])],.tup [(.agg [.bool,.bool,(.imm (.int .u32)),(.int .i64)]),(.c .bool)],[sD],fun x=>g111 m x.1.1 x.1.2.1 x.1.2.2.1 x.1.2.2.2.1⟩
theorem g111ok:FO (g111T m):=fk g111H (g111T m) func111 (AllF.mem (l:=[g71T m,g99T m,g96T m,g149T m,g150T m,g151T m]) ⟨g71ok m,g99ok m,g96ok m,g149ok m,g150ok m,g151ok m,trivial⟩)
def g68H:Hints:=⟨[J [1,2,4],J' [(1,1),(4,1)] [4,5],J [4]],[],[],[4],[],[[false,false,false,false]]⟩
def g68T:FunT:=⟨68,[.a (.agg [.bool,(.imm (.int .u32))]),sI],.a (.agg [.bool,.bool,(.imm (.int .u32)),(.int .i64)]),[sD,sD],fun x=>g68 m x.1.1 x.1.2.1 x.2.1⟩
theorem g68ok:FO (g68T m):=fk g68H (g68T m) func68 (AllF.mem (l:=[g111T m]) ⟨g111ok m,trivial⟩)
def g41H:Hints:=⟨[J [0,2],J' [(2,1)] [0,2,3,4],J [0,2,3,4,11],J' [(0,1)] [0,2,3,4],J' [(0,1)] [0,2,3,4],J [0,2,3,4,11,16],J [2],J [0,2,3,4,19],J [0,2,3,4],J' [(0,1)] [0,2,3,5],J' [(0,1)] [2,3,5,25],J [2,3,5],J' [(1,1)] [2]],[],[(0,[0,2,3,4])],[2],[],[[false,false,false,false]]⟩
def g41T:FunT:=⟨41,[sU],.a (.agg [.bool,.bool,(.imm (.int .u32)),(.int .i64)]),[sD],fun x=>g41 m x.1⟩
theorem g41ok:FO (g41T m):=fk g41H (g41T m) func41 (AllF.mem (l:=[g55T m,g69T m,g74T m,g75T m,g68T m]) ⟨g55ok m,g69ok m,g74ok m,g75ok m,g68ok m,trivial⟩)
def g81H:Hints:=⟨[J [1,2],J' [(2,1)] [1,2,3],J' [(0,1)] [1,2,9],J [1,2],J [2]],[],[],[2],[],[[false,false,false,false]]⟩
def g81T:FunT:=⟨81,[.a (.agg [.bool,.bool,(.imm (.int .u32)),(.int .i64)])],.a (.agg [.bool,.bool,(.imm (.int .u32)),(.int .i64)]),[sD],fun x=>g81 m x.1.1 x.1.2.1 x.1.2.2.1 x.1.2.2.2.1⟩
theorem g81ok:FO (g81T m):=fk g81H (g81T m) func81 (AllF.mem (l:=[g111T m,g75T m]) ⟨g111ok m,g75ok m,trivial⟩)
def g70H:Hints:=⟨[J [2,3,4,5],J' [(2,1)] [3,4,5,6],J' [(2,1)] [4,5,6,7],J' [(2,1),(3,1),(4,1)] [4,5,6]],[],[],[4,5,6],[],[[false,false,false,false],[false,false,false,false],[false]]⟩
def g70T:FunT:=⟨70,[.a (.agg [.bool,.bool,(.imm (.int .u32)),(.int .i64)]),.a (.agg [.bool,.bool,(.imm (.int .u32)),(.int .i64)])],.tup [(.agg [.bool,.bool,(.imm (.int .u32)),(.int .i64)]),(.agg [.bool,.bool,(.imm (.int .u32)),(.int .i64)]),(.c .bool)],[sD,sD],fun x=>g70 m x.1.1 x.1.2.1 x.1.2.2.1 x.1.2.2.2.1 x.2.1.1 x.2.1.2.1 x.2.1.2.2.1 x.2.1.2.2.2.1⟩
theorem g70ok:FO (g70T m):=fk g70H (g70T m) func70 (AllF.mem (l:=[g111T m]) ⟨g111ok m,trivial⟩)
def g113H:Hints:=⟨[J [1,2,4],J' [(1,1),(3,1)] [2,4],J [4]],[],[],[4],[],[[false,false]]⟩
def g113T:FunT:=⟨113,[.a (.agg [.bool,(.imm (.int .u32))]),sI],.a (.agg [.bool,(.imm (.int .u32))]),[sD,sD],fun x=>g113 m x.1.1 x.1.2.1 x.2.1⟩
theorem g113ok:FO (g113T m):=fk g113H (g113T m) func113 (AllF.mem (l:=[g139T m]) ⟨g139ok m,trivial⟩)
def g72H:Hints:=⟨[J [2,3,4,5],J [2,3,4,5,6],J [4,5,6]],[],[],[4,5,6],[],[[false,false],[false,false],[false]]⟩
def g72T:FunT:=⟨72,[.a (.agg [.bool,.bool,(.imm (.int .u32)),(.int .i64)]),.a (.agg [.bool,.bool,(.imm (.int .u32)),(.int .i64)])],.tup [(.agg [.bool,(.imm (.int .u32))]),(.agg [.bool,(.imm (.int .u32))]),(.c (.int .i64))],[sD,sD],fun x=>g72 m x.1.1 x.1.2.1 x.1.2.2.1 x.1.2.2.2.1 x.2.1.1 x.2.1.2.1 x.2.1.2.2.1 x.2.1.2.2.2.1⟩
theorem g72ok:FO (g72T m):=fk g72H (g72T m) func72 (AllF.mem (l:=[g113T m]) ⟨g113ok m,trivial⟩)
def g167H:Hints:=⟨[J [0],J [2]],[],[],[2],[],[[false]]⟩
def g167T:FunT:=⟨167,[sI],sB,[sD],fun x=>g167 m x.1⟩
theorem g167ok:FO (g167T m):=fk g167H (g167T m) func167 noF
def g152H:Hints:=⟨[J [0,1],J [0,1,5],J [0,1,5,6],J' [(0,1)] [0,1,6,11],J' [(0,1)] [12],J [4],J [4],J' [(0,1)] [0,1,13],J [4],J [0,1,16],J [4],J' [(0,1),(1,1)] [19],J [4],J [4]],[],[],[4],[],[[false]]⟩
def g152T:FunT:=⟨152,[sI,sI],sI,[sD,sD],fun x=>g152 m x.1 x.2.1⟩
theorem g152ok:FO (g152T m):=fk g152H (g152T m) func152 (AllF.mem (l:=[g167T m]) ⟨g167ok m,trivial⟩)
def g168H:Hints:=⟨[J [0],J [2]],[],[],[2],[],[[false]]⟩
def g168T:FunT:=⟨168,[.a (.c (.int .u32))],sB,[sD],fun x=>g168 m x.1⟩
theorem g168ok:FO (g168T m):=fk g168H (g168T m) func168 noF
def g153H:Hints:=⟨[J [0,1],J [0,1,5],J [0,1,5,6],J' [(0,1)] [0,1,6,11],J' [(0,1)] [12],J [4],J [4],J' [(0,1)] [0,1,13],J [4],J [0,1,16],J [4],J' [(0,1),(1,1)] [19],J [4],J [4]],[],[],[4],[],[[false]]⟩
def g153T:FunT:=⟨153,[.a (.c (.int .u32)),.a (.c (.int .u32))],sI,[sD,sD],fun x=>g153 m x.1 x.2.1⟩
theorem g153ok:FO (g153T m):=fk g153H (g153T m) func153 (AllF.mem (l:=[g168T m]) ⟨g168ok m,trivial⟩)
def g116H:Hints:=⟨[J [0,1],J [0,1,10],J' [(0,1),(2,1)] [4],J [0,1,5],J [0,1,5,20],J' [(0,1)] [0,1,5],J [0,1,5,31],J' [(0,1),(4,1)] [4],J [4]],[(0,[0,1,5])],[(0,[]),(1,[0,1,5])],[4],[],[[false]]⟩
def g116T:FunT:=⟨116,[.a (.c (.imm (.int .u32))),.a (.c (.imm (.int .u32)))],sI,[sD,sD],fun x=>g116 m x.1 x.2.1⟩
noncomputable def g116C:Code:=codeOf f116
noncomputable def g116B0:Code:=Q5 g116C 0 0
theorem g116K:FL [g152T m,g153T m]:=AllF.mem ⟨g152ok m,g153ok m,trivial⟩
def g116L0X:LT:=⟨0,[(0,.a (.c (.imm (.int .u32)))),(1,.a (.c (.imm (.int .u32)))),(5,sI)],[(.ret,[(4,sI)]),(.exit 0,[])],fun n x=>g116L0 m n x.1 x.2.1 x.2.2.1⟩
theorem g116L0ok {E} (hE:EO E 41 g116H) (n):LO E g116B0 ((g116L0X m).at n):=lk hE (g116K m) (g116L0X m) n
theorem g116ok:FO (g116T m):=f1' g116H (g116T m) func116 (g116K m) fun _ h=>g116L0ok m h m
def g117H:Hints:=⟨[J [0,1],J [0,1,5],J [0,1,5,6],J' [(0,1)] [1,5,6,13,14,15],J [1,5,6,13,14,15,16],J [1,5,6,7,8,13,14,15],J' [(0,1),(2,1)] [1,5,7,9,13,14,15],J [1,5,7,9,13,14,15,27],J' [(0,1)] [1,5,7,9,13,14,15],J' [(1,1)] [1,5,9,13,14,15],J' [(0,1)] [1,5,6,13,14,15],J' [(1,1)] [1,5,6,13,14,15],J' [(0,1)] [4]],[(0,[1,5,6,13,14,15])],[(0,[5]),(1,[1,5,6,13,14,15])],[4],[],[[false]]⟩
def g117T:FunT:=⟨117,[.a (.c (.imm (.int .u32))),.a (.c (.imm (.int .u32)))],.a (.c (.imm (.int .u32))),[sD,sD],fun x=>g117 m x.1 x.2.1⟩
noncomputable def g117C:Code:=codeOf f117
noncomputable def g117B0:Code:=Q5 g117C 0 0
theorem g117K:FL [g114T m]:=AllF.mem ⟨g114ok m,trivial⟩
def g117L0X:LT:=⟨0,[(1,.a (.c (.imm (.int .u32)))),(5,.a (.c (.nm 0 (.int .u32)))),(6,sU),(13,.a (.c (.imm (.int .u32)))),(14,sI),(15,sI)],[(.exit 0,[(5,.a (.c (.nm 0 (.int .u32))))])],fun n x=>g117L0 m n x.1 x.2.1 x.2.2.1 x.2.2.2.1 x.2.2.2.2.1 x.2.2.2.2.2.1⟩
theorem g117L0ok {E} (hE:EO E 47 g117H) (n):LO E g117B0 ((g117L0X m).at n):=lk hE (g117K m) (g117L0X m) n
theorem g117ok:FO (g117T m):=f1' g117H (g117T m) func117 (g117K m) fun _ h=>g117L0ok m h m
def g73H:Hints:=⟨[J [2,3,4],J [2,3,4,5,6],J [2,3,4,5,6,13],J' [(2,1),(3,1)] [4],J [2,3,4,5,6,25],J' [(2,1),(3,1)] [4],J' [(2,1),(3,1)] [4]],[],[(0,[3,4,5,6])],[4],[],[[false,false]]⟩
def g73T:FunT:=⟨73,[.a (.agg [.bool,(.imm (.int .u32))]),.a (.agg [.bool,(.imm (.int .u32))])],.a (.agg [.bool,(.imm (.int .u32))]),[sD,sD],fun x=>g73 m x.1.1 x.1.2.1 x.2.1.1 x.2.1.2.1⟩
theorem g73ok:FO (g73T m):=fk g73H (g73T m) func73 (AllF.mem (l:=[g114T m,g115T m,g112T m,g116T m,g117T m]) ⟨g114ok m,g115ok m,g112ok m,g116ok m,g117ok m,trivial⟩)
def g40H:Hints:=⟨[J [2,3,4],J' [(3,1)] [2,3,4,5],J' [(0,1)] [2,3,4,17],J [4],J' [(3,1)] [4,6,7,8],J' [(3,1)] [4]],[],[],[4],[],[[false,false,false,false]]⟩
def g40T:FunT:=⟨40,[.a (.agg [.bool,.bool,(.imm (.int .u32)),(.int .i64)]),.a (.agg [.bool,.bool,(.imm (.int .u32)),(.int .i64)])],.a (.agg [.bool,.bool,(.imm (.int .u32)),(.int .i64)]),[sD,sD],fun x=>g40 m x.1.1 x.1.2.1 x.1.2.2.1 x.1.2.2.2.1 x.2.1.1 x.2.1.2.1 x.2.1.2.2.1 x.2.1.2.2.2.1⟩
theorem g40ok:FO (g40T m):=fk g40H (g40T m) func40 (AllF.mem (l:=[g70T m,g71T m,g72T m,g73T m,g68T m]) ⟨g70ok m,g71ok m,g72ok m,g73ok m,g68ok m,trivial⟩)
def g44H:Hints:=⟨[J [2,3,4],J [4]],[],[],[4],[],[[false,false,false,false]]⟩
def g44T:FunT:=⟨44,[.a (.agg [.bool,.bool,(.imm (.int .u32)),(.int .i64)]),.a (.agg [.bool,.bool,(.imm (.int .u32)),(.int .i64)])],.a (.agg [.bool,.bool,(.imm (.int .u32)),(.int .i64)]),[sD,sD],fun x=>g44 m x.1.1 x.1.2.1 x.1.2.2.1 x.1.2.2.2.1 x.2.1.1 x.2.1.2.1 x.2.1.2.2.1 x.2.1.2.2.2.1⟩
theorem g44ok:FO (g44T m):=fk g44H (g44T m) func44 (AllF.mem (l:=[g81T m,g40T m]) ⟨g81ok m,g40ok m,trivial⟩)
def g58H:Hints:=⟨[J [0,1,2],J' [(2,4)] [0,1,2,7],J [0,1,2,7,15,16],J [0,1,2,7,15,16,17],J [0,1,2,7,8,15,16],J' [(6,4)] [0,1,2,7,8,15,16],J [0,1,2,7,15,16],J' [(1,1)] [0,1,2,7,15,16],J' [(0,1)] [7,40,41,42],J [7,40,41,42,43],J [7,9,10,40,41,42],J [7,40,41,42],J' [(1,1)] [7,40,41,42],J' [(0,1)] [6]],[(0,[0,1,2,7,15,16]),(2,[7,40,41,42])],[(0,[1,7]),(1,[0,1,2,7,15,16]),(2,[7]),(3,[7,40,41,42])],[6],[],[[false]]⟩
def g58T:FunT:=⟨58,[.a (.c (.imm (.int .u64))),.a (.c (.imm (.int .u64))),sU],.a (.c (.imm (.sl false (.pr .bool (.pr (.pr .bool (.sl false (.int .u32))) (.int .i64)))))),[sD,sD,sD],fun x=>g58 m x.1 x.2.1 x.2.2.1⟩
noncomputable def g58C:Code:=codeOf f58
noncomputable def g58B0:Code:=Q5 g58C 0 0
noncomputable def g58B2:Code:=Q5 g58C 0 1
theorem g58K:FL [g41T m,g44T m]:=AllF.mem ⟨g41ok m,g44ok m,trivial⟩
def g58L1X:LT:=⟨2,[(7,.a (.c (.dp 0 (.pr .bool (.pr (.pr .bool (.sl false (.int .u32))) (.int .i64)))))),(40,.a (.c (.imm (.int .u64)))),(41,sI),(42,sI)],[(.exit 2,[(7,.a (.c (.dp 0 (.pr .bool (.pr (.pr .bool (.sl false (.int .u32))) (.int .i64))))))])],fun n x=>g58L1 m n x.1 x.2.1 x.2.2.1 x.2.2.2.1⟩
theorem g58L1ok {E} (hE:EO E 67 g58H) (n):LO E g58B2 ((g58L1X m).at n):=lk hE (g58K m) (g58L1X m) n
def g58L0X:LT:=⟨0,[(0,.a (.c (.imm (.int .u64)))),(1,.a (.c (.imm (.int .u64)))),(2,sU),(7,.a (.c (.dp 0 (.pr .bool (.pr (.pr .bool (.sl false (.int .u32))) (.int .i64)))))),(15,sI),(16,sI)],[(.exit 0,[(1,.a (.c (.imm (.int .u64)))),(7,.a (.c (.dp 0 (.pr .bool (.pr (.pr .bool (.sl false (.int .u32))) (.int .i64))))))])],fun n x=>g58L0 m n x.1 x.2.1 x.2.2.1 x.2.2.2.1 x.2.2.2.2.1 x.2.2.2.2.2.1⟩
theorem g58L0ok {E} (hE:EO E 67 g58H) (n):LO E g58B0 ((g58L0X m).at n):=lk hE (g58K m) (g58L0X m) n
theorem g58ok:FO (g58T m):=
 fok hmix htt (H:=g58H) (g58T m) func58 kR (g58K m) (L:=[(g58L0X m).at m,(g58L1X m).at m]) (l:=[(0,g58B0),(2,g58B2)]) kR (fun _ hE _ _=>⟨qm ⟨yb (g58L0ok m hE m),nb rfl,trivial⟩,qm ⟨nb rfl,yb (g58L1ok m hE m),trivial⟩,trivial⟩) (fun x=>kR)
def g77H:Hints:=⟨[J [1,2],J' [(2,1)] [1,2],J [2]],[],[],[2],[],[[false,false,false,false]]⟩
def g77T:FunT:=⟨77,[.a (.agg [.bool,.bool,(.imm (.int .u32)),(.int .i64)])],.a (.agg [.bool,.bool,(.imm (.int .u32)),(.int .i64)]),[sD],fun x=>g77 m x.1.1 x.1.2.1 x.1.2.2.1 x.1.2.2.2.1⟩
theorem g77ok:FO (g77T m):=fk g77H (g77T m) func77 (AllF.mem (l:=[g111T m]) ⟨g111ok m,trivial⟩)
def g78H:Hints:=⟨[J [1],J' [(2,1)] [1],J [2]],[],[],[2],[],[[false]]⟩
def g78T:FunT:=⟨78,[.a (.agg [.bool,.bool,(.imm (.int .u32)),(.int .i64)])],sI,[sD],fun x=>g78 m x.1.1 x.1.2.1 x.1.2.2.1 x.1.2.2.2.1⟩
theorem g78ok:FO (g78T m):=fk g78H (g78T m) func78 (AllF.mem (l:=[g111T m,g96T m]) ⟨g111ok m,g96ok m,trivial⟩)
def g98H:Hints:=⟨[J [1,2,4],J' [(2,1)] [1,2,4,5],J' [(0,1)] [1,2,4,12],J [4],J' [(4,1)] [4]],[],[],[4],[],[[false,false,false,false]]⟩
def g98T:FunT:=⟨98,[.a (.agg [.bool,.bool,(.imm (.int .u32)),(.int .i64)]),sI],.a (.agg [.bool,.bool,(.imm (.int .u32)),(.int .i64)]),[sD,sD],fun x=>g98 m x.1.1 x.1.2.1 x.1.2.2.1 x.1.2.2.2.1 x.2.1⟩
theorem g98ok:FO (g98T m):=fk g98H (g98T m) func98 (AllF.mem (l:=[g111T m,g71T m,g68T m]) ⟨g111ok m,g71ok m,g68ok m,trivial⟩)
def g97H:Hints:=⟨[J [1,2],J' [(2,1)] [1,2,4],J' [(0,1)] [1,2,13],J [2,3],J' [(5,1)] [2,5],J [2,3]],[],[],[2,3],[],[[false,false],[false]]⟩
def g97T:FunT:=⟨97,[.a (.agg [.bool,.bool,(.imm (.int .u32)),(.int .i64)])],.tup [(.agg [.bool,(.imm (.int .u32))]),(.c .bool)],[sD],fun x=>g97 m x.1.1 x.1.2.1 x.1.2.2.1 x.1.2.2.2.1⟩
theorem g97ok:FO (g97T m):=fk g97H (g97T m) func97 (AllF.mem (l:=[g111T m,g139T m]) ⟨g111ok m,g139ok m,trivial⟩)
def g57H:Hints:=⟨[J [0],J [0,3],J [0,3,15,16,17],J [0,3,15,16,17,18],J [0,3,5,15,16,17],J' [(0,1)] [0,3,15,16,17,21,22,23],J [0,3,15,16,17,21,22,23,24],J [0,3,7,15,16,17,21,22,23],J [0,3,7,15,16,17,21,22,23],J [0,3,7,15,16,17,21,22,23,31],J' [(0,1)] [0,3,15,16,17,21,22,23],J' [(1,1)] [0,3,15,16,17,21,22,23],J' [(1,1)] [0,3,15,16,17],J' [(2,4)] [0,3,8],J' [(0,1)] [3,8,41,42,43],J [3,8,41,42,43,44],J [3,8,9,10,41,42,43],J' [(0,1)] [3,8,9,41,42,43,48,49,50],J [3,8,9,41,42,43,48,49,50,51],J [3,8,9,12,41,42,43,48,49,50],J' [(5,1)] [3,8,9,13,41,42,43,48,49,50],J' [(5,4),(11,4)] [3,8,9,41,42,43,48,49,50],J' [(1,1)] [3,8,9,41,42,43,48,49,50],J' [(1,1)] [3,8,41,42,43],J' [(0,1)] [2]],[(0,[0,3,15,16,17]),(2,[0,3,15,16,17,21,22,23]),(4,[3,8,41,42,43]),(6,[3,8,9,41,42,43,48,49,50])],[(0,[0,3]),(1,[0,3,15,16,17]),(2,[0,3,15,16,17]),(3,[0,3,15,16,17,21,22,23]),(4,[8]),(5,[3,8,41,42,43]),(6,[3,8,41,42,43]),(7,[3,8,9,41,42,43,48,49,50])],[2],[],[[false]]⟩
def g57T:FunT:=⟨57,[.a (.c (.imm (.sl false (.pr .bool (.pr (.pr .bool (.sl false (.int .u32))) (.int .i64))))))],.a (.c (.imm (.sl false (.pr .bool (.sl false (.int .u32)))))),[sD],fun x=>g57 m x.1⟩
noncomputable def g57C:Code:=codeOf f57
noncomputable def g57B0:Code:=Q5 g57C 0 0
noncomputable def g57B2:Code:=Q5 g57B0 0 0
noncomputable def g57B4:Code:=Q5 g57C 0 1
noncomputable def g57B6:Code:=Q5 g57B4 4 0
theorem g57K:FL [g77T m,g78T m,g98T m,g97T m,g99T m]:=AllF.mem ⟨g77ok m,g78ok m,g98ok m,g97ok m,g99ok m,trivial⟩
def g57L3X:LT:=⟨6,[(3,sI),(8,.a (.c (.dp 0 (.pr .bool (.sl false (.int .u32)))))),(9,sI),(41,.a (.c (.imm (.sl false (.pr .bool (.pr (.pr .bool (.sl false (.int .u32))) (.int .i64))))))),(42,sI),(43,sI),(48,.a (.c (.imm (.pr .bool (.pr (.pr .bool (.sl false (.int .u32))) (.int .i64)))))),(49,sI),(50,sI)],[(.exit 6,[(3,sI),(8,.a (.c (.dp 0 (.pr .bool (.sl false (.int .u32)))))),(41,.a (.c (.imm (.sl false (.pr .bool (.pr (.pr .bool (.sl false (.int .u32))) (.int .i64))))))),(42,sI),(43,sI)])],fun n x=>g57L3 m n x.1 x.2.1 x.2.2.1 x.2.2.2.1 x.2.2.2.2.1 x.2.2.2.2.2.1 x.2.2.2.2.2.2.1 x.2.2.2.2.2.2.2.1 x.2.2.2.2.2.2.2.2.1⟩
theorem g57L3ok {E} (hE:EO E 76 g57H) (n):LO E g57B6 ((g57L3X m).at n):=lk hE (g57K m) (g57L3X m) n
def g57L2X:LT:=⟨4,[(3,sI),(8,.a (.c (.dp 0 (.pr .bool (.sl false (.int .u32)))))),(41,.a (.c (.imm (.sl false (.pr .bool (.pr (.pr .bool (.sl false (.int .u32))) (.int .i64))))))),(42,sI),(43,sI)],[(.exit 4,[(8,.a (.c (.dp 0 (.pr .bool (.sl false (.int .u32))))))])],fun n x=>g57L2 m n x.1 x.2.1 x.2.2.1 x.2.2.2.1 x.2.2.2.2.1⟩
theorem g57L2ok {E} (hE:EO E 76 g57H) (n):LO E g57B4 ((g57L2X m).at n):=
 lok hmix htt hE (g57K m) (L:=[(g57L3X m).at m]) (g57L2X m) (l:=[(6,g57B6)]) kR (fun _ _=>⟨qm ⟨yb (g57L3ok m hE m),trivial⟩,trivial⟩) (fun n x=>kR) (fun _=>kR) n
def g57L1X:LT:=⟨2,[(0,.a (.c (.imm (.sl false (.pr .bool (.pr (.pr .bool (.sl false (.int .u32))) (.int .i64))))))),(3,sI),(15,.a (.c (.imm (.sl false (.pr .bool (.pr (.pr .bool (.sl false (.int .u32))) (.int .i64))))))),(16,sI),(17,sI),(21,.a (.c (.imm (.pr .bool (.pr (.pr .bool (.sl false (.int .u32))) (.int .i64)))))),(22,sI),(23,sI)],[(.exit 2,[(0,.a (.c (.imm (.sl false (.pr .bool (.pr (.pr .bool (.sl false (.int .u32))) (.int .i64))))))),(3,sI),(15,.a (.c (.imm (.sl false (.pr .bool (.pr (.pr .bool (.sl false (.int .u32))) (.int .i64))))))),(16,sI),(17,sI)])],fun n x=>g57L1 m n x.1 x.2.1 x.2.2.1 x.2.2.2.1 x.2.2.2.2.1 x.2.2.2.2.2.1 x.2.2.2.2.2.2.1 x.2.2.2.2.2.2.2.1⟩
theorem g57L1ok {E} (hE:EO E 76 g57H) (n):LO E g57B2 ((g57L1X m).at n):=lk hE (g57K m) (g57L1X m) n
def g57L0X:LT:=⟨0,[(0,.a (.c (.imm (.sl false (.pr .bool (.pr (.pr .bool (.sl false (.int .u32))) (.int .i64))))))),(3,sI),(15,.a (.c (.imm (.sl false (.pr .bool (.pr (.pr .bool (.sl false (.int .u32))) (.int .i64))))))),(16,sI),(17,sI)],[(.exit 0,[(0,.a (.c (.imm (.sl false (.pr .bool (.pr (.pr .bool (.sl false (.int .u32))) (.int .i64))))))),(3,sI)])],fun n x=>g57L0 m n x.1 x.2.1 x.2.2.1 x.2.2.2.1 x.2.2.2.2.1⟩
theorem g57L0ok {E} (hE:EO E 76 g57H) (n):LO E g57B0 ((g57L0X m).at n):=
 lok hmix htt hE (g57K m) (L:=[(g57L1X m).at m]) (g57L0X m) (l:=[(2,g57B2)]) kR (fun _ _=>⟨qm ⟨yb (g57L1ok m hE m),trivial⟩,trivial⟩) (fun n x=>kR) (fun _=>kR) n
theorem g57ok:FO (g57T m):=
 fok hmix htt (H:=g57H) (g57T m) func57 kR (g57K m) (L:=[(g57L0X m).at m,(g57L2X m).at m]) (l:=[(0,g57B0),(4,g57B4)]) kR (fun _ hE _ _=>⟨qm ⟨yb (g57L0ok m hE m),nb rfl,trivial⟩,qm ⟨nb rfl,yb (g57L2ok m hE m),trivial⟩,trivial⟩) (fun x=>kR)
def g136H:Hints:=⟨[J [0],J [0,5],J [2],J' [(0,1)] [2]],[],[],[2],[],[[false]]⟩
def g136T:FunT:=⟨136,[.a (.c (.imm (.sl false (.pr .bool (.sl false (.int .u32))))))],sI,[sD],fun x=>g136 m x.1⟩
theorem g136ok:FO (g136T m):=fk g136H (g136T m) func136 noF
def g158H:Hints:=⟨[J [0,1],J' [(0,1)] [3]],[],[],[3],[],[[false]]⟩
def g158T:FunT:=⟨158,[.a (.c (.imm (.pr .bool (.sl false (.int .u32))))),.a (.c (.iptr none (.int .i64) 0))],sB,[sD,sD],fun x=>g158 m x.1 x.2.1⟩
theorem g158ok:FO (g158T m):=fk g158H (g158T m) func158 noF
def g170H:Hints:=⟨[J [0,1],J [0,1,7,8],J [0,1,7,8,9],J [0,1,5,7,8],J [0,1,5,7,8,16],J' [(0,1)] [4],J' [(1,1)] [0,1,7,8],J [4]],[(0,[0,1,7,8])],[(0,[]),(1,[0,1,7,8])],[4],[],[[false]]⟩
def g170T:FunT:=⟨170,[.a (.c (.imm (.sl false (.pr .bool (.sl false (.int .u32)))))),.a (.c (.iptr (some 158) (.int .i64) 0))],sI,[sD,sD],fun x=>g170 m x.1 x.2.1⟩
noncomputable def g170C:Code:=codeOf f170
noncomputable def g170B0:Code:=Q5 g170C 0 0
theorem g170K:FL [g158T m]:=AllF.mem ⟨g158ok m,trivial⟩
def g170L0X:LT:=⟨0,[(0,.a (.c (.imm (.sl false (.pr .bool (.sl false (.int .u32))))))),(1,.a (.c (.iptr (some 158) (.int .i64) 0))),(7,sI),(8,sI)],[(.ret,[(4,sI)]),(.exit 0,[])],fun n x=>g170L0 m n x.1 x.2.1 x.2.2.1 x.2.2.2.1⟩
theorem g170L0ok {E} (hE:EO E 19 g170H) (n):LO E g170B0 ((g170L0X m).at n):=lk hE (g170K m) (g170L0X m) n
theorem g170ok:FO (g170T m):=f1' g170H (g170T m) func170 (g170K m) fun _ h=>g170L0ok m h m
def g157H:Hints:=⟨[J [0,1],J' [(0,1),(1,1)] [4]],[],[],[4],[],[[false]]⟩
def g157T:FunT:=⟨157,[.a (.c (.imm (.sl false (.pr .bool (.sl false (.int .u32)))))),.a (.c (.iptr (some 158) (.int .i64) 0))],sB,[sD,sD],fun x=>g157 m x.1 x.2.1⟩
theorem g157ok:FO (g157T m):=fk g157H (g157T m) func157 (AllF.mem (l:=[g170T m]) ⟨g170ok m,trivial⟩)
def g135H:Hints:=⟨[J [0],J [0,3],J [0,3,6],J [2],J' [(0,1),(3,1)] [10],J [2],J [2]],[],[(0,[])],[2],[],[[false]]⟩
def g135T:FunT:=⟨135,[.a (.c (.imm (.sl false (.pr .bool (.sl false (.int .u32))))))],sI,[sD],fun x=>g135 m x.1⟩
theorem g135ok:FO (g135T m):=fk g135H (g135T m) func135 (AllF.mem (l:=[g136T m,g157T m]) ⟨g136ok m,g157ok m,trivial⟩)
def g92H:Hints:=⟨[J [0],J [0,3],J' [(2,1)] [3,14],J [2],J' [(0,1)] [2]],[],[],[2],[],[[false]]⟩
def g92T:FunT:=⟨92,[.a (.c (.imm (.sl false (.pr .bool (.sl false (.int .u32))))))],sI,[sD],fun x=>g92 m x.1⟩
theorem g92ok:FO (g92T m):=fk g92H (g92T m) func92 (AllF.mem (l:=[g135T m,g136T m]) ⟨g135ok m,g136ok m,trivial⟩)
def g93H:Hints:=⟨[J [2,3],J [2,3,5,6],J [2,3,5,6,11],J [4],J' [(1,1)] [2,3,5,15],J [4],J' [(0,1)] [4]],[],[(0,[2,3,5])],[4],[],[[false]]⟩
def g93T:FunT:=⟨93,[.a (.agg [.bool,(.imm (.int .u32))]),.a (.agg [.bool,(.imm (.int .u32))])],sI,[sD,sD],fun x=>g93 m x.1.1 x.1.2.1 x.2.1.1 x.2.1.2.1⟩
theorem g93ok:FO (g93T m):=fk g93H (g93T m) func93 (AllF.mem (l:=[g96T m,g114T m,g116T m]) ⟨g96ok m,g114ok m,g116ok m,trivial⟩)
def g95H:Hints:=⟨[J [0,1],J' [(0,6)] [0,1,5],J' [(0,1)] [1,5,11,12,13],J [1,5,11,12,13,14],J [1,5,6,7,11,12,13],J [1,5,6,7,8,11,12,13],J' [(0,1)] [1,5,6,8,11,12,13,18,19,20],J [1,5,6,8,11,12,13,18,19,20,21],J [1,5,6,8,10,11,12,13,18,19,20],J' [(0,1)] [1,5,6,8,11,12,13,18,19,20],J' [(1,1)] [1,5,6,8,11,12,13,18,19,20],J [1,5,6,8,11,12,13,33],J' [(0,1),(2,1)] [1,5,8,11,12,13],J' [(0,1),(1,1),(2,6),(3,6)] [1,5,11,12,13],J' [(1,1)] [1,5,11,12,13],J' [(0,1)] [4]],[(0,[1,5,11,12,13]),(2,[1,5,6,8,11,12,13,18,19,20])],[(0,[5]),(1,[1,5,11,12,13]),(2,[1,5,6,8,11,12,13]),(3,[1,5,6,8,11,12,13,18,19,20])],[4],[],[[false]]⟩
def g95T:FunT:=⟨95,[.a (.c (.imm (.sl false (.pr .bool (.sl false (.int .u32)))))),.a (.c (.imm (.pr .bool (.sl false (.int .u32)))))],.a (.c (.imm (.sl false (.pr .bool (.sl false (.int .u32)))))),[sD,sD],fun x=>g95 m x.1 x.2.1⟩
noncomputable def g95C:Code:=codeOf f95
noncomputable def g95B0:Code:=Q5 g95C 0 0
noncomputable def g95B2:Code:=Q5 g95B0 0 0
theorem g95K:FL [g99T m]:=AllF.mem ⟨g99ok m,trivial⟩
def g95L1X:LT:=⟨2,[(1,.a (.c (.imm (.pr .bool (.sl false (.int .u32)))))),(5,.a (.c (.dp 0 (.pr .bool (.sl false (.int .u32)))))),(6,sI),(8,.a (.c (.nm 1 (.pr .bool (.sl false (.int .u32)))))),(11,.a (.c (.imm (.sl false (.pr .bool (.sl false (.int .u32))))))),(12,sI),(13,sI),(18,.a (.c (.imm (.pr .bool (.sl false (.int .u32)))))),(19,sI),(20,sI)],[(.exit 2,[(1,.a (.c (.imm (.pr .bool (.sl false (.int .u32)))))),(5,.a (.c (.dp 0 (.pr .bool (.sl false (.int .u32)))))),(6,sI),(8,.a (.c (.nm 1 (.pr .bool (.sl false (.int .u32)))))),(11,.a (.c (.imm (.sl false (.pr .bool (.sl false (.int .u32))))))),(12,sI),(13,sI)])],fun n x=>g95L1 m n x.1 x.2.1 x.2.2.1 x.2.2.2.1 x.2.2.2.2.1 x.2.2.2.2.2.1 x.2.2.2.2.2.2.1 x.2.2.2.2.2.2.2.1 x.2.2.2.2.2.2.2.2.1 x.2.2.2.2.2.2.2.2.2.1⟩
theorem g95L1ok {E} (hE:EO E 48 g95H) (n):LO E g95B2 ((g95L1X m).at n):=lk hE (g95K m) (g95L1X m) n
def g95L0X:LT:=⟨0,[(1,.a (.c (.imm (.pr .bool (.sl false (.int .u32)))))),(5,.a (.c (.dp 0 (.pr .bool (.sl false (.int .u32)))))),(11,.a (.c (.imm (.sl false (.pr .bool (.sl false (.int .u32))))))),(12,sI),(13,sI)],[(.exit 0,[(5,.a (.c (.dp 0 (.pr .bool (.sl false (.int .u32))))))])],fun n x=>g95L0 m n x.1 x.2.1 x.2.2.1 x.2.2.2.1 x.2.2.2.2.1⟩
theorem g95L0ok {E} (hE:EO E 48 g95H) (n):LO E g95B0 ((g95L0X m).at n):=
 lok hmix htt hE (g95K m) (L:=[(g95L1X m).at m]) (g95L0X m) (l:=[(2,g95B2)]) kR (fun _ _=>⟨qm ⟨yb (g95L1ok m hE m),trivial⟩,trivial⟩) (fun n x=>kR) (fun _=>kR) n
theorem g95ok:FO (g95T m):=f1' g95H (g95T m) func95 (g95K m) fun _ h=>g95L0ok m h m
def g171H:Hints:=⟨[J [0,1],J' [(3,1)] [0,1,19],J [4],J [0,1,5],J' [(0,1)] [1,5,26,27,28],J [1,5,26,27,28,29],J [1,5,6,7,26,27,28],J [1,5,6,7,8,26,27,28],J [1,5,6,7,8,26,27,28,33,34,35],J [1,5,6,7,8,26,27,28,33,34,35,36],J [1,5,6,7,8,9,10,26,27,28,33,34,35],J' [(2,1),(13,1)] [1,5,6,7,9,11,26,27,28,33,34,35],J' [(2,1)] [1,5,6,7,11,26,27,28,33,34,35],J' [(0,1)] [1,5,6,7,8,26,27,28,33,34,35],J' [(1,1)] [1,5,6,7,8,26,27,28,33,34,35],J' [(1,1),(5,1)] [1,5,26,27,28],J' [(1,1)] [1,5,26,27,28],J' [(0,1)] [4]],[(0,[1,5,26,27,28]),(2,[1,5,6,7,8,26,27,28,33,34,35])],[(0,[5]),(1,[1,5,26,27,28]),(2,[1,5,6,8,26,27,28]),(3,[1,5,6,7,8,26,27,28,33,34,35])],[4],[],[[false]]⟩
def g171T:FunT:=⟨171,[.a (.c (.imm (.int .u32))),.a (.c (.imm (.int .u32)))],.a (.c (.imm (.int .u32))),[sD,sD],fun x=>g171 m x.1 x.2.1⟩
noncomputable def g171C:Code:=codeOf f171
noncomputable def g171B0:Code:=Q5 g171C 0 0
noncomputable def g171B2:Code:=Q5 g171B0 0 0
theorem g171K:FL [g114T m]:=AllF.mem ⟨g114ok m,trivial⟩
def g171L1X:LT:=⟨2,[(1,.a (.c (.imm (.int .u32)))),(5,.a (.c (.nm 0 (.int .u32)))),(6,sI),(7,.a (.c (.int .u32))),(8,sU),(26,.a (.c (.imm (.int .u32)))),(27,sI),(28,sI),(33,.a (.c (.imm (.int .u32)))),(34,sI),(35,sI)],[(.exit 2,[(1,.a (.c (.imm (.int .u32)))),(5,.a (.c (.nm 0 (.int .u32)))),(6,sI),(8,sU),(26,.a (.c (.imm (.int .u32)))),(27,sI),(28,sI)])],fun n x=>g171L1 m n x.1 x.2.1 x.2.2.1 x.2.2.2.1 x.2.2.2.2.1 x.2.2.2.2.2.1 x.2.2.2.2.2.2.1 x.2.2.2.2.2.2.2.1 x.2.2.2.2.2.2.2.2.1 x.2.2.2.2.2.2.2.2.2.1 x.2.2.2.2.2.2.2.2.2.2.1⟩
theorem g171L1ok {E} (hE:EO E 77 g171H) (n):LO E g171B2 ((g171L1X m).at n):=lk hE (g171K m) (g171L1X m) n
def g171L0X:LT:=⟨0,[(1,.a (.c (.imm (.int .u32)))),(5,.a (.c (.nm 0 (.int .u32)))),(26,.a (.c (.imm (.int .u32)))),(27,sI),(28,sI)],[(.exit 0,[(5,.a (.c (.nm 0 (.int .u32))))])],fun n x=>g171L0 m n x.1 x.2.1 x.2.2.1 x.2.2.2.1 x.2.2.2.2.1⟩
theorem g171L0ok {E} (hE:EO E 77 g171H) (n):LO E g171B0 ((g171L0X m).at n):=
 lok hmix htt hE (g171K m) (L:=[(g171L1X m).at m]) (g171L0X m) (l:=[(2,g171B2)]) kR (fun _ _=>⟨qm ⟨yb (g171L1ok m hE m),trivial⟩,trivial⟩) (fun n x=>kR) (fun _=>kR) n
theorem g171ok:FO (g171T m):=f1' g171H (g171T m) func171 (g171K m) fun _ h=>g171L0ok m h m
def g159H:Hints:=⟨[J [2,3,4],J [4]],[],[],[4],[],[[false,false]]⟩
def g159T:FunT:=⟨159,[.a (.agg [.bool,(.imm (.int .u32))]),.a (.agg [.bool,(.imm (.int .u32))])],.a (.agg [.bool,(.imm (.int .u32))]),[sD,sD],fun x=>g159 m x.1.1 x.1.2.1 x.2.1.1 x.2.1.2.1⟩
theorem g159ok:FO (g159T m):=fk g159H (g159T m) func159 (AllF.mem (l:=[g114T m,g171T m,g112T m]) ⟨g114ok m,g171ok m,g112ok m,trivial⟩)
def g137H:Hints:=⟨[J [0,1],J' [(0,6)] [0,1,5],J' [(0,1)] [1,5,13,14,15],J [1,5,13,14,15,16],J [1,5,7,13,14,15],J [1,5,7,8,13,14,15],J [1,5,7,8,13,14,15,20,21],J [1,5,7,8,13,14,15,20,21,22],J [1,5,7,8,9,13,14,15,20,21],J' [(0,2)] [1,5,7,8,9,10,13,14,15,20,21],J [1,5,7,8,9,10,13,14,15,20,21,24,25,26],J [1,5,7,8,9,10,13,14,15,20,21,24,25,26,27],J [1,5,7,8,9,10,11,12,13,14,15,20,21,24,25,26],J' [(0,2),(3,1)] [1,5,7,8,9,10,13,14,15,20,21,24,25,26],J' [(1,1)] [1,5,7,8,9,10,13,14,15,20,21,24,25,26],J' [(0,1)] [1,5,7,8,13,14,15,20,21],J' [(1,1)] [1,5,7,8,13,14,15,20,21],J' [(0,1),(1,1),(2,6),(3,6)] [1,5,13,14,15],J' [(1,1)] [1,5,13,14,15],J' [(0,1)] [4]],[(0,[1,5,13,14,15]),(2,[1,5,7,8,13,14,15,20,21]),(4,[1,5,7,8,9,10,13,14,15,20,21,24,25,26])],[(0,[5]),(1,[1,5,13,14,15]),(2,[1,5,8,13,14,15]),(3,[1,5,7,8,13,14,15,20,21]),(4,[1,5,7,8,10,13,14,15,20,21]),(5,[1,5,7,8,9,10,13,14,15,20,21,24,25,26])],[4],[],[[true]]⟩
def g137T:FunT:=⟨137,[.a (.c (.imm (.sl false (.pr .bool (.sl false (.int .u32)))))),.a (.c (.imm (.sl false (.pr .bool (.sl false (.int .u32))))))],.a (.c (.dp 0 (.pr .bool (.sl false (.int .u32))))),[sD,sD],fun x=>g137 m x.1 x.2.1⟩
noncomputable def g137C:Code:=codeOf f137
noncomputable def g137B0:Code:=Q5 g137C 0 0
noncomputable def g137B2:Code:=Q5 g137B0 0 0
noncomputable def g137B4:Code:=Q5 g137B2 2 0
theorem g137K:FL [g159T m,g73T m]:=AllF.mem ⟨g159ok m,g73ok m,trivial⟩
def g137L2X:LT:=⟨4,[(1,.a (.c (.imm (.sl false (.pr .bool (.sl false (.int .u32))))))),(5,.a (.c (.dp 0 (.pr .bool (.sl false (.int .u32)))))),(7,.a (.c (.imm (.pr .bool (.sl false (.int .u32)))))),(8,.a (.c (.nm 1 (.pr .bool (.sl false (.int .u32)))))),(9,sI),(10,sX 2 [.bool,.imm (.int .u32)]),(13,.a (.c (.imm (.sl false (.pr .bool (.sl false (.int .u32))))))),(14,sI),(15,sI),(20,sI),(21,sI),(24,.a (.c (.imm (.pr .bool (.sl false (.int .u32)))))),(25,sI),(26,sI)],[(.exit 4,[(1,.a (.c (.imm (.sl false (.pr .bool (.sl false (.int .u32))))))),(5,.a (.c (.dp 0 (.pr .bool (.sl false (.int .u32)))))),(7,.a (.c (.imm (.pr .bool (.sl false (.int .u32)))))),(8,.a (.c (.nm 1 (.pr .bool (.sl false (.int .u32)))))),(10,sX 2 [.bool,.imm (.int .u32)]),(13,.a (.c (.imm (.sl false (.pr .bool (.sl false (.int .u32))))))),(14,sI),(15,sI),(20,sI),(21,sI)])],fun n x=>g137L2 m n x.1 x.2.1 x.2.2.1 x.2.2.2.1 x.2.2.2.2.1 x.2.2.2.2.2.1.1 x.2.2.2.2.2.1.2.1 x.2.2.2.2.2.2.1 x.2.2.2.2.2.2.2.1 x.2.2.2.2.2.2.2.2.1 x.2.2.2.2.2.2.2.2.2.1 x.2.2.2.2.2.2.2.2.2.2.1 x.2.2.2.2.2.2.2.2.2.2.2.1 x.2.2.2.2.2.2.2.2.2.2.2.2.1 x.2.2.2.2.2.2.2.2.2.2.2.2.2.1⟩
theorem g137L2ok {E} (hE:EO E 54 g137H) (n):LO E g137B4 ((g137L2X m).at n):=lk hE (g137K m) (g137L2X m) n
def g137L1X:LT:=⟨2,[(1,.a (.c (.imm (.sl false (.pr .bool (.sl false (.int .u32))))))),(5,.a (.c (.dp 0 (.pr .bool (.sl false (.int .u32)))))),(7,.a (.c (.imm (.pr .bool (.sl false (.int .u32)))))),(8,.a (.c (.nm 1 (.pr .bool (.sl false (.int .u32)))))),(13,.a (.c (.imm (.sl false (.pr .bool (.sl false (.int .u32))))))),(14,sI),(15,sI),(20,sI),(21,sI)],[(.exit 2,[(1,.a (.c (.imm (.sl false (.pr .bool (.sl false (.int .u32))))))),(5,.a (.c (.dp 0 (.pr .bool (.sl false (.int .u32)))))),(8,.a (.c (.nm 1 (.pr .bool (.sl false (.int .u32)))))),(13,.a (.c (.imm (.sl false (.pr .bool (.sl false (.int .u32))))))),(14,sI),(15,sI)])],fun n x=>g137L1 m n x.1 x.2.1 x.2.2.1 x.2.2.2.1 x.2.2.2.2.1 x.2.2.2.2.2.1 x.2.2.2.2.2.2.1 x.2.2.2.2.2.2.2.1 x.2.2.2.2.2.2.2.2.1⟩
theorem g137L1ok {E} (hE:EO E 54 g137H) (n):LO E g137B2 ((g137L1X m).at n):=
 lok hmix htt hE (g137K m) (L:=[(g137L2X m).at m]) (g137L1X m) (l:=[(4,g137B4)]) kR (fun _ _=>⟨qm ⟨yb (g137L2ok m hE m),trivial⟩,trivial⟩) (fun n x=>kR) (fun _=>kR) n
def g137L0X:LT:=⟨0,[(1,.a (.c (.imm (.sl false (.pr .bool (.sl false (.int .u32))))))),(5,.a (.c (.dp 0 (.pr .bool (.sl false (.int .u32)))))),(13,.a (.c (.imm (.sl false (.pr .bool (.sl false (.int .u32))))))),(14,sI),(15,sI)],[(.exit 0,[(5,.a (.c (.dp 0 (.pr .bool (.sl false (.int .u32))))))])],fun n x=>g137L0 m n x.1 x.2.1 x.2.2.1 x.2.2.2.1 x.2.2.2.2.1⟩
theorem g137L0ok {E} (hE:EO E 54 g137H) (n):LO E g137B0 ((g137L0X m).at n):=
 lok hmix htt hE (g137K m) (L:=[(g137L1X m).at m]) (g137L0X m) (l:=[(2,g137B2)]) kR (fun _ _=>⟨qm ⟨yb (g137L1ok m hE m),trivial⟩,trivial⟩) (fun n x=>kR) (fun _=>kR) n
theorem g137ok:FO (g137T m):=f1' g137H (g137T m) func137 (g137K m) fun _ h=>g137L0ok m h m
def g176H:Hints:=⟨[J [0,1],J [0,1,6],J [0,1,6,7],J [0,1,6,7,8],J [0,1,6,7,8,17],J' [(0,1)] [0,1,6,7,8],J' [(0,1)] [0,1,6,8,9],J [0,1,6,8,9],J' [(0,1)] [0,1,6,7,8],J' [(0,1),(2,1)] [4,5]],[(0,[0,1,6,7,8])],[(0,[6,7]),(1,[0,1,6,7,8])],[4,5],[],[[false],[false]]⟩
def g176T:FunT:=⟨176,[.a (.c (.imm (.int .u32))),.a (.c (.int .u32))],.tup [(.c (.imm (.int .u32))),(.c (.int .u32))],[sD,sD],fun x=>g176 m x.1 x.2.1⟩
noncomputable def g176C:Code:=codeOf f176
noncomputable def g176B0:Code:=Q5 g176C 0 0
theorem g176K:FL [g114T m]:=AllF.mem ⟨g114ok m,trivial⟩
def g176L0X:LT:=⟨0,[(0,.a (.c (.imm (.int .u32)))),(1,.a (.c (.int .u32))),(6,.a (.c (.nm 0 (.int .u32)))),(7,sU),(8,sI)],[(.exit 0,[(6,.a (.c (.nm 0 (.int .u32)))),(7,sU)])],fun n x=>g176L0 m n x.1 x.2.1 x.2.2.1 x.2.2.2.1 x.2.2.2.2.1⟩
theorem g176L0ok {E} (hE:EO E 44 g176H) (n):LO E g176B0 ((g176L0X m).at n):=lk hE (g176K m) (g176L0X m) n
theorem g176ok:FO (g176T m):=f1' g176H (g176T m) func176 (g176K m) fun _ h=>g176L0ok m h m
def g177H:Hints:=⟨[J [0],J' [(0,1)] [2]],[],[],[2],[],[[false]]⟩
def g177T:FunT:=⟨177,[.a (.c (.int .u32))],sI,[sD],fun x=>g177 m x.1⟩
theorem g177ok:FO (g177T m):=fk g177H (g177T m) func177 (AllF.mem (l:=[g141T m]) ⟨g141ok m,trivial⟩)
def g172H:Hints:=⟨[J [0,1],J [0,1,16],J' [(0,1)] [4,5],J [0,1,21],J' [(0,1),(1,1),(5,1)] [6,7],J' [(0,1),(1,1)] [4,5],J [0,1,8],J' [(0,1)] [0,8,9],J [0,8,9,10],J' [(1,1)] [8,9,10],J [8,9,10,11],J [4,8,9,10,11],J [4,8,9,10,11,12],J [4,8,9,10,11,12,64],J' [(0,1)] [4,8,9,10,11,12],J [4,8,9,10,11,12],J' [(0,1),(1,1),(4,1),(6,1)] [4,5],J' [(0,1),(2,1)] [4,5]],[(0,[4,8,9,10,11,12])],[(0,[4,8,10,11]),(1,[4,8,9,10,11,12])],[4,5],[],[[false],[false]]⟩
def g172T:FunT:=⟨172,[.a (.c (.imm (.int .u32))),.a (.c (.imm (.int .u32)))],.tup [(.c (.imm (.int .u32))),(.c (.imm (.int .u32)))],[sD,sD],fun x=>g172 m x.1 x.2.1⟩
noncomputable def g172C:Code:=codeOf f172
noncomputable def g172B0:Code:=Q5 g172C 0 0
theorem g172ok:FO (g172T m):=
 fok hmix htt (H:=g172H) (g172T m) func172 kR (AllF.mem (l:=[g116T m,g118T m,g176T m,g114T m,g177T m,g161T m]) ⟨g116ok m,g118ok m,g176ok m,g114ok m,g177ok m,g161ok m,trivial⟩) (L:=[]) (l:=[(0,g172B0)]) kR (fun _ hE _ _=>⟨qm trivial,trivial⟩) (fun x=>kR)
def g160H:Hints:=⟨[J [2,3,4,5],J [2,3,4,5,7],J [2,3,4,5,7,15],J [4,5,6],J' [(5,1)] [2,3,4,5,7,8,9],J' [(2,1)] [2,3,4,5,7,8,9,32],J' [(0,1),(3,1),(4,1)] [2,3,4,5,8,9],J' [(5,1),(7,1)] [4,5,6]],[],[],[4,5,6],[],[[false,false],[false,false],[false]]⟩
def g160T:FunT:=⟨160,[.a (.agg [.bool,(.imm (.int .u32))]),.a (.agg [.bool,(.imm (.int .u32))])],.tup [(.agg [.bool,(.imm (.int .u32))]),(.agg [.bool,(.imm (.int .u32))]),(.c (.int .i64))],[sD,sD],fun x=>g160 m x.1.1 x.1.2.1 x.2.1.1 x.2.1.2.1⟩
theorem g160ok:FO (g160T m):=fk g160H (g160T m) func160 (AllF.mem (l:=[g114T m,g172T m,g115T m,g117T m,g112T m]) ⟨g114ok m,g172ok m,g115ok m,g117ok m,g112ok m,trivial⟩)
def g138H:Hints:=⟨[J [2,3,4],J' [(3,1)] [4,6,7,8],J' [(2,1)] [4,6,8,23],J [4,5],J' [(1,1)] [4,5]],[],[],[4,5],[],[[false,false],[false]]⟩
def g138T:FunT:=⟨138,[.a (.agg [.bool,(.imm (.int .u32))]),.a (.agg [.bool,(.imm (.int .u32))])],.tup [(.agg [.bool,(.imm (.int .u32))]),(.c (.int .i64))],[sD,sD],fun x=>g138 m x.1.1 x.1.2.1 x.2.1.1 x.2.1.2.1⟩
theorem g138ok:FO (g138T m):=fk g138H (g138T m) func138 (AllF.mem (l:=[g160T m]) ⟨g160ok m,trivial⟩)
def g94H:Hints:=⟨[J [0],J [0,3],J [0,3,4],J [0,3,4],J' [(1,4)] [0,3,4,5],J [0,3,4,5,26,27],J [0,3,4,5,26,27,28],J [0,3,4,5,6,26,27],J' [(1,1),(5,4)] [0,3,4,5,26,27],J' [(1,1)] [0,3,4,5,26,27],J [0,3,4,5,7],J [0,3,4,5,7,38],J' [(0,1)] [0,3,4,5,7],J [0,3,4,5,7,42,43],J [0,3,4,5,7,42,43,44],J [0,3,4,5,7,8,42,43],J [0,3,4,5,7,42,43],J' [(1,1)] [0,3,4,5,7,42,43],J' [(1,1)] [0,3,4,7,9],J' [(0,2)] [0,3,4,7,9,10],J [0,3,4,7,9,10,72,73],J [0,3,4,7,9,10,72,73,74],J [0,3,4,7,9,10,11,72,73],J' [(0,2)] [0,3,4,7,9,10,72,73],J' [(1,1)] [0,3,4,7,9,10,72,73],J' [(4,1)] [0,3,4,7,9,12],J' [(6,1)] [0,3,4,5,7],J' [(0,1)] [2]],[(0,[0,3,4,5,26,27]),(2,[0,3,4,5,7]),(4,[0,3,4,5,7,42,43]),(6,[0,3,4,7,9,10,72,73])],[(0,[0,3,4,5]),(1,[0,3,4,5,26,27]),(2,[4]),(3,[0,3,4,5,7]),(4,[0,3,4,5,7]),(5,[0,3,4,5,7,42,43]),(6,[0,3,4,7,9,10]),(7,[0,3,4,7,9,10,72,73])],[2],[],[[true]]⟩
def g94T:FunT:=⟨94,[.a (.c (.imm (.sl false (.pr .bool (.sl false (.int .u32))))))],.a (.c (.nm 0 (.pr .bool (.sl false (.int .u32))))),[sD],fun x=>g94 m x.1⟩
noncomputable def g94C:Code:=codeOf f94
noncomputable def g94B0:Code:=Q5 g94C 0 0
noncomputable def g94B2:Code:=Q5 g94C 0 1
noncomputable def g94B4:Code:=Q5 g94B2 2 0
noncomputable def g94B6:Code:=Q5 g94B2 2 1
theorem g94K:FL [g69T m,g73T m,g137T m,g138T m,g75T m]:=AllF.mem ⟨g69ok m,g73ok m,g137ok m,g138ok m,g75ok m,trivial⟩
def g94L3X:LT:=⟨6,[(0,.a (.c (.imm (.sl false (.pr .bool (.sl false (.int .u32))))))),(3,sI),(4,.a (.c (.nm 0 (.pr .bool (.sl false (.int .u32)))))),(7,sI),(9,.a (.c (.dp 1 (.pr .bool (.sl false (.int .u32)))))),(10,sX 2 [.bool,.imm (.int .u32)]),(72,sI),(73,sI)],[(.exit 6,[(0,.a (.c (.imm (.sl false (.pr .bool (.sl false (.int .u32))))))),(3,sI),(4,.a (.c (.nm 0 (.pr .bool (.sl false (.int .u32)))))),(7,sI),(9,.a (.c (.dp 1 (.pr .bool (.sl false (.int .u32)))))),(10,sX 2 [.bool,.imm (.int .u32)])])],fun n x=>g94L3 m n x.1 x.2.1 x.2.2.1 x.2.2.2.1 x.2.2.2.2.1 x.2.2.2.2.2.1.1 x.2.2.2.2.2.1.2.1 x.2.2.2.2.2.2.1 x.2.2.2.2.2.2.2.1⟩
theorem g94L3ok {E} (hE:EO E 102 g94H) (n):LO E g94B6 ((g94L3X m).at n):=lk hE (g94K m) (g94L3X m) n
def g94L2X:LT:=⟨4,[(0,.a (.c (.imm (.sl false (.pr .bool (.sl false (.int .u32))))))),(3,sI),(4,.a (.c (.nm 0 (.pr .bool (.sl false (.int .u32)))))),(5,.a (.c (.dp 1 (.pr .bool (.sl false (.int .u32)))))),(7,sI),(42,sI),(43,sI)],[(.exit 4,[(0,.a (.c (.imm (.sl false (.pr .bool (.sl false (.int .u32))))))),(3,sI),(4,.a (.c (.nm 0 (.pr .bool (.sl false (.int .u32)))))),(5,.a (.c (.dp 1 (.pr .bool (.sl false (.int .u32)))))),(7,sI)])],fun n x=>g94L2 m n x.1 x.2.1 x.2.2.1 x.2.2.2.1 x.2.2.2.2.1 x.2.2.2.2.2.1 x.2.2.2.2.2.2.1⟩
theorem g94L2ok {E} (hE:EO E 102 g94H) (n):LO E g94B4 ((g94L2X m).at n):=lk hE (g94K m) (g94L2X m) n
def g94L1X:LT:=⟨2,[(0,.a (.c (.imm (.sl false (.pr .bool (.sl false (.int .u32))))))),(3,sI),(4,.a (.c (.nm 0 (.pr .bool (.sl false (.int .u32)))))),(5,.a (.c (.dp 1 (.pr .bool (.sl false (.int .u32)))))),(7,sI)],[(.exit 2,[(4,.a (.c (.nm 0 (.pr .bool (.sl false (.int .u32))))))])],fun n x=>g94L1 m n x.1 x.2.1 x.2.2.1 x.2.2.2.1 x.2.2.2.2.1⟩
theorem g94L1ok {E} (hE:EO E 102 g94H) (n):LO E g94B2 ((g94L1X m).at n):=
 lok hmix htt hE (g94K m) (L:=[(g94L2X m).at m,(g94L3X m).at m]) (g94L1X m) (l:=[(4,g94B4),(6,g94B6)]) kR (fun _ _=>⟨qm ⟨yb (g94L2ok m hE m),nb rfl,trivial⟩,qm ⟨nb rfl,yb (g94L3ok m hE m),trivial⟩,trivial⟩) (fun n x=>kR) (fun _=>kR) n
def g94L0X:LT:=⟨0,[(0,.a (.c (.imm (.sl false (.pr .bool (.sl false (.int .u32))))))),(3,sI),(4,.a (.c (.nm 0 (.pr .bool (.sl false (.int .u32)))))),(5,.a (.c (.dp 1 (.pr .bool (.sl false (.int .u32)))))),(26,sI),(27,sI)],[(.exit 0,[(0,.a (.c (.imm (.sl false (.pr .bool (.sl false (.int .u32))))))),(3,sI),(4,.a (.c (.nm 0 (.pr .bool (.sl false (.int .u32)))))),(5,.a (.c (.dp 1 (.pr .bool (.sl false (.int .u32))))))])],fun n x=>g94L0 m n x.1 x.2.1 x.2.2.1 x.2.2.2.1 x.2.2.2.2.1 x.2.2.2.2.2.1⟩
theorem g94L0ok {E} (hE:EO E 102 g94H) (n):LO E g94B0 ((g94L0X m).at n):=lk hE (g94K m) (g94L0X m) n
theorem g94ok:FO (g94T m):=
 fok hmix htt (H:=g94H) (g94T m) func94 kR (g94K m) (L:=[(g94L0X m).at m,(g94L1X m).at m]) (l:=[(0,g94B0),(2,g94B2)]) kR (fun _ hE _ _=>⟨qm ⟨yb (g94L0ok m hE m),nb rfl,trivial⟩,qm ⟨nb rfl,yb (g94L1ok m hE m),trivial⟩,trivial⟩) (fun x=>kR)
end
end Go.Vs.F
