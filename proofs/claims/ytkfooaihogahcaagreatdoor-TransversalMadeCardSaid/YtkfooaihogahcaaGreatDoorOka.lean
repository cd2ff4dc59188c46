/-The plain functions are what the code does (by program:gen.py). -/
import Derived.Test.YtkfooaihogahcaaGreatDoorFn
import Derived.Test.YtkfooaihogahcaaGreatDoorVc
import Derived.Test.YtkfooaihogahcaaGreatDoorProg
import Derived.KernelRfl
set_option linter.unusedVariables false
set_option maxRecDepth 100000
namespace Go.Vs.F
open Go.Proofs
open Tryz
section
theorem kR{p:Prop}(h:p:=by kernel_rfl):p:=h
abbrev sD:Sh:=.a (.c .dead)
abbrev sI:Sh:=.a (.c (.int .i64))
abbrev sL:Sh:=.a (.c (.imm (.int .i64)))
abbrev sB:Sh:=.a (.c .bool)
abbrev sU:Sh:=.a (.c (.int .u64))
abbrev EO(E:Entry)(N:Nat)(H:Hints):=EOf prog E N H.pins
abbrev LO:=ql prog
abbrev FO:=FunOK prog
abbrev FL(l:List FunT):=∀u∈l,FO u
abbrev sN(k:Nat):Sh:=.a (.c (.nm k (.int .i64)))
abbrev sX(k:Nat)(l:List ShC):Sh:=.a (.bx k l)
abbrev iI:ShC:=.int .i64
abbrev iU:ShC:=.int .u64
abbrev iL:ShC:=.imm (.int .i64)
abbrev iM(k:Nat):ShC:=.nm k (.int .i64)
def J(l:List Nat):Hint:=⟨[],l⟩
def J'(m:List (Nat×Nat))(l:List Nat):Hint:=⟨m,l⟩
def tt:TT:=[none,none,none,some ⟨(.int .i64),[.int .i64]⟩,some ⟨.bool,[.bool]⟩,some ⟨(.int .u8),[.int .u8]⟩,none,none,none,some ⟨.string,[.other]⟩,none,none,none,none,none,none,none,none,none,none,none,none,some ⟨(.slice 3 (.int .i64)),[.nil (.int .i64)]⟩,none,none,some ⟨(.slice 39 (.int .u64)),[.nil (.int .u64)]⟩,none,some ⟨(.struct [(0,1),(1,1),(2,1),(3,1),(4,1)]),[.int .i64,.int .i64,.nil (.int .i64),.nil (.int .i64),.nil (.int .u64)]⟩,none,none,none,none,none,none,some ⟨(.struct [(0,1),(1,1),(2,1)]),[.nil (.int .i64),.nil (.int .i64),.nil (.int .i64)]⟩,none,none,none,some ⟨(.int .u64),[.int .u64]⟩,some ⟨(.int .u64),[.int .u64]⟩,none,none,none,none,none,none,none,none,none,none,none,none,none,some ⟨(.int .u64),[.int .u64]⟩,some ⟨(.slice 57 (.pr (.int .i64) (.pr (.int .i64) (.int .u64)))),[.nil (.pr (.int .i64) (.pr (.int .i64) (.int .u64)))]⟩,none,none,some ⟨(.struct [(0,1),(1,1),(2,1)]),[.int .i64,.int .i64,.int .u64]⟩,none,none,none,none,none,none,some ⟨(.slice 141 (.int .u32)),[.nil (.int .u32)]⟩,none,some ⟨(.struct [(0,1),(1,1)]),[.bool,.nil (.int .u32)]⟩,none,some ⟨(.struct [(0,1),(1,2),(3,1)]),[.bool,.bool,.nil (.int .u32),.int .i64]⟩,none,none,none,none,none,some ⟨(.slice 112 (.sl false (.pr (.int .i64) (.int .i64)))),[.nil (.sl false (.pr (.int .i64) (.int .i64)))]⟩,none,none,none,none,some ⟨(.struct [(0,1),(1,1),(2,1),(3,1),(4,1)]),[.nil (.sl false (.pr (.int .i64) (.int .i64))),.nil (.int .i64),.nil (.int .i64),.nil (.int .i64),.nil (.int .i64)]⟩,none,none,none,none,none,none,none,none,none,none,none,none,none,none,none,none,none,none,none,none,none,none,none,none,none,none,none,none,none,none,none,none,some ⟨(.slice 114 (.pr (.int .i64) (.int .i64))),[.nil (.pr (.int .i64) (.int .i64))]⟩,none,some ⟨(.struct [(0,1),(1,1)]),[.int .i64,.int .i64]⟩,none,none,some ⟨(.slice 22 (.sl false (.int .i64))),[.nil (.sl false (.int .i64))]⟩,some ⟨(.slice 4 .bool),[.nil .bool]⟩,none,none,none,none,none,none,none,none,none,none,none,none,some ⟨(.struct [(0,1),(1,2),(3,1),(4,1)]),[.bool,.bool,.nil (.int .u32),.int .i64,.bool]⟩,none,none,none,none,none,none,none,none,none,some ⟨(.int .u32),[.int .u32]⟩,none,none,none,none,none,none,none,none,none,none,none,none,none,none,none,none,none,none,none,none,none,none,none,none,none,none,none,none,none,none,none,none,some ⟨(.tab 0 .u8 [0,1,28,2,29,14,24,3,30,22,20,15,25,17,4,8,31,27,13,23,21,19,16,7,26,12,18,6,11,5,10,9]),[.other,.other,.other,.other,.other,.other,.other,.other,.other,.other,.other,.other,.other,.other,.other,.other,.other,.other,.other,.other,.other,.other,.other,.other,.other,.other,.other,.other,.other,.other,.other,.other]⟩]
theorem htt:TTok prog tt:=qgj kR
theorem hmix:prog.follows .mixedOrders=true:=kR
theorem lk{N:Nat}{H:Hints}{E:Entry}(hE:EO E N H){D:List FunT}(hD:FL D){B:Code}(t:LT)(n:Nat)(hl:q19 B t.blk=[]:=by kernel_rfl)(hr:∀n x,qfn (mkC (outVal t.outs) D) (mkLp (outVal t.outs) []) tt N H B t.blk (t.ins.enc x) (Kl (t.run n))=t.run (n+1) x:=by intro n x;kernel_rfl)(h0:∀x,t.run 0 x=none:=by intro x;kernel_rfl):LO E B (t.at n):=lok hmix htt hE hD (L:=[]) t (l:=[]) hl (fun _ _=>trivial) hr h0 n
theorem fk(H:Hints)(t:FunT){fn:Func}(hf:prog.funcs[t.f]? =some fn){D:List FunT}(hD:FL D)(hb:okB fn=true:=by kernel_rfl)(hl:q19 (codeOf fn) 0=[]:=by kernel_rfl)(hr: ∀x,fnK (mkC (t.res.Val×Qp t.outs) D) (mkLp (t.res.Val×Qp t.outs) []) tt H fn (encS t.args x) (Kd t.res t.outs)=t.run x:=by intro x;kernel_rfl):FO t:=fok hmix htt (H:=H) t hf hb hD (L:=[]) (l:=[]) hl (fun _ hE _ _=>trivial) hr
theorem f1'(H:Hints)(t:FunT){fn:Func}(hf:prog.funcs[t.f]? =some fn){D:List FunT}(hD:FL D){X:LT}{m:Nat}{B:Code}(h:∀E:Entry,EO E fn.ntmps H->LO E B (X.at m))(hb:okB fn=true:=by kernel_rfl)(hl:q19 (codeOf fn) 0=[(X.blk,B)]:=by kernel_rfl)(hr: ∀x,fnK (mkC (t.res.Val×Qp t.outs) D) (mkLp (t.res.Val×Qp t.outs) [X.at m]) tt H fn (encS t.args x) (Kd t.res t.outs)=t.run x:=by intro x;kernel_rfl):FO t:=fok hmix htt (H:=H) t hf hb hD (L:=[X.at m]) (l:=[(X.blk,B)]) hl (fun E hE _ _=>⟨qg ⟨yb (h E hE),trivial⟩,trivial⟩) hr
variable (m:Nat)
def g68H:Hints:=⟨[J [0,1,2],J' [(1,1),(3,1),(5,1)] [6]],[],[],[6],[],[[false]]⟩
def g68T:FunT:=⟨68,[sI,sI,sI],sB,[sD,sD,sD],fun x=>g68 m x.1 x.2.1 x.2.2.1⟩
theorem g68ok:FO (g68T m):=fk g68H (g68T m) func68 noF
def g163H:Hints:=⟨[J [0],J [2]],[],[],[2],[],[[false]]⟩
def g163T:FunT:=⟨163,[sI],sB,[sD],fun x=>g163 m x.1⟩
theorem g163ok:FO (g163T m):=fk g163H (g163T m) func163 noF
def g150H:Hints:=⟨[J [0,1],J' [(2,1),(7,1)] [4]],[],[],[4],[],[[false]]⟩
def g150T:FunT:=⟨150,[sI,sI],sB,[sD,sD],fun x=>g150 m x.1 x.2.1⟩
theorem g150ok:FO (g150T m):=fk g150H (g150T m) func150 (AllF.mem (l:=[g163T m]) ⟨g163ok m,trivial⟩)
def g121H:Hints:=⟨[J [0],J [0,3],J [0,3,8],J' [(0,1)] [0,3],J [0,3,20],J [2],J [2]],[(0,[0,3])],[(0,[]),(1,[0,3])],[2],[],[[false]]⟩
def g121T:FunT:=⟨121,[sL],sB,[sD],fun x=>g121 m x.1⟩
noncomputable def g121C:Code:=codeOf f121
noncomputable def g121B0:Code:=qm g121C 0 0
theorem g121K:FL [g150T m]:=AllF.mem ⟨g150ok m,trivial⟩
def g121L0X:LT:=⟨0,[(0,sL),(3,sI)],[(.ret,[(2,sB)]),(.exit 0,[])],fun n x=>g121L0 m n x.1 x.2.1⟩
theorem g121L0ok {E} (hE:EO E 21 g121H) (n):LO E g121B0 ((g121L0X m).at n):=lk hE (g121K m) (g121L0X m) n
theorem g121ok:FO (g121T m):=f1' g121H (g121T m) func121 (g121K m) fun _ h=>g121L0ok m h m
def g73H:Hints:=⟨[J [1],J' [(7,1),(14,1),(20,1),(32,1)] [1,47],J [2],J [1,49,50],J [1,49,50,51],J [1,3,49,50],J [1,3,4,49,50],J [1,4,49,50,66,67,68],J [1,4,49,50,66,67,68,69],J [1,4,6,49,50,66,67,68],J' [(1,1),(3,1)] [1,6,49,50,66,67,68,80],J [2],J' [(0,1)] [1,4,49,50,66,67,68],J' [(1,1)] [1,4,49,50,66,67,68],J' [(1,1)] [1,49,50],J [2]],[(0,[1,49,50]),(2,[1,4,49,50,66,67,68])],[(0,[]),(1,[1,49,50]),(2,[1,49,50]),(3,[1,4,49,50,66,67,68])],[2],[],[[false]]⟩
def g73T:FunT:=⟨73,[.a (.agg [(.int .i64),(.int .i64),(.imm (.int .i64)),(.imm (.int .i64)),(.imm (.int .u64))])],sB,[sD],fun x=>g73 m x.1.1 x.1.2.1 x.1.2.2.1 x.1.2.2.2.1 x.1.2.2.2.2.1⟩
noncomputable def g73C:Code:=codeOf f73
noncomputable def g73B0:Code:=qm g73C 0 0
noncomputable def g73B2:Code:=qm g73B0 0 0
theorem g73K:FL [g121T m]:=AllF.mem ⟨g121ok m,trivial⟩
def g73L1X:LT:=⟨2,[(1,sX 0 [iI,iI,iL,iL,.imm (.int .u64)]),(4,sI),(49,sI),(50,sI),(66,sL),(67,sI),(68,sI)],[(.ret,[(2,sB)]),(.exit 2,[(1,sX 0 [iI,iI,iL,iL,.imm (.int .u64)]),(49,sI),(50,sI)])],fun n x=>g73L1 m n x.1.1 x.1.2.1 x.1.2.2.1 x.1.2.2.2.1 x.1.2.2.2.2.1 x.2.1 x.2.2.1 x.2.2.2.1 x.2.2.2.2.1 x.2.2.2.2.2.1 x.2.2.2.2.2.2.1⟩
theorem g73L1ok {E} (hE:EO E 84 g73H) (n):LO E g73B2 ((g73L1X m).at n):=lk hE (g73K m) (g73L1X m) n
def g73L0X:LT:=⟨0,[(1,sX 0 [iI,iI,iL,iL,.imm (.int .u64)]),(49,sI),(50,sI)],[(.ret,[(2,sB)]),(.exit 0,[])],fun n x=>g73L0 m n x.1.1 x.1.2.1 x.1.2.2.1 x.1.2.2.2.1 x.1.2.2.2.2.1 x.2.1 x.2.2.1⟩
theorem g73L0ok {E} (hE:EO E 84 g73H) (n):LO E g73B0 ((g73L0X m).at n):=
 lok hmix htt hE (g73K m) (L:=[(g73L1X m).at m]) (g73L0X m) (l:=[(2,g73B2)]) kR (fun _ _=>⟨qg ⟨yb (g73L1ok m hE m),trivial⟩,trivial⟩) (fun n x=>kR) (fun _=>kR) n
theorem g73ok:FO (g73T m):=f1' g73H (g73T m) func73 (g73K m) fun _ h=>g73L0ok m h m
def g77H:Hints:=⟨[J [0],J [2,3]],[],[],[2,3],[],[[false],[false]]⟩
def g77T:FunT:=⟨77,[sU],.tup [(.c (.int .i64)),(.c (.int .u64))],[sD],fun x=>g77 m x.1⟩
theorem g77ok:FO (g77T m):=fk g77H (g77T m) func77 noF
def g76H:Hints:=⟨[J [0],J' [(0,1),(2,1)] [3],J' [(0,1)] [2]],[],[],[2],[],[[false]]⟩
def g76T:FunT:=⟨76,[sU],sB,[sD],fun x=>g76 m x.1⟩
theorem g76ok:FO (g76T m):=fk g76H (g76T m) func76 (AllF.mem (l:=[g77T m]) ⟨g77ok m,trivial⟩)
def g75H:Hints:=⟨[J [0],J' [(0,1)] [2]],[],[],[2],[],[[false]]⟩
def g75T:FunT:=⟨75,[sU],sB,[sD],fun x=>g75 m x.1⟩
theorem g75ok:FO (g75T m):=fk g75H (g75T m) func75 (AllF.mem (l:=[g76T m]) ⟨g76ok m,trivial⟩)
def g122H:Hints:=⟨[J [0,1],J [0,1,7,8],J [0,1,7,8,9],J [0,1,5,7,8],J [0,1,5,7,8,16],J' [(0,1)] [4],J' [(1,1)] [0,1,7,8],J [4]],[(0,[0,1,7,8])],[(0,[]),(1,[0,1,7,8])],[4],[],[[false]]⟩
def g122T:FunT:=⟨122,[.a (.c (.imm (.int .u64))),.a (.c (.fn 75))],sI,[sD,sD],fun x=>g122 m x.1⟩
noncomputable def g122C:Code:=codeOf f122
noncomputable def g122B0:Code:=qm g122C 0 0
theorem g122K:FL [g75T m]:=AllF.mem ⟨g75ok m,trivial⟩
def g122L0X:LT:=⟨0,[(0,.a (.c (.imm (.int .u64)))),(1,.a (.c (.fn 75))),(7,sI),(8,sI)],[(.ret,[(4,sI)]),(.exit 0,[])],fun n x=>g122L0 m n x.1 x.2.2.1 x.2.2.2.1⟩
theorem g122L0ok {E} (hE:EO E 19 g122H) (n):LO E g122B0 ((g122L0X m).at n):=lk hE (g122K m) (g122L0X m) n
theorem g122ok:FO (g122T m):=f1' g122H (g122T m) func122 (g122K m) fun _ h=>g122L0ok m h m
def g74H:Hints:=⟨[J [0,1],J' [(0,1),(1,1)] [4]],[],[],[4],[],[[false]]⟩
def g74T:FunT:=⟨74,[.a (.c (.imm (.int .u64))),.a (.c (.fn 75))],sB,[sD,sD],fun x=>g74 m x.1⟩
theorem g74ok:FO (g74T m):=fk g74H (g74T m) func74 (AllF.mem (l:=[g122T m]) ⟨g122ok m,trivial⟩)
def g29H:Hints:=⟨[J [1],J' [(4,1),(10,1)] [1,3],J [2],J [1,20],J [2],J [24],J [2],J [2]],[],[(0,[])],[2],[],[[false]]⟩
def g29T:FunT:=⟨29,[.a (.agg [(.int .i64),(.int .i64),(.imm (.int .i64)),(.imm (.int .i64)),(.imm (.int .u64))])],sI,[sD],fun x=>g29 m x.1.1 x.1.2.1 x.1.2.2.1 x.1.2.2.2.1 x.1.2.2.2.2.1⟩
theorem g29ok:FO (g29T m):=fk g29H (g29T m) func29 (AllF.mem (l:=[g68T m,g73T m,g74T m]) ⟨g68ok m,g73ok m,g74ok m,trivial⟩)
def g37H:Hints:=⟨[J [1],J [1,3],J' [(2,1)] [3,14],J [2],J' [(0,1)] [2]],[],[],[2],[],[[false]]⟩
def g37T:FunT:=⟨37,[.a (.agg [(.int .i64),(.int .i64),(.imm (.int .i64)),(.imm (.int .i64)),(.imm (.int .u64))])],sI,[sD],fun x=>g37 m x.1.1 x.1.2.1 x.1.2.2.1 x.1.2.2.2.1 x.1.2.2.2.2.1⟩
theorem g37ok:FO (g37T m):=fk g37H (g37T m) func37 (AllF.mem (l:=[g29T m]) ⟨g29ok m,trivial⟩)
def g30H:Hints:=⟨[J [1],J [1,3],J [1,3,7,8],J [1,3,7,8,9],J [1,3,4,7,8],J [1,3,4,5,7,8],J [1,3,4,5,7,8,23],J' [(0,1)] [1,3,4,5,7,8],J' [(0,1)] [1,3,4,5,7,8],J' [(1,1)] [1,3,7,8],J' [(0,1)] [2]],[(0,[1,3,7,8]),(2,[1,3,4,5,7,8])],[(0,[3]),(1,[1,3,7,8]),(2,[1,3,7,8]),(3,[1,3,4,5,7,8])],[2],[],[[true]]⟩
def g30T:FunT:=⟨30,[.a (.agg [(.int .i64),(.int .i64),(.imm (.int .i64)),(.imm (.int .i64)),(.imm (.int .u64))])],.a (.c (.nm 0 (.pr (.int .i64) (.pr (.int .i64) (.int .u64))))),[sD],fun x=>g30 m x.1.1 x.1.2.1 x.1.2.2.1 x.1.2.2.2.1 x.1.2.2.2.2.1⟩
noncomputable def g30C:Code:=codeOf f30
noncomputable def g30B0:Code:=qm g30C 0 0
noncomputable def g30B2:Code:=qm g30B0 0 0
def g30L1X:LT:=⟨2,[(1,sX 0 [iI,iI,iL,iL,.imm (.int .u64)]),(3,.a (.c (.nm 1 (.pr (.int .i64) (.pr (.int .i64) (.int .u64)))))),(4,sI),(5,sI),(7,sI),(8,sI)],[(.exit 2,[(1,sX 0 [iI,iI,iL,iL,.imm (.int .u64)]),(3,.a (.c (.nm 1 (.pr (.int .i64) (.pr (.int .i64) (.int .u64)))))),(7,sI),(8,sI)])],fun n x=>g30L1 m n x.1.1 x.1.2.1 x.1.2.2.1 x.1.2.2.2.1 x.1.2.2.2.2.1 x.2.1 x.2.2.1 x.2.2.2.1 x.2.2.2.2.1 x.2.2.2.2.2.1⟩
theorem g30L1ok {E} (hE:EO E 43 g30H) (n):LO E g30B2 ((g30L1X m).at n):=lk hE noF (g30L1X m) n
def g30L0X:LT:=⟨0,[(1,sX 0 [iI,iI,iL,iL,.imm (.int .u64)]),(3,.a (.c (.nm 1 (.pr (.int .i64) (.pr (.int .i64) (.int .u64)))))),(7,sI),(8,sI)],[(.exit 0,[(3,.a (.c (.nm 0 (.pr (.int .i64) (.pr (.int .i64) (.int .u64))))))])],fun n x=>g30L0 m n x.1.1 x.1.2.1 x.1.2.2.1 x.1.2.2.2.1 x.1.2.2.2.2.1 x.2.1 x.2.2.1 x.2.2.2.1⟩
theorem g30L0ok {E} (hE:EO E 43 g30H) (n):LO E g30B0 ((g30L0X m).at n):=
 lok hmix htt hE noF (L:=[(g30L1X m).at m]) (g30L0X m) (l:=[(2,g30B2)]) kR (fun _ _=>⟨qg ⟨yb (g30L1ok m hE m),trivial⟩,trivial⟩) (fun n x=>kR) (fun _=>kR) n
theorem g30ok:FO (g30T m):=f1' g30H (g30T m) func30 noF fun _ h=>g30L0ok m h m
def g87H:Hints:=⟨[J [1],J [1,5],J [2],J [2]],[],[],[2],[],[[true]]⟩
def g87T:FunT:=⟨87,[.a (.agg [(.int .i64),(.int .i64),(.imm (.int .i64)),(.imm (.int .i64)),(.imm (.int .u64))])],.a (.c (.nm 0 (.pr (.int .i64) (.pr (.int .i64) (.int .u64))))),[sD],fun x=>g87 m x.1.1 x.1.2.1 x.1.2.2.1 x.1.2.2.2.1 x.1.2.2.2.2.1⟩
theorem g87ok:FO (g87T m):=fk g87H (g87T m) func87 (AllF.mem (l:=[g29T m,g30T m]) ⟨g29ok m,g30ok m,trivial⟩)
def g139H:Hints:=⟨[J [0],J [0,3],J' [(2,1)] [0,3,15],J' [(0,1)] [0,3],J' [(0,1),(1,1)] [2]],[(0,[0,3])],[(0,[0,3]),(1,[0,3])],[2],[],[[false]]⟩
def g139T:FunT:=⟨139,[.a (.c (.imm (.int .u32)))],.a (.c (.imm (.int .u32))),[sD],fun x=>g139 m x.1⟩
noncomputable def g139C:Code:=codeOf f139
noncomputable def g139B0:Code:=qm g139C 0 0
def g139L0X:LT:=⟨0,[(0,.a (.c (.imm (.int .u32)))),(3,sI)],[(.exit 0,[(0,.a (.c (.imm (.int .u32)))),(3,sI)])],fun n x=>g139L0 m n x.1 x.2.1⟩
theorem g139L0ok {E} (hE:EO E 21 g139H) (n):LO E g139B0 ((g139L0X m).at n):=lk hE noF (g139L0X m) n
theorem g139ok:FO (g139T m):=f1' g139H (g139T m) func139 noF fun _ h=>g139L0ok m h m
def g127H:Hints:=⟨[J [0,1,4],J' [(0,1)] [0,1,4],J [0,1,4,9],J [4],J' [(0,1),(1,1)] [4]],[],[],[4],[],[[false,false]]⟩
def g127T:FunT:=⟨127,[sB,.a (.c (.imm (.int .u32)))],.a (.agg [.bool,(.imm (.int .u32))]),[sD,sD],fun x=>g127 m x.1 x.2.1⟩
theorem g127ok:FO (g127T m):=fk g127H (g127T m) func127 (AllF.mem (l:=[g139T m]) ⟨g139ok m,trivial⟩)
def g81H:Hints:=⟨[J [0,2],J [0,2,3],J [0,2,3,7],J' [(0,1)] [0,2,3],J' [(0,1)] [2]],[],[],[2],[],[[false,false]]⟩
def g81T:FunT:=⟨81,[sI],.a (.agg [.bool,(.imm (.int .u32))]),[sD],fun x=>g81 m x.1⟩
theorem g81ok:FO (g81T m):=fk g81H (g81T m) func81 (AllF.mem (l:=[g127T m]) ⟨g127ok m,trivial⟩)
def g82H:Hints:=⟨[J [0],J' [(0,1)] [2]],[],[],[2],[],[[false]]⟩
def g82T:FunT:=⟨82,[sU],sB,[sD],fun x=>g82 m x.1⟩
theorem g82ok:FO (g82T m):=fk g82H (g82T m) func82 noF
def g128H:Hints:={regs:=[J [0],J [0],J [2],J [2]],heads:=[],exits:=[],rets:=[2],pins:=[],spec:=[[true]]}
abbrev g128A:List Sh:=[.a (.c (.imm (.int .u32)))]
abbrev g128S:Sh:= .a (.c (.nm 0 (.int .u32)))
abbrev g128U:List Sh:=[sD]
def g128R:Qp g128A->Option (g128S.Val×Qp g128U):=fun x=>g128 m x.1
def g128T:FunT:=⟨128,g128A,g128S,g128U,g128R m⟩
noncomputable def g128C:Code:=codeOf f128
theorem g128ok:FO (g128T m):=
 qg4 hmix htt (H:=g128H) (fn:=f128) (f:=128) (t:=(.int .u32)) (ty:=64) (e:=141) (ty2:=64) (k:=1) (cells:=[.nil (.int .u32)]) (A:=pA g128C) (X:=pX (pB (pA (pB g128C)))) (Y:=pB (pB g128C)) (o0:=pO 0 (pA (pA (pB g128C)))) (o1:=pO 1 (pA (pA (pB g128C)))) func128 kR kR kR kR kR kR kR kR kR (of_decide_eq_true kR) rfl kR kR kR (fun xs=>[(0,.sl .imm (.int .u32) xs)]) (fun xs=>[(2,.sl (.nm 0) (.int .u32) xs)]) (fun xs=>kR) (fun _=>rfl) (fun _=>rfl) (fun _=>rfl) kR (fun xs=>kR) (fun xs=>kR)
def g83H:Hints:=⟨[J [1,2],J [2]],[],[],[2],[],[[false,false]]⟩
def g83T:FunT:=⟨83,[.a (.agg [.bool,(.imm (.int .u32))])],.a (.agg [.bool,(.imm (.int .u32))]),[sD],fun x=>g83 m x.1.1 x.1.2.1⟩
theorem g83ok:FO (g83T m):=fk g83H (g83T m) func83 (AllF.mem (l:=[g128T m,g127T m]) ⟨g128ok m,g127ok m,trivial⟩)
def g79H:Hints:=⟨[J [0],J [0]],[],[],[0],[],[[false,false,true,false]]⟩
def g79T:FunT:=⟨79,[],.a (.agg [.bool,.bool,(.nm 0 (.int .u32)),(.int .i64)]),[],fun x=>g79 m⟩
theorem g79ok:FO (g79T m):=fk g79H (g79T m) func79 noF
def g123H:Hints:=⟨[J [1,2],J [2]],[],[],[2],[],[[false,false]]⟩
def g123T:FunT:=⟨123,[.a (.agg [.bool,(.imm (.int .u32))])],.a (.agg [.bool,(.imm (.int .u32))]),[sD],fun x=>g123 m x.1.1 x.1.2.1⟩
theorem g123ok:FO (g123T m):=fk g123H (g123T m) func123 (AllF.mem (l:=[g128T m,g127T m]) ⟨g128ok m,g127ok m,trivial⟩)
def g97H:Hints:=⟨[J [1],J [1,3],J [2],J [9],J [2],J [2]],[],[(0,[])],[2],[],[[false]]⟩
def g97T:FunT:=⟨97,[.a (.agg [.bool,(.imm (.int .u32))])],sI,[sD],fun x=>g97 m x.1.1 x.1.2.1⟩
theorem g97ok:FO (g97T m):=fk g97H (g97T m) func97 (AllF.mem (l:=[g139T m]) ⟨g139ok m,trivial⟩)
def g159H:Hints:=⟨[J [0],J [0,4],J [2],J [2]],[],[],[2],[],[[false]]⟩
def g159T:FunT:=⟨159,[.a (.c (.int .u32))],sI,[sD],fun x=>g159 m x.1⟩
theorem g159ok:FO (g159T m):=fk g159H (g159T m) func159 noF
def g124H:Hints:=⟨[J [1],J [6,7,8],J [6,7,8,9],J [3,4,6,7,8],J [3,4,6,7,8,14],J' [(0,1),(2,1)] [2],J' [(1,1)] [6,7,8],J [2]],[(0,[6,7,8])],[(0,[]),(1,[6,7,8])],[2],[],[[false]]⟩
def g124T:FunT:=⟨124,[.a (.agg [.bool,(.imm (.int .u32))])],sI,[sD],fun x=>g124 m x.1.1 x.1.2.1⟩
noncomputable def g124C:Code:=codeOf f124
noncomputable def g124B0:Code:=qm g124C 0 0
theorem g124K:FL [g159T m]:=AllF.mem ⟨g159ok m,trivial⟩
def g124L0X:LT:=⟨0,[(6,.a (.c (.imm (.int .u32)))),(7,sI),(8,sI)],[(.ret,[(2,sI)]),(.exit 0,[])],fun n x=>g124L0 m n x.1 x.2.1 x.2.2.1⟩
theorem g124L0ok {E} (hE:EO E 21 g124H) (n):LO E g124B0 ((g124L0X m).at n):=lk hE (g124K m) (g124L0X m) n
theorem g124ok:FO (g124T m):=f1' g124H (g124T m) func124 (g124K m) fun _ h=>g124L0ok m h m
def g168H:Hints:=⟨[J [0,2],J [0,2,4],J' [(0,1)] [0],J [0,2],J [0,2,8],J' [(0,1)] [0,2],J' [(0,1)] [0,2],J' [(0,1),(1,1)] [2]],[],[],[2],[],[[false]]⟩
def g168T:FunT:=⟨168,[.a (.c (.int .u32))],sI,[sD],fun x=>g168 m x.1⟩
theorem g168ok:FO (g168T m):=fk g168H (g168T m) func168 noF
def g160H:Hints:=⟨[J [0],J [0,5],J [2],J [2]],[],[],[2],[],[[false]]⟩
def g160T:FunT:=⟨160,[.a (.c (.imm (.int .u32)))],sI,[sD],fun x=>g160 m x.1⟩
theorem g160ok:FO (g160T m):=fk g160H (g160T m) func160 (AllF.mem (l:=[g168T m]) ⟨g168ok m,trivial⟩)
def g125H:Hints:=⟨[J [1],J [2]],[],[],[2],[],[[false]]⟩
def g125T:FunT:=⟨125,[.a (.agg [.bool,(.imm (.int .u32))])],sI,[sD],fun x=>g125 m x.1.1 x.1.2.1⟩
theorem g125ok:FO (g125T m):=fk g125H (g125T m) func125 (AllF.mem (l:=[g139T m,g160T m]) ⟨g139ok m,g160ok m,trivial⟩)
def g173H:Hints:=⟨[J [0,1],J [0,1,13],J [4],J [0,5,6],J [0,5,6,7],J' [(0,1)] [5,6,7,25,26,27],J [5,6,7,25,26,27,28],J [5,6,7,8,9,25,26,27],J' [(0,1)] [5,6,7,8,10,25,26,27],J [5,6,7,8,10,25,26,27],J' [(2,1),(5,1)] [5,6,7,25,26,27],J' [(1,1)] [5,6,7,25,26,27],J' [(0,1)] [4]],[(0,[5,6,7,25,26,27])],[(0,[7]),(1,[5,6,7,25,26,27])],[4],[],[[false]]⟩
def g173T:FunT:=⟨173,[.a (.c (.imm (.int .u32))),sI],.a (.c (.imm (.int .u32))),[sD,sD],fun x=>g173 m x.1 x.2.1⟩
noncomputable def g173C:Code:=codeOf f173
noncomputable def g173B0:Code:=qm g173C 0 0
theorem g173K:FL [g139T m]:=AllF.mem ⟨g139ok m,trivial⟩
def g173L0X:LT:=⟨0,[(5,sI),(6,sU),(7,.a (.c (.nm 0 (.int .u32)))),(25,.a (.c (.imm (.int .u32)))),(26,sI),(27,sI)],[(.exit 0,[(7,.a (.c (.nm 0 (.int .u32))))])],fun n x=>g173L0 m n x.1 x.2.1 x.2.2.1 x.2.2.2.1 x.2.2.2.2.1 x.2.2.2.2.2.1⟩
theorem g173L0ok {E} (hE:EO E 59 g173H) (n):LO E g173B0 ((g173L0X m).at n):=lk hE (g173K m) (g173L0X m) n
theorem g173ok:FO (g173T m):=f1' g173H (g173T m) func173 (g173K m) fun _ h=>g173L0ok m h m
def g182H:Hints:=⟨[J [0],J' [(0,1)] [2]],[],[],[2],[],[[false]]⟩
def g182T:FunT:=⟨182,[.a (.c (.int .u32))],sB,[sD],fun x=>g182 m x.1⟩
theorem g182ok:FO (g182T m):=fk g182H (g182T m) func182 noF
def g184H:Hints:=⟨[J [0,1],J [0,1,7,8],J [0,1,7,8,9],J [0,1,5,7,8],J [0,1,5,7,8,16],J' [(0,1)] [4],J' [(1,1)] [0,1,7,8],J [4]],[(0,[0,1,7,8])],[(0,[]),(1,[0,1,7,8])],[4],[],[[false]]⟩
def g184T:FunT:=⟨184,[.a (.c (.imm (.int .u32))),.a (.c (.fn 182))],sI,[sD,sD],fun x=>g184 m x.1⟩
noncomputable def g184C:Code:=codeOf f184
noncomputable def g184B0:Code:=qm g184C 0 0
theorem g184K:FL [g182T m]:=AllF.mem ⟨g182ok m,trivial⟩
def g184L0X:LT:=⟨0,[(0,.a (.c (.imm (.int .u32)))),(1,.a (.c (.fn 182))),(7,sI),(8,sI)],[(.ret,[(4,sI)]),(.exit 0,[])],fun n x=>g184L0 m n x.1 x.2.2.1 x.2.2.2.1⟩
theorem g184L0ok {E} (hE:EO E 19 g184H) (n):LO E g184B0 ((g184L0X m).at n):=lk hE (g184K m) (g184L0X m) n
theorem g184ok:FO (g184T m):=f1' g184H (g184T m) func184 (g184K m) fun _ h=>g184L0ok m h m
def g181H:Hints:=⟨[J [0,1],J' [(0,1),(1,1)] [4]],[],[],[4],[],[[false]]⟩
def g181T:FunT:=⟨181,[.a (.c (.imm (.int .u32))),.a (.c (.fn 182))],sB,[sD,sD],fun x=>g181 m x.1⟩
theorem g181ok:FO (g181T m):=fk g181H (g181T m) func181 (AllF.mem (l:=[g184T m]) ⟨g184ok m,trivial⟩)
def g174H:Hints:=⟨[J [0,1],J [0,6,7],J [0,6,7,20],J' [(0,1)] [4,5],J' [(4,1)] [0,6,7,8],J [0,6,7,8,9],J [0,6,7,8,9,45,46],J [0,6,7,8,9,45,46,47],J [0,6,7,8,9,10,45,46],J [0,6,7,8,9,10,11,45,46],J [0,6,7,8,9,10,11,45,46,62],J' [(0,1)] [0,6,7,8,9,10,11,45,46],J' [(1,1),(2,1)] [0,6,7,8,9,45,46],J' [(1,1)] [0,6,7,8,9,45,46],J' [(0,1),(2,1)] [4,5]],[(0,[0,6,7,8,9,45,46])],[(0,[8,9]),(1,[0,6,7,8,9,45,46])],[4,5],[],[[false],[false]]⟩
def g174T:FunT:=⟨174,[.a (.c (.imm (.int .u32))),sI],.tup [(.c (.imm (.int .u32))),(.c .bool)],[sD,sD],fun x=>g174 m x.1 x.2.1⟩
noncomputable def g174C:Code:=codeOf f174
noncomputable def g174B0:Code:=qm g174C 0 0
theorem g174K:FL [g181T m,g139T m]:=AllF.mem ⟨g181ok m,g139ok m,trivial⟩
def g174L0X:LT:=⟨0,[(0,.a (.c (.imm (.int .u32)))),(6,sI),(7,sU),(8,sB),(9,.a (.c (.nm 0 (.int .u32)))),(45,sI),(46,sI)],[(.exit 0,[(8,sB),(9,.a (.c (.nm 0 (.int .u32))))])],fun n x=>g174L0 m n x.1 x.2.1 x.2.2.1 x.2.2.2.1 x.2.2.2.2.1 x.2.2.2.2.2.1 x.2.2.2.2.2.2.1⟩
theorem g174L0ok {E} (hE:EO E 86 g174H) (n):LO E g174B0 ((g174L0X m).at n):=lk hE (g174K m) (g174L0X m) n
theorem g174ok:FO (g174T m):=f1' g174H (g174T m) func174 (g174K m) fun _ h=>g174L0ok m h m
def g175H:Hints:=⟨[J [0,1],J [0,1,14],J' [(0,1),(1,1)] [0,1],J [0,1,5],J [0,1,5,6],J' [(0,1)] [1,5,6,21,22,23],J [1,5,6,21,22,23,24],J [1,5,6,7,8,21,22,23],J' [(0,1),(2,1)] [1,5,7,9,21,22,23],J [1,5,7,9,21,22,23,35],J' [(0,1),(2,1)] [1,5,9,21,22,23],J' [(0,1)] [1,5,9,21,22,23],J' [(0,1)] [1,5,6,21,22,23],J' [(1,1)] [1,5,6,21,22,23],J' [(0,1),(1,1)] [4]],[(0,[1,5,6,21,22,23])],[(0,[5,6]),(1,[1,5,6,21,22,23])],[4],[],[[false]]⟩
def g175T:FunT:=⟨175,[.a (.c (.imm (.int .u32))),.a (.c (.imm (.int .u32)))],.a (.c (.imm (.int .u32))),[sD,sD],fun x=>g175 m x.1 x.2.1⟩
noncomputable def g175C:Code:=codeOf f175
noncomputable def g175B0:Code:=qm g175C 0 0
theorem g175K:FL [g139T m]:=AllF.mem ⟨g139ok m,trivial⟩
def g175L0X:LT:=⟨0,[(1,.a (.c (.imm (.int .u32)))),(5,.a (.c (.nm 0 (.int .u32)))),(6,sU),(21,.a (.c (.imm (.int .u32)))),(22,sI),(23,sI)],[(.exit 0,[(5,.a (.c (.nm 0 (.int .u32)))),(6,sU)])],fun n x=>g175L0 m n x.1 x.2.1 x.2.2.1 x.2.2.2.1 x.2.2.2.2.1 x.2.2.2.2.2.1⟩
theorem g175L0ok {E} (hE:EO E 58 g175H) (n):LO E g175B0 ((g175L0X m).at n):=lk hE (g175K m) (g175L0X m) n
theorem g175ok:FO (g175T m):=f1' g175H (g175T m) func175 (g175K m) fun _ h=>g175L0ok m h m
def g161H:Hints:=⟨[J [1,2,4],J' [(2,1)] [1,2,4,14],J [4,5],J [1,2,4,6],J [1,2,4,6,20],J' [(2,1),(3,1)] [4,5],J' [(0,1),(1,1),(4,1)] [2,4,7,8],J' [(2,1),(3,1)] [2,4,7,38],J' [(0,1)] [2,4,7],J' [(2,1)] [4,5]],[],[],[4,5],[],[[false,false],[false]]⟩
def g161T:FunT:=⟨161,[.a (.agg [.bool,(.imm (.int .u32))]),sI],.tup [(.agg [.bool,(.imm (.int .u32))]),(.c (.int .i64))],[sD,sD],fun x=>g161 m x.1.1 x.1.2.1 x.2.1⟩
theorem g161ok:FO (g161T m):=fk g161H (g161T m) func161 (AllF.mem (l:=[g139T m,g173T m,g127T m,g174T m,g175T m]) ⟨g139ok m,g173ok m,g127ok m,g174ok m,g175ok m,trivial⟩)
def g126H:Hints:=⟨[J [1,2,4],J [1,2,4,6],J' [(2,1)] [1,2,4],J' [(0,1)] [1,2,4],J' [(1,1),(4,1)] [2,4],J [4]],[(0,[1,2,4])],[(0,[1,2,4]),(1,[1,2,4])],[4],[],[[false,false]]⟩
def g126T:FunT:=⟨126,[.a (.agg [.bool,(.imm (.int .u32))]),sI],.a (.agg [.bool,(.imm (.int .u32))]),[sD,sD],fun x=>g126 m x.1.1 x.1.2.1 x.2.1⟩
noncomputable def g126C:Code:=codeOf f126
noncomputable def g126B0:Code:=qm g126C 0 0
theorem g126K:FL [g161T m]:=AllF.mem ⟨g161ok m,trivial⟩
def g126L0X:LT:=⟨0,[(1,sI),(2,sX 0 [.bool,.imm (.int .u32)]),(4,sX 1 [.bool,.nm 2 (.int .u32)])],[(.exit 0,[(1,sI),(2,sX 0 [.bool,.imm (.int .u32)]),(4,sX 1 [.bool,.nm 2 (.int .u32)])])],fun n x=>g126L0 m n x.1 x.2.1.1 x.2.1.2.1 x.2.2.1.1 x.2.2.1.2.1⟩
theorem g126L0ok {E} (hE:EO E 22 g126H) (n):LO E g126B0 ((g126L0X m).at n):=lk hE (g126K m) (g126L0X m) n
theorem g126ok:FO (g126T m):=f1' g126H (g126T m) func126 (g126K m) fun _ h=>g126L0ok m h m
def g78H:Hints:=⟨[J [1,2],J [1,2,7],J [2,3],J [1,2,4],J [1,2,4,14],J [2,3],J [1,2,4,5],J' [(6,1)] [1,2,4,5,30],J [2,3],J [2,3]],[],[],[2,3],[],[[false,false,false,false],[false]]⟩
def g78T:FunT:=⟨78,[.a (.agg [.bool,.bool,(.imm (.int .u32)),(.int .i64)])],.tup [(.agg [.bool,.bool,(.imm (.int .u32)),(.int .i64)]),(.c .bool)],[sD],fun x=>g78 m x.1.1 x.1.2.1 x.1.2.2.1 x.1.2.2.2.1⟩
theorem g78ok:FO (g78T m):=fk g78H (g78T m) func78 (AllF.mem (l:=[g79T m,g123T m,g97T m,g124T m,g125T m,g126T m]) ⟨g79ok m,g123ok m,g97ok m,g124ok m,g125ok m,g126ok m,trivial⟩)
def g80H:Hints:=⟨[J [1,2,4],J' [(1,1),(4,1)] [4,5],J [4]],[],[],[4],[],[[false,false,false,false]]⟩
def g80T:FunT:=⟨80,[.a (.agg [.bool,(.imm (.int .u32))]),sI],.a (.agg [.bool,.bool,(.imm (.int .u32)),(.int .i64)]),[sD,sD],fun x=>g80 m x.1.1 x.1.2.1 x.2.1⟩
theorem g80ok:FO (g80T m):=fk g80H (g80T m) func80 (AllF.mem (l:=[g78T m]) ⟨g78ok m,trivial⟩)
def g34H:Hints:=⟨[J [0,2],J' [(2,1)] [0,2,3,4],J [0,2,3,4,11],J' [(0,1)] [0,2,3,4],J' [(0,1)] [0,2,3,4],J [0,2,3,4,11,16],J [2],J [0,2,3,4,19],J [0,2,3,4],J' [(0,1)] [0,2,3,5],J' [(0,1)] [2,3,5,25],J [2,3,5],J' [(1,1)] [2]],[],[(0,[0,2,3,4])],[2],[],[[false,false,false,false]]⟩
def g34T:FunT:=⟨34,[sU],.a (.agg [.bool,.bool,(.imm (.int .u32)),(.int .i64)]),[sD],fun x=>g34 m x.1⟩
theorem g34ok:FO (g34T m):=fk g34H (g34T m) func34 (AllF.mem (l:=[g77T m,g81T m,g82T m,g83T m,g80T m]) ⟨g77ok m,g81ok m,g82ok m,g83ok m,g80ok m,trivial⟩)
def g136H:Hints:=⟨[J [1],J' [(2,1)] [1,4],J' [(0,1),(2,1)] [1,17],J [2,3],J [2,3]],[],[],[2,3],[],[[false],[false]]⟩
def g136T:FunT:=⟨136,[.a (.agg [.bool,.bool,(.imm (.int .u32)),(.int .i64)])],.tup [(.c (.int .i64)),(.c .bool)],[sD],fun x=>g136 m x.1.1 x.1.2.1 x.1.2.2.1 x.1.2.2.2.1⟩
theorem g136ok:FO (g136T m):=fk g136H (g136T m) func136 (AllF.mem (l:=[g78T m,g97T m,g125T m]) ⟨g78ok m,g97ok m,g125ok m,trivial⟩)
def g88H:Hints:=⟨[J [0],J' [(0,1)] [2,3]],[],[],[2,3],[],[[false],[false]]⟩
def g88T:FunT:=⟨88,[sU],.tup [(.c (.int .i64)),(.c .bool)],[sD],fun x=>g88 m x.1⟩
theorem g88ok:FO (g88T m):=fk g88H (g88T m) func88 (AllF.mem (l:=[g34T m,g136T m]) ⟨g34ok m,g136ok m,trivial⟩)
def g39H:Hints:=⟨[J [1],J' [(2,4)] [1,3],J [3,12,13,14],J [3,12,13,14,15],J [3,5,12,13,14],J' [(3,1)] [3,5,6,7,12,13,14],J' [(0,1)] [3,5,6,12,13,14,24],J' [(7,4),(10,1),(15,4)] [3,12,13,14],J' [(1,1)] [3,12,13,14],J' [(0,1)] [2]],[(0,[3,12,13,14])],[(0,[3]),(1,[3,12,13,14])],[2],[],[[false]]⟩
def g39T:FunT:=⟨39,[.a (.agg [(.int .i64),(.int .i64),(.imm (.int .i64)),(.imm (.int .i64)),(.imm (.int .u64))])],.a (.c (.imm (.sl false (.pr (.int .i64) (.int .i64))))),[sD],fun x=>g39 m x.1.1 x.1.2.1 x.1.2.2.1 x.1.2.2.2.1 x.1.2.2.2.2.1⟩
noncomputable def g39C:Code:=codeOf f39
noncomputable def g39B0:Code:=qm g39C 0 0
theorem g39K:FL [g87T m,g88T m]:=AllF.mem ⟨g87ok m,g88ok m,trivial⟩
def g39L0X:LT:=⟨0,[(3,.a (.c (.dp 0 (.pr (.int .i64) (.int .i64))))),(12,.a (.c (.nm 1 (.pr (.int .i64) (.pr (.int .i64) (.int .u64)))))),(13,sI),(14,sI)],[(.exit 0,[(3,.a (.c (.dp 0 (.pr (.int .i64) (.int .i64)))))])],fun n x=>g39L0 m n x.1 x.2.1 x.2.2.1 x.2.2.2.1⟩
theorem g39L0ok {E} (hE:EO E 42 g39H) (n):LO E g39B0 ((g39L0X m).at n):=lk hE (g39K m) (g39L0X m) n
theorem g39ok:FO (g39T m):=f1' g39H (g39T m) func39 (g39K m) fun _ h=>g39L0ok m h m
def g85H:Hints:=⟨[J [0,1],J' [(0,1)] [1,5],J [1,5,10,11],J [1,5,10,11,12],J [1,5,6,10,11],J' [(1,1)] [1,5,10,11],J' [(1,1)] [1,5,10,11],J' [(0,1)] [4]],[(0,[1,5,10,11])],[(0,[5]),(1,[1,5,10,11])],[4],[],[[true]]⟩
def g85T:FunT:=⟨85,[sI,sI],sN 0,[sD,sD],fun x=>g85 m x.1 x.2.1⟩
noncomputable def g85C:Code:=codeOf f85
noncomputable def g85B0:Code:=qm g85C 0 0
def g85L0X:LT:=⟨0,[(1,sI),(5,sN 0),(10,sI),(11,sI)],[(.exit 0,[(5,sN 0)])],fun n x=>g85L0 m n x.1 x.2.1 x.2.2.1 x.2.2.2.1⟩
theorem g85L0ok {E} (hE:EO E 20 g85H) (n):LO E g85B0 ((g85L0X m).at n):=lk hE noF (g85L0X m) n
theorem g85ok:FO (g85T m):=f1' g85H (g85T m) func85 noF fun _ h=>g85L0ok m h m
def g134H:Hints:=⟨[J' [(4,1)] [0,2,3,4],J' [(0,1)] [0,2,4,23,24,25],J [0,2,4,23,24,25,26],J [0,2,4,10,11,23,24,25],J' [(0,1)] [0,2,4,10,23,24,25,30],J [0,2,4,10,23,24,25],J [0,2,4,10,12,23,24,25],J [0,2,4,10,12,23,24,25,54],J' [(4,1),(9,1)] [0,2,4,23,24,25],J' [(1,1)] [0,2,4,23,24,25]],[(0,[0,2,4,23,24,25])],[(0,[0]),(1,[0,2,4,23,24,25])],[0],[0],[]⟩
def g134T:FunT:=⟨134,[sX 0 [.imm (.sl false (.pr (.int .i64) (.int .i64))),iM 1,iM 2,iM 3,iM 4],sI,sL,.a (.c (.imm .bool)),sI],.tup [],[sX 0 [.imm (.sl false (.pr (.int .i64) (.int .i64))),iM 1,iM 2,iM 3,iM 4],sD,sD,sD,sD],fun x=>g134 m x.1.1 x.1.2.1 x.1.2.2.1 x.1.2.2.2.1 x.1.2.2.2.2.1 x.2.1 x.2.2.1 x.2.2.2.1 x.2.2.2.2.1⟩
noncomputable def g134C:Code:=codeOf f134
noncomputable def g134B0:Code:=qm g134C 0 0
def g134L0X:LT:=⟨0,[(0,sX 0 [.imm (.sl false (.pr (.int .i64) (.int .i64))),iM 1,iM 2,iM 3,iM 4]),(2,sL),(4,sI),(23,.a (.c (.imm .bool))),(24,sI),(25,sI)],[(.exit 0,[(0,sX 0 [.imm (.sl false (.pr (.int .i64) (.int .i64))),iM 1,iM 2,iM 3,iM 4])])],fun n x=>g134L0 m n x.1.1 x.1.2.1 x.1.2.2.1 x.1.2.2.2.1 x.1.2.2.2.2.1 x.2.1 x.2.2.1 x.2.2.2.1 x.2.2.2.2.1 x.2.2.2.2.2.1⟩
theorem g134L0ok {E} (hE:EO E 71 g134H) (n):LO E g134B0 ((g134L0X m).at n):=lk hE noF (g134L0X m) n
theorem g134ok:FO (g134T m):=f1' g134H (g134T m) func134 noF fun _ h=>g134L0ok m h m
def g135H:Hints:=⟨[J [0,1,2,3,8],J [0,1,2,3,8,9],J [0,1,3,8,9],J' [(0,1)] [0,1,3,9,37],J' [(0,1)] [0,1,2,3]],[(0,[0,1,2,3])],[(0,[0]),(1,[0,1,2,3])],[0],[0],[]⟩
def g135T:FunT:=⟨135,[sX 0 [.imm (.sl false (.pr (.int .i64) (.int .i64))),iM 1,iM 2,iM 3,iM 4],sI,sI,sL],.tup [],[sX 0 [.imm (.sl false (.pr (.int .i64) (.int .i64))),iM 1,iM 2,iM 3,iM 4],sD,sD,sD],fun x=>g135 m x.1.1 x.1.2.1 x.1.2.2.1 x.1.2.2.2.1 x.1.2.2.2.2.1 x.2.1 x.2.2.1 x.2.2.2.1⟩
noncomputable def g135C:Code:=codeOf f135
noncomputable def g135B0:Code:=qm g135C 0 0
def g135L0X:LT:=⟨0,[(0,sX 0 [.imm (.sl false (.pr (.int .i64) (.int .i64))),iM 1,iM 2,iM 3,iM 4]),(1,sI),(2,sI),(3,sL)],[(.ret,[(0,sX 0 [.imm (.sl false (.pr (.int .i64) (.int .i64))),iM 1,iM 2,iM 3,iM 4])])],fun n x=>g135L0 m n x.1.1 x.1.2.1 x.1.2.2.1 x.1.2.2.2.1 x.1.2.2.2.2.1 x.2.1 x.2.2.1 x.2.2.2.1⟩
theorem g135L0ok {E} (hE:EO E 39 g135H) (n):LO E g135B0 ((g135L0X m).at n):=lk hE noF (g135L0X m) n
theorem g135ok:FO (g135T m):=f1' g135H (g135T m) func135 noF fun _ h=>g135L0ok m h m
def g86H:Hints:=⟨[J [0,1],J [0,1,5],J [0,1,5,6,7],J [0,1,5,6,7,8],J [0,1,5,6,7,8,9,10],J [0,1,5,6,7,8,9,10,34,35,36],J [0,1,5,6,7,8,9,10,34,35,36,37],J [0,1,5,6,7,8,9,10,12,34,35,36],J [0,1,5,6,7,8,9,10,12,13,34,35,36],J' [(6,1)] [0,1,5,6,7,8,9,10,12,13,34,35,36,75],J' [(6,1)] [0,1,5,6,7,8,9,10,34,35,36],J' [(1,1)] [0,1,5,6,7,8,9,10,34,35,36],J [0,1,5,6,7,8,14],J [0,1,5,6,7,8,14,87,88],J [0,1,5,6,7,8,14,87,88,89],J [0,1,5,6,7,8,14,15,87,88],J' [(5,1),(12,1),(15,1)] [0,1,5,6,7,8,14,15,87,88,117],J' [(0,1)] [0,1,5,6,7,8,14,87,88],J' [(1,1)] [0,1,5,6,7,8,14,87,88],J [0,1,5,6,7,8,14,121],J [0,4],J [0,1,5,6,7,8,10,14],J [0,1,5,6,7,8,10,14,136],J' [(2,1),(3,1),(4,1)] [0,1,7,14],J' [(1,1),(2,1),(3,1)] [0],J [0,4],J' [(4,1)] [0,1,5,6,7,8,9,10]],[(0,[0,1,5,6,7,8,9,10]),(2,[0,1,5,6,7,8,9,10,34,35,36]),(4,[0,1,5,6,7,8,14,87,88])],[(0,[0,4]),(1,[0,1,5,6,7,8,9,10]),(2,[0,1,5,6,7,8]),(3,[0,1,5,6,7,8,9,10,34,35,36]),(4,[0,1,5,6,7,8,14]),(5,[0,1,5,6,7,8,14,87,88])],[0,4],[0],[[false]]⟩
def g86T:FunT:=⟨86,[sX 0 [.imm (.sl false (.pr (.int .i64) (.int .i64))),iM 1,iM 2,iM 3,iM 4],sI],sB,[sX 0 [.imm (.sl false (.pr (.int .i64) (.int .i64))),iM 1,iM 2,iM 3,iM 4],sD],fun x=>g86 m x.1.1 x.1.2.1 x.1.2.2.1 x.1.2.2.2.1 x.1.2.2.2.2.1 x.2.1⟩
noncomputable def g86C:Code:=codeOf f86
noncomputable def g86B0:Code:=qm g86C 0 0
noncomputable def g86B2:Code:=qm g86B0 0 0
noncomputable def g86B4:Code:=qm g86B0 0 1
theorem g86K:FL [g85T m,g134T m,g135T m]:=AllF.mem ⟨g85ok m,g134ok m,g135ok m,trivial⟩
def g86L2X:LT:=⟨4,[(0,sX 0 [.imm (.sl false (.pr (.int .i64) (.int .i64))),iM 1,iM 2,iM 3,iM 4]),(1,sI),(5,sI),(6,sN 5),(7,sN 6),(8,.a (.c (.nm 7 .bool))),(14,sI),(87,sI),(88,sI)],[(.exit 4,[(0,sX 0 [.imm (.sl false (.pr (.int .i64) (.int .i64))),iM 1,iM 2,iM 3,iM 4]),(1,sI),(5,sI),(6,sN 5),(7,sN 6),(8,.a (.c (.nm 7 .bool))),(14,sI)])],fun n x=>g86L2 m n x.1.1 x.1.2.1 x.1.2.2.1 x.1.2.2.2.1 x.1.2.2.2.2.1 x.2.1 x.2.2.1 x.2.2.2.1 x.2.2.2.2.1 x.2.2.2.2.2.1 x.2.2.2.2.2.2.1 x.2.2.2.2.2.2.2.1 x.2.2.2.2.2.2.2.2.1⟩
theorem g86L2ok {E} (hE:EO E 155 g86H) (n):LO E g86B4 ((g86L2X m).at n):=lk hE (g86K m) (g86L2X m) n
def g86L1X:LT:=⟨2,[(0,sX 0 [.imm (.sl false (.pr (.int .i64) (.int .i64))),iM 1,iM 2,iM 3,iM 4]),(1,sI),(5,sI),(6,sN 5),(7,sN 6),(8,.a (.c (.nm 7 .bool))),(9,sI),(10,sI),(34,.a (.c (.imm (.pr (.int .i64) (.int .i64))))),(35,sI),(36,sI)],[(.exit 2,[(0,sX 0 [.imm (.sl false (.pr (.int .i64) (.int .i64))),iM 1,iM 2,iM 3,iM 4]),(1,sI),(5,sI),(6,sN 5),(7,sN 6),(8,.a (.c (.nm 7 .bool)))])],fun n x=>g86L1 m n x.1.1 x.1.2.1 x.1.2.2.1 x.1.2.2.2.1 x.1.2.2.2.2.1 x.2.1 x.2.2.1 x.2.2.2.1 x.2.2.2.2.1 x.2.2.2.2.2.1 x.2.2.2.2.2.2.1 x.2.2.2.2.2.2.2.1 x.2.2.2.2.2.2.2.2.1 x.2.2.2.2.2.2.2.2.2.1 x.2.2.2.2.2.2.2.2.2.2.1⟩
theorem g86L1ok {E} (hE:EO E 155 g86H) (n):LO E g86B2 ((g86L1X m).at n):=lk hE (g86K m) (g86L1X m) n
def g86L0X:LT:=⟨0,[(0,sX 0 [.imm (.sl false (.pr (.int .i64) (.int .i64))),iM 1,iM 2,iM 3,iM 4]),(1,sI),(5,sI),(6,sN 5),(7,sN 6),(8,.a (.c (.nm 7 .bool))),(9,sI),(10,sI)],[(.ret,[(0,sX 0 [.imm (.sl false (.pr (.int .i64) (.int .i64))),iM 1,iM 2,iM 3,iM 4]),(4,sB)])],fun n x=>g86L0 m n x.1.1 x.1.2.1 x.1.2.2.1 x.1.2.2.2.1 x.1.2.2.2.2.1 x.2.1 x.2.2.1 x.2.2.2.1 x.2.2.2.2.1 x.2.2.2.2.2.1 x.2.2.2.2.2.2.1 x.2.2.2.2.2.2.2.1⟩
theorem g86L0ok {E} (hE:EO E 155 g86H) (n):LO E g86B0 ((g86L0X m).at n):=
 lok hmix htt hE (g86K m) (L:=[(g86L1X m).at m,(g86L2X m).at m]) (g86L0X m) (l:=[(2,g86B2),(4,g86B4)]) kR (fun _ _=>⟨qg ⟨yb (g86L1ok m hE m),nb rfl,trivial⟩,qg ⟨nb rfl,yb (g86L2ok m hE m),trivial⟩,trivial⟩) (fun n x=>kR) (fun _=>kR) n
theorem g86ok:FO (g86T m):=f1' g86H (g86T m) func86 (g86K m) fun _ h=>g86L0ok m h m
def g38H:Hints:=⟨[J [0],J [0,4],J [0,4,5],J' [(0,1)] [4,5,24,25,26],J [4,5,24,25,26,27],J [4,5,6,7,24,25,26],J [4,5,6,7,24,25,26,33],J [2,3],J [4,5,6,7,24,25,26],J' [(0,1)] [4,5,6,24,25,26,44,45,46],J [4,5,6,24,25,26,44,45,46,47],J [4,5,6,9,24,25,26,44,45,46],J [4,5,6,24,25,26,44,45,46],J' [(1,1)] [4,5,6,24,25,26,44,45,46],J' [(1,1)] [4,5,24,25,26],J' [(0,1)] [5,68,69],J [5,68,69,70],J [5,10,68,69],J' [(1,1)] [5,68,69,75],J [2,3],J' [(1,1)] [5,68,69],J' [(0,1)] [2,3]],[(0,[4,5,24,25,26]),(2,[4,5,6,24,25,26,44,45,46]),(4,[5,68,69])],[(0,[4,5]),(1,[4,5,24,25,26]),(2,[4,5,24,25,26]),(3,[4,5,6,24,25,26,44,45,46]),(4,[5]),(5,[5,68,69])],[2,3],[],[[false,true,true,true,true],[false]]⟩
def g38T:FunT:=⟨38,[.a (.c (.imm (.sl false (.pr (.int .i64) (.int .i64)))))],.altT [(.c .nilp),(.c (.bconst false))] [(.bx 0 [(.imm (.sl false (.pr (.int .i64) (.int .i64)))),(.nm 1 (.int .i64)),(.nm 2 (.int .i64)),(.nm 3 (.int .i64)),(.nm 4 (.int .i64))]),(.c (.bconst true))],[sD],fun x=>g38 m x.1⟩
noncomputable def g38C:Code:=codeOf f38
noncomputable def g38B0:Code:=qm g38C 0 0
noncomputable def g38B2:Code:=qm g38B0 0 0
noncomputable def g38B4:Code:=qm g38C 0 1
theorem g38K:FL [g85T m,g86T m]:=AllF.mem ⟨g85ok m,g86ok m,trivial⟩
def g38L2X:LT:=⟨4,[(5,sX 0 [.imm (.sl false (.pr (.int .i64) (.int .i64))),iM 1,iM 2,iM 3,iM 4]),(68,sI),(69,sI)],[(.ret,[(2,.a (.c .nilp)),(3,.a (.c (.bconst false)))]),(.exit 4,[(5,sX 0 [.imm (.sl false (.pr (.int .i64) (.int .i64))),iM 1,iM 2,iM 3,iM 4])])],fun n x=>g38L2 m n x.1.1 x.1.2.1 x.1.2.2.1 x.1.2.2.2.1 x.1.2.2.2.2.1 x.2.1 x.2.2.1⟩
theorem g38L2ok {E} (hE:EO E 78 g38H) (n):LO E g38B4 ((g38L2X m).at n):=lk hE (g38K m) (g38L2X m) n
def g38L1X:LT:=⟨2,[(4,sI),(5,sX 0 [.imm (.sl false (.pr (.int .i64) (.int .i64))),iM 1,iM 2,iM 3,iM 4]),(6,sI),(24,.a (.c (.imm (.sl false (.pr (.int .i64) (.int .i64)))))),(25,sI),(26,sI),(44,.a (.c (.imm (.pr (.int .i64) (.int .i64))))),(45,sI),(46,sI)],[(.exit 2,[(4,sI),(5,sX 0 [.imm (.sl false (.pr (.int .i64) (.int .i64))),iM 1,iM 2,iM 3,iM 4]),(24,.a (.c (.imm (.sl false (.pr (.int .i64) (.int .i64)))))),(25,sI),(26,sI)])],fun n x=>g38L1 m n x.1 x.2.1.1 x.2.1.2.1 x.2.1.2.2.1 x.2.1.2.2.2.1 x.2.1.2.2.2.2.1 x.2.2.1 x.2.2.2.1 x.2.2.2.2.1 x.2.2.2.2.2.1 x.2.2.2.2.2.2.1 x.2.2.2.2.2.2.2.1 x.2.2.2.2.2.2.2.2.1⟩
theorem g38L1ok {E} (hE:EO E 78 g38H) (n):LO E g38B2 ((g38L1X m).at n):=lk hE (g38K m) (g38L1X m) n
def g38L0X:LT:=⟨0,[(4,sI),(5,sX 0 [.imm (.sl false (.pr (.int .i64) (.int .i64))),iM 1,iM 2,iM 3,iM 4]),(24,.a (.c (.imm (.sl false (.pr (.int .i64) (.int .i64)))))),(25,sI),(26,sI)],[(.ret,[(2,.a (.c .nilp)),(3,.a (.c (.bconst false)))]),(.exit 0,[(4,sI),(5,sX 0 [.imm (.sl false (.pr (.int .i64) (.int .i64))),iM 1,iM 2,iM 3,iM 4])])],fun n x=>g38L0 m n x.1 x.2.1.1 x.2.1.2.1 x.2.1.2.2.1 x.2.1.2.2.2.1 x.2.1.2.2.2.2.1 x.2.2.1 x.2.2.2.1 x.2.2.2.2.1⟩
theorem g38L0ok {E} (hE:EO E 78 g38H) (n):LO E g38B0 ((g38L0X m).at n):=
 lok hmix htt hE (g38K m) (L:=[(g38L1X m).at m]) (g38L0X m) (l:=[(2,g38B2)]) kR (fun _ _=>⟨qg ⟨yb (g38L1ok m hE m),trivial⟩,trivial⟩) (fun n x=>kR) (fun _=>kR) n
theorem g38ok:FO (g38T m):=
 fok hmix htt (H:=g38H) (g38T m) func38 kR (g38K m) (L:=[(g38L0X m).at m,(g38L2X m).at m]) (l:=[(0,g38B0),(4,g38B4)]) kR (fun _ hE _ _=>⟨qg ⟨yb (g38L0ok m hE m),nb rfl,trivial⟩,qg ⟨nb rfl,yb (g38L2ok m hE m),trivial⟩,trivial⟩) (fun x=>kR)
def g89H:Hints:=⟨[J [0,1,2,3,4,5],J [0,1,2,3,4,5,18,19,20],J [0,1,2,3,4,5,18,19,20,21],J [0,1,2,3,4,5,14,18,19,20],J [0,1,2,3,4,5,14,18,19,20,27],J' [(3,1)] [0,1,2,3,4,5,14,18,19,20,41],J [0,1,2,3,4,5,14,18,19,20],J' [(3,1),(16,16)] [0,1,2,3,4,5,14,18,19,20,62],J [0,5],J [0,5,12],J' [(1,1)] [0,1,2,3,4,5,18,19,20],J [0,5,12]],[(0,[0,1,2,3,4,5,18,19,20])],[(0,[0,5]),(1,[0,1,2,3,4,5,18,19,20])],[0,5,12],[0,5],[[false]]⟩
def g89T:FunT:=⟨89,[sX 0 [.imm (.sl false (.pr (.int .i64) (.int .i64))),iM 1,iM 2,iM 3,iM 4],.a (.c (.imm (.sl false (.int .i64)))),sI,sI,sI,.a (.c (.nm 5 .bool))],sB,[sX 0 [.imm (.sl false (.pr (.int .i64) (.int .i64))),iM 1,iM 2,iM 3,iM 4],sD,sD,sD,sD,.a (.c (.nm 5 .bool))],fun x=>g89 m x.1.1 x.1.2.1 x.1.2.2.1 x.1.2.2.2.1 x.1.2.2.2.2.1 x.2.1 x.2.2.1 x.2.2.2.1 x.2.2.2.2.1 x.2.2.2.2.2.1⟩
noncomputable def g89C:Code:=codeOf f89
noncomputable def g89B0:Code:=qm g89C 0 0
theorem g89K (m:Nat) (hself:FunOK prog (g89T m)): ∀u∈[g89T m],FunOK prog u:=AllF.mem ⟨hself,trivial⟩
def g89L0X:LT:=⟨0,[(0,sX 0 [.imm (.sl false (.pr (.int .i64) (.int .i64))),iM 1,iM 2,iM 3,iM 4]),(1,.a (.c (.imm (.sl false (.int .i64))))),(2,sI),(3,sI),(4,sI),(5,.a (.c (.nm 5 .bool))),(18,sL),(19,sI),(20,sI)],[(.ret,[(0,sX 0 [.imm (.sl false (.pr (.int .i64) (.int .i64))),iM 1,iM 2,iM 3,iM 4]),(5,.a (.c (.nm 5 .bool))),(12,sB)]),(.exit 0,[(0,sX 0 [.imm (.sl false (.pr (.int .i64) (.int .i64))),iM 1,iM 2,iM 3,iM 4]),(5,.a (.c (.nm 5 .bool)))])],fun n x=>g89L0 (fun a0 a1 a2 a3 a4 a5 a6 a7 a8 a9=>g89 m a0 a1 a2 a3 a4 a5 a6 a7 a8 a9) m n x.1.1 x.1.2.1 x.1.2.2.1 x.1.2.2.2.1 x.1.2.2.2.2.1 x.2.1 x.2.2.1 x.2.2.2.1 x.2.2.2.2.1 x.2.2.2.2.2.1 x.2.2.2.2.2.2.1 x.2.2.2.2.2.2.2.1 x.2.2.2.2.2.2.2.2.1⟩
theorem g89L0ok {E:Entry} (hE:EOf prog E 78 g89H.pins) (m:Nat) (hself:FunOK prog (g89T m)) (n:Nat):ql prog E g89B0 ((g89L0X m).at n):=
 lok hmix htt hE (g89K m hself) (L:=[]) (g89L0X m) (l:=[]) kR (fun _ _=>trivial) (fun n x=>kR) (fun _=>kR) n
theorem g89ok: ∀m:Nat,FunOK prog (g89T m)
 |0=>fun _ _ h=>by cases h
 |m+1=>by
  have hself:=g89ok m;exact fok hmix htt (H:=g89H) (g89T (m+1)) func89 kR (g89K m hself) (L:=[(g89L0X m).at m]) (l:=[(0,g89B0)]) kR (fun _ hE _ _=>⟨qg ⟨yb (g89L0ok hE m hself m),trivial⟩,trivial⟩) (fun x=>kR)
def g40H:Hints:=⟨[J' [(5,4)] [0,2],J [0,2,21,22,23],J [0,2,21,22,23,24],J [0,2,3,4,21,22,23],J' [(0,1)] [0,2,3,21,22,23,28,29,30],J [0,2,3,21,22,23,28,29,30,31],J [0,2,3,6,21,22,23,28,29,30],J [0,2,3,6,21,22,23,28,29,30,52],J' [(5,4),(11,4)] [0,2,3,21,22,23,28,29,30],J' [(1,1)] [0,2,3,21,22,23,28,29,30],J' [(1,1)] [0,2,21,22,23],J' [(0,2)] [0,2,67,68],J [0,2,67,68,69],J [0,2,7,67,68],J' [(0,2)] [0,2,7,67,68,74,75,76],J [0,2,7,67,68,74,75,76,77],J [0,2,7,9,67,68,74,75,76],J [0,2,7,9,67,68,74,75,76,88],J [0,2,7,9,10,67,68,74,75,76],J [0,2,7,9,10,67,68,74,75,76,98],J [0,2,7,9,10,11,67,68,74,75,76],J [0,2,7,9,10,11,67,68,74,75,76],J' [(1,2),(2,1),(11,1),(12,16)] [0,2,7,9,67,68,74,75,76,117],J [0,2,67,68],J' [(1,1)] [0,2,7,67,68,74,75,76],J' [(1,1)] [0,2,67,68]],[(0,[0,2,21,22,23]),(2,[0,2,3,21,22,23,28,29,30]),(4,[0,2,67,68]),(6,[0,2,7,67,68,74,75,76])],[(0,[0,2]),(1,[0,2,21,22,23]),(2,[0,2,21,22,23]),(3,[0,2,3,21,22,23,28,29,30]),(4,[0]),(5,[0,2,67,68]),(6,[0,2,67,68]),(7,[0,2,7,67,68,74,75,76])],[0],[0],[]⟩
def g40T:FunT:=⟨40,[sX 0 [.imm (.sl false (.pr (.int .i64) (.int .i64))),iM 1,iM 2,iM 3,iM 4]],.tup [],[sX 0 [.imm (.sl false (.pr (.int .i64) (.int .i64))),iM 1,iM 2,iM 3,iM 4]],fun x=>g40 m x.1.1 x.1.2.1 x.1.2.2.1 x.1.2.2.2.1 x.1.2.2.2.2.1⟩
noncomputable def g40C:Code:=codeOf f40
noncomputable def g40B0:Code:=qm g40C 0 0
noncomputable def g40B2:Code:=qm g40B0 0 0
noncomputable def g40B4:Code:=qm g40C 0 1
noncomputable def g40B6:Code:=qm g40B4 4 0
theorem g40K:FL [g89T m]:=AllF.mem ⟨g89ok m,trivial⟩
def g40L3X:LT:=⟨6,[(0,sX 0 [.imm (.sl false (.pr (.int .i64) (.int .i64))),iM 1,iM 2,iM 3,iM 4]),(2,.a (.c (.imm (.sl false (.int .i64))))),(7,sI),(67,sI),(68,sI),(74,sL),(75,sI),(76,sI)],[(.exit 6,[(0,sX 0 [.imm (.sl false (.pr (.int .i64) (.int .i64))),iM 1,iM 2,iM 3,iM 4]),(2,.a (.c (.imm (.sl false (.int .i64))))),(67,sI),(68,sI)])],fun n x=>g40L3 m n x.1.1 x.1.2.1 x.1.2.2.1 x.1.2.2.2.1 x.1.2.2.2.2.1 x.2.1 x.2.2.1 x.2.2.2.1 x.2.2.2.2.1 x.2.2.2.2.2.1 x.2.2.2.2.2.2.1 x.2.2.2.2.2.2.2.1⟩
theorem g40L3ok {E} (hE:EO E 134 g40H) (n):LO E g40B6 ((g40L3X m).at n):=lk hE (g40K m) (g40L3X m) n
def g40L2X:LT:=⟨4,[(0,sX 0 [.imm (.sl false (.pr (.int .i64) (.int .i64))),iM 1,iM 2,iM 3,iM 4]),(2,.a (.c (.imm (.sl false (.int .i64))))),(67,sI),(68,sI)],[(.exit 4,[(0,sX 0 [.imm (.sl false (.pr (.int .i64) (.int .i64))),iM 1,iM 2,iM 3,iM 4])])],fun n x=>g40L2 m n x.1.1 x.1.2.1 x.1.2.2.1 x.1.2.2.2.1 x.1.2.2.2.2.1 x.2.1 x.2.2.1 x.2.2.2.1⟩
theorem g40L2ok {E} (hE:EO E 134 g40H) (n):LO E g40B4 ((g40L2X m).at n):=
 lok hmix htt hE (g40K m) (L:=[(g40L3X m).at m]) (g40L2X m) (l:=[(6,g40B6)]) kR (fun _ _=>⟨qg ⟨yb (g40L3ok m hE m),trivial⟩,trivial⟩) (fun n x=>kR) (fun _=>kR) n
def g40L1X:LT:=⟨2,[(0,sX 0 [.imm (.sl false (.pr (.int .i64) (.int .i64))),iM 1,iM 2,iM 3,iM 4]),(2,.a (.c (.dp 5 (.int .i64)))),(3,sI),(21,.a (.c (.imm (.sl false (.pr (.int .i64) (.int .i64)))))),(22,sI),(23,sI),(28,.a (.c (.imm (.pr (.int .i64) (.int .i64))))),(29,sI),(30,sI)],[(.exit 2,[(0,sX 0 [.imm (.sl false (.pr (.int .i64) (.int .i64))),iM 1,iM 2,iM 3,iM 4]),(2,.a (.c (.dp 5 (.int .i64)))),(21,.a (.c (.imm (.sl false (.pr (.int .i64) (.int .i64)))))),(22,sI),(23,sI)])],fun n x=>g40L1 m n x.1.1 x.1.2.1 x.1.2.2.1 x.1.2.2.2.1 x.1.2.2.2.2.1 x.2.1 x.2.2.1 x.2.2.2.1 x.2.2.2.2.1 x.2.2.2.2.2.1 x.2.2.2.2.2.2.1 x.2.2.2.2.2.2.2.1 x.2.2.2.2.2.2.2.2.1⟩
theorem g40L1ok {E} (hE:EO E 134 g40H) (n):LO E g40B2 ((g40L1X m).at n):=lk hE (g40K m) (g40L1X m) n
def g40L0X:LT:=⟨0,[(0,sX 0 [.imm (.sl false (.pr (.int .i64) (.int .i64))),iM 1,iM 2,iM 3,iM 4]),(2,.a (.c (.dp 5 (.int .i64)))),(21,.a (.c (.imm (.sl false (.pr (.int .i64) (.int .i64)))))),(22,sI),(23,sI)],[(.exit 0,[(0,sX 0 [.imm (.sl false (.pr (.int .i64) (.int .i64))),iM 1,iM 2,iM 3,iM 4]),(2,.a (.c (.dp 5 (.int .i64))))])],fun n x=>g40L0 m n x.1.1 x.1.2.1 x.1.2.2.1 x.1.2.2.2.1 x.1.2.2.2.2.1 x.2.1 x.2.2.1 x.2.2.2.1 x.2.2.2.2.1⟩
theorem g40L0ok {E} (hE:EO E 134 g40H) (n):LO E g40B0 ((g40L0X m).at n):=
 lok hmix htt hE (g40K m) (L:=[(g40L1X m).at m]) (g40L0X m) (l:=[(2,g40B2)]) kR (fun _ _=>⟨qg ⟨yb (g40L1ok m hE m),trivial⟩,trivial⟩) (fun n x=>kR) (fun _=>kR) n
theorem g40ok:FO (g40T m):=
 fok hmix htt (H:=g40H) (g40T m) func40 kR (g40K m) (L:=[(g40L0X m).at m,(g40L2X m).at m]) (l:=[(0,g40B0),(4,g40B4)]) kR (fun _ hE _ _=>⟨qg ⟨yb (g40L0ok m hE m),nb rfl,trivial⟩,qg ⟨nb rfl,yb (g40L2ok m hE m),trivial⟩,trivial⟩) (fun x=>kR)
def g41H:Hints:=⟨[J [0],J [0,4],J [0,2,3,4],J' [(0,1)] [0,2,3,5],J [0,2,3,5,33,34,35],J [0,2,3,5,33,34,35,36],J [0,2,3,5,6,7,33,34,35],J' [(0,1)] [0,2,3,5,6,33,34,35,40,41,42],J [0,2,3,5,6,33,34,35,40,41,42,43],J [0,2,3,5,6,9,33,34,35,40,41,42],J [0,2,3,5,6,9,33,34,35,40,41,42,55],J [0,2,3,5,6,33,34,35,40,41,42],J' [(1,1)] [0,2,3,5,6,33,34,35,40,41,42],J' [(1,1)] [0,2,3,5,33,34,35],J [0,2,3,5,10],J' [(0,1)] [0,2,3,5,63],J [0,2,3,5,10],J [0,2,3,5,10,67,68,69],J [0,2,3,5,10,67,68,69,70],J [0,2,3,5,10,11,12,67,68,69],J' [(0,1)] [0,2,3,5,10,11,67,68,69,74,75,76],J [0,2,3,5,10,11,67,68,69,74,75,76,77],J [0,2,3,5,10,11,14,67,68,69,74,75,76],J [0,2,3,5,10,11,14,15,67,68,69,74,75,76],J [0,2,3,5,10,11,16,67,68,69,74,75,76],J [0,2,3,5,10,11,16,67,68,69,74,75,76,105],J' [(2,1)] [0,2,3,5,10,11,67,68,69,74,75,76],J' [(1,1)] [0,2,3,5,10,11,67,68,69,74,75,76],J' [(1,1)] [0,2,3,5,10,67,68,69],J [0,2,3,5,115,116,117],J [0,2,3,5,115,116,117,118],J [0,2,3,5,17,18,115,116,117],J' [(1,1)] [0,2,3,5,115,116,117],J' [(1,1)] [0,2,3,5,115,116,117],J' [(0,1),(1,1)] [0,2,3]],[(0,[0,2,3,5,33,34,35]),(2,[0,2,3,5,6,33,34,35,40,41,42]),(4,[0,2,3,5,10]),(6,[0,2,3,5,10,67,68,69]),(8,[0,2,3,5,10,11,67,68,69,74,75,76]),(10,[0,2,3,5,115,116,117])],[(0,[0,2,3,5]),(1,[0,2,3,5,33,34,35]),(2,[0,2,3,5,33,34,35]),(3,[0,2,3,5,6,33,34,35,40,41,42]),(4,[0,2,3,5]),(5,[0,2,3,5,10]),(6,[0,2,3,5,10]),(7,[0,2,3,5,10,67,68,69]),(8,[0,2,3,5,10,67,68,69]),(9,[0,2,3,5,10,11,67,68,69,74,75,76]),(10,[0,2,3]),(11,[0,2,3,5,115,116,117])],[0,2,3],[0],[[true],[true]]⟩
def g41T:FunT:=⟨41,[sX 0 [.imm (.sl false (.pr (.int .i64) (.int .i64))),iM 1,iM 2,iM 3,iM 4]],.tup [(.c (.nm 0 (.int .i64))),(.c (.nm 1 (.int .i64)))],[sX 2 [.imm (.sl false (.pr (.int .i64) (.int .i64))),iM 3,iM 4,iM 5,iM 6]],fun x=>g41 m x.1.1 x.1.2.1 x.1.2.2.1 x.1.2.2.2.1 x.1.2.2.2.2.1⟩
noncomputable def g41C:Code:=codeOf f41
noncomputable def g41B0:Code:=qm g41C 0 0
noncomputable def g41B2:Code:=qm g41B0 0 0
noncomputable def g41B4:Code:=qm g41C 0 1
noncomputable def g41B6:Code:=qm g41B4 4 0
noncomputable def g41B8:Code:=qm g41B6 6 0
noncomputable def g41B10:Code:=qm g41C 0 2
theorem g41K:FL [g85T m]:=AllF.mem ⟨g85ok m,trivial⟩
def g41L5X:LT:=⟨10,[(0,sX 0 [.imm (.sl false (.pr (.int .i64) (.int .i64))),iM 1,iM 2,iM 3,iM 4]),(2,sN 5),(3,sN 6),(5,sN 7),(115,.a (.c (.ref 0 3 1))),(116,sI),(117,sI)],[(.exit 10,[(0,sX 0 [.imm (.sl false (.pr (.int .i64) (.int .i64))),iM 1,iM 2,iM 3,iM 4]),(2,sN 5),(3,sN 6)])],fun n x=>g41L5 m n x.1.1 x.1.2.1 x.1.2.2.1 x.1.2.2.2.1 x.1.2.2.2.2.1 x.2.1 x.2.2.1 x.2.2.2.1 x.2.2.2.2.2.1 x.2.2.2.2.2.2.1⟩
theorem g41L5ok {E} (hE:EO E 137 g41H) (n):LO E g41B10 ((g41L5X m).at n):=lk hE (g41K m) (g41L5X m) n
def g41L4X:LT:=⟨8,[(0,sX 0 [.imm (.sl false (.pr (.int .i64) (.int .i64))),iM 1,iM 2,iM 3,iM 4]),(2,sN 5),(3,sN 6),(5,sN 7),(10,sB),(11,sI),(67,.a (.c (.imm (.sl false (.pr (.int .i64) (.int .i64)))))),(68,sI),(69,sI),(74,.a (.c (.imm (.pr (.int .i64) (.int .i64))))),(75,sI),(76,sI)],[(.exit 8,[(0,sX 0 [.imm (.sl false (.pr (.int .i64) (.int .i64))),iM 1,iM 2,iM 3,iM 4]),(2,sN 5),(3,sN 6),(5,sN 7),(10,sB),(67,.a (.c (.imm (.sl false (.pr (.int .i64) (.int .i64)))))),(68,sI),(69,sI)])],fun n x=>g41L4 m n x.1.1 x.1.2.1 x.1.2.2.1 x.1.2.2.2.1 x.1.2.2.2.2.1 x.2.1 x.2.2.1 x.2.2.2.1 x.2.2.2.2.1 x.2.2.2.2.2.1 x.2.2.2.2.2.2.1 x.2.2.2.2.2.2.2.1 x.2.2.2.2.2.2.2.2.1 x.2.2.2.2.2.2.2.2.2.1 x.2.2.2.2.2.2.2.2.2.2.1 x.2.2.2.2.2.2.2.2.2.2.2.1⟩
theorem g41L4ok {E} (hE:EO E 137 g41H) (n):LO E g41B8 ((g41L4X m).at n):=lk hE (g41K m) (g41L4X m) n
def g41L3X:LT:=⟨6,[(0,sX 0 [.imm (.sl false (.pr (.int .i64) (.int .i64))),iM 1,iM 2,iM 3,iM 4]),(2,sN 5),(3,sN 6),(5,sN 7),(10,sB),(67,.a (.c (.imm (.sl false (.pr (.int .i64) (.int .i64)))))),(68,sI),(69,sI)],[(.exit 6,[(0,sX 0 [.imm (.sl false (.pr (.int .i64) (.int .i64))),iM 1,iM 2,iM 3,iM 4]),(2,sN 5),(3,sN 6),(5,sN 7),(10,sB)])],fun n x=>g41L3 m n x.1.1 x.1.2.1 x.1.2.2.1 x.1.2.2.2.1 x.1.2.2.2.2.1 x.2.1 x.2.2.1 x.2.2.2.1 x.2.2.2.2.1 x.2.2.2.2.2.1 x.2.2.2.2.2.2.1 x.2.2.2.2.2.2.2.1⟩
theorem g41L3ok {E} (hE:EO E 137 g41H) (n):LO E g41B6 ((g41L3X m).at n):=
 lok hmix htt hE (g41K m) (L:=[(g41L4X m).at m]) (g41L3X m) (l:=[(8,g41B8)]) kR (fun _ _=>⟨qg ⟨yb (g41L4ok m hE m),trivial⟩,trivial⟩) (fun n x=>kR) (fun _=>kR) n
def g41L2X:LT:=⟨4,[(0,sX 0 [.imm (.sl false (.pr (.int .i64) (.int .i64))),iM 1,iM 2,iM 3,iM 4]),(2,sN 5),(3,sN 6),(5,sN 7),(10,sB)],[(.exit 4,[(0,sX 0 [.imm (.sl false (.pr (.int .i64) (.int .i64))),iM 1,iM 2,iM 3,iM 4]),(2,sN 5),(3,sN 6),(5,sN 7)])],fun n x=>g41L2 m n x.1.1 x.1.2.1 x.1.2.2.1 x.1.2.2.2.1 x.1.2.2.2.2.1 x.2.1 x.2.2.1 x.2.2.2.1 x.2.2.2.2.1⟩
theorem g41L2ok {E} (hE:EO E 137 g41H) (n):LO E g41B4 ((g41L2X m).at n):=
 lok hmix htt hE (g41K m) (L:=[(g41L3X m).at m]) (g41L2X m) (l:=[(6,g41B6)]) kR (fun _ _=>⟨qg ⟨yb (g41L3ok m hE m),trivial⟩,trivial⟩) (fun n x=>kR) (fun _=>kR) n
def g41L1X:LT:=⟨2,[(0,sX 0 [.imm (.sl false (.pr (.int .i64) (.int .i64))),iM 1,iM 2,iM 3,iM 4]),(2,sN 5),(3,sN 6),(5,sN 7),(6,sI),(33,.a (.c (.imm (.sl false (.pr (.int .i64) (.int .i64)))))),(34,sI),(35,sI),(40,.a (.c (.imm (.pr (.int .i64) (.int .i64))))),(41,sI),(42,sI)],[(.exit 2,[(0,sX 0 [.imm (.sl false (.pr (.int .i64) (.int .i64))),iM 1,iM 2,iM 3,iM 4]),(2,sN 5),(3,sN 6),(5,sN 7),(33,.a (.c (.imm (.sl false (.pr (.int .i64) (.int .i64)))))),(34,sI),(35,sI)])],fun n x=>g41L1 m n x.1.1 x.1.2.1 x.1.2.2.1 x.1.2.2.2.1 x.1.2.2.2.2.1 x.2.1 x.2.2.1 x.2.2.2.1 x.2.2.2.2.1 x.2.2.2.2.2.1 x.2.2.2.2.2.2.1 x.2.2.2.2.2.2.2.1 x.2.2.2.2.2.2.2.2.1 x.2.2.2.2.2.2.2.2.2.1 x.2.2.2.2.2.2.2.2.2.2.1⟩
theorem g41L1ok {E} (hE:EO E 137 g41H) (n):LO E g41B2 ((g41L1X m).at n):=lk hE (g41K m) (g41L1X m) n
def g41L0X:LT:=⟨0,[(0,sX 0 [.imm (.sl false (.pr (.int .i64) (.int .i64))),iM 1,iM 2,iM 3,iM 4]),(2,sN 5),(3,sN 6),(5,sN 7),(33,.a (.c (.imm (.sl false (.pr (.int .i64) (.int .i64)))))),(34,sI),(35,sI)],[(.exit 0,[(0,sX 0 [.imm (.sl false (.pr (.int .i64) (.int .i64))),iM 1,iM 2,iM 3,iM 4]),(2,sN 5),(3,sN 6),(5,sN 7)])],fun n x=>g41L0 m n x.1.1 x.1.2.1 x.1.2.2.1 x.1.2.2.2.1 x.1.2.2.2.2.1 x.2.1 x.2.2.1 x.2.2.2.1 x.2.2.2.2.1 x.2.2.2.2.2.1 x.2.2.2.2.2.2.1⟩
theorem g41L0ok {E} (hE:EO E 137 g41H) (n):LO E g41B0 ((g41L0X m).at n):=
 lok hmix htt hE (g41K m) (L:=[(g41L1X m).at m]) (g41L0X m) (l:=[(2,g41B2)]) kR (fun _ _=>⟨qg ⟨yb (g41L1ok m hE m),trivial⟩,trivial⟩) (fun n x=>kR) (fun _=>kR) n
theorem g41ok:FO (g41T m):=
 fok hmix htt (H:=g41H) (g41T m) func41 kR (g41K m) (L:=[(g41L0X m).at m,(g41L2X m).at m,(g41L5X m).at m]) (l:=[(0,g41B0),(4,g41B4),(10,g41B10)]) kR (fun _ hE _ _=>⟨qg ⟨yb (g41L0ok m hE m),nb rfl,nb rfl,trivial⟩,qg ⟨nb rfl,yb (g41L2ok m hE m),nb rfl,trivial⟩,qg ⟨nb rfl,nb rfl,yb (g41L5ok m hE m),trivial⟩,trivial⟩) (fun x=>kR)
def g12H:Hints:=⟨[J [1,2],J [1,2,4],J [1,2,4,12],J' [(1,1)] [2,3],J' [(3,1)] [2,5,6],J' [(0,1)] [2,5,22],J [2,3],J [2,5],J' [(2,1)] [2,5,7,8],J' [(0,1),(3,1),(4,1),(5,1)] [2,3]],[],[],[2,3],[],[[true,true,true],[false]]⟩
def g12T:FunT:=⟨12,[.a (.agg [(.int .i64),(.int .i64),(.imm (.int .i64)),(.imm (.int .i64)),(.imm (.int .u64))])],.tup [(.agg [(.nm 0 (.int .i64)),(.nm 1 (.int .i64)),(.nm 2 (.int .i64))]),(.c (.int .i64))],[sD],fun x=>g12 m x.1.1 x.1.2.1 x.1.2.2.1 x.1.2.2.2.1 x.1.2.2.2.2.1⟩
theorem g12ok:FO (g12T m):=fk g12H (g12T m) func12 (AllF.mem (l:=[g37T m,g39T m,g38T m,g40T m,g41T m]) ⟨g37ok m,g39ok m,g38ok m,g40ok m,g41ok m,trivial⟩)
def g15H:Hints:=⟨[J [0,1],J [0,1,10],J [4],J [0,1,5],J [0,1,5,14],J' [(0,1)] [0,1,5],J [0,1,5,25],J [4],J [4]],[(0,[0,1,5])],[(0,[]),(1,[0,1,5])],[4],[],[[false]]⟩
def g15T:FunT:=⟨15,[sL,sL],sB,[sD,sD],fun x=>g15 m x.1 x.2.1⟩
noncomputable def g15C:Code:=codeOf f15
noncomputable def g15B0:Code:=qm g15C 0 0
def g15L0X:LT:=⟨0,[(0,sL),(1,sL),(5,sI)],[(.ret,[(4,sB)]),(.exit 0,[])],fun n x=>g15L0 m n x.1 x.2.1 x.2.2.1⟩
theorem g15L0ok {E} (hE:EO E 26 g15H) (n):LO E g15B0 ((g15L0X m).at n):=lk hE noF (g15L0X m) n
theorem g15ok:FO (g15T m):=f1' g15H (g15T m) func15 noF fun _ h=>g15L0ok m h m
def g61H:Hints:=⟨[J [0,1],J [0,1,5],J' [(0,1)] [0,5,14,15,16],J [0,5,14,15,16,17],J [0,5,6,7,14,15,16],J [0,5,6,7,8,14,15,16],J' [(1,1)] [0,5,7,8,14,15,16,24,25,26],J [0,5,7,8,14,15,16,24,25,26,27],J [0,5,7,8,10,14,15,16,24,25,26],J' [(0,1),(1,1)] [0,5,7,8,14,15,16,24,25,26],J' [(1,1)] [0,5,7,8,14,15,16,24,25,26],J' [(0,1),(2,1)] [0,5,7,14,15,16,45],J [4],J' [(1,1)] [0,5,14,15,16],J' [(1,1)] [0,5,14,15,16],J [4]],[(0,[0,5,14,15,16]),(2,[0,5,7,8,14,15,16,24,25,26])],[(0,[]),(1,[0,5,14,15,16]),(2,[0,5,7,8,14,15,16]),(3,[0,5,7,8,14,15,16,24,25,26])],[4],[],[[false]]⟩
def g61T:FunT:=⟨61,[.a (.c (.imm (.sl false (.pr (.int .i64) (.int .i64))))),sL],sB,[sD,sD],fun x=>g61 m x.1 x.2.1⟩
noncomputable def g61C:Code:=codeOf f61
noncomputable def g61B0:Code:=qm g61C 0 0
noncomputable def g61B2:Code:=qm g61B0 0 0
def g61L1X:LT:=⟨2,[(0,.a (.c (.imm (.sl false (.pr (.int .i64) (.int .i64)))))),(5,.a (.c (.nm 0 .bool))),(7,sI),(8,sB),(14,sL),(15,sI),(16,sI),(24,.a (.c (.imm (.pr (.int .i64) (.int .i64))))),(25,sI),(26,sI)],[(.exit 2,[(0,.a (.c (.imm (.sl false (.pr (.int .i64) (.int .i64)))))),(5,.a (.c (.nm 0 .bool))),(7,sI),(8,sB),(14,sL),(15,sI),(16,sI)])],fun n x=>g61L1 m n x.1 x.2.1 x.2.2.1 x.2.2.2.1 x.2.2.2.2.1 x.2.2.2.2.2.1 x.2.2.2.2.2.2.1 x.2.2.2.2.2.2.2.1 x.2.2.2.2.2.2.2.2.1 x.2.2.2.2.2.2.2.2.2.1⟩
theorem g61L1ok {E} (hE:EO E 50 g61H) (n):LO E g61B2 ((g61L1X m).at n):=lk hE noF (g61L1X m) n
def g61L0X:LT:=⟨0,[(0,.a (.c (.imm (.sl false (.pr (.int .i64) (.int .i64)))))),(5,.a (.c (.nm 0 .bool))),(14,sL),(15,sI),(16,sI)],[(.ret,[(4,sB)]),(.exit 0,[])],fun n x=>g61L0 m n x.1 x.2.1 x.2.2.1 x.2.2.2.1 x.2.2.2.2.1⟩
theorem g61L0ok {E} (hE:EO E 50 g61H) (n):LO E g61B0 ((g61L0X m).at n):=
 lok hmix htt hE noF (L:=[(g61L1X m).at m]) (g61L0X m) (l:=[(2,g61B2)]) kR (fun _ _=>⟨qg ⟨yb (g61L1ok m hE m),trivial⟩,trivial⟩) (fun n x=>kR) (fun _=>kR) n
theorem g61ok:FO (g61T m):=f1' g61H (g61T m) func61 noF fun _ h=>g61L0ok m h m
def g51H:Hints:=⟨[J [0,1],J [0,1,5],J' [(2,1),(6,1)] [0,1,5,9],J [4],J' [(0,1),(2,1),(3,1),(6,1)] [5,20],J [4],J' [(0,1)] [4]],[],[(0,[5])],[4],[],[[false]]⟩
def g51T:FunT:=⟨51,[sI,sI],sI,[sD,sD],fun x=>g51 m x.1 x.2.1⟩
theorem g51ok:FO (g51T m):=fk g51H (g51T m) func51 noF
def g62H:Hints:=⟨[J [0,3],J' [(0,1)] [3,10,11,12],J [3,10,11,12,13],J [3,5,6,10,11,12],J' [(0,1)] [3,5,10,11,12,17,18,19],J [3,5,10,11,12,17,18,19,20],J [3,5,8,10,11,12,17,18,19],J [3,5,8,9,10,11,12,17,18,19],J' [(4,1),(9,1)] [3,5,10,11,12,17,18,19,54],J [4],J' [(1,1)] [3,5,10,11,12,17,18,19],J' [(1,1)] [3,10,11,12],J [4]],[(0,[3,10,11,12]),(2,[3,5,10,11,12,17,18,19])],[(0,[]),(1,[3,10,11,12]),(2,[3,10,11,12]),(3,[3,5,10,11,12,17,18,19])],[4],[],[[false]]⟩
def g62T:FunT:=⟨62,[.a (.c (.imm (.sl false (.pr (.int .i64) (.int .i64))))),.a (.agg [(.imm (.int .i64)),(.imm (.int .i64)),(.imm (.int .i64))])],sB,[sD,sD],fun x=>g62 m x.1 x.2.1.1 x.2.1.2.1 x.2.1.2.2.1⟩
noncomputable def g62C:Code:=codeOf f62
noncomputable def g62B0:Code:=qm g62C 0 0
noncomputable def g62B2:Code:=qm g62B0 0 0
theorem g62K:FL [g51T m]:=AllF.mem ⟨g51ok m,trivial⟩
def g62L1X:LT:=⟨2,[(3,sX 0 [iL,iL,iL]),(5,sI),(10,.a (.c (.imm (.sl false (.pr (.int .i64) (.int .i64)))))),(11,sI),(12,sI),(17,.a (.c (.imm (.pr (.int .i64) (.int .i64))))),(18,sI),(19,sI)],[(.ret,[(4,sB)]),(.exit 2,[(3,sX 0 [iL,iL,iL]),(10,.a (.c (.imm (.sl false (.pr (.int .i64) (.int .i64)))))),(11,sI),(12,sI)])],fun n x=>g62L1 m n x.1.1 x.1.2.1 x.1.2.2.1 x.2.1 x.2.2.1 x.2.2.2.1 x.2.2.2.2.1 x.2.2.2.2.2.1 x.2.2.2.2.2.2.1 x.2.2.2.2.2.2.2.1⟩
theorem g62L1ok {E} (hE:EO E 57 g62H) (n):LO E g62B2 ((g62L1X m).at n):=lk hE (g62K m) (g62L1X m) n
def g62L0X:LT:=⟨0,[(3,sX 0 [iL,iL,iL]),(10,.a (.c (.imm (.sl false (.pr (.int .i64) (.int .i64)))))),(11,sI),(12,sI)],[(.ret,[(4,sB)]),(.exit 0,[])],fun n x=>g62L0 m n x.1.1 x.1.2.1 x.1.2.2.1 x.2.1 x.2.2.1 x.2.2.2.1⟩
theorem g62L0ok {E} (hE:EO E 57 g62H) (n):LO E g62B0 ((g62L0X m).at n):=
 lok hmix htt hE (g62K m) (L:=[(g62L1X m).at m]) (g62L0X m) (l:=[(2,g62B2)]) kR (fun _ _=>⟨qg ⟨yb (g62L1ok m hE m),trivial⟩,trivial⟩) (fun n x=>kR) (fun _=>kR) n
theorem g62ok:FO (g62T m):=f1' g62H (g62T m) func62 (g62K m) fun _ h=>g62L0ok m h m
def g21H:Hints:=⟨[J [2,3],J [2,3,5],J [2,3,5,9],J' [(0,1)] [4],J' [(6,1),(14,1)] [2,3,13],J [4],J [3,6],J [3,6,38],J [4],J' [(0,1)] [44],J [4],J [4]],[],[(0,[2,3]),(1,[])],[4],[],[[false]]⟩
def g21T:FunT:=⟨21,[.a (.agg [(.int .i64),(.int .i64),(.imm (.int .i64)),(.imm (.int .i64)),(.imm (.int .u64))]),.a (.agg [(.imm (.int .i64)),(.imm (.int .i64)),(.imm (.int .i64))])],sI,[sD,sD],fun x=>g21 m x.1.1 x.1.2.1 x.1.2.2.1 x.1.2.2.2.1 x.1.2.2.2.2.1 x.2.1.1 x.2.1.2.1 x.2.1.2.2.1⟩
theorem g21ok:FO (g21T m):=fk g21H (g21T m) func21 (AllF.mem (l:=[g37T m,g39T m,g61T m,g62T m]) ⟨g37ok m,g39ok m,g61ok m,g62ok m,trivial⟩)
def sparselaw14_awake_H:Hints:=⟨[J [],J [1],J' [(2,1)] [1,2,3],J' [(0,1),(2,1),(8,1),(14,1),(20,1)] [0]],[],[],[0],[],[[false]]⟩
abbrev sparselaw14_awake_A:List Sh:=[]
abbrev sparselaw14_awake_S:Sh:= sB
abbrev sparselaw14_awake_U:List Sh:=[]
def sparselaw14_awake_R:Qp sparselaw14_awake_A->Option (sparselaw14_awake_S.Val×Qp sparselaw14_awake_U):=fun(x:Unit)=>sparselaw14_awake m
def sparselaw14_awake_T:FunT:=⟨7,sparselaw14_awake_A,sparselaw14_awake_S,sparselaw14_awake_U,sparselaw14_awake_R m⟩
theorem sparselaw14_awake_ok:FO (sparselaw14_awake_T m):=fk sparselaw14_awake_H (sparselaw14_awake_T m) func7 (AllF.mem (l:=[g12T m,g15T m,g21T m]) ⟨g12ok m,g15ok m,g21ok m,trivial⟩)
def g8H:Hints:=⟨[J [0,1],J' [(0,1),(2,1)] [4]],[],[],[4],[],[[false]]⟩
def g8T:FunT:=⟨8,[sI,sI],sI,[sD,sD],fun x=>g8 m x.1 x.2.1⟩
theorem g8ok:FO (g8T m):=fk g8H (g8T m) func8 noF
def g10H:Hints:=⟨[J [0,1],J [0,1,8],J' [(0,1),(1,1)] [4],J [4]],[],[],[4],[],[[false]]⟩
def g10T:FunT:=⟨10,[sL,sI],sI,[sD,sD],fun x=>g10 m x.1 x.2.1⟩
theorem g10ok:FO (g10T m):=fk g10H (g10T m) func10 noF
def g104H:Hints:=⟨[J [0],J [0,3],J' [(2,1)] [0,3,17],J' [(0,1)] [0,3],J [0,3,4],J [0,3,4,5],J [0,3,4,5,22],J' [(0,1)] [0,3,4,5],J' [(0,1)] [0,3,4,5],J' [(0,1)] [2]],[(0,[0,3]),(2,[0,3,4,5])],[(0,[0,3]),(1,[0,3]),(2,[4]),(3,[0,3,4,5])],[2],[],[[true]]⟩
def g104T:FunT:=⟨104,[.a (.c (.imm (.int .u32)))],.a (.c (.nm 0 (.int .u32))),[sD],fun x=>g104 m x.1⟩
noncomputable def g104C:Code:=codeOf f104
noncomputable def g104B0:Code:=qm g104C 0 0
noncomputable def g104B2:Code:=qm g104C 0 1
def g104L1X:LT:=⟨2,[(0,.a (.c (.imm (.int .u32)))),(3,sI),(4,.a (.c (.nm 0 (.int .u32)))),(5,sI)],[(.exit 2,[(4,.a (.c (.nm 0 (.int .u32))))])],fun n x=>g104L1 m n x.1 x.2.1 x.2.2.1 x.2.2.2.1⟩
theorem g104L1ok {E} (hE:EO E 33 g104H) (n):LO E g104B2 ((g104L1X m).at n):=lk hE noF (g104L1X m) n
def g104L0X:LT:=⟨0,[(0,.a (.c (.imm (.int .u32)))),(3,sI)],[(.exit 0,[(0,.a (.c (.imm (.int .u32)))),(3,sI)])],fun n x=>g104L0 m n x.1 x.2.1⟩
theorem g104L0ok {E} (hE:EO E 33 g104H) (n):LO E g104B0 ((g104L0X m).at n):=lk hE noF (g104L0X m) n
theorem g104ok:FO (g104T m):=
 fok hmix htt (H:=g104H) (g104T m) func104 kR noF (L:=[(g104L0X m).at m,(g104L1X m).at m]) (l:=[(0,g104B0),(2,g104B2)]) kR (fun _ hE _ _=>⟨qg ⟨yb (g104L0ok m hE m),nb rfl,trivial⟩,qg ⟨nb rfl,yb (g104L1ok m hE m),trivial⟩,trivial⟩) (fun x=>kR)
def g105H:Hints:=⟨[J [0,1,4],J' [(0,1)] [0,1,4],J' [(0,1),(1,1),(6,1)] [4]],[],[],[4],[],[[false,true]]⟩
def g105T:FunT:=⟨105,[sB,.a (.c (.imm (.int .u32)))],.a (.agg [.bool,(.nm 0 (.int .u32))]),[sD,sD],fun x=>g105 m x.1 x.2.1⟩
theorem g105ok:FO (g105T m):=fk g105H (g105T m) func105 (AllF.mem (l:=[g104T m]) ⟨g104ok m,trivial⟩)
def g57H:Hints:=⟨[J [0,2],J [0,2,3],J [0,2,3,7],J [0,2,3],J' [(0,1)] [2]],[],[],[2],[],[[false,true]]⟩
def g57T:FunT:=⟨57,[sI],.a (.agg [.bool,(.nm 0 (.int .u32))]),[sD],fun x=>g57 m x.1⟩
theorem g57ok:FO (g57T m):=fk g57H (g57T m) func57 (AllF.mem (l:=[g105T m]) ⟨g105ok m,trivial⟩)
def g109H:Hints:=⟨[J [1,2],J [2]],[],[],[2],[],[[false,true]]⟩
def g109T:FunT:=⟨109,[.a (.agg [.bool,(.imm (.int .u32))])],.a (.agg [.bool,(.nm 0 (.int .u32))]),[sD],fun x=>g109 m x.1.1 x.1.2.1⟩
theorem g109ok:FO (g109T m):=fk g109H (g109T m) func109 (AllF.mem (l:=[g105T m]) ⟨g105ok m,trivial⟩)
def g119H:Hints:=⟨[J [0],J [0]],[],[],[0],[],[[false,false,true,false]]⟩
def g119T:FunT:=⟨119,[],.a (.agg [.bool,.bool,(.nm 0 (.int .u32)),(.int .i64)]),[],fun x=>g119 m⟩
theorem g119ok:FO (g119T m):=fk g119H (g119T m) func119 noF
def g157H:Hints:=⟨[J [1],J [3],J [3,4],J [3,4,11],J' [(0,1)] [3,4],J [3,4,18],J' [(2,1)] [2],J [2]],[(0,[3,4])],[(0,[]),(1,[3,4])],[2],[],[[false]]⟩
def g157T:FunT:=⟨157,[.a (.agg [.bool,(.imm (.int .u32))])],sI,[sD],fun x=>g157 m x.1.1 x.1.2.1⟩
noncomputable def g157C:Code:=codeOf f157
noncomputable def g157B0:Code:=qm g157C 0 0
theorem g157K:FL [g104T m,g159T m]:=AllF.mem ⟨g104ok m,g159ok m,trivial⟩
def g157L0X:LT:=⟨0,[(3,.a (.c (.nm 0 (.int .u32)))),(4,sI)],[(.ret,[(2,sI)]),(.exit 0,[])],fun n x=>g157L0 m n x.1 x.2.1⟩
theorem g157L0ok {E} (hE:EO E 27 g157H) (n):LO E g157B0 ((g157L0X m).at n):=lk hE (g157K m) (g157L0X m) n
theorem g157ok:FO (g157T m):=f1' g157H (g157T m) func157 (g157K m) fun _ h=>g157L0ok m h m
def g118H:Hints:=⟨[J [1,2],J [2]],[],[],[2],[],[[false,true]]⟩
def g118T:FunT:=⟨118,[.a (.agg [.bool,(.imm (.int .u32))])],.a (.agg [.bool,(.nm 0 (.int .u32))]),[sD],fun x=>g118 m x.1.1 x.1.2.1⟩
theorem g118ok:FO (g118T m):=fk g118H (g118T m) func118 (AllF.mem (l:=[g105T m]) ⟨g105ok m,trivial⟩)
def g171H:Hints:=⟨[J [0,1],J [0,1,5],J [0,1,5,6],J [0,1,5,6,7],J [0,1,5,6,7,14],J' [(0,1)] [0,1,5,6,7],J' [(0,1)] [0,1,5,6,7],J' [(0,1)] [0,1,5,6,7],J' [(0,1)] [0,1,5,6,7],J' [(0,1),(1,1)] [4]],[(0,[0,1,5,6,7])],[(0,[5,6]),(1,[0,1,5,6,7])],[4],[],[[true]]⟩
def g171T:FunT:=⟨171,[.a (.c (.imm (.int .u32))),sI],.a (.c (.nm 0 (.int .u32))),[sD,sD],fun x=>g171 m x.1 x.2.1⟩
noncomputable def g171C:Code:=codeOf f171
noncomputable def g171B0:Code:=qm g171C 0 0
def g171L0X:LT:=⟨0,[(0,.a (.c (.imm (.int .u32)))),(1,sI),(5,.a (.c (.nm 0 (.int .u32)))),(6,sU),(7,sI)],[(.exit 0,[(5,.a (.c (.nm 0 (.int .u32)))),(6,sU)])],fun n x=>g171L0 m n x.1 x.2.1 x.2.2.1 x.2.2.2.1 x.2.2.2.2.1⟩
theorem g171L0ok {E} (hE:EO E 39 g171H) (n):LO E g171B0 ((g171L0X m).at n):=lk hE noF (g171L0X m) n
theorem g171ok:FO (g171T m):=f1' g171H (g171T m) func171 noF fun _ h=>g171L0ok m h m
def g172H:Hints:=⟨[J [0,1],J [0,1,6],J [0,1,6,7],J' [(4,1)] [0,1,6,7,21],J' [(0,1)] [0,1,6,7],J' [(0,1),(1,1)] [0,1,6,7],J [0,1,6,8],J [0,1,6,8,9],J [0,1,6,8,9,10],J [0,1,6,8,9,10,39],J' [(0,1)] [0,1,6,8,9,10],J [0,1,6,8,9,10,11],J [0,1,6,8,9,10,11,51],J' [(0,1)] [0,1,6,8,9,10,11],J' [(4,1)] [0,1,6,8,9,10,11,75],J [0,1,6,8,9,10,11],J' [(0,1),(1,1)] [0,1,6,8,9,10],J' [(0,1),(1,1)] [4,5]],[(0,[0,1,6,7]),(2,[0,1,6,8,9,10])],[(0,[0,1,6]),(1,[0,1,6,7]),(2,[6,8]),(3,[0,1,6,8,9,10])],[4,5],[],[[true],[false]]⟩
def g172T:FunT:=⟨172,[.a (.c (.imm (.int .u32))),sI],.tup [(.c (.nm 0 (.int .u32))),(.c .bool)],[sD,sD],fun x=>g172 m x.1 x.2.1⟩
noncomputable def g172C:Code:=codeOf f172
noncomputable def g172B0:Code:=qm g172C 0 0
noncomputable def g172B2:Code:=qm g172C 0 1
def g172L1X:LT:=⟨2,[(0,.a (.c (.imm (.int .u32)))),(1,sI),(6,sB),(8,.a (.c (.nm 0 (.int .u32)))),(9,sI),(10,sI)],[(.exit 2,[(6,sB),(8,.a (.c (.nm 0 (.int .u32))))])],fun n x=>g172L1 m n x.1 x.2.1 x.2.2.1 x.2.2.2.1 x.2.2.2.2.1 x.2.2.2.2.2.1⟩
theorem g172L1ok {E} (hE:EO E 85 g172H) (n):LO E g172B2 ((g172L1X m).at n):=lk hE noF (g172L1X m) n
def g172L0X:LT:=⟨0,[(0,.a (.c (.imm (.int .u32)))),(1,sI),(6,sB),(7,sI)],[(.exit 0,[(0,.a (.c (.imm (.int .u32)))),(1,sI),(6,sB)])],fun n x=>g172L0 m n x.1 x.2.1 x.2.2.1 x.2.2.2.1⟩
theorem g172L0ok {E} (hE:EO E 85 g172H) (n):LO E g172B0 ((g172L0X m).at n):=lk hE noF (g172L0X m) n
theorem g172ok:FO (g172T m):=
 fok hmix htt (H:=g172H) (g172T m) func172 kR noF (L:=[(g172L0X m).at m,(g172L1X m).at m]) (l:=[(0,g172B0),(2,g172B2)]) kR (fun _ hE _ _=>⟨qg ⟨yb (g172L0ok m hE m),nb rfl,trivial⟩,qg ⟨nb rfl,yb (g172L1ok m hE m),trivial⟩,trivial⟩) (fun x=>kR)
def g59H:Hints:=⟨[J [1,2],J [2]],[],[],[2],[],[[false,true]]⟩
def g59T:FunT:=⟨59,[.a (.agg [.bool,(.imm (.int .u32))])],.a (.agg [.bool,(.nm 0 (.int .u32))]),[sD],fun x=>g59 m x.1.1 x.1.2.1⟩
theorem g59ok:FO (g59T m):=fk g59H (g59T m) func59 (AllF.mem (l:=[g105T m]) ⟨g105ok m,trivial⟩)
def g106H:Hints:=⟨[J [0,1],J [0,1,5],J [0,1,5,6],J [0,1,5,6,7],J [0,1,5,6,7,14],J' [(0,1)] [0,1,5,6,7],J [0,1,5,6,7,20],J' [(0,1)] [0,1,5,6,7],J [0,1,5,6,7,31],J' [(0,1)] [0,1,5,6,7],J' [(0,1)] [0,1,5,6,7],J' [(0,1)] [0,1,5,6,7],J' [(0,1),(1,1)] [4]],[(0,[0,1,5,6,7])],[(0,[5,6]),(1,[0,1,5,6,7])],[4],[],[[true]]⟩
def g106T:FunT:=⟨106,[.a (.c (.imm (.int .u32))),.a (.c (.imm (.int .u32)))],.a (.c (.nm 0 (.int .u32))),[sD,sD],fun x=>g106 m x.1 x.2.1⟩
noncomputable def g106C:Code:=codeOf f106
noncomputable def g106B0:Code:=qm g106C 0 0
def g106L0X:LT:=⟨0,[(0,.a (.c (.imm (.int .u32)))),(1,.a (.c (.imm (.int .u32)))),(5,.a (.c (.nm 0 (.int .u32)))),(6,sU),(7,sI)],[(.exit 0,[(5,.a (.c (.nm 0 (.int .u32)))),(6,sU)])],fun n x=>g106L0 m n x.1 x.2.1 x.2.2.1 x.2.2.2.1 x.2.2.2.2.1⟩
theorem g106L0ok {E} (hE:EO E 51 g106H) (n):LO E g106B0 ((g106L0X m).at n):=lk hE noF (g106L0X m) n
theorem g106ok:FO (g106T m):=f1' g106H (g106T m) func106 noF fun _ h=>g106L0ok m h m
def g107H:Hints:=⟨[J [0,1],J [0,1,10],J' [(0,1),(2,1)] [15],J [4],J [4],J [0,1,5],J [0,1,5,20],J' [(0,1)] [0,1,5],J [0,1,5,31],J' [(0,1),(4,1)] [40],J [4],J [4],J [4]],[(0,[0,1,5])],[(0,[]),(1,[0,1,5])],[4],[],[[false]]⟩
def g107T:FunT:=⟨107,[.a (.c (.imm (.int .u32))),.a (.c (.imm (.int .u32)))],sI,[sD,sD],fun x=>g107 m x.1 x.2.1⟩
noncomputable def g107C:Code:=codeOf f107
noncomputable def g107B0:Code:=qm g107C 0 0
def g107L0X:LT:=⟨0,[(0,.a (.c (.imm (.int .u32)))),(1,.a (.c (.imm (.int .u32)))),(5,sI)],[(.ret,[(4,sI)]),(.exit 0,[])],fun n x=>g107L0 m n x.1 x.2.1 x.2.2.1⟩
theorem g107L0ok {E} (hE:EO E 41 g107H) (n):LO E g107B0 ((g107L0X m).at n):=lk hE noF (g107L0X m) n
theorem g107ok:FO (g107T m):=f1' g107H (g107T m) func107 noF fun _ h=>g107L0ok m h m
def g108H:Hints:=⟨[J [0,1],J [0,1,5],J [0,1,5,6],J [0,1,5,6,7],J [0,1,5,6,7,12],J' [(0,1)] [0,1,5,6,7],J' [(5,1)] [0,1,5,7,8],J [0,1,5,7,8,25],J' [(0,1)] [0,1,5,7,8],J' [(0,1)] [0,1,5,7,8],J' [(0,1)] [0,1,5,6,7],J' [(0,1)] [4]],[(0,[0,1,5,6,7])],[(0,[5]),(1,[0,1,5,6,7])],[4],[],[[true]]⟩
def g108T:FunT:=⟨108,[.a (.c (.imm (.int .u32))),.a (.c (.imm (.int .u32)))],.a (.c (.nm 0 (.int .u32))),[sD,sD],fun x=>g108 m x.1 x.2.1⟩
noncomputable def g108C:Code:=codeOf f108
noncomputable def g108B0:Code:=qm g108C 0 0
def g108L0X:LT:=⟨0,[(0,.a (.c (.imm (.int .u32)))),(1,.a (.c (.imm (.int .u32)))),(5,.a (.c (.nm 0 (.int .u32)))),(6,sU),(7,sI)],[(.exit 0,[(5,.a (.c (.nm 0 (.int .u32))))])],fun n x=>g108L0 m n x.1 x.2.1 x.2.2.1 x.2.2.2.1 x.2.2.2.2.1⟩
theorem g108L0ok {E} (hE:EO E 41 g108H) (n):LO E g108B0 ((g108L0X m).at n):=lk hE noF (g108L0X m) n
theorem g108ok:FO (g108T m):=f1' g108H (g108T m) func108 noF fun _ h=>g108L0ok m h m
def g56H:Hints:=⟨[J [2,3,4],J [2,3,4,5,6],J [2,3,4,5,6,17],J' [(2,1),(3,1)] [4],J [2,3,4,5,6,27],J' [(2,1),(3,1)] [4],J' [(2,1),(3,1)] [4]],[],[],[4],[],[[false,true]]⟩
def g56T:FunT:=⟨56,[.a (.agg [.bool,(.imm (.int .u32))]),.a (.agg [.bool,(.imm (.int .u32))])],.a (.agg [.bool,(.nm 0 (.int .u32))]),[sD,sD],fun x=>g56 m x.1.1 x.1.2.1 x.2.1.1 x.2.1.2.1⟩
theorem g56ok:FO (g56T m):=fk g56H (g56T m) func56 (AllF.mem (l:=[g104T m,g106T m,g105T m,g107T m,g108T m]) ⟨g104ok m,g106ok m,g105ok m,g107ok m,g108ok m,trivial⟩)
def g114H:Hints:=⟨[J [2,3,4],J [4]],[],[],[4],[],[[false,true]]⟩
def g114T:FunT:=⟨114,[.a (.agg [.bool,(.imm (.int .u32))]),.a (.agg [.bool,(.imm (.int .u32))])],.a (.agg [.bool,(.nm 0 (.int .u32))]),[sD,sD],fun x=>g114 m x.1.1 x.1.2.1 x.2.1.1 x.2.1.2.1⟩
theorem g114ok:FO (g114T m):=fk g114H (g114T m) func114 (AllF.mem (l:=[g59T m,g56T m]) ⟨g59ok m,g56ok m,trivial⟩)
def g155H:Hints:=⟨[J [1,2,4],J [1,2,4],J [1,2,4,11],J' [(4,1)] [4],J' [(2,1),(5,1)] [2,4,5,6],J' [(2,1)] [2,4,6,7],J' [(2,1),(3,1)] [4,7,35],J [4,7],J' [(0,1)] [4]],[],[],[4],[],[[false,true]]⟩
def g155T:FunT:=⟨155,[.a (.agg [.bool,(.imm (.int .u32))]),sI],.a (.agg [.bool,(.nm 0 (.int .u32))]),[sD,sD],fun x=>g155 m x.1.1 x.1.2.1 x.2.1⟩
theorem g155ok:FO (g155T m):=fk g155H (g155T m) func155 (AllF.mem (l:=[g109T m,g171T m,g105T m,g172T m,g57T m,g114T m]) ⟨g109ok m,g171ok m,g105ok m,g172ok m,g57ok m,g114ok m,trivial⟩)
def g158H:Hints:=⟨[J' [(1,2)] [1,2,4],J [1,2,4,6],J' [(2,2)] [1,2,4],J' [(0,1)] [1,2,4],J' [(1,1)] [4]],[(0,[1,2,4])],[(0,[1,2,4]),(1,[1,2,4])],[4],[],[[false,true]]⟩
def g158T:FunT:=⟨158,[.a (.agg [.bool,(.imm (.int .u32))]),sI],.a (.agg [.bool,(.nm 0 (.int .u32))]),[sD,sD],fun x=>g158 m x.1.1 x.1.2.1 x.2.1⟩
noncomputable def g158C:Code:=codeOf f158
noncomputable def g158B0:Code:=qm g158C 0 0
theorem g158K:FL [g155T m]:=AllF.mem ⟨g155ok m,trivial⟩
def g158L0X:LT:=⟨0,[(1,sI),(2,sX 0 [.bool,.imm (.int .u32)]),(4,sX 1 [.bool,.imm (.int .u32)])],[(.exit 0,[(1,sI),(2,sX 0 [.bool,.imm (.int .u32)]),(4,sX 1 [.bool,.imm (.int .u32)])])],fun n x=>g158L0 m n x.1 x.2.1.1 x.2.1.2.1 x.2.2.1.1 x.2.2.1.2.1⟩
theorem g158L0ok {E} (hE:EO E 15 g158H) (n):LO E g158B0 ((g158L0X m).at n):=lk hE (g158K m) (g158L0X m) n
theorem g158ok:FO (g158T m):=f1' g158H (g158T m) func158 (g158K m) fun _ h=>g158L0ok m h m
def g152H:Hints:=⟨[J [1],J [3],J [3,9],J [2],J [2]],[],[],[2],[],[[false]]⟩
def g152T:FunT:=⟨152,[.a (.agg [.bool,(.imm (.int .u32))])],sI,[sD],fun x=>g152 m x.1.1 x.1.2.1⟩
theorem g152ok:FO (g152T m):=fk g152H (g152T m) func152 (AllF.mem (l:=[g104T m,g168T m]) ⟨g104ok m,g168ok m,trivial⟩)
def g120H:Hints:=⟨[J [1,2,4],J [1,2,4,5],J [1,2,4,5,13],J [4],J [1,2,4,5,16],J [4],J [1,2,4,5,6],J' [(0,1)] [2,4,5,6,7],J [2,4,5,6,7],J' [(1,1)] [2,4,5,7],J' [(2,1)] [2,4,5,7,36],J [4],J [4,5,7],J' [(0,1),(1,1)] [4]],[],[],[4],[],[[false,false,true,false]]⟩
def g120T:FunT:=⟨120,[.a (.agg [.bool,(.imm (.int .u32))]),sI],.a (.agg [.bool,.bool,(.nm 0 (.int .u32)),(.int .i64)]),[sD,sD],fun x=>g120 m x.1.1 x.1.2.1 x.2.1⟩
theorem g120ok:FO (g120T m):=fk g120H (g120T m) func120 (AllF.mem (l:=[g109T m,g119T m,g157T m,g118T m,g158T m,g152T m]) ⟨g109ok m,g119ok m,g157ok m,g118ok m,g158ok m,g152ok m,trivial⟩)
def g72H:Hints:=⟨[J [0,2],J' [(0,1)] [2]],[],[],[2],[],[[false,false,true,false]]⟩
def g72T:FunT:=⟨72,[sI],.a (.agg [.bool,.bool,(.nm 0 (.int .u32)),(.int .i64)]),[sD],fun x=>g72 m x.1⟩
theorem g72ok:FO (g72T m):=fk g72H (g72T m) func72 (AllF.mem (l:=[g57T m,g120T m]) ⟨g57ok m,g120ok m,trivial⟩)
def g116H:Hints:=⟨[J [1,2],J [1,2,4],J [2],J [2]],[],[],[2],[],[[false,false,true,false]]⟩
def g116T:FunT:=⟨116,[.a (.agg [.bool,.bool,(.imm (.int .u32)),(.int .i64)])],.a (.agg [.bool,.bool,(.nm 0 (.int .u32)),(.int .i64)]),[sD],fun x=>g116 m x.1.1 x.1.2.1 x.1.2.2.1 x.1.2.2.2.1⟩
theorem g116ok:FO (g116T m):=fk g116H (g116T m) func116 (AllF.mem (l:=[g119T m,g120T m]) ⟨g119ok m,g120ok m,trivial⟩)
def g113H:Hints:=⟨[J [1],J [1],J [1,5],J [2],J [10],J [2],J [2]],[],[(0,[])],[2],[],[[false]]⟩
def g113T:FunT:=⟨113,[.a (.agg [.bool,(.imm (.int .u32))])],sI,[sD],fun x=>g113 m x.1.1 x.1.2.1⟩
theorem g113ok:FO (g113T m):=fk g113H (g113T m) func113 (AllF.mem (l:=[g109T m]) ⟨g109ok m,trivial⟩)
def g71H:Hints:=⟨[J [1,2,4],J [1,2,4],J' [(2,1)] [1,2,4,14],J' [(0,1)] [4],J' [(2,1)] [1,2,4,21],J [4],J' [(4,1)] [4]],[],[],[4],[],[[false,false,true,false]]⟩
def g71T:FunT:=⟨71,[.a (.agg [.bool,.bool,(.imm (.int .u32)),(.int .i64)]),sI],.a (.agg [.bool,.bool,(.nm 0 (.int .u32)),(.int .i64)]),[sD,sD],fun x=>g71 m x.1.1 x.1.2.1 x.1.2.2.1 x.1.2.2.2.1 x.2.1⟩
theorem g71ok:FO (g71T m):=fk g71H (g71T m) func71 (AllF.mem (l:=[g116T m,g113T m,g119T m,g120T m]) ⟨g116ok m,g113ok m,g119ok m,g120ok m,trivial⟩)
def g156H:Hints:=⟨[J [0,1],J' [(0,1)] [1,5],J' [(0,1)] [4],J' [(0,1)] [4]],[],[],[4],[],[[false]]⟩
def g156T:FunT:=⟨156,[sB,sU],sU,[sD,sD],fun x=>g156 m x.1 x.2.1⟩
theorem g156ok:FO (g156T m):=fk g156H (g156T m) func156 noF
end
end Go.Vs.F
