import Derived.Test.YtoeiaipcgnjfcaaGreatDoorFn
import Derived.Test.YtoeiaipcgnjfcaaGreatDoorVc
import Derived.Test.YtoeiaipcgnjfcaaGreatDoorProg
import Derived.KernelRfl
set_option linter.unusedSimpArgs false
set_option linter.unusedSectionVars false
set_option linter.unusedVariables false
set_option maxRecDepth 100000
set_option linter.defProp false
namespace Go.Vs.F
open Go.Proofs
open Tryz
section
def kR{p:Prop}(h:p:=by kernel_rfl):p:=h
abbrev hO1:Sh:=.a (.agg [(.imm (.sl false (.pr .bool (.sl false (.int .u32))))),(.imm (.int .i64)),.bool,(.imm (.int .u32)),(.int .i64)])
abbrev hY1:Sh:=.a (.agg [(.int .i64),(.int .i64),(.nm 0 (.int .i64)),(.nm 1 (.int .i64)),(.nm 2 (.int .u64))])
abbrev h41:Sh:=.a (.agg [(.int .i64),(.int .i64),(.imm (.int .i64)),(.imm (.int .i64)),(.imm (.int .u64))])
abbrev h51:Sh:=.a (.c (.nm 0 (.pr (.int .i64) (.pr (.int .i64) (.int .u64)))))
abbrev h61:Sh:=.a (.c (.nm 1 (.pr (.int .i64) (.pr (.int .i64) (.int .u64)))))
abbrev h71:Sh:=.a (.c (.nm 4 (.pr (.int .i64) (.pr (.int .i64) (.int .u64)))))
abbrev h81:Sh:=.a (.c (.nm 5 (.pr (.int .i64) (.pr (.int .i64) (.int .u64)))))
abbrev h91:Sh:=.a (.c (.imm (.pr (.int .i64) (.pr (.int .i64) (.int .u64)))))
abbrev hU2:Sh:=.a (.c (.imm (.sl false (.pr .bool (.sl false (.int .u32))))))
abbrev h52:Sh:=.a (.agg [.bool,.bool,(.nm 0 (.int .u32)),(.int .i64)])
abbrev h62:Sh:=.a (.agg [.bool,.bool,(.imm (.int .u32)),(.int .i64)])
abbrev h82:Sh:=.a (.c (.dp 0 (.pr .bool (.sl false (.int .u32)))))
abbrev h92:Sh:=.a (.c (.dp 1 (.pr .bool (.sl false (.int .u32)))))
abbrev hC3:Sh:=.a (.c (.nm 1 (.pr .bool (.sl false (.int .u32)))))
abbrev hI3:Sh:=.a (.c (.nm 0 (.pr .bool (.sl false (.int .u32)))))
abbrev hM3:Sh:=.a (.c (.imm (.pr .bool (.sl false (.int .u32)))))
abbrev hQ3:Sh:=.a (.agg [(.int .i64),(.int .i64),(.int .u64)])
abbrev hR3:Sh:=.a (.c (.iptr (some 122) (.int .i64) 0))
abbrev hT3:Sh:=.a (.c (.nm 0 (.sl false (.int .i64))))
abbrev hU3:Sh:=.a (.c (.imm (.sl false (.int .i64))))
abbrev hV3:Sh:=.a (.agg [.bool,(.imm (.int .u32))])
abbrev hX3:Sh:=.a (.c (.dp 1 (.int .i64)))
abbrev hY3:Sh:=.a (.c (.nm 0 (.int .u32)))
abbrev ha3:Sh:=.a (.c (.wn 0 (.int .u32)))
abbrev h33:Sh:=.a (.c (.imm (.int .u64)))
abbrev h53:Sh:=.a (.c (.imm (.int .u32)))
abbrev h73:Sh:=.a (.c (.nm 0 .bool))
abbrev h83:Sh:=.a (.c (.dp 2 .bool))
abbrev h93:Sh:=.a (.c (.nm 2 .bool))
abbrev hA4:Sh:=.a (.c (.nm 1 .bool))
abbrev hC4:Sh:=.a (.c (.imm .bool))
abbrev hF4:Sh:=.a (.c (.int .u32))
abbrev hH4:Sh:=.a (.c (.drw 5 5))
abbrev hI4:Sh:=.a (.c (.fn 109))
abbrev hJ4:Sh:=.a (.c (.fn 196))
abbrev hM4:Sh:=.a (.c (.fn 287))
abbrev sD:Sh:=.a (.c .dead)
abbrev sI:Sh:=.a (.c (.int .i64))
abbrev sL:Sh:=.a (.c (.imm (.int .i64)))
abbrev sB:Sh:=.a (.c .bool)
abbrev sU:Sh:=.a (.c (.int .u64))
abbrev EO(E:Entry)(N:Nat)(H:Hints):=EOf prog E N H.pins
abbrev LO:=LoopOK prog
abbrev FO:=FunOK prog
abbrev FL(l:List FunT):=∀u∈l,FO u
abbrev sN(k:Nat):Sh:=.a (.c (.nm k (.int .i64)))
abbrev sX(k:Nat)(l:List ShC):Sh:=.a (.bx k l)
abbrev iI:ShC:=.int .i64
abbrev iU:ShC:=.int .u64
abbrev iL:ShC:=.imm (.int .i64)
abbrev iM(k:Nat):ShC:=.nm k (.int .i64)
def J(l:List Nat):Hint:=⟨[],l⟩
def J'(m:List (Nat×Nat))(l:List Nat):Hint:=⟨m,l⟩
def tt:TT:=[none,none,none,some ⟨(.int .i64),[.int .i64]⟩,some ⟨.bool,[.bool]⟩,some ⟨(.int .u8),[.int .u8]⟩,none,none,none,some ⟨.string,[.other]⟩,none,none,none,none,none,none,none,none,none,none,none,none,some ⟨(.slice 3 (.int .i64)),[.nil (.int .i64)]⟩,none,some ⟨(.slice 60 (.int .u64)),[.nil (.int .u64)]⟩,none,some ⟨(.struct [(0,1),(1,1),(2,1),(3,1),(4,1)]),[.int .i64,.int .i64,.nil (.int .i64),.nil (.int .i64),.nil (.int .u64)]⟩,none,none,some ⟨(.slice 35 (.sl false (.pr .bool (.sl false (.int .u32))))),[.nil (.sl false (.pr .bool (.sl false (.int .u32))))]⟩,none,none,none,none,none,some ⟨(.slice 87 (.pr .bool (.sl false (.int .u32)))),[.nil (.pr .bool (.sl false (.int .u32)))]⟩,none,none,none,none,none,some ⟨(.struct [(0,1),(1,1),(2,1),(3,1),(4,1),(5,1)]),[.nil (.int .i64),.nil (.int .i64),.nil (.int .i64),.nil (.int .i64),.nil (.int .i64),.nil (.int .i64)]⟩,none,none,none,none,none,none,none,none,none,none,none,none,none,none,none,none,none,some ⟨(.int .u64),[.int .u64]⟩,some ⟨(.int .u64),[.int .u64]⟩,none,none,none,none,none,none,none,none,none,none,none,none,none,none,some ⟨(.struct [(0,1),(1,1),(2,1)]),[.nil (.int .i64),.nil (.int .i64),.nil (.int .i64)]⟩,none,none,some ⟨(.slice 81 (.pr (.int .i64) (.pr (.int .i64) (.int .u64)))),[.nil (.pr (.int .i64) (.pr (.int .i64) (.int .u64)))]⟩,none,none,some ⟨(.struct [(0,1),(1,1),(2,1)]),[.int .i64,.int .i64,.int .u64]⟩,none,some ⟨(.int .u64),[.int .u64]⟩,none,some ⟨(.slice 186 (.int .u32)),[.nil (.int .u32)]⟩,none,some ⟨(.struct [(0,1),(1,1)]),[.bool,.nil (.int .u32)]⟩,none,some ⟨(.struct [(0,1),(1,2),(3,1)]),[.bool,.bool,.nil (.int .u32),.int .i64]⟩,none,none,none,none,none,none,none,some ⟨(.struct [(0,1),(1,1),(2,2),(4,1)]),[.nil (.sl false (.pr .bool (.sl false (.int .u32)))),.nil (.int .i64),.bool,.nil (.int .u32),.int .i64]⟩,none,none,none,none,none,none,some ⟨(.slice 22 (.sl false (.int .i64))),[.nil (.sl false (.int .i64))]⟩,some ⟨(.slice 4 .bool),[.nil .bool]⟩,none,some ⟨(.struct [(0,1),(1,1),(2,1),(3,1)]),[.nil (.sl false (.int .i64)),.nil (.int .i64),.nil (.int .i64),.nil .bool]⟩,none,none,none,none,none,none,none,none,none,none,none,none,none,none,none,none,none,none,none,none,none,none,none,none,none,none,none,none,none,none,none,none,none,none,none,none,none,none,none,none,none,none,none,none,none,none,none,none,none,none,none,none,none,none,none,none,none,none,none,none,none,none,none,none,none,none,none,none,none,none,none,none,none,none,none,none,none,none,some ⟨(.int .u32),[.int .u32]⟩,none,none,none,none,none,none,none,none,none,none,none,none,none,none,none,none,none,none,none,none,none,none,none,none,none,none,none,none,none,none,none,none,none,none,none,none,none,none,none,none,none,none,none,none,none,none,none,none,none,none,none,none,none,none,none,none,none,some ⟨(.slice 105 (.sl false .bool)),[.nil (.sl false .bool)]⟩,none,none,none,none,none,none,none,none,none,none,none,none,none,none,none,none,none,none,none,none,none,none,none,none,none,none,none,none,none,none,none,none,none,none,none,none,none,none,none,none,none,none,none,none,none,none,none,none,none,none,none,none,none,none,none,none,none,none,none,none,none,none,none,none,none,none,none,none,none,none,none,none,none,none,none,none,none,none,none,none,none,none,none,none,none,none,none,none,none,none,none,none,none,none,none,none,none,none,none,none,none,none,none,none,none,none,none,none,none,none,none,none,none,none,none,none,none,none,none,some ⟨(.int .u64),[.int .u64]⟩,none,none,none,none,none,some ⟨(.tab 0 .u8 [0,1,28,2,29,14,24,3,30,22,20,15,25,17,4,8,31,27,13,23,21,19,16,7,26,12,18,6,11,5,10,9]),[.other,.other,.other,.other,.other,.other,.other,.other,.other,.other,.other,.other,.other,.other,.other,.other,.other,.other,.other,.other,.other,.other,.other,.other,.other,.other,.other,.other,.other,.other,.other,.other]⟩]
def htt:TTok prog tt:=qft kR
def hmix:prog.follows .mixedOrders=true:=kR
def lk{N:Nat}{H:Hints}{E:Entry}(hE:EO E N H){D:List FunT}(hD:FL D){B:Code}(t:LT)(n:Nat)(hl:Jo B t.blk=[]:=by kernel_rfl)(hr:∀n x,q9u (mkC (outVal t.outs) D) (mkLp (outVal t.outs) []) tt N H B t.blk (t.ins.enc x) (Kl (t.run n))=t.run (n+1) x:=by intro n x;kernel_rfl)(h0:∀x,t.run 0 x=none:=by intro x;kernel_rfl):LO E B (t.at n):=lok hmix htt hE hD (L:=[]) t (l:=[]) hl (λ_ _=>trivial) hr h0 n
def fk(H:Hints)(t:FunT){fn:Func}(hf:prog.funcs[t.f]? =some fn){D:List FunT}(hD:FL D)(hb:okB fn=true:=by kernel_rfl)(hl:Jo (codeOf fn) 0=[]:=by kernel_rfl)(hr: ∀x,fnK (mkC (t.res.Val×X5 t.outs) D) (mkLp (t.res.Val×X5 t.outs) []) tt H fn (encS t.args x) (Kd t.res t.outs)=t.run x:=by intro x;kernel_rfl):FO t:=fok hmix htt (H:=H) t hf hb hD (L:=[]) (l:=[]) hl (λ_ hE _ _=>trivial) hr
def f1'(H:Hints)(t:FunT){fn:Func}(hf:prog.funcs[t.f]? =some fn){D:List FunT}(hD:FL D){X:LT}{m:Nat}{B:Code}(h:∀E:Entry,EO E fn.ntmps H->LO E B (X.at m))(hb:okB fn=true:=by kernel_rfl)(hl:Jo (codeOf fn) 0=[(X.blk,B)]:=by kernel_rfl)(hr: ∀x,fnK (mkC (t.res.Val×X5 t.outs) D) (mkLp (t.res.Val×X5 t.outs) [X.at m]) tt H fn (encS t.args x) (Kd t.res t.outs)=t.run x:=by intro x;kernel_rfl)(hk:q4a [] [X.at m]=true:=by kernel_rfl):FO t:=fok hmix htt (H:=H) t hf hb hD (L:=[X.at m]) (l:=[(X.blk,B)]) hl (λE hE _ _=>⟨qj ⟨yb (h E hE),trivial⟩,trivial⟩) hr hk
variable (m:Nat)
def g88H:Hints:=⟨[J [0,1,2],J' [(1,1),(3,1),(5,1)] [6]],[],[],[6],[],[[false]]⟩
def g88T:FunT:=⟨88,[sI,sI,sI],sB,[sD,sD,sD],λx=>g88 m x.1 x.2.1 x.2.2.1⟩
def g88ok:FO (g88T m):=fk g88H (g88T m) func88 noF
def g308H:Hints:=⟨[J [0],J [2]],[],[],[2],[],[[false]]⟩
def g308T:FunT:=⟨308,[sI],sB,[sD],λx=>g308 m x.1⟩
def g308ok:FO (g308T m):=fk g308H (g308T m) func308 noF
def g247H:Hints:=⟨[J [0,1],J' [(2,1),(7,1)] [4]],[],[],[4],[],[[false]]⟩
def g247T:FunT:=⟨247,[sI,sI],sB,[sD,sD],λx=>g247 m x.1 x.2.1⟩
def g247ok:FO (g247T m):=fk g247H (g247T m) func247 (AllF.mem (l:=[g308T m]) ⟨g308ok m,trivial⟩)
def g189H:Hints:=⟨[J [0],J [0,3],J [0,3,8],J' [(0,1)] [0,3],J [0,3,20],J [2],J [2]],[(0,[0,3])],[(0,[]),(1,[0,3])],[2],[],[[false]]⟩
def g189T:FunT:=⟨189,[sL],sB,[sD],λx=>g189 m x.1⟩
noncomputable def g189C:Code:=codeOf f189
noncomputable def g189B0:Code:=ql g189C 0 0
def g189K:FL [g247T m]:=AllF.mem ⟨g247ok m,trivial⟩
def g189L0X:LT:=⟨0,[(0,sL),(3,sI)],[(.ret,[(2,sB)]),(.exit 0,[])],λn x=>g189L0 m n x.1 x.2.1⟩
def g189L0ok {E} (hE:EO E 21 g189H) (n):LO E g189B0 ((g189L0X m).at n):=lk hE (g189K m) (g189L0X m) n
def g189ok:FO (g189T m):=f1' g189H (g189T m) func189 (g189K m) λ_ h=>g189L0ok m h m
def g107H:Hints:=⟨[J [1],J' [(7,1),(14,1),(20,1),(32,1)] [1,47],J [2],J [1,49,50],J [1,49,50,51],J [1,3,49,50],J [1,3,4,49,50],J [1,4,49,50,66,67,68],J [1,4,49,50,66,67,68,69],J [1,4,6,49,50,66,67,68],J' [(1,1),(3,1)] [1,6,49,50,66,67,68,80],J [2],J' [(0,1)] [1,4,49,50,66,67,68],J' [(1,1)] [1,4,49,50,66,67,68],J' [(1,1)] [1,49,50],J [2]],[(0,[1,49,50]),(2,[1,4,49,50,66,67,68])],[(0,[]),(1,[1,49,50]),(2,[1,49,50]),(3,[1,4,49,50,66,67,68])],[2],[],[[false]]⟩
def g107T:FunT:=⟨107,[h41],sB,[sD],λx=>g107 m x.1.1 x.1.2.1 x.1.2.2.1 x.1.2.2.2.1 x.1.2.2.2.2.1⟩
noncomputable def g107C:Code:=codeOf f107
noncomputable def g107B0:Code:=ql g107C 0 0
noncomputable def g107B2:Code:=ql g107B0 0 0
def g107K:FL [g189T m]:=AllF.mem ⟨g189ok m,trivial⟩
def g107L1X:LT:=⟨2,[(1,sX 0 [iI,iI,iL,iL,.imm (.int .u64)]),(4,sI),(49,sI),(50,sI),(66,sL),(67,sI),(68,sI)],[(.ret,[(2,sB)]),(.exit 2,[(1,sX 0 [iI,iI,iL,iL,.imm (.int .u64)]),(49,sI),(50,sI)])],λn x=>g107L1 m n x.1.1 x.1.2.1 x.1.2.2.1 x.1.2.2.2.1 x.1.2.2.2.2.1 x.2.1 x.2.2.1 x.2.2.2.1 x.2.2.2.2.1 x.2.2.2.2.2.1 x.2.2.2.2.2.2.1⟩
def g107L1ok {E} (hE:EO E 84 g107H) (n):LO E g107B2 ((g107L1X m).at n):=lk hE (g107K m) (g107L1X m) n
def g107L0X:LT:=⟨0,[(1,sX 0 [iI,iI,iL,iL,.imm (.int .u64)]),(49,sI),(50,sI)],[(.ret,[(2,sB)]),(.exit 0,[])],λn x=>g107L0 m n x.1.1 x.1.2.1 x.1.2.2.1 x.1.2.2.2.1 x.1.2.2.2.2.1 x.2.1 x.2.2.1⟩
def g107L0ok {E} (hE:EO E 84 g107H) (n):LO E g107B0 ((g107L0X m).at n):=
 lok hmix htt hE (g107K m) (L:=[(g107L1X m).at m]) (g107L0X m) (l:=[(2,g107B2)]) kR (λ_ _=>⟨qj ⟨yb (g107L1ok m hE m),trivial⟩,trivial⟩) (λn x=>kR) (λ_=>kR) n
def g107ok:FO (g107T m):=f1' g107H (g107T m) func107 (g107K m) λ_ h=>g107L0ok m h m
def g110H:Hints:=⟨[J [0],J [2,3]],[],[],[2,3],[],[[false],[false]]⟩
def g110T:FunT:=⟨110,[sU],.tup [(.c (.int .i64)),(.c (.int .u64))],[sD],λx=>g110 m x.1⟩
def g110ok:FO (g110T m):=fk g110H (g110T m) func110 noF
def g82H:Hints:=⟨[J [0],J' [(0,1),(2,1)] [3],J' [(0,1)] [2]],[],[],[2],[],[[false]]⟩
def g82T:FunT:=⟨82,[sU],sB,[sD],λx=>g82 m x.1⟩
def g82ok:FO (g82T m):=fk g82H (g82T m) func82 (AllF.mem (l:=[g110T m]) ⟨g110ok m,trivial⟩)
def g109H:Hints:=⟨[J [0],J' [(0,1)] [2]],[],[],[2],[],[[false]]⟩
def g109T:FunT:=⟨109,[sU],sB,[sD],λx=>g109 m x.1⟩
def g109ok:FO (g109T m):=fk g109H (g109T m) func109 (AllF.mem (l:=[g82T m]) ⟨g82ok m,trivial⟩)
def g190H:Hints:=⟨[J [0,1],J [0,1,7,8],J [0,1,7,8,9],J [0,1,5,7,8],J [0,1,5,7,8,16],J' [(0,1)] [4],J' [(1,1)] [0,1,7,8],J [4]],[(0,[0,1,7,8])],[(0,[]),(1,[0,1,7,8])],[4],[],[[false]]⟩
def g190T:FunT:=⟨190,[h33,hI4],sI,[sD,sD],λx=>g190 m x.1⟩
noncomputable def g190C:Code:=codeOf f190
noncomputable def g190B0:Code:=ql g190C 0 0
def g190K:FL [g109T m]:=AllF.mem ⟨g109ok m,trivial⟩
def g190L0X:LT:=⟨0,[(0,h33),(1,hI4),(7,sI),(8,sI)],[(.ret,[(4,sI)]),(.exit 0,[])],λn x=>g190L0 m n x.1 x.2.2.1 x.2.2.2.1⟩
def g190L0ok {E} (hE:EO E 19 g190H) (n):LO E g190B0 ((g190L0X m).at n):=lk hE (g190K m) (g190L0X m) n
def g190ok:FO (g190T m):=f1' g190H (g190T m) func190 (g190K m) λ_ h=>g190L0ok m h m
def g108H:Hints:=⟨[J [0,1],J' [(0,1),(1,1)] [4]],[],[],[4],[],[[false]]⟩
def g108T:FunT:=⟨108,[h33,hI4],sB,[sD,sD],λx=>g108 m x.1⟩
def g108ok:FO (g108T m):=fk g108H (g108T m) func108 (AllF.mem (l:=[g190T m]) ⟨g190ok m,trivial⟩)
def g40H:Hints:=⟨[J [1],J' [(4,1),(10,1)] [1,3],J [2],J [1,20],J [2],J [24],J [2],J [2]],[],[(0,[])],[2],[],[[false]]⟩
def g40T:FunT:=⟨40,[h41],sI,[sD],λx=>g40 m x.1.1 x.1.2.1 x.1.2.2.1 x.1.2.2.2.1 x.1.2.2.2.2.1⟩
def g40ok:FO (g40T m):=fk g40H (g40T m) func40 (AllF.mem (l:=[g88T m,g107T m,g108T m]) ⟨g88ok m,g107ok m,g108ok m,trivial⟩)
def g100H:Hints:=⟨[J [1],J [1,3],J' [(2,1)] [3,14],J [2],J' [(0,1)] [2]],[],[],[2],[],[[false]]⟩
def g100T:FunT:=⟨100,[h41],sI,[sD],λx=>g100 m x.1.1 x.1.2.1 x.1.2.2.1 x.1.2.2.2.1 x.1.2.2.2.2.1⟩
def g100ok:FO (g100T m):=fk g100H (g100T m) func100 (AllF.mem (l:=[g40T m]) ⟨g40ok m,trivial⟩)
def g128H:Hints:=⟨[J [1],J [1,3],J [1,3,9,10],J [1,3,9,10,11],J [1,3,4,9,10],J [1,3,9,10],J' [(1,1)] [1,3,9,10],J' [(0,1)] [2]],[(0,[1,3,9,10])],[(0,[3]),(1,[1,3,9,10])],[2],[],[[true]]⟩
def g128T:FunT:=⟨128,[h41],hT3,[sD],λx=>g128 m x.1.1 x.1.2.1 x.1.2.2.1 x.1.2.2.2.1 x.1.2.2.2.2.1⟩
noncomputable def g128C:Code:=codeOf f128
noncomputable def g128B0:Code:=ql g128C 0 0
def g128L0X:LT:=⟨0,[(1,sX 0 [iI,iI,iL,iL,.imm (.int .u64)]),(3,.a (.c (.nm 1 (.sl false (.int .i64))))),(9,sI),(10,sI)],[(.exit 0,[(3,hT3)])],λn x=>g128L0 m n x.1.1 x.1.2.1 x.1.2.2.1 x.1.2.2.2.1 x.1.2.2.2.2.1 x.2.1 x.2.2.1 x.2.2.2.1⟩
def g128L0ok {E} (hE:EO E 32 g128H) (n):LO E g128B0 ((g128L0X m).at n):=lk hE noF (g128L0X m) n
def g128ok:FO (g128T m):=f1' g128H (g128T m) func128 noF λ_ h=>g128L0ok m h m
def g129H:Hints:=⟨[J [0,1],J' [(0,1)] [1,5],J [1,5,10,11],J [1,5,10,11,12],J [1,5,6,10,11],J' [(1,1)] [1,5,10,11],J' [(1,1)] [1,5,10,11],J' [(0,1)] [4]],[(0,[1,5,10,11])],[(0,[5]),(1,[1,5,10,11])],[4],[],[[true]]⟩
def g129T:FunT:=⟨129,[sI,sI],sN 0,[sD,sD],λx=>g129 m x.1 x.2.1⟩
noncomputable def g129C:Code:=codeOf f129
noncomputable def g129B0:Code:=ql g129C 0 0
def g129L0X:LT:=⟨0,[(1,sI),(5,sN 0),(10,sI),(11,sI)],[(.exit 0,[(5,sN 0)])],λn x=>g129L0 m n x.1 x.2.1 x.2.2.1 x.2.2.2.1⟩
def g129L0ok {E} (hE:EO E 20 g129H) (n):LO E g129B0 ((g129L0X m).at n):=lk hE noF (g129L0X m) n
def g129ok:FO (g129T m):=f1' g129H (g129T m) func129 noF λ_ h=>g129L0ok m h m
def g130H:Hints:=⟨[J [0,1],J [0,1,13,14,15],J [0,1,13,14,15,16],J [0,1,6,13,14,15],J [0,1,6,13,14,15,25],J [0,1,6,13,14,15],J' [(8,1)] [0,1,6,13,14,15,50],J [0],J [0,4],J' [(1,1)] [0,1,13,14,15],J [0,4]],[(0,[0,1,13,14,15])],[(0,[0]),(1,[0,1,13,14,15])],[0,4],[0],[[false]]⟩
def g130T:FunT:=⟨130,[sX 0 [.nm 1 (.sl false (.int .i64)),iM 2,iM 3,.nm 4 .bool],sI],sB,[sX 0 [.nm 1 (.sl false (.int .i64)),iM 2,iM 3,.nm 4 .bool],sD],λx=>g130 m x.1.1 x.1.2.1 x.1.2.2.1 x.1.2.2.2.1 x.2.1⟩
noncomputable def g130C:Code:=codeOf f130
noncomputable def g130B0:Code:=ql g130C 0 0
def g130K (m:Nat) (hself:FunOK prog (g130T m)): ∀u∈[g130T m],FunOK prog u:=AllF.mem ⟨hself,trivial⟩
def g130L0X:LT:=⟨0,[(0,sX 0 [.nm 1 (.sl false (.int .i64)),iM 2,iM 3,.nm 4 .bool]),(1,sI),(13,sL),(14,sI),(15,sI)],[(.ret,[(0,sX 0 [.nm 1 (.sl false (.int .i64)),iM 2,iM 3,.nm 4 .bool]),(4,sB)]),(.exit 0,[(0,sX 0 [.nm 1 (.sl false (.int .i64)),iM 2,iM 3,.nm 4 .bool])])],λn x=>g130L0 (λa0 a1 a2 a3 a4=>g130 m a0 a1 a2 a3 a4) m n x.1.1 x.1.2.1 x.1.2.2.1 x.1.2.2.2.1 x.2.1 x.2.2.1 x.2.2.2.1 x.2.2.2.2.1⟩
def g130L0ok {E:Entry} (hE:EOf prog E 66 g130H.pins) (m:Nat) (hself:FunOK prog (g130T m)) (n:Nat):LoopOK prog E g130B0 ((g130L0X m).at n):=
 lok hmix htt hE (g130K m hself) (L:=[]) (g130L0X m) (l:=[]) kR (λ_ _=>trivial) (λn x=>kR) (λ_=>kR) n
def g130ok: ∀m:Nat,FunOK prog (g130T m)
 |0=>λ_ _ h=>by cases h
 |m+1=>by
  have hself:=g130ok m;exact fok hmix htt (H:=g130H) (g130T (m+1)) func130 kR (g130K m hself) (L:=[(g130L0X m).at m]) (l:=[(0,g130B0)]) kR (λ_ hE _ _=>⟨qj ⟨yb (g130L0ok hE m hself m),trivial⟩,trivial⟩) (λx=>kR)
def g54H:Hints:=⟨[J [1],J [1,3],J [1,3,16,17],J [1,3,16,17,18],J [1,3,4,16,17],J [1,3,4,16,17],J' [(1,1)] [1,3,16,17],J' [(1,1)] [1,3,16,17],J' [(0,1)] [2]],[(0,[1,3,16,17])],[(0,[3]),(1,[1,3,16,17])],[2],[],[[true,true,true,true]]⟩
def g54T:FunT:=⟨54,[h41],sX 0 [.nm 1 (.sl false (.int .i64)),iM 2,iM 3,.nm 4 .bool],[sD],λx=>g54 m x.1.1 x.1.2.1 x.1.2.2.1 x.1.2.2.2.1 x.1.2.2.2.2.1⟩
noncomputable def g54C:Code:=codeOf f54
noncomputable def g54B0:Code:=ql g54C 0 0
def g54K:FL [g128T m,g129T m,g130T m]:=AllF.mem ⟨g128ok m,g129ok m,g130ok m,trivial⟩
def g54L0X:LT:=⟨0,[(1,sX 0 [iI,iI,iL,iL,.imm (.int .u64)]),(3,sX 1 [.nm 2 (.sl false (.int .i64)),iM 3,iM 4,.nm 5 .bool]),(16,sI),(17,sI)],[(.exit 0,[(3,sX 0 [.nm 1 (.sl false (.int .i64)),iM 2,iM 3,.nm 4 .bool])])],λn x=>g54L0 m n x.1.1 x.1.2.1 x.1.2.2.1 x.1.2.2.2.1 x.1.2.2.2.2.1 x.2.1.1 x.2.1.2.1 x.2.1.2.2.1 x.2.1.2.2.2.1 x.2.2.1 x.2.2.2.1⟩
def g54L0ok {E} (hE:EO E 31 g54H) (n):LO E g54B0 ((g54L0X m).at n):=lk hE (g54K m) (g54L0X m) n
def g54ok:FO (g54T m):=f1' g54H (g54T m) func54 (g54K m) λ_ h=>g54L0ok m h m
def g12H:Hints:=⟨[J [1],J [1,4],J [1,4,8],J' [(0,1)] [2,3],J' [(4,1)] [2,3,11]],[],[],[2,3,11],[],[[true],[false]]⟩
def g12T:FunT:=⟨12,[h41],.tup [(.c (.nm 0 (.int .i64))),(.c (.int .i64))],[sD],λx=>g12 m x.1.1 x.1.2.1 x.1.2.2.1 x.1.2.2.2.1 x.1.2.2.2.2.1⟩
def g12ok:FO (g12T m):=fk g12H (g12T m) func12 (AllF.mem (l:=[g40T m,g54T m]) ⟨g40ok m,g54ok m,trivial⟩)
def g184H:Hints:=⟨[J [0,1],J [0,1,7,8],J [0,1,7,8,9],J [0,1,5,7,8],J [0,1,5,7,8,16],J' [(0,1)] [4],J' [(1,1)] [0,1,7,8],J [4]],[(0,[0,1,7,8])],[(0,[]),(1,[0,1,7,8])],[4],[],[[false]]⟩
def g184T:FunT:=⟨184,[sL,sI],sI,[sD,sD],λx=>g184 m x.1 x.2.1⟩
noncomputable def g184C:Code:=codeOf f184
noncomputable def g184B0:Code:=ql g184C 0 0
def g184L0X:LT:=⟨0,[(0,sL),(1,sI),(7,sI),(8,sI)],[(.ret,[(4,sI)]),(.exit 0,[])],λn x=>g184L0 m n x.1 x.2.1 x.2.2.1 x.2.2.2.1⟩
def g184L0ok {E} (hE:EO E 19 g184H) (n):LO E g184B0 ((g184L0X m).at n):=lk hE noF (g184L0X m) n
def g184ok:FO (g184T m):=f1' g184H (g184T m) func184 noF λ_ h=>g184L0ok m h m
def g101H:Hints:=⟨[J [0,1],J' [(0,1),(1,1)] [4]],[],[],[4],[],[[false]]⟩
def g101T:FunT:=⟨101,[sL,sI],sB,[sD,sD],λx=>g101 m x.1 x.2.1⟩
def g101ok:FO (g101T m):=fk g101H (g101T m) func101 (AllF.mem (l:=[g184T m]) ⟨g184ok m,trivial⟩)
def g43H:Hints:=⟨[J [1],J [1,3],J [1,3,7,8],J [1,3,7,8,9],J [1,3,4,7,8],J [1,3,4,5,7,8],J [1,3,4,5,7,8,23],J' [(0,1)] [1,3,4,5,7,8],J' [(0,1)] [1,3,4,5,7,8],J' [(1,1)] [1,3,7,8],J' [(0,1)] [2]],[(0,[1,3,7,8]),(2,[1,3,4,5,7,8])],[(0,[3]),(1,[1,3,7,8]),(2,[1,3,7,8]),(3,[1,3,4,5,7,8])],[2],[],[[true]]⟩
def g43T:FunT:=⟨43,[h41],h51,[sD],λx=>g43 m x.1.1 x.1.2.1 x.1.2.2.1 x.1.2.2.2.1 x.1.2.2.2.2.1⟩
noncomputable def g43C:Code:=codeOf f43
noncomputable def g43B0:Code:=ql g43C 0 0
noncomputable def g43B2:Code:=ql g43B0 0 0
def g43L1X:LT:=⟨2,[(1,sX 0 [iI,iI,iL,iL,.imm (.int .u64)]),(3,h61),(4,sI),(5,sI),(7,sI),(8,sI)],[(.exit 2,[(1,sX 0 [iI,iI,iL,iL,.imm (.int .u64)]),(3,h61),(7,sI),(8,sI)])],λn x=>g43L1 m n x.1.1 x.1.2.1 x.1.2.2.1 x.1.2.2.2.1 x.1.2.2.2.2.1 x.2.1 x.2.2.1 x.2.2.2.1 x.2.2.2.2.1 x.2.2.2.2.2.1⟩
def g43L1ok {E} (hE:EO E 43 g43H) (n):LO E g43B2 ((g43L1X m).at n):=lk hE noF (g43L1X m) n
def g43L0X:LT:=⟨0,[(1,sX 0 [iI,iI,iL,iL,.imm (.int .u64)]),(3,h61),(7,sI),(8,sI)],[(.exit 0,[(3,h51)])],λn x=>g43L0 m n x.1.1 x.1.2.1 x.1.2.2.1 x.1.2.2.2.1 x.1.2.2.2.2.1 x.2.1 x.2.2.1 x.2.2.2.1⟩
def g43L0ok {E} (hE:EO E 43 g43H) (n):LO E g43B0 ((g43L0X m).at n):=
 lok hmix htt hE noF (L:=[(g43L1X m).at m]) (g43L0X m) (l:=[(2,g43B2)]) kR (λ_ _=>⟨qj ⟨yb (g43L1ok m hE m),trivial⟩,trivial⟩) (λn x=>kR) (λ_=>kR) n
def g43ok:FO (g43T m):=f1' g43H (g43T m) func43 noF λ_ h=>g43L0ok m h m
def g185H:Hints:=⟨[J [1],J [1,5],J [2],J [2]],[],[],[2],[],[[true]]⟩
def g185T:FunT:=⟨185,[h41],h51,[sD],λx=>g185 m x.1.1 x.1.2.1 x.1.2.2.1 x.1.2.2.2.1 x.1.2.2.2.2.1⟩
def g185ok:FO (g185T m):=fk g185H (g185T m) func185 (AllF.mem (l:=[g40T m,g43T m]) ⟨g40ok m,g43ok m,trivial⟩)
def g102H:Hints:=⟨[J [1,2],J' [(2,4)] [1,2,5],J [1,2,5,15,16,17],J [1,2,5,15,16,17,18],J [1,2,5,7,15,16,17],J' [(7,4),(13,4)] [1,2,5,15,16,17],J' [(1,1)] [1,2,5,15,16,17],J [1,5,8],J' [(0,1),(2,1005)] [5,8,38,39,40],J [5,8,38,39,40,41],J [5,8,9,10,38,39,40],J' [(1,1),(3,1)] [5,8,38,39,40],J' [(1,1)] [5,8,38,39,40],J' [(0,1)] [4]],[(0,[1,2,5,15,16,17]),(2,[5,8,38,39,40])],[(0,[1,2,5]),(1,[1,2,5,15,16,17]),(2,[8]),(3,[5,8,38,39,40])],[4],[],[[true]]⟩
def g102T:FunT:=⟨102,[h41,sL],hT3,[sD,sD],λx=>g102 m x.1.1 x.1.2.1 x.1.2.2.1 x.1.2.2.2.1 x.1.2.2.2.2.1 x.2.1⟩
noncomputable def g102C:Code:=codeOf f102
noncomputable def g102B0:Code:=ql g102C 0 0
noncomputable def g102B2:Code:=ql g102C 0 1
def g102K:FL [g185T m]:=AllF.mem ⟨g185ok m,trivial⟩
def g102L1X:LT:=⟨2,[(5,hU3),(8,hT3),(38,sL),(39,sI),(40,sI)],[(.exit 2,[(8,hT3)])],λn x=>g102L1 m n x.1 x.2.1 x.2.2.1 x.2.2.2.1 x.2.2.2.2.1⟩
def g102L1ok {E} (hE:EO E 54 g102H) (n):LO E g102B2 ((g102L1X m).at n):=lk hE (g102K m) (g102L1X m) n
def g102L0X:LT:=⟨0,[(1,sL),(2,sX 0 [iI,iI,iL,iL,.imm (.int .u64)]),(5,hX3),(15,.a (.c (.nm 2 (.pr (.int .i64) (.pr (.int .i64) (.int .u64)))))),(16,sI),(17,sI)],[(.exit 0,[(1,sL),(2,sX 0 [iI,iI,iL,iL,.imm (.int .u64)]),(5,hX3)])],λn x=>g102L0 m n x.1 x.2.1.1 x.2.1.2.1 x.2.1.2.2.1 x.2.1.2.2.2.1 x.2.1.2.2.2.2.1 x.2.2.1 x.2.2.2.1 x.2.2.2.2.1 x.2.2.2.2.2.1⟩
def g102L0ok {E} (hE:EO E 54 g102H) (n):LO E g102B0 ((g102L0X m).at n):=lk hE (g102K m) (g102L0X m) n
def g102ok:FO (g102T m):=
 fok hmix htt (H:=g102H) (g102T m) func102 kR (g102K m) (L:=[(g102L0X m).at m,(g102L1X m).at m]) (l:=[(0,g102B0),(2,g102B2)]) kR (λ_ hE _ _=>⟨qj ⟨yb (g102L0ok m hE m),nb rfl,trivial⟩,qj ⟨nb rfl,yb (g102L1ok m hE m),trivial⟩,trivial⟩) (λx=>kR)
def g186H:Hints:=⟨[J [0,1],J [0,1,5],J [0,1,5],J' [(0,1)] [0,5,6],J [0,5,6,20],J [0,5,6,7],J' [(0,1)] [0,5,6,7],J' [(1,1)] [0,5,6,29,30,31],J [0,5,6,29,30,31,32],J [0,5,6,9,29,30,31],J [0,5,6,9,29,30,31,39],J [0,5,6,9,29,30,31],J' [(0,1),(1,1)] [0,5,6,29,30,31],J' [(1,1)] [0,5,6,29,30,31],J' [(0,1)] [4]],[(0,[0,5,6]),(2,[0,5,6,29,30,31])],[(0,[5]),(1,[0,5,6]),(2,[0,5,6]),(3,[0,5,6,29,30,31])],[4],[],[[true]]⟩
def g186T:FunT:=⟨186,[hU3,sI],h73,[sD,sD],λx=>g186 m x.1 x.2.1⟩
noncomputable def g186C:Code:=codeOf f186
noncomputable def g186B0:Code:=ql g186C 0 0
noncomputable def g186B2:Code:=ql g186B0 0 0
def g186L1X:LT:=⟨2,[(0,hU3),(5,h73),(6,sN 1),(29,sL),(30,sI),(31,sI)],[(.exit 2,[(0,hU3),(5,h73),(6,sN 1)])],λn x=>g186L1 m n x.1 x.2.1 x.2.2.1 x.2.2.2.1 x.2.2.2.2.1 x.2.2.2.2.2.1⟩
def g186L1ok {E} (hE:EO E 49 g186H) (n):LO E g186B2 ((g186L1X m).at n):=lk hE noF (g186L1X m) n
def g186L0X:LT:=⟨0,[(0,hU3),(5,h73),(6,sN 1)],[(.exit 0,[(5,h73)])],λn x=>g186L0 m n x.1 x.2.1 x.2.2.1⟩
def g186L0ok {E} (hE:EO E 49 g186H) (n):LO E g186B0 ((g186L0X m).at n):=
 lok hmix htt hE noF (L:=[(g186L1X m).at m]) (g186L0X m) (l:=[(2,g186B2)]) kR (λ_ _=>⟨qj ⟨yb (g186L1ok m hE m),trivial⟩,trivial⟩) (λn x=>kR) (λ_=>kR) n
def g186ok:FO (g186T m):=f1' g186H (g186T m) func186 noF λ_ h=>g186L0ok m h m
def g103H:Hints:=⟨[J' [(1,6)] [0,3],J' [(2,4)] [0,3,4],J [0,3,4,13,14],J [0,3,4,13,14,15],J [0,3,4,5,13,14],J' [(6,4)] [0,3,4,13,14],J' [(1,1)] [0,3,4,13,14],J [0,2,3,4],J' [(0,1)] [2,3,4,28,29],J [2,3,4,28,29,30],J [2,3,4,6,28,29],J [2,3,4,6,7,28,29],J [2,3,4,6,7,28,29,33,34],J [2,3,4,6,7,28,29,33,34,35],J [2,3,4,6,7,8,28,29,33,34],J' [(7,1)] [2,3,4,6,7,8,28,29,33,34,52],J' [(0,1)] [2,3,4,6,7,28,29],J' [(1,1)] [2,3,4,6,7,28,29,33,34],J [2,3,4,6,7,28,29,57],J [2,3,4,6,28,29],J' [(0,1),(1,1),(3,6),(4,6)] [2,3,4,28,29],J' [(3,1)] [2,3,4,6,28,29],J' [(11,4),(16,4)] [2,3,4,28,29],J' [(1,1)] [2,3,4,28,29],J' [(0,1),(1,1)] [2,3]],[(0,[0,3,4,13,14]),(2,[2,3,4,28,29]),(4,[2,3,4,6,7,28,29,33,34])],[(0,[0,3,4]),(1,[0,3,4,13,14]),(2,[2,3]),(3,[2,3,4,28,29]),(4,[2,3,4,6,7,28,29]),(5,[2,3,4,6,7,28,29,33,34])],[2,3],[],[[true],[false]]⟩
def g103T:FunT:=⟨103,[hU3],.tup [(.c (.nm 0 (.int .i64))),(.c (.imm (.sl false (.int .i64))))],[sD],λx=>g103 m x.1⟩
noncomputable def g103C:Code:=codeOf f103
noncomputable def g103B0:Code:=ql g103C 0 0
noncomputable def g103B2:Code:=ql g103C 0 1
noncomputable def g103B4:Code:=ql g103B2 2 0
def g103K:FL [g186T m]:=AllF.mem ⟨g186ok m,trivial⟩
def g103L2X:LT:=⟨4,[(2,sN 0),(3,hX3),(4,h83),(6,sI),(7,sI),(28,sI),(29,sI),(33,sI),(34,sI)],[(.exit 4,[(2,sN 0),(3,hX3),(4,h83),(6,sI),(7,sI),(28,sI),(29,sI)])],λn x=>g103L2 m n x.1 x.2.1 x.2.2.1 x.2.2.2.1 x.2.2.2.2.1 x.2.2.2.2.2.1 x.2.2.2.2.2.2.1 x.2.2.2.2.2.2.2.1 x.2.2.2.2.2.2.2.2.1⟩
def g103L2ok {E} (hE:EO E 94 g103H) (n):LO E g103B4 ((g103L2X m).at n):=lk hE (g103K m) (g103L2X m) n
def g103L1X:LT:=⟨2,[(2,sN 0),(3,hX3),(4,h83),(28,sI),(29,sI)],[(.exit 2,[(2,sN 0),(3,hX3)])],λn x=>g103L1 m n x.1 x.2.1 x.2.2.1 x.2.2.2.1 x.2.2.2.2.1⟩
def g103L1ok {E} (hE:EO E 94 g103H) (n):LO E g103B2 ((g103L1X m).at n):=
 lok hmix htt hE (g103K m) (L:=[(g103L2X m).at m]) (g103L1X m) (l:=[(4,g103B4)]) kR (λ_ _=>⟨qj ⟨yb (g103L2ok m hE m),trivial⟩,trivial⟩) (λn x=>kR) (λ_=>kR) n
def g103L0X:LT:=⟨0,[(0,hU3),(3,.a (.c (.dp 0 (.int .i64)))),(4,.a (.c (.dp 1 .bool))),(13,sI),(14,sI)],[(.exit 0,[(0,hU3),(3,.a (.c (.dp 0 (.int .i64)))),(4,.a (.c (.dp 1 .bool)))])],λn x=>g103L0 m n x.1 x.2.1 x.2.2.1 x.2.2.2.1 x.2.2.2.2.1⟩
def g103L0ok {E} (hE:EO E 94 g103H) (n):LO E g103B0 ((g103L0X m).at n):=lk hE (g103K m) (g103L0X m) n
def g103ok:FO (g103T m):=
 fok hmix htt (H:=g103H) (g103T m) func103 kR (g103K m) (L:=[(g103L0X m).at m,(g103L1X m).at m]) (l:=[(0,g103B0),(2,g103B2)]) kR (λ_ hE _ _=>⟨qj ⟨yb (g103L0ok m hE m),nb rfl,trivial⟩,qj ⟨nb rfl,yb (g103L1ok m hE m),trivial⟩,trivial⟩) (λx=>kR)
def g104H:Hints:=⟨[J [0,1,2],J [0,1,2,7],J [0,1,2,7,8],J [0,1,2,7,8,22],J [0,1,2,7,8,9],J [0,1,2,7,8,9,26,27,28],J [0,1,2,7,8,9,26,27,28,29],J [0,1,2,7,8,9,10,11,26,27,28],J' [(0,1)] [0,1,2,7,8,9,10,26,27,28,33,34,35],J [0,1,2,7,8,9,10,26,27,28,33,34,35,36],J [0,1,2,7,8,9,10,13,26,27,28,33,34,35],J' [(9,1)] [0,1,2,7,8,9,10,13,26,27,28,33,34,35,57],J' [(2,1)] [0,1,2,7,8,9,10,26,27,28,33,34,35],J' [(1,1)] [0,1,2,7,8,9,10,26,27,28,33,34,35],J' [(1,1)] [0,1,2,7,8,9,26,27,28],J [0,1,2,7,8,9,67,68],J [0,1,2,7,8,9,67,68,69],J [0,1,2,7,8,9,14,67,68],J' [(5,1)] [0,1,2,7,8,9,14,67,68,82],J [0,1,2,7,8,14],J' [(0,1),(1,1)] [0,1,2,7,8],J' [(1,1)] [0,1,2,7,8,9,67,68],J' [(0,1)] [6]],[(0,[0,1,2,7,8]),(2,[0,1,2,7,8,9,26,27,28]),(4,[0,1,2,7,8,9,10,26,27,28,33,34,35]),(6,[0,1,2,7,8,9,67,68])],[(0,[8]),(1,[0,1,2,7,8]),(2,[0,1,2,7,8,9]),(3,[0,1,2,7,8,9,26,27,28]),(4,[0,1,2,7,8,9,26,27,28]),(5,[0,1,2,7,8,9,10,26,27,28,33,34,35]),(6,[0,1,2,7,8]),(7,[0,1,2,7,8,9,67,68])],[6],[],[[true]]⟩
def g104T:FunT:=⟨104,[hU3,sL,hU3],sN 0,[sD,sD,sD],λx=>g104 m x.1 x.2.1 x.2.2.1⟩
noncomputable def g104C:Code:=codeOf f104
noncomputable def g104B0:Code:=ql g104C 0 0
noncomputable def g104B2:Code:=ql g104B0 0 0
noncomputable def g104B4:Code:=ql g104B2 2 0
noncomputable def g104B6:Code:=ql g104B0 0 1
def g104L3X:LT:=⟨6,[(0,hU3),(1,sL),(2,hU3),(7,h73),(8,sN 1),(9,h93),(67,sI),(68,sI)],[(.exit 6,[(0,hU3),(1,sL),(2,hU3),(7,h73),(8,sN 1)])],λn x=>g104L3 m n x.1 x.2.1 x.2.2.1 x.2.2.2.1 x.2.2.2.2.1 x.2.2.2.2.2.1 x.2.2.2.2.2.2.1 x.2.2.2.2.2.2.2.1⟩
def g104L3ok {E} (hE:EO E 92 g104H) (n):LO E g104B6 ((g104L3X m).at n):=lk hE noF (g104L3X m) n
def g104L2X:LT:=⟨4,[(0,hU3),(1,sL),(2,hU3),(7,h73),(8,sN 1),(9,h93),(10,sI),(26,hU3),(27,sI),(28,sI),(33,sL),(34,sI),(35,sI)],[(.exit 4,[(0,hU3),(1,sL),(2,hU3),(7,h73),(8,sN 1),(9,h93),(26,hU3),(27,sI),(28,sI)])],λn x=>g104L2 m n x.1 x.2.1 x.2.2.1 x.2.2.2.1 x.2.2.2.2.1 x.2.2.2.2.2.1 x.2.2.2.2.2.2.1 x.2.2.2.2.2.2.2.1 x.2.2.2.2.2.2.2.2.1 x.2.2.2.2.2.2.2.2.2.1 x.2.2.2.2.2.2.2.2.2.2.1 x.2.2.2.2.2.2.2.2.2.2.2.1 x.2.2.2.2.2.2.2.2.2.2.2.2.1⟩
def g104L2ok {E} (hE:EO E 92 g104H) (n):LO E g104B4 ((g104L2X m).at n):=lk hE noF (g104L2X m) n
def g104L1X:LT:=⟨2,[(0,hU3),(1,sL),(2,hU3),(7,h73),(8,sN 1),(9,h93),(26,hU3),(27,sI),(28,sI)],[(.exit 2,[(0,hU3),(1,sL),(2,hU3),(7,h73),(8,sN 1),(9,h93)])],λn x=>g104L1 m n x.1 x.2.1 x.2.2.1 x.2.2.2.1 x.2.2.2.2.1 x.2.2.2.2.2.1 x.2.2.2.2.2.2.1 x.2.2.2.2.2.2.2.1 x.2.2.2.2.2.2.2.2.1⟩
def g104L1ok {E} (hE:EO E 92 g104H) (n):LO E g104B2 ((g104L1X m).at n):=
 lok hmix htt hE noF (L:=[(g104L2X m).at m]) (g104L1X m) (l:=[(4,g104B4)]) kR (λ_ _=>⟨qj ⟨yb (g104L2ok m hE m),trivial⟩,trivial⟩) (λn x=>kR) (λ_=>kR) n
def g104L0X:LT:=⟨0,[(0,hU3),(1,sL),(2,hU3),(7,h73),(8,sN 1)],[(.exit 0,[(8,sN 0)])],λn x=>g104L0 m n x.1 x.2.1 x.2.2.1 x.2.2.2.1 x.2.2.2.2.1⟩
def g104L0ok {E} (hE:EO E 92 g104H) (n):LO E g104B0 ((g104L0X m).at n):=
 lok hmix htt hE noF (L:=[(g104L1X m).at m,(g104L3X m).at m]) (g104L0X m) (l:=[(2,g104B2),(6,g104B6)]) kR (λ_ _=>⟨qj ⟨yb (g104L1ok m hE m),nb rfl,trivial⟩,qj ⟨nb rfl,yb (g104L3ok m hE m),trivial⟩,trivial⟩) (λn x=>kR) (λ_=>kR) n
def g104ok:FO (g104T m):=f1' g104H (g104T m) func104 noF λ_ h=>g104L0ok m h m
def g277H:Hints:=⟨[J [0,2],J [0,2,4],J' [(0,1)] [0],J [0,2],J [0,2,8],J' [(0,1)] [0,2],J' [(0,1)] [0,2],J [0,2,14],J' [(0,1)] [0,2],J' [(0,1)] [0,2],J' [(0,1),(1,1)] [2]],[],[],[2],[],[[false]]⟩
def g277T:FunT:=⟨277,[sU],sI,[sD],λx=>g277 m x.1⟩
def g277ok:FO (g277T m):=fk g277H (g277T m) func277 noF
def g188H:Hints:=⟨[J [0],J' [(0,1)] [2],J' [(0,1)] [2]],[],[],[2],[],[[false]]⟩
def g188T:FunT:=⟨188,[sU],sI,[sD],λx=>g188 m x.1⟩
def g188ok:FO (g188T m):=fk g188H (g188T m) func188 (AllF.mem (l:=[g277T m]) ⟨g277ok m,trivial⟩)
def g268H:Hints:=⟨[J [0,1,2,6],J [0,1,2,6,12],J' [(0,1)] [0,1,2,6],J [0,1,2,6,7],J' [(3,1)] [0,1,2,6,7,30],J' [(0,1)] [0,1,2,6,7],J [0,1,2,6,7]],[(0,[0,1,2,6]),(2,[0,1,2,6,7])],[(0,[0]),(1,[0,1,2,6]),(2,[0,1,2,6]),(3,[0,1,2,6,7])],[0],[0],[]⟩
def g268T:FunT:=⟨268,[sN 0,sI,sI],.tup [],[sN 0,sD,sD],λx=>g268 m x.1 x.2.1 x.2.2.1⟩
noncomputable def g268C:Code:=codeOf f268
noncomputable def g268B0:Code:=ql g268C 0 0
noncomputable def g268B2:Code:=ql g268B0 0 0
def g268K:FL [g247T m]:=AllF.mem ⟨g247ok m,trivial⟩
def g268L1X:LT:=⟨2,[(0,sN 0),(1,sI),(2,sI),(6,sI),(7,sI)],[(.exit 2,[(0,sN 0),(1,sI),(2,sI),(6,sI)])],λn x=>g268L1 m n x.1 x.2.1 x.2.2.1 x.2.2.2.1 x.2.2.2.2.1⟩
def g268L1ok {E} (hE:EO E 49 g268H) (n):LO E g268B2 ((g268L1X m).at n):=lk hE (g268K m) (g268L1X m) n
def g268L0X:LT:=⟨0,[(0,sN 0),(1,sI),(2,sI),(6,sI)],[(.exit 0,[(0,sN 0)])],λn x=>g268L0 m n x.1 x.2.1 x.2.2.1 x.2.2.2.1⟩
def g268L0ok {E} (hE:EO E 49 g268H) (n):LO E g268B0 ((g268L0X m).at n):=
 lok hmix htt hE (g268K m) (L:=[(g268L1X m).at m]) (g268L0X m) (l:=[(2,g268B2)]) kR (λ_ _=>⟨qj ⟨yb (g268L1ok m hE m),trivial⟩,trivial⟩) (λn x=>kR) (λ_=>kR) n
def g268ok:FO (g268T m):=f1' g268H (g268T m) func268 (g268K m) λ_ h=>g268L0ok m h m
def g325H:Hints:=⟨[J' [(0,1)] [0,2,3,8],J [0,2,3,8,9],J [0,2,3,8,9,16],J' [(4,1)] [0,2,3,8,9,36],J' [(0,1)] [0,2,3,8,9],J [0,2,3,8,9,52],J [0,2,3,9],J' [(0,1)] [0,2,3,8]],[(0,[0,2,3,8])],[(0,[0]),(1,[0,2,3,8])],[0],[0],[]⟩
def g325T:FunT:=⟨325,[sN 0,sI,sI,sI],.tup [],[sN 0,sD,sD,sD],λx=>g325 m x.1 x.2.1 x.2.2.1 x.2.2.2.1⟩
noncomputable def g325C:Code:=codeOf f325
noncomputable def g325B0:Code:=ql g325C 0 0
def g325K:FL [g247T m]:=AllF.mem ⟨g247ok m,trivial⟩
def g325L0X:LT:=⟨0,[(0,sN 0),(2,sI),(3,sI),(8,sI)],[(.exit 0,[(0,sN 0)]),(.ret,[(0,sN 0)])],λn x=>g325L0 m n x.1 x.2.1 x.2.2.1 x.2.2.2.1⟩
def g325L0ok {E} (hE:EO E 76 g325H) (n):LO E g325B0 ((g325L0X m).at n):=lk hE (g325K m) (g325L0X m) n
def g325ok:FO (g325T m):=f1' g325H (g325T m) func325 (g325K m) λ_ h=>g325L0ok m h m
def g269H:Hints:=⟨[J [0,1,2,6],J [0,1,2,6,7],J' [(0,1),(1,1)] [0,6,7,8],J [0,6,7,8,9],J [0,6,7,8,9,19],J' [(0,1)] [0,6,7,8,9],J' [(4,11)] [0,6,7,8,9],J' [(0,1)] [0,6,7,10],J [0,6,7,10,30],J' [(0,1)] [0,6,7,10],J [0,6,7,10],J' [(4,11)] [0,6,7,10]],[(0,[0,6,7,8,9]),(2,[0,6,7,10])],[(0,[0,6,7,8]),(1,[0,6,7,8,9]),(2,[0]),(3,[0,6,7,10])],[0],[0],[]⟩
def g269T:FunT:=⟨269,[sN 0,sI,sI],.tup [],[sN 0,sD,sD],λx=>g269 m x.1 x.2.1 x.2.2.1⟩
noncomputable def g269C:Code:=codeOf f269
noncomputable def g269B0:Code:=ql g269C 0 0
noncomputable def g269B2:Code:=ql g269C 0 1
def g269K:FL [g325T m]:=AllF.mem ⟨g325ok m,trivial⟩
def g269L1X:LT:=⟨2,[(0,sN 0),(6,sI),(7,sI),(10,sI)],[(.exit 2,[(0,sN 0)])],λn x=>g269L1 m n x.1 x.2.1 x.2.2.1 x.2.2.2.1⟩
def g269L1ok {E} (hE:EO E 56 g269H) (n):LO E g269B2 ((g269L1X m).at n):=lk hE (g269K m) (g269L1X m) n
def g269L0X:LT:=⟨0,[(0,sN 0),(6,sI),(7,sI),(8,sI),(9,sI)],[(.exit 0,[(0,sN 0),(6,sI),(7,sI),(8,sI)])],λn x=>g269L0 m n x.1 x.2.1 x.2.2.1 x.2.2.2.1 x.2.2.2.2.1⟩
def g269L0ok {E} (hE:EO E 56 g269H) (n):LO E g269B0 ((g269L0X m).at n):=lk hE (g269K m) (g269L0X m) n
def g269ok:FO (g269T m):=
 fok hmix htt (H:=g269H) (g269T m) func269 kR (g269K m) (L:=[(g269L0X m).at m,(g269L1X m).at m]) (l:=[(0,g269B0),(2,g269B2)]) kR (λ_ hE _ _=>⟨qj ⟨yb (g269L0ok m hE m),nb rfl,trivial⟩,qj ⟨nb rfl,yb (g269L1ok m hE m),trivial⟩,trivial⟩) (λx=>kR)
def g326H:Hints:=⟨[J [0],J' [(0,1)] [2]],[],[],[2],[],[[false]]⟩
def g326T:FunT:=⟨326,[sI],sU,[sD],λx=>g326 m x.1⟩
def g326ok:FO (g326T m):=fk g326H (g326T m) func326 (AllF.mem (l:=[g188T m]) ⟨g188ok m,trivial⟩)
def g327H:Hints:=⟨[J [0],J [0],J [0],J [0],J [0,2]],[],[],[0,2],[0],[[false]]⟩
def g327T:FunT:=⟨327,[sX 0 [iU]],sU,[sX 0 [iU]],λx=>g327 m x.1.1⟩
def g327ok:FO (g327T m):=fk g327H (g327T m) func327 noF
def g270H:Hints:=⟨[J' [(0,1)] [0,1,6],J [0,1,6,15],J [0,1,6,7],J [0,1,6,7,8],J [0,1,6,7,8,9],J [0,1,6,7,8,9,33],J' [(0,1)] [0,1,6,7,8,9],J [0,1,6,7,8,9,10],J [0,1,6,7,8,9,10,43],J' [(0,1)] [0,1,6,7,8,9,10],J [0,1,6,7,8,9]],[(0,[0,1,6,7,8,9])],[(0,[0]),(1,[0,1,6,7,8,9])],[0],[0],[]⟩
def g270T:FunT:=⟨270,[sN 0,sI,sI],.tup [],[sN 0,sD,sD],λx=>g270 m x.1 x.2.1 x.2.2.1⟩
noncomputable def g270C:Code:=codeOf f270
noncomputable def g270B0:Code:=ql g270C 0 0
def g270K:FL [g326T m,g327T m]:=AllF.mem ⟨g326ok m,g327ok m,trivial⟩
def g270L0X:LT:=⟨0,[(0,sN 0),(1,sI),(6,sI),(7,sX 1 [iU]),(8,sU),(9,sI)],[(.exit 0,[(0,sN 0)])],λn x=>g270L0 m n x.1 x.2.1 x.2.2.1 x.2.2.2.1.1 x.2.2.2.2.1 x.2.2.2.2.2.1⟩
def g270L0ok {E} (hE:EO E 65 g270H) (n):LO E g270B0 ((g270L0X m).at n):=lk hE (g270K m) (g270L0X m) n
def g270ok:FO (g270T m):=f1' g270H (g270T m) func270 (g270K m) λ_ h=>g270L0ok m h m
def g347H:Hints:=⟨[J [0,1,2,3],J [1,2,3,18],J [1,2,3],J' [(0,1),(1,1)] [3,8,9],J' [(0,1),(1,1)] [3,8,9]],[],[],[3,8,9],[3],[[false],[false]]⟩
def g347T:FunT:=⟨347,[sL,sI,sI,sX 0 [iI]],.tup [(.c (.int .i64)),(.c (.int .i64))],[sD,sD,sD,sX 0 [iI]],λx=>g347 m x.1 x.2.1 x.2.2.1 x.2.2.2.1.1⟩
def g347ok:FO (g347T m):=fk g347H (g347T m) func347 (AllF.mem (l:=[g247T m]) ⟨g247ok m,trivial⟩)
def g329H:Hints:=⟨[J [0,1,2,3,4],J' [(1,1),(2,1),(5,1)] [0,1,2,3,4],J' [(1,1),(2,1),(5,1)] [0,1,2,4],J' [(0,1),(1,1),(2,1),(5,1)] [2,4],J' [(0,1)] [4,10]],[],[],[4,10],[4],[[false]]⟩
def g329T:FunT:=⟨329,[sL,sI,sI,sI,sX 0 [iI]],sI,[sD,sD,sD,sD,sX 0 [iI]],λx=>g329 m x.1 x.2.1 x.2.2.1 x.2.2.2.1 x.2.2.2.2.1.1⟩
def g329ok:FO (g329T m):=fk g329H (g329T m) func329 (AllF.mem (l:=[g347T m]) ⟨g347ok m,trivial⟩)
def g328H:Hints:=⟨[J [0,1,2],J' [(0,1)] [2,6]],[],[],[2,6],[2],[[false]]⟩
def g328T:FunT:=⟨328,[sL,sI,sX 0 [iI]],sI,[sD,sD,sX 0 [iI]],λx=>g328 m x.1 x.2.1 x.2.2.1.1⟩
def g328ok:FO (g328T m):=fk g328H (g328T m) func328 (AllF.mem (l:=[g329T m]) ⟨g329ok m,trivial⟩)
def g271H:Hints:=⟨[J [0,1,2],J' [(0,1)] [0,1,8],J [0,1,8,9],J [0,1,8,9,10],J [0,1,8,9,10,11],J' [(0,1)] [0,8,9,10,11,12],J [0,8,9,10,11,12,32],J' [(0,1)] [0,9,10,11,12,34],J' [(1,1)] [0,9,10,11,12],J' [(1,1)] [0,9,10,11,12],J' [(1,1)] [0,9,10,11,12],J' [(0,1),(1,1),(2,1),(3,1)] [9,11],J [11,49],J' [(0,1)] [6,7],J [11,49,51],J' [(0,1)] [6,7],J [11,54],J' [(0,1)] [6,7]],[],[(0,[6,7])],[6,7],[],[[false],[false]]⟩
def g271T:FunT:=⟨271,[sL,sI,sI],.tup [(.c (.int .i64)),(.c (.int .i64))],[sD,sD,sD],λx=>g271 m x.1 x.2.1 x.2.2.1⟩
def g271ok:FO (g271T m):=fk g271H (g271T m) func271 (AllF.mem (l:=[g328T m,g329T m]) ⟨g328ok m,g329ok m,trivial⟩)
def g272H:Hints:=⟨[J' [(0,1)] [0,2,6],J' [(0,1)] [0,6,7],J [0,6,7,13],J [0,6,7],J' [(0,1)] [0,6,7],J' [(0,1)] [0,6,7]],[(0,[0,6,7])],[(0,[0]),(1,[0,6,7])],[0],[0],[]⟩
def g272T:FunT:=⟨272,[sN 0,sI,sI],.tup [],[sN 0,sD,sD],λx=>g272 m x.1 x.2.1 x.2.2.1⟩
noncomputable def g272C:Code:=codeOf f272
noncomputable def g272B0:Code:=ql g272C 0 0
def g272L0X:LT:=⟨0,[(0,sN 0),(6,sI),(7,sI)],[(.exit 0,[(0,sN 0)])],λn x=>g272L0 m n x.1 x.2.1 x.2.2.1⟩
def g272L0ok {E} (hE:EO E 32 g272H) (n):LO E g272B0 ((g272L0X m).at n):=lk hE noF (g272L0X m) n
def g272ok:FO (g272T m):=f1' g272H (g272T m) func272 noF λ_ h=>g272L0ok m h m
def g273H:Hints:=⟨[J [0,1,2],J [0,1,2,7],J [0,1,2,7,8],J [0,1,2,7,8,14],J' [(0,1)] [0,1,2,7,8],J' [(3,1)] [0,1,2,7,8,32],J' [(0,1)] [0,1,2,7,8],J [0,1,2,7,8,37],J [0,6],J [0,1,2,7,8,41],J [0,6],J [0,1,2,7,8],J [0,1,2,7,8,61],J [0,1,2,7,8,9],J [0,1,2,7,8,9,65],J' [(0,1)] [0,1,2,7,8,9],J [0,1,2,7,8,9,78],J [0,1,2,7,8,9],J [0,1,2,7,8,98],J [0,1,2,7,8,10],J [0,1,2,7,8,10,103],J' [(0,1)] [0,1,2,7,8,10],J [0,1,2,7,8,10,116],J [0,1,2,7,8,10],J [0,6]],[(0,[0,1,2,7,8]),(2,[0,1,2,7,8]),(4,[0,1,2,7,8,9]),(6,[0,1,2,7,8,10])],[(0,[0]),(1,[0,1,2,7,8]),(2,[0,1,2,7,8]),(3,[0,1,2,7,8]),(4,[0,1,2,7,8]),(5,[0,1,2,7,8,9]),(6,[0,1,2,7,8]),(7,[0,1,2,7,8,10])],[0,6],[0],[[false]]⟩
def g273T:FunT:=⟨273,[sN 0,sI,sI],sB,[sN 0,sD,sD],λx=>g273 m x.1 x.2.1 x.2.2.1⟩
noncomputable def g273C:Code:=codeOf f273
noncomputable def g273B0:Code:=ql g273C 0 0
noncomputable def g273B2:Code:=ql g273B0 0 0
noncomputable def g273B4:Code:=ql g273B0 0 1
noncomputable def g273B6:Code:=ql g273B0 0 2
def g273K:FL [g247T m]:=AllF.mem ⟨g247ok m,trivial⟩
def g273L3X:LT:=⟨6,[(0,sN 0),(1,sI),(2,sI),(7,sI),(8,sI),(10,sI)],[(.exit 6,[(0,sN 0),(1,sI),(2,sI),(7,sI),(8,sI)])],λn x=>g273L3 m n x.1 x.2.1 x.2.2.1 x.2.2.2.1 x.2.2.2.2.1 x.2.2.2.2.2.1⟩
def g273L3ok {E} (hE:EO E 133 g273H) (n):LO E g273B6 ((g273L3X m).at n):=lk hE (g273K m) (g273L3X m) n
def g273L2X:LT:=⟨4,[(0,sN 0),(1,sI),(2,sI),(7,sI),(8,sI),(9,sI)],[(.exit 4,[(0,sN 0),(1,sI),(2,sI),(7,sI),(8,sI)])],λn x=>g273L2 m n x.1 x.2.1 x.2.2.1 x.2.2.2.1 x.2.2.2.2.1 x.2.2.2.2.2.1⟩
def g273L2ok {E} (hE:EO E 133 g273H) (n):LO E g273B4 ((g273L2X m).at n):=lk hE (g273K m) (g273L2X m) n
def g273L1X:LT:=⟨2,[(0,sN 0),(1,sI),(2,sI),(7,sI),(8,sI)],[(.exit 2,[(0,sN 0),(1,sI),(2,sI),(7,sI),(8,sI)])],λn x=>g273L1 m n x.1 x.2.1 x.2.2.1 x.2.2.2.1 x.2.2.2.2.1⟩
def g273L1ok {E} (hE:EO E 133 g273H) (n):LO E g273B2 ((g273L1X m).at n):=lk hE (g273K m) (g273L1X m) n
def g273L0X:LT:=⟨0,[(0,sN 0),(1,sI),(2,sI),(7,sI),(8,sI)],[(.ret,[(0,sN 0),(6,sB)]),(.exit 0,[(0,sN 0)])],λn x=>g273L0 m n x.1 x.2.1 x.2.2.1 x.2.2.2.1 x.2.2.2.2.1⟩
def g273L0ok {E} (hE:EO E 133 g273H) (n):LO E g273B0 ((g273L0X m).at n):=
 lok hmix htt hE (g273K m) (L:=[(g273L1X m).at m,(g273L2X m).at m,(g273L3X m).at m]) (g273L0X m) (l:=[(2,g273B2),(4,g273B4),(6,g273B6)]) kR (λ_ _=>⟨qj ⟨yb (g273L1ok m hE m),nb rfl,nb rfl,trivial⟩,qj ⟨nb rfl,yb (g273L2ok m hE m),nb rfl,trivial⟩,qj ⟨nb rfl,nb rfl,yb (g273L3ok m hE m),trivial⟩,trivial⟩) (λn x=>kR) (λ_=>kR) n
def g273ok:FO (g273T m):=f1' g273H (g273T m) func273 (g273K m) λ_ h=>g273L0ok m h m
def g274H:Hints:=⟨[J [0,1,2,3],J [0,1,2],J' [(2,1)] [0,1,9,10],J' [(3,1)] [0,1,9,10,43],J' [(0,1)] [0,1,9,10],J' [(3,1)] [0,1,9,10,59],J' [(0,1)] [0,1,9,10],J [0,1,9,10,64],J [0,1,9,10],J' [(0,1)] [0,1,9,10],J' [(0,1)] [0,1,9,10],J' [(0,1)] [0,8]],[(0,[0,1,9,10]),(2,[0,1,9,10]),(4,[0,1,9,10])],[(0,[0,9]),(1,[0,1,9,10]),(2,[0,1,9,10]),(3,[0,1,9,10]),(4,[0,1,9,10]),(5,[0,1,9,10])],[0,8],[0],[[false]]⟩
def g274T:FunT:=⟨274,[sN 0,sI,sI,sI],sI,[sN 0,sD,sD,sD],λx=>g274 m x.1 x.2.1 x.2.2.1 x.2.2.2.1⟩
noncomputable def g274C:Code:=codeOf f274
noncomputable def g274B0:Code:=ql g274C 0 0
noncomputable def g274B2:Code:=ql g274B0 0 0
noncomputable def g274B4:Code:=ql g274B0 0 1
def g274K:FL [g247T m]:=AllF.mem ⟨g247ok m,trivial⟩
def g274L2X:LT:=⟨4,[(0,sN 0),(1,sI),(9,sI),(10,sI)],[(.exit 4,[(0,sN 0),(1,sI),(9,sI),(10,sI)])],λn x=>g274L2 m n x.1 x.2.1 x.2.2.1 x.2.2.2.1⟩
def g274L2ok {E} (hE:EO E 84 g274H) (n):LO E g274B4 ((g274L2X m).at n):=lk hE (g274K m) (g274L2X m) n
def g274L1X:LT:=⟨2,[(0,sN 0),(1,sI),(9,sI),(10,sI)],[(.exit 2,[(0,sN 0),(1,sI),(9,sI),(10,sI)])],λn x=>g274L1 m n x.1 x.2.1 x.2.2.1 x.2.2.2.1⟩
def g274L1ok {E} (hE:EO E 84 g274H) (n):LO E g274B2 ((g274L1X m).at n):=lk hE (g274K m) (g274L1X m) n
def g274L0X:LT:=⟨0,[(0,sN 0),(1,sI),(9,sI),(10,sI)],[(.exit 0,[(0,sN 0),(9,sI)])],λn x=>g274L0 m n x.1 x.2.1 x.2.2.1 x.2.2.2.1⟩
def g274L0ok {E} (hE:EO E 84 g274H) (n):LO E g274B0 ((g274L0X m).at n):=
 lok hmix htt hE (g274K m) (L:=[(g274L1X m).at m,(g274L2X m).at m]) (g274L0X m) (l:=[(2,g274B2),(4,g274B4)]) kR (λ_ _=>⟨qj ⟨yb (g274L1ok m hE m),nb rfl,trivial⟩,qj ⟨nb rfl,yb (g274L2ok m hE m),trivial⟩,trivial⟩) (λn x=>kR) (λ_=>kR) n
def g274ok:FO (g274T m):=f1' g274H (g274T m) func274 (g274K m) λ_ h=>g274L0ok m h m
def g275H:Hints:=⟨[J [0,1,2,3],J [0,1,2],J' [(2,1)] [0,1,10,11],J' [(3,1)] [0,1,10,11,43],J' [(0,1)] [0,1,10,11],J' [(3,1)] [0,1,10,11,60],J' [(0,1)] [0,1,10,11],J [0,1,10,11,65],J [0,11],J' [(0,1)] [0,8,9],J [0,1,10,11],J' [(0,1)] [0,1,10,11],J' [(0,1)] [0,1,10,11],J' [(3,1)] [0,1,10,11,112],J' [(0,1)] [0,1,10,11],J' [(3,1)] [0,1,10,11,129],J' [(0,1)] [0,1,10,11],J [0,1,10,11,134],J [0,1,10,11],J' [(0,1)] [0,1,10,11],J' [(0,1)] [0,1,10,11],J [0,11],J' [(0,1)] [0,8,9]],[(0,[0,1,10,11]),(2,[0,1,10,11]),(4,[0,1,10,11]),(6,[0,1,10,11]),(8,[0,1,10,11])],[(0,[0,1,10,11]),(1,[0,1,10,11]),(2,[0,1,10,11]),(3,[0,1,10,11]),(4,[0,1,11]),(5,[0,1,10,11]),(6,[0,1,10,11]),(7,[0,1,10,11]),(8,[0,1,10,11]),(9,[0,1,10,11])],[0,8,9],[0],[[false],[false]]⟩
def g275T:FunT:=⟨275,[sN 0,sI,sI,sI],.tup [(.c (.int .i64)),(.c .bool)],[sN 0,sD,sD,sD],λx=>g275 m x.1 x.2.1 x.2.2.1 x.2.2.2.1⟩
noncomputable def g275C:Code:=codeOf f275
noncomputable def g275B0:Code:=ql g275C 0 0
noncomputable def g275B2:Code:=ql g275C 0 1
noncomputable def g275B4:Code:=ql g275C 0 2
noncomputable def g275B6:Code:=ql g275B4 4 0
noncomputable def g275B8:Code:=ql g275B4 4 1
def g275K:FL [g247T m]:=AllF.mem ⟨g247ok m,trivial⟩
def g275L4X:LT:=⟨8,[(0,sN 0),(1,sI),(10,sI),(11,sI)],[(.exit 8,[(0,sN 0),(1,sI),(10,sI),(11,sI)])],λn x=>g275L4 m n x.1 x.2.1 x.2.2.1 x.2.2.2.1⟩
def g275L4ok {E} (hE:EO E 168 g275H) (n):LO E g275B8 ((g275L4X m).at n):=lk hE (g275K m) (g275L4X m) n
def g275L3X:LT:=⟨6,[(0,sN 0),(1,sI),(10,sI),(11,sI)],[(.exit 6,[(0,sN 0),(1,sI),(10,sI),(11,sI)])],λn x=>g275L3 m n x.1 x.2.1 x.2.2.1 x.2.2.2.1⟩
def g275L3ok {E} (hE:EO E 168 g275H) (n):LO E g275B6 ((g275L3X m).at n):=lk hE (g275K m) (g275L3X m) n
def g275L2X:LT:=⟨4,[(0,sN 0),(1,sI),(10,sI),(11,sI)],[(.exit 4,[(0,sN 0),(1,sI),(11,sI)])],λn x=>g275L2 m n x.1 x.2.1 x.2.2.1 x.2.2.2.1⟩
def g275L2ok {E} (hE:EO E 168 g275H) (n):LO E g275B4 ((g275L2X m).at n):=
 lok hmix htt hE (g275K m) (L:=[(g275L3X m).at m,(g275L4X m).at m]) (g275L2X m) (l:=[(6,g275B6),(8,g275B8)]) kR (λ_ _=>⟨qj ⟨yb (g275L3ok m hE m),nb rfl,trivial⟩,qj ⟨nb rfl,yb (g275L4ok m hE m),trivial⟩,trivial⟩) (λn x=>kR) (λ_=>kR) n
def g275L1X:LT:=⟨2,[(0,sN 0),(1,sI),(10,sI),(11,sI)],[(.exit 2,[(0,sN 0),(1,sI),(10,sI),(11,sI)])],λn x=>g275L1 m n x.1 x.2.1 x.2.2.1 x.2.2.2.1⟩
def g275L1ok {E} (hE:EO E 168 g275H) (n):LO E g275B2 ((g275L1X m).at n):=lk hE (g275K m) (g275L1X m) n
def g275L0X:LT:=⟨0,[(0,sN 0),(1,sI),(10,sI),(11,sI)],[(.exit 0,[(0,sN 0),(1,sI),(10,sI),(11,sI)])],λn x=>g275L0 m n x.1 x.2.1 x.2.2.1 x.2.2.2.1⟩
def g275L0ok {E} (hE:EO E 168 g275H) (n):LO E g275B0 ((g275L0X m).at n):=lk hE (g275K m) (g275L0X m) n
def g275ok:FO (g275T m):=
 fok hmix htt (H:=g275H) (g275T m) func275 kR (g275K m) (L:=[(g275L0X m).at m,(g275L1X m).at m,(g275L2X m).at m]) (l:=[(0,g275B0),(2,g275B2),(4,g275B4)]) kR (λ_ hE _ _=>⟨qj ⟨yb (g275L0ok m hE m),nb rfl,nb rfl,trivial⟩,qj ⟨nb rfl,yb (g275L1ok m hE m),nb rfl,trivial⟩,qj ⟨nb rfl,nb rfl,yb (g275L2ok m hE m),trivial⟩,trivial⟩) (λx=>kR)
def g187H:Hints:=⟨[J [0,1,2,3,8],J [0,1,2,3,8,9],J [0,1,2,3,8,9,10],J [0,1,2,3,8,9,10,23],J' [(1,1),(2,1),(3,11)] [0],J [0,1,2,3,8,9,10,29],J' [(1,1),(2,1),(3,11)] [0],J [0,1,2,3,8,9,10,35],J' [(3,11)] [0,1,2,3,8,9,10],J' [(0,1)] [0,1,2,3,8,9,10],J' [(4,1)] [0,1,2,3,8,9,10,11,12],J [0,1,2,3,8,9,10,11,12,50],J' [(3,11)] [0,1,2,3,8,9,10,11],J' [(2,1)] [0,1,2,3,8,9,10,11],J [0,1,2,3,8,9,10,11,12],J' [(1,1),(4,1),(5,1)] [0,1,2,3,8,9,10,11,68],J' [(3,11)] [0,1,2,3,8,9,10,11,72],J' [(2,1)] [0,1,2,3,8,9,10,11,87],J' [(1,1),(3,1),(4,11)] [0,2,3,8,9,13],J' [(0,1)] [0,1,2,3,8,9],J' [(3,1),(4,11),(5,1)] [0,1,2,3,10,14,15],J' [(0,1)] [0,1,2,3,9,10,14],J [0,1,2,3,9,10,14,16,17],J' [(0,1)] [0,1,2,3,9,14,16,17,18],J [0,1,2,3,9,14,16,17,18,113],J' [(0,1),(1,1)] [0,1,2,3,8,9,14],J' [(1,1),(4,11)] [0,2,3,8,9,14],J' [(0,1)] [0,1,2,3,8,9],J' [(0,1),(1,1)] [0,1,2,3,8,9,14],J' [(3,1),(5,11)] [0,1,3,8,9,14],J' [(0,1)] [0,1,2,3,8,9]],[(0,[0,1,2,3,8,9])],[(0,[0]),(1,[0,1,2,3,8,9])],[0],[0],[]⟩
def g187T:FunT:=⟨187,[sN 0,sI,sI,sI],.tup [],[sN 0,sD,sD,sD],λx=>g187 m x.1 x.2.1 x.2.2.1 x.2.2.2.1⟩
noncomputable def g187C:Code:=codeOf f187
noncomputable def g187B0:Code:=ql g187C 0 0
def g187K (m:Nat) (hself:FunOK prog (g187T m)): ∀u∈[g268T m,g269T m,g270T m,g271T m,g272T m,g273T m,g247T m,g274T m,g275T m,g187T m],FunOK prog u:=AllF.mem ⟨g268ok m,g269ok m,g270ok m,g271ok m,g272ok m,g273ok m,g247ok m,g274ok m,g275ok m,hself,trivial⟩
def g187L0X:LT:=⟨0,[(0,sN 0),(1,sI),(2,sI),(3,sI),(8,sB),(9,sB)],[(.ret,[(0,sN 0)])],λn x=>g187L0 (λa0 a1 a2 a3=>g187 m a0 a1 a2 a3) m n x.1 x.2.1 x.2.2.1 x.2.2.2.1 x.2.2.2.2.1 x.2.2.2.2.2.1⟩
def g187L0ok {E:Entry} (hE:EOf prog E 134 g187H.pins) (m:Nat) (hself:FunOK prog (g187T m)) (n:Nat):LoopOK prog E g187B0 ((g187L0X m).at n):=
 lok hmix htt hE (g187K m hself) (L:=[]) (g187L0X m) (l:=[]) kR (λ_ _=>trivial) (λn x=>kR) (λ_=>kR) n
def g187ok: ∀m:Nat,FunOK prog (g187T m)
 |0=>λ_ _ h=>by cases h
 |m+1=>by
  have hself:=g187ok m;exact fok hmix htt (H:=g187H) (g187T (m+1)) func187 kR (g187K m hself) (L:=[(g187L0X m).at m]) (l:=[(0,g187B0)]) kR (λ_ hE _ _=>⟨qj ⟨yb (g187L0ok hE m hself m),trivial⟩,trivial⟩) (λx=>kR)
def g105H:Hints:=⟨[J [0,2],J' [(5,11)] [0]],[],[],[0],[0],[]⟩
def g105T:FunT:=⟨105,[sN 0],.tup [],[sN 0],λx=>g105 m x.1⟩
def g105ok:FO (g105T m):=fk g105H (g105T m) func105 (AllF.mem (l:=[g188T m,g187T m]) ⟨g188ok m,g187ok m,trivial⟩)
def g37H:Hints:=⟨[J [1,2],J [1,2,4],J [1,2,4,19],J' [(1,1)] [2,3],J' [(2,1)] [1,2,5],J [1,2,5,28],J [2,3],J' [(1,2)] [2,5,7],J' [(0,2),(2,1)] [2,5,7,8,9],J [2,5,7,8,9,10],J' [(0,1),(1,1)] [2,5,9,10,43,44,45],J [2,5,9,10,43,44,45,46],J [2,5,9,10,12,43,44,45],J [2,5,9,10,12,13,43,44,45],J [2,5,9,10,12,13,43,44,45,52,53,54],J [2,5,9,10,12,13,43,44,45,52,53,54,55],J [2,5,9,10,12,13,15,43,44,45,52,53,54],J' [(0,1),(2,1)] [2,5,9,10,12,13,43,44,45,52,53,54],J' [(1,1)] [2,5,9,10,12,13,43,44,45,52,53,54],J' [(1,11)] [2,5,9,10,12,13,43,44,45],J' [(2,1),(3,3),(7,1),(10,3)] [2,5,9,10,43,44,45],J' [(1,1)] [2,5,9,10,43,44,45],J' [(1,1)] [2,5,9,10,43,44,45],J' [(0,1)] [2,3]],[(0,[2,5,9,10,43,44,45]),(2,[2,5,9,10,12,13,43,44,45,52,53,54])],[(0,[2,10]),(1,[2,5,9,10,43,44,45]),(2,[2,5,9,10,12,13,43,44,45]),(3,[2,5,9,10,12,13,43,44,45,52,53,54])],[2,3],[],[[true,true,true],[false]]⟩
def g37T:FunT:=⟨37,[h41],.tup [(.agg [(.nm 0 (.int .i64)),(.nm 1 (.int .i64)),(.nm 2 (.int .i64))]),(.c (.int .i64))],[sD],λx=>g37 m x.1.1 x.1.2.1 x.1.2.2.1 x.1.2.2.2.1 x.1.2.2.2.2.1⟩
noncomputable def g37C:Code:=codeOf f37
noncomputable def g37B0:Code:=ql g37C 0 0
noncomputable def g37B2:Code:=ql g37B0 0 0
def g37K:FL [g100T m,g12T m,g101T m,g102T m,g103T m,g104T m,g105T m]:=AllF.mem ⟨g100ok m,g12ok m,g101ok m,g102ok m,g103ok m,g104ok m,g105ok m,trivial⟩
def g37L1X:LT:=⟨2,[(2,sX 0 [iM 1,iM 2,iM 3]),(5,sL),(9,hU3),(10,sX 4 [iM 5,iM 6,iM 7]),(12,sI),(13,sN 8),(43,sN 9),(44,sI),(45,sI),(52,sL),(53,sI),(54,sI)],[(.exit 2,[(2,sX 0 [iM 1,iM 2,iM 3]),(5,sL),(9,hU3),(10,sX 4 [iM 5,iM 6,iM 7]),(12,sI),(13,sN 8),(43,sN 9),(44,sI),(45,sI)])],λn x=>g37L1 m n x.1.1 x.1.2.1 x.1.2.2.1 x.2.1 x.2.2.1 x.2.2.2.1.1 x.2.2.2.1.2.1 x.2.2.2.1.2.2.1 x.2.2.2.2.1 x.2.2.2.2.2.1 x.2.2.2.2.2.2.1 x.2.2.2.2.2.2.2.1 x.2.2.2.2.2.2.2.2.1 x.2.2.2.2.2.2.2.2.2.1 x.2.2.2.2.2.2.2.2.2.2.1 x.2.2.2.2.2.2.2.2.2.2.2.1⟩
def g37L1ok {E} (hE:EO E 91 g37H) (n):LO E g37B2 ((g37L1X m).at n):=lk hE (g37K m) (g37L1X m) n
def g37L0X:LT:=⟨0,[(2,sX 0 [iM 1,iM 2,iM 3]),(5,sL),(9,hU3),(10,sX 4 [iM 5,iM 6,iM 7]),(43,sN 8),(44,sI),(45,sI)],[(.exit 0,[(2,sX 0 [iM 1,iM 2,iM 3]),(10,sX 4 [iM 5,iM 6,iM 7])])],λn x=>g37L0 m n x.1.1 x.1.2.1 x.1.2.2.1 x.2.1 x.2.2.1 x.2.2.2.1.1 x.2.2.2.1.2.1 x.2.2.2.1.2.2.1 x.2.2.2.2.1 x.2.2.2.2.2.1 x.2.2.2.2.2.2.1⟩
def g37L0ok {E} (hE:EO E 91 g37H) (n):LO E g37B0 ((g37L0X m).at n):=
 lok hmix htt hE (g37K m) (L:=[(g37L1X m).at m]) (g37L0X m) (l:=[(2,g37B2)]) kR (λ_ _=>⟨qj ⟨yb (g37L1ok m hE m),trivial⟩,trivial⟩) (λn x=>kR) (λ_=>kR) n
def g37ok:FO (g37T m):=f1' g37H (g37T m) func37 (g37K m) λ_ h=>g37L0ok m h m
def g6H:Hints:=⟨[J [],J [1],J' [(2,1)] [1,2,3],J' [(2,1)] [2,3,4,5],J' [(0,1),(2,1),(3,1),(6,1),(12,1),(17,1)] [0]],[],[],[0],[],[[false]]⟩
abbrev g6A:List Sh:=[]
abbrev g6S:Sh:= sB
abbrev g6U:List Sh:=[]
def g6R:X5 g6A->Option (g6S.Val×X5 g6U):=λx=>g6 m
def g6T:FunT:=⟨6,g6A,g6S,g6U,g6R m⟩
def g6ok:FO (g6T m):=fk g6H (g6T m) func6 (AllF.mem (l:=[g37T m,g12T m]) ⟨g37ok m,g12ok m,trivial⟩)
def g8H:Hints:=⟨[J [0,1],J' [(0,1),(2,1)] [4]],[],[],[4],[],[[false]]⟩
def g8T:FunT:=⟨8,[sI,sI],sI,[sD,sD],λx=>g8 m x.1 x.2.1⟩
def g8ok:FO (g8T m):=fk g8H (g8T m) func8 noF
def g215H:Hints:=⟨[J [0],J [0,3],J' [(2,1)] [0,3,17],J' [(0,1)] [0,3],J [0,3,4],J [0,3,4,5],J [0,3,4,5,22],J' [(0,1)] [0,3,4,5],J' [(0,1)] [0,3,4,5],J' [(0,1)] [2]],[(0,[0,3]),(2,[0,3,4,5])],[(0,[0,3]),(1,[0,3]),(2,[4]),(3,[0,3,4,5])],[2],[],[[true]]⟩
def g215T:FunT:=⟨215,[h53],hY3,[sD],λx=>g215 m x.1⟩
noncomputable def g215C:Code:=codeOf f215
noncomputable def g215B0:Code:=ql g215C 0 0
noncomputable def g215B2:Code:=ql g215C 0 1
def g215L1X:LT:=⟨2,[(0,h53),(3,sI),(4,hY3),(5,sI)],[(.exit 2,[(4,hY3)])],λn x=>g215L1 m n x.1 x.2.1 x.2.2.1 x.2.2.2.1⟩
def g215L1ok {E} (hE:EO E 33 g215H) (n):LO E g215B2 ((g215L1X m).at n):=lk hE noF (g215L1X m) n
def g215L0X:LT:=⟨0,[(0,h53),(3,sI)],[(.exit 0,[(0,h53),(3,sI)])],λn x=>g215L0 m n x.1 x.2.1⟩
def g215L0ok {E} (hE:EO E 33 g215H) (n):LO E g215B0 ((g215L0X m).at n):=lk hE noF (g215L0X m) n
def g215ok:FO (g215T m):=
 fok hmix htt (H:=g215H) (g215T m) func215 kR noF (L:=[(g215L0X m).at m,(g215L1X m).at m]) (l:=[(0,g215B0),(2,g215B2)]) kR (λ_ hE _ _=>⟨qj ⟨yb (g215L0ok m hE m),nb rfl,trivial⟩,qj ⟨nb rfl,yb (g215L1ok m hE m),trivial⟩,trivial⟩) (λx=>kR)
def g210H:Hints:=⟨[J [0,1,4],J' [(0,1)] [0,1,4],J' [(0,1),(1,1),(6,1)] [4]],[],[],[4],[],[[false,false]]⟩
def g210T:FunT:=⟨210,[sB,h53],hV3,[sD,sD],λx=>g210 m x.1 x.2.1⟩
def g210ok:FO (g210T m):=fk g210H (g210T m) func210 (AllF.mem (l:=[g215T m]) ⟨g215ok m,trivial⟩)
def g134H:Hints:=⟨[J [0,2],J [0,2,3],J [0,2,3,7],J [0,2,3],J' [(0,1)] [2]],[],[],[2],[],[[false,false]]⟩
def g134T:FunT:=⟨134,[sI],hV3,[sD],λx=>g134 m x.1⟩
def g134ok:FO (g134T m):=fk g134H (g134T m) func134 (AllF.mem (l:=[g210T m]) ⟨g210ok m,trivial⟩)
def g206H:Hints:=⟨[J [1,2],J [2]],[],[],[2],[],[[false,false]]⟩
def g206T:FunT:=⟨206,[hV3],hV3,[sD],λx=>g206 m x.1.1 x.1.2.1⟩
def g206ok:FO (g206T m):=fk g206H (g206T m) func206 (AllF.mem (l:=[g210T m]) ⟨g210ok m,trivial⟩)
def g138H:Hints:=⟨[J [0],J [0]],[],[],[0],[],[[false,false,true,false]]⟩
def g138T:FunT:=⟨138,[],h52,[],λx=>g138 m⟩
def g138ok:FO (g138T m):=fk g138H (g138T m) func138 noF
def g278H:Hints:=⟨[J [0],J [0,4],J [2],J [2]],[],[],[2],[],[[false]]⟩
def g278T:FunT:=⟨278,[hF4],sI,[sD],λx=>g278 m x.1⟩
def g278ok:FO (g278T m):=fk g278H (g278T m) func278 noF
def g207H:Hints:=⟨[J [1],J [3],J [3,4],J [3,4,11],J' [(0,1)] [3,4],J [3,4,18],J' [(2,1)] [2],J [2]],[(0,[3,4])],[(0,[]),(1,[3,4])],[2],[],[[false]]⟩
def g207T:FunT:=⟨207,[hV3],sI,[sD],λx=>g207 m x.1.1 x.1.2.1⟩
noncomputable def g207C:Code:=codeOf f207
noncomputable def g207B0:Code:=ql g207C 0 0
def g207K:FL [g215T m,g278T m]:=AllF.mem ⟨g215ok m,g278ok m,trivial⟩
def g207L0X:LT:=⟨0,[(3,hY3),(4,sI)],[(.ret,[(2,sI)]),(.exit 0,[])],λn x=>g207L0 m n x.1 x.2.1⟩
def g207L0ok {E} (hE:EO E 27 g207H) (n):LO E g207B0 ((g207L0X m).at n):=lk hE (g207K m) (g207L0X m) n
def g207ok:FO (g207T m):=f1' g207H (g207T m) func207 (g207K m) λ_ h=>g207L0ok m h m
def g136H:Hints:=⟨[J [1,2],J [2]],[],[],[2],[],[[false,false]]⟩
def g136T:FunT:=⟨136,[hV3],hV3,[sD],λx=>g136 m x.1.1 x.1.2.1⟩
def g136ok:FO (g136T m):=fk g136H (g136T m) func136 (AllF.mem (l:=[g210T m]) ⟨g210ok m,trivial⟩)
def g219H:Hints:=⟨[J [0,1],J [0,1,5],J [0,1,5,6],J [0,1,5,6,7],J [0,1,5,6,7,14],J' [(0,1)] [0,1,5,6,7],J' [(0,1)] [0,1,5,6,7],J' [(0,1)] [0,1,5,6,7],J' [(0,1)] [0,1,5,6,7],J' [(0,1),(1,1)] [4]],[(0,[0,1,5,6,7])],[(0,[5,6]),(1,[0,1,5,6,7])],[4],[],[[true]]⟩
def g219T:FunT:=⟨219,[h53,sI],hY3,[sD,sD],λx=>g219 m x.1 x.2.1⟩
noncomputable def g219C:Code:=codeOf f219
noncomputable def g219B0:Code:=ql g219C 0 0
def g219L0X:LT:=⟨0,[(0,h53),(1,sI),(5,hY3),(6,sU),(7,sI)],[(.exit 0,[(5,hY3),(6,sU)])],λn x=>g219L0 m n x.1 x.2.1 x.2.2.1 x.2.2.2.1 x.2.2.2.2.1⟩
def g219L0ok {E} (hE:EO E 39 g219H) (n):LO E g219B0 ((g219L0X m).at n):=lk hE noF (g219L0X m) n
def g219ok:FO (g219T m):=f1' g219H (g219T m) func219 noF λ_ h=>g219L0ok m h m
def g220H:Hints:=⟨[J [0,1],J [0,1,6],J [0,1,6,7],J' [(4,1)] [0,1,6,7,21],J' [(0,1)] [0,1,6,7],J' [(0,1),(1,1)] [0,1,6,7],J [0,1,6,8],J [0,1,6,8,9],J [0,1,6,8,9,10],J [0,1,6,8,9,10,39],J' [(0,1)] [0,1,6,8,9,10],J [0,1,6,8,9,10,11],J [0,1,6,8,9,10,11,51],J' [(0,1)] [0,1,6,8,9,10,11],J' [(4,1)] [0,1,6,8,9,10,11,75],J [0,1,6,8,9,10,11],J' [(0,1),(1,1)] [0,1,6,8,9,10],J' [(0,1),(1,1)] [4,5]],[(0,[0,1,6,7]),(2,[0,1,6,8,9,10])],[(0,[0,1,6]),(1,[0,1,6,7]),(2,[6,8]),(3,[0,1,6,8,9,10])],[4,5],[],[[true],[false]]⟩
def g220T:FunT:=⟨220,[h53,sI],.tup [(.c (.nm 0 (.int .u32))),(.c .bool)],[sD,sD],λx=>g220 m x.1 x.2.1⟩
noncomputable def g220C:Code:=codeOf f220
noncomputable def g220B0:Code:=ql g220C 0 0
noncomputable def g220B2:Code:=ql g220C 0 1
def g220L1X:LT:=⟨2,[(0,h53),(1,sI),(6,sB),(8,hY3),(9,sI),(10,sI)],[(.exit 2,[(6,sB),(8,hY3)])],λn x=>g220L1 m n x.1 x.2.1 x.2.2.1 x.2.2.2.1 x.2.2.2.2.1 x.2.2.2.2.2.1⟩
def g220L1ok {E} (hE:EO E 85 g220H) (n):LO E g220B2 ((g220L1X m).at n):=lk hE noF (g220L1X m) n
def g220L0X:LT:=⟨0,[(0,h53),(1,sI),(6,sB),(7,sI)],[(.exit 0,[(0,h53),(1,sI),(6,sB)])],λn x=>g220L0 m n x.1 x.2.1 x.2.2.1 x.2.2.2.1⟩
def g220L0ok {E} (hE:EO E 85 g220H) (n):LO E g220B0 ((g220L0X m).at n):=lk hE noF (g220L0X m) n
def g220ok:FO (g220T m):=
 fok hmix htt (H:=g220H) (g220T m) func220 kR noF (L:=[(g220L0X m).at m,(g220L1X m).at m]) (l:=[(0,g220B0),(2,g220B2)]) kR (λ_ hE _ _=>⟨qj ⟨yb (g220L0ok m hE m),nb rfl,trivial⟩,qj ⟨nb rfl,yb (g220L1ok m hE m),trivial⟩,trivial⟩) (λx=>kR)
def g291H:Hints:=⟨[J [1,2],J [2]],[],[],[2],[],[[false,false]]⟩
def g291T:FunT:=⟨291,[hV3],hV3,[sD],λx=>g291 m x.1.1 x.1.2.1⟩
def g291ok:FO (g291T m):=fk g291H (g291T m) func291 (AllF.mem (l:=[g210T m]) ⟨g210ok m,trivial⟩)
def g216H:Hints:=⟨[J [0,1],J [0,1,5],J [0,1,5,6],J [0,1,5,6,7],J [0,1,5,6,7,14],J' [(0,1)] [0,1,5,6,7],J [0,1,5,6,7,20],J' [(0,1)] [0,1,5,6,7],J [0,1,5,6,7,31],J' [(0,1)] [0,1,5,6,7],J' [(0,1)] [0,1,5,6,7],J' [(0,1)] [0,1,5,6,7],J' [(0,1),(1,1)] [4]],[(0,[0,1,5,6,7])],[(0,[5,6]),(1,[0,1,5,6,7])],[4],[],[[true]]⟩
def g216T:FunT:=⟨216,[h53,h53],hY3,[sD,sD],λx=>g216 m x.1 x.2.1⟩
noncomputable def g216C:Code:=codeOf f216
noncomputable def g216B0:Code:=ql g216C 0 0
def g216L0X:LT:=⟨0,[(0,h53),(1,h53),(5,hY3),(6,sU),(7,sI)],[(.exit 0,[(5,hY3),(6,sU)])],λn x=>g216L0 m n x.1 x.2.1 x.2.2.1 x.2.2.2.1 x.2.2.2.2.1⟩
def g216L0ok {E} (hE:EO E 51 g216H) (n):LO E g216B0 ((g216L0X m).at n):=lk hE noF (g216L0X m) n
def g216ok:FO (g216T m):=f1' g216H (g216T m) func216 noF λ_ h=>g216L0ok m h m
def g217H:Hints:=⟨[J [0,1],J [0,1,10],J' [(0,1),(2,1)] [15],J [4],J [4],J [0,1,5],J [0,1,5,20],J' [(0,1)] [0,1,5],J [0,1,5,31],J' [(0,1),(4,1)] [40],J [4],J [4],J [4]],[(0,[0,1,5])],[(0,[]),(1,[0,1,5])],[4],[],[[false]]⟩
def g217T:FunT:=⟨217,[h53,h53],sI,[sD,sD],λx=>g217 m x.1 x.2.1⟩
noncomputable def g217C:Code:=codeOf f217
noncomputable def g217B0:Code:=ql g217C 0 0
def g217L0X:LT:=⟨0,[(0,h53),(1,h53),(5,sI)],[(.ret,[(4,sI)]),(.exit 0,[])],λn x=>g217L0 m n x.1 x.2.1 x.2.2.1⟩
def g217L0ok {E} (hE:EO E 41 g217H) (n):LO E g217B0 ((g217L0X m).at n):=lk hE noF (g217L0X m) n
def g217ok:FO (g217T m):=f1' g217H (g217T m) func217 noF λ_ h=>g217L0ok m h m
def g218H:Hints:=⟨[J [0,1],J [0,1,5],J [0,1,5,6],J [0,1,5,6,7],J [0,1,5,6,7,12],J' [(0,1)] [0,1,5,6,7],J' [(5,1)] [0,1,5,7,8],J [0,1,5,7,8,25],J' [(0,1)] [0,1,5,7,8],J' [(0,1)] [0,1,5,7,8],J' [(0,1)] [0,1,5,6,7],J' [(0,1)] [4]],[(0,[0,1,5,6,7])],[(0,[5]),(1,[0,1,5,6,7])],[4],[],[[true]]⟩
def g218T:FunT:=⟨218,[h53,h53],hY3,[sD,sD],λx=>g218 m x.1 x.2.1⟩
noncomputable def g218C:Code:=codeOf f218
noncomputable def g218B0:Code:=ql g218C 0 0
def g218L0X:LT:=⟨0,[(0,h53),(1,h53),(5,hY3),(6,sU),(7,sI)],[(.exit 0,[(5,hY3)])],λn x=>g218L0 m n x.1 x.2.1 x.2.2.1 x.2.2.2.1 x.2.2.2.2.1⟩
def g218L0ok {E} (hE:EO E 41 g218H) (n):LO E g218B0 ((g218L0X m).at n):=lk hE noF (g218L0X m) n
def g218ok:FO (g218T m):=f1' g218H (g218T m) func218 noF λ_ h=>g218L0ok m h m
def g142H:Hints:=⟨[J [2,3,4],J [2,3,4,5,6],J [2,3,4,5,6,17],J' [(2,1),(3,1)] [4],J [2,3,4,5,6,27],J' [(2,1),(3,1)] [4],J' [(2,1),(3,1)] [4]],[],[],[4],[],[[false,false]]⟩
def g142T:FunT:=⟨142,[hV3,hV3],hV3,[sD,sD],λx=>g142 m x.1.1 x.1.2.1 x.2.1.1 x.2.1.2.1⟩
def g142ok:FO (g142T m):=fk g142H (g142T m) func142 (AllF.mem (l:=[g215T m,g216T m,g210T m,g217T m,g218T m]) ⟨g215ok m,g216ok m,g210ok m,g217ok m,g218ok m,trivial⟩)
def g221H:Hints:=⟨[J [2,3,4],J [4]],[],[],[4],[],[[false,false]]⟩
def g221T:FunT:=⟨221,[hV3,hV3],hV3,[sD,sD],λx=>g221 m x.1.1 x.1.2.1 x.2.1.1 x.2.1.2.1⟩
def g221ok:FO (g221T m):=fk g221H (g221T m) func221 (AllF.mem (l:=[g291T m,g142T m]) ⟨g291ok m,g142ok m,trivial⟩)
def g143H:Hints:=⟨[J [1,2,4],J [1,2,4],J [1,2,4,11],J' [(4,1)] [4],J' [(2,1),(5,1)] [2,4,5,6],J' [(2,1)] [2,4,6,7],J' [(2,1),(3,1)] [4,7,35],J [4,7],J [4]],[],[],[4],[],[[false,false]]⟩
def g143T:FunT:=⟨143,[hV3,sI],hV3,[sD,sD],λx=>g143 m x.1.1 x.1.2.1 x.2.1⟩
def g143ok:FO (g143T m):=fk g143H (g143T m) func143 (AllF.mem (l:=[g206T m,g219T m,g210T m,g220T m,g134T m,g221T m]) ⟨g206ok m,g219ok m,g210ok m,g220ok m,g134ok m,g221ok m,trivial⟩)
def g208H:Hints:=⟨[J [1,2,4],J [1,2,4,6],J [1,2,4],J' [(0,1)] [1,2,4],J' [(1,1)] [4]],[(0,[1,2,4])],[(0,[1,2,4]),(1,[1,2,4])],[4],[],[[false,false]]⟩
def g208T:FunT:=⟨208,[hV3,sI],hV3,[sD,sD],λx=>g208 m x.1.1 x.1.2.1 x.2.1⟩
noncomputable def g208C:Code:=codeOf f208
noncomputable def g208B0:Code:=ql g208C 0 0
def g208K:FL [g143T m]:=AllF.mem ⟨g143ok m,trivial⟩
def g208L0X:LT:=⟨0,[(1,sI),(2,sX 0 [.bool,.imm (.int .u32)]),(4,sX 1 [.bool,.nm 2 (.int .u32)])],[(.exit 0,[(1,sI),(2,sX 0 [.bool,.imm (.int .u32)]),(4,sX 1 [.bool,.nm 2 (.int .u32)])])],λn x=>g208L0 m n x.1 x.2.1.1 x.2.1.2.1 x.2.2.1.1 x.2.2.1.2.1⟩
def g208L0ok {E} (hE:EO E 15 g208H) (n):LO E g208B0 ((g208L0X m).at n):=lk hE (g208K m) (g208L0X m) n
def g208ok:FO (g208T m):=f1' g208H (g208T m) func208 (g208K m) λ_ h=>g208L0ok m h m
end
end Go.Vs.F
