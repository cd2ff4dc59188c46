import Derived.Test.YtoeiaipcgnjfcaaGreatDoorFn
import Derived.Test.YtoeiaipcgnjfcaaGreatDoorVc
import Derived.Test.YtoeiaipcgnjfcaaGreatDoorVi
import Derived.Test.YtoeiaipcgnjfcaaGreatDoorProg
import Derived.KernelRfl
set_option linter.unusedVariables false
set_option linter.unusedSimpArgs false
set_option linter.unusedSectionVars false
set_option linter.defProp false
set_option maxRecDepth 100000
namespace Go.Vs.F
open Go.Proofs
def kR{p:Prop}(h:p:=by kernel_rfl):p:=h
abbrev sD:Sh:=.a (.c .dead)
abbrev sI:Sh:=.a (.c (.int .i64))
abbrev sL:Sh:=.a (.c (.imm (.int .i64)))
abbrev sB:Sh:=.a (.c .bool)
abbrev sU:Sh:=.a (.c (.int .u64))
open Tryz
def tt:TT:=[none,none,none,some ⟨(.int .i64),[.int .i64]⟩,some ⟨.bool,[.bool]⟩,some ⟨(.int .u8),[.int .u8]⟩,none,none,none,some ⟨.string,[.other]⟩,none,none,none,none,none,none,none,none,none,none,none,none,some ⟨(.slice 3 (.int .i64)),[.nil (.int .i64)]⟩,none,some ⟨(.slice 60 (.int .u64)),[.nil (.int .u64)]⟩,none,some ⟨(.struct [(0,1),(1,1),(2,1),(3,1),(4,1)]),[.int .i64,.int .i64,.nil (.int .i64),.nil (.int .i64),.nil (.int .u64)]⟩,none,none,none,none,none,none,none,none,none,none,none,none,none,none,none,none,none,none,some ⟨(.slice 59 (.int .u64)),[.nil (.int .u64)]⟩,none,none,none,none,none,none,none,some ⟨(.struct [(0,1),(1,1),(2,1),(3,1)]),[.nil (.int .i64),.nil (.int .i64),.nil (.int .i64),.nil (.int .u64)]⟩,none,none,none,none,none,some ⟨(.int .u64),[.int .u64]⟩,some ⟨(.int .u64),[.int .u64]⟩,none,none,none,none,none,none,none,none,none,none,none,none,none,none,none,none,none,some ⟨(.slice 81 (.pr (.int .i64) (.pr (.int .i64) (.int .u64)))),[.nil (.pr (.int .i64) (.pr (.int .i64) (.int .u64)))]⟩,none,none,some ⟨(.struct [(0,1),(1,1),(2,1)]),[.int .i64,.int .i64,.int .u64]⟩,none,some ⟨(.int .u64),[.int .u64]⟩,none,some ⟨(.slice 186 (.int .u32)),[.nil (.int .u32)]⟩,none,some ⟨(.struct [(0,1),(1,1)]),[.bool,.nil (.int .u32)]⟩,none,some ⟨(.struct [(0,1),(1,2),(3,1)]),[.bool,.bool,.nil (.int .u32),.int .i64]⟩,none,none,none,none,none,none,none,none,none,none,none,none,none,none,some ⟨(.slice 22 (.sl false (.int .i64))),[.nil (.sl false (.int .i64))]⟩,some ⟨(.slice 4 .bool),[.nil .bool]⟩,none,none,none,none,none,none,none,none,none,none,some ⟨(.slice 89 (.pr .bool (.pr (.pr .bool (.sl false (.int .u32))) (.int .i64)))),[.nil (.pr .bool (.pr (.pr .bool (.sl false (.int .u32))) (.int .i64)))]⟩,none,none,none,none,none,none,none,none,none,none,none,none,none,none,some ⟨(.struct [(0,1)]),[.nil (.sl false (.int .i64))]⟩,some ⟨(.mslice 206 (.pr .bool (.pr (.pr .bool (.sl false (.int .u32))) (.int .i64)))),[.nil .bool]⟩,none,some ⟨(.struct [(0,1),(1,1),(2,1)]),[.int .i64,.nil (.pr .bool (.pr .bool .bool)),.nil .bool]⟩,none,none,none,none,none,none,none,none,none,none,none,none,none,none,none,none,none,none,none,none,none,none,none,none,none,none,none,none,none,none,none,none,none,none,none,none,none,none,none,none,none,none,none,none,none,none,none,none,none,none,none,some ⟨(.int .u32),[.int .u32]⟩,none,none,none,none,none,none,none,none,none,none,none,none,none,none,none,none,none,none,none,some ⟨(.map 89 (.pr .bool (.pr (.pr .bool (.sl false (.int .u32))) (.int .i64)))),[.other]⟩,none,none,some ⟨(.slice 24 (.sl false (.int .u64))),[.nil (.sl false (.int .u64))]⟩,none,some ⟨(.struct [(0,1),(1,1),(2,1),(3,1)]),[.nil (.sl false (.int .i64)),.nil (.sl false (.int .u64)),.nil .bool,.nil (.sl false (.int .i64))]⟩,none,none,none,none,none,none,some ⟨(.slice 116 (.sl false (.pr .bool (.pr (.pr .bool (.sl false (.int .u32))) (.int .i64))))),[.nil (.sl false (.pr .bool (.pr (.pr .bool (.sl false (.int .u32))) (.int .i64))))]⟩,none,none,none,none,none,none,none,none,none,none,none,none,none,none,none,none,none,none,none,none,none,none,none,none,none,none,none,none,none,none,none,none,none,none,none,none,none,none,none,none,none,none,none,none,none,none,none,some ⟨(.slice 105 (.sl false .bool)),[.nil (.sl false .bool)]⟩,none,none,none,none,none,none,none,none,none,none,some ⟨(.struct [(0,1),(1,2),(3,1),(4,1)]),[.bool,.bool,.nil (.int .u32),.int .i64,.bool]⟩,none,none,none,none,none,none,none,none,none,none,none,none,none,none,none,none,none,none,none,none,none,none,none,none,none,none,none,none,none,none,none,none,none,none,none,none,none,none,none,none,none,none,none,none,none,none,none,none,none,none,none,none,none,none,none,some ⟨(.struct [(0,1),(1,1)]),[.nil (.int .i64),.nil (.int .i64)]⟩,none,none,none,none,none,none,none,none,none,none,none,none,none,none,none,none,none,none,none,none,none,none,none,none,none,none,none,none,none,none,none,none,none,none,none,none,some ⟨(.tab 0 .u8 [0,1,28,2,29,14,24,3,30,22,20,15,25,17,4,8,31,27,13,23,21,19,16,7,26,12,18,6,11,5,10,9]),[.other,.other,.other,.other,.other,.other,.other,.other,.other,.other,.other,.other,.other,.other,.other,.other,.other,.other,.other,.other,.other,.other,.other,.other,.other,.other,.other,.other,.other,.other,.other,.other]⟩]
def rI:bm Tryz.prog tt:=qlo kR
def hH:Tryz.prog.follows .mixedOrders=true:=kR
noncomputable section
@[reducible]def cC(R:Type):bF->Type
 |.dead=>R
 |.bconst _=>R
 |.nilp=>R
 |.fn _=>R
 |.nl _=>R
 |.ref _ _ _=>R
 |.drw _ _=>R
 |.bool=>Bool->R
 |.int _=>Int->R
 |.imm t=>List (aM t)->R
 |.nm _ t=>List (aM t)->R
 |.dp _ t=>List (List (aM t))->R
 |s=>s.Val->R
def uC{R:Type}:(s:bF)->cC R s->s.Val->R
 |.dead,f,_=>f
 |.bconst _,f,_=>f
 |.nilp,f,_=>f
 |.fn _,f,_=>f
 |.nl _,f,_=>f
 |.ref _ _ _,f,_=>f
 |.drw _ _,f,_=>f
 |.bool,f,x=>f x
 |.int _,f,x=>f x
 |.imm _,f,x=>f x
 |.nm _ _,f,x=>f x
 |.dp _ _,f,x=>f x
 |.lit,f,x=>f x
 |.refw _ _ _,f,x=>f x
 |.ptr _ _ _ _,f,x=>f x
 |.iptr _ _ _,f,x=>f x
 |.drr _ _,f,x=>f x
 |.wn _ _,f,x=>f x
 |.dq _ _,f,x=>f x
 |.fd _ _,f,x=>f x
 |.mm _ _,f,x=>f x
@[reducible]def cL(R:Type):List bF->Type
 |[]=>R
 |s::r=>cC (cL R r) s
def uL{R:Type}:(l:List bF)->cL R l->di bF.Val l->R
 |[],f,_=>f
 |s::r,f,x=>uL r (uC s f x.1) x.2
@[reducible]def cS(R:Type):Sh->Type
 |.a (.c s)=>cC R s
 |.a (.bx _ l)=>cL R l
 |.a (.agg l)=>cL R l
 |s=>s.Val->R
def uS{R:Type}:(s:Sh)->cS R s->s.Val->R
 |.a (.c s),f,x=>uC s f x
 |.a (.bx _ l),f,x=>uL l f x
 |.a (.agg l),f,x=>uL l f x
 |.tup _,f,x=>f x
 |.altA _ _,f,x=>f x
 |.altT _ _,f,x=>f x
@[reducible]def cT(R:Type):List Sh->Type
 |[]=>R
 |s::r=>cS (cT R r) s
def un{R:Type}:{l:List Sh}->cT R l->di Sh.Val l->R
 |[],f,_=>f
 |s::_,f,x=>un (uS s f x.1) x.2
@[reducible]def cQ(R:Type):SS->Type
 |[]=>R
 |s::r=>cS (cQ R r) s.2
def uq{R:Type}:{l:SS}->cQ R l->SS.Val l->R
 |[],f,_=>f
 |s::_,f,x=>uq (uS s.2 f x.1) x.2
def CA:Op->List Operand
 | .call c=>(match c.callee with
   | .value f=>[f]
   | .invoke r _=>[r]
   | .builtin _=>[])++c.args.toList
 | .slice _ x l h m=>x::(l.toList++(h.toList++m.toList))
 | .makeFunc _ a b=>a.toList++b.toList
 |o=>o.operands.toList
def Cw:Operand->Nat
 | .tmp t=>Nat.pow 2 t
 |_=>0
def Cz:List Operand->Nat
 |[]=>0
 |x::r=>Nat.lor (Cw x) (Cz r)
def Kg (a:Array Oper) (o:Oper):Nat:=Nat.lor (Cz (CA o.op)) (match o.guard with
 |some (j,_)=>(match j4 a j with
  |some d=>Nat.pow 2 d
  |none=>0)
 |none=>0)
def Cv (o:Oper) (l:Nat):Nat:=match o.dst with
 |some d=>Nat.xor l (Nat.land l (Nat.pow 2 d))
 |none=>l
def uG (a:Array Oper):List Oper->Nat->Nat
 |[],l=>l
 |o::r,l=>Nat.lor (Kg a o) (Cv o (uG a r l))
def rp (x:Nat):List Operand->Nat
 |[]=>0
 | .tmp t::r=>cond (Nat.beq t x) (rp x r+1) (rp x r)
 |_::r=>rp x r
def CB (x:Nat):List Oper->Nat
 |[]=>0
 |o::r=>rp x (CA o.op)+CB x r
def Kc (m i:Nat):Bool:=Nat.beq (Nat.land (Nat.shiftRight m i) 1) 1
def Kh (a:Array Oper) (p:List Nat) (x:Nat) (d:Option Nat) (l:Nat):Bool:= !Kc l x&&(!p.any (Nat.beq x)&&((match d with
 |some y=>Nat.beq y x
 |none=>false)||Nat.beq (CB x a.toList) 1))
def rq (a:Array Oper) (p:List Nat) (l:Nat):List Oper->Nat->List (Nat×Nat)
 |[],_=>[]
 |o::r,i=>match o.op with
  | .move (.tmp x)=>cond (Kh a p x o.dst (Cv o (uG a r l))) ((i,1)::rq a p l r (i+1)) (rq a p l r (i+1))
  |_=>rq a p l r (i+1)
def gl (R:Nat):Code->Nat->List (Nat×Nat)->Nat
 | .ret,_,_=>R
 | .region _ a _,o,_=>uG a a.toList o
 | .seq a b,o,e=>gl R a (gl R b o e) e
 | .cond c a b,o,e=>Nat.lor (Cw c) (Nat.lor (gl R a o e) (gl R b o e))
 | .scope c,o,e=>gl R c o e
 | .block i c,o,e=>gl R c o ((i,o)::e)
 | .loop c,_,e=>gl R c 0 e
 | .exit i,_,e=>mD e i
 |_,o,_=>o
def mz:Nat->Nat->Nat->List Nat
 |0,_,_=>[]
 |f+1,i,m=>cond (Nat.beq m 0) [] (cond (Nat.beq (Nat.mod m 2) 1) (i::mz f (i+1) (Nat.div m 2)) (mz f (i+1) (Nat.div m 2)))
def uI:List Nat->Nat->List (Nat×Nat)
 |r::i::m::t,k=>cond (Nat.beq r k) ((i,m)::uI t k) (uI t k)
 |_,_=>[]
def jm (R:Nat) (p x:List Nat):Code->Nat->List (Nat×Nat)->Nat->List (Nat×Nat×nU)->List (Nat×Nat×nU)
 | .region i a _,o,_,_,z=>(0,i,⟨uI x i++rq a p o a.toList 0,mz 999 0 o⟩)::z
 | .seq a b,o,e,k,z=>jm R p x a (gl R b o e) e k (jm R p x b o e k z)
 | .cond _ a b,o,e,k,z=>jm R p x a o e k (jm R p x b o e k z)
 | .scope c,o,e,k,z=>jm R p x c o e k z
 | .block i c,o,e,_,z=>(2,i,⟨[],mz 999 0 o⟩)::jm R p x c o ((i,o)::e) i z
 | .loop c,_,e,k,z=>(1,k,⟨[],mz 999 0 (gl R c 0 e)⟩)::jm R p x c (gl R c 0 e) e k z
 |_,_,_,_,z=>z
def CF (i:Nat):List (Nat×Nat×nU)->nU
 |[]=>⟨[],[]⟩
 |(a,j,h)::r=>cond (Nat.beq a 0&&Nat.beq j i) h (CF i r)
def Cx (z:List (Nat×Nat×nU)):Nat->Nat->List nU
 |0,_=>[]
 |k+1,i=>CF i z::Cx z k (i+1)
def rl (t:Nat):List (Nat×Nat×nU)->List (Nat×List Nat)
 |[]=>[]
 |(a,i,h)::r=>cond (Nat.beq a t) ((i,h.keep)::rl t r) (rl t r)
def CD:Sh->Bool
 | .a (.bx _ _)=>true
 | .a (.c (.nm _ _))=>true
 | .a (.c (.wn _ _))=>true
 | .a (.c (.dp _ _))=>true
 |_=>false
def rm:List Sh->Nat->List Nat
 |[],_=>[]
 |s::r,i=>cond (CD s) (i::rm r (i+1)) (rm r (i+1))
def uE:List ResultVar->Nat->Nat
 |[],m=>m
 | .tmp t::r,m=>uE r (Nat.lor (Nat.pow 2 t) m)
 | .cell t _::r,m=>uE r (Nat.lor (Nat.pow 2 t) m)
def Cy:List Nat->Nat
 |[]=>0
 |x::r=>Nat.lor (Nat.pow 2 x) (Cy r)
def uF:bF->Bool
 | .nm _ _=>true
 | .dp _ _=>true
 | .mm _ _=>true
 | .dq _ _=>true
 |_=>false
def CG:cD->List Bool
 | .c s=>[uF s]
 | .agg l=>l.map uF
 | .bx _ l=>l.map uF
def Ke:Sh->List (List Bool)
 | .a s=>[CG s]
 | .tup l=>l.map CG
 |_=>[]
structure cN where
 f:Func
 n:Nat
 a:List Sh
 r:Sh
 u:List Sh
 H:cR
def Ki (f:Func) (n:Nat) (a:List Sh) (r:Sh) (u:List Sh) (p:List Nat) (R:Nat) (z:List (Nat×Nat×nU)) (s:List (List Bool)):cN:=⟨f,n,a,r,u,⟨Cx z z.length 0,rl 1 z,rl 2 z,mz 999 0 R,p,s⟩⟩
def Kj (f:Func) (n:Nat) (a:List Sh) (r:Sh) (u:List Sh) (p:List Nat) (R:Nat) (x:List Nat) (s:List (List Bool)):cN:=Ki f n a r u p R (jm R p x (cU f) R [] 0 []) s
noncomputable def mA (f:Func) (n:Nat) (a:List Sh) (r:Sh) (u:List Sh) (x:List Nat) (s:List (List Bool)):cN:=Kj f n a r u (rm a 0) (uE f.results.toList (Cy (rm a 0))) x s
noncomputable def ak (f:Func) (n:Nat) (a:List Sh) (r:Sh) (x:List Nat):cN:=mA f n a r (a.map λs=>cond (CD s) s (sD)) x (Ke r)
def jk:Code->Nat->Nat->Option Code
 | .seq a b,k,t=>(match jk a k t with
   |some c=>some c
   |none=>jk b k t)
 | .cond _ a b,k,t=>(match jk a k t with
   |some c=>some c
   |none=>jk b k t)
 | .scope c,k,t=>jk c k t
 | .block i c,_,t=>jk c i t
 | .loop c,k,t=>cond (Nat.beq k t) (some c) (jk c k t)
 |_,_,_=>none
def jn (S:cN) (t:Nat):Code:=(jk (cU S.f) 0 t).getD .skip
def kl:List Nat->List Sh->SS
 |_,[]=>[]
 |l,s::r=>(l.headD 0,s)::kl l.tail r
def Kb (S:cN):Ex->List Nat
 | .ret=>S.H.rets
 | .exit k=>(kr S.H.exits k).getD []
 | .normal=>[]
def mw (S:cN):List (Ex×List Sh)->List (Ex×SS)
 |[]=>[]
 |x::r=>(x.1,kl (Kb S x.1) x.2)::mw S r
def oe (S:cN) (b:Nat):List Nat:=(kr S.H.heads b).getD []
def CE (S:cN) (b:Nat) (i:List Sh) (o:List (Ex×List Sh)) (g:Nat->Nat->cQ (Option (bV (mw S o))) (kl (oe S b) i)) (m:Nat):LT:=⟨b,kl (oe S b) i,mw S o,λn=>uq (g m n)⟩
def km (S:cN) (g:Nat->cT (Option (S.r.Val×Qq S.u)) S.a) (m:Nat):cJ:=⟨S.n,S.a,S.r,S.u,un (g m)⟩
def bq (t:Nat->cJ):Prop:= ∀m,bM prog (t m)
def oh (D:Nat->List cJ):Prop:= ∀m,∀u∈D m,bM prog u
def jo (S:cN) (X:Nat->LT):Prop:= ∀m E,jX prog E S.f.ntmps S.H.pins-> ∀n,dJ prog E (jn S (X m).blk) ((X m).at n)
def mB (S:cN) (X:Nat->List LT):Prop:= ∀m E,jX prog E S.f.ntmps S.H.pins-> ∀x∈X m,∀n,dJ prog E (jn S x.blk) (x.at n)
def aG:oh λ_=>[]:=λ_ _ h=>by cases h
def bt {t D} (h:bq t) (k:oh D):oh λm=>t m::D m:=λm u hu=>by
 rcases mC hu with rfl|hu
 . exact h m
 . exact k m u hu
def aR {t0} (h0:bq t0):=bt h0<|aG
def bN {t0 t1} (h0:bq t0) (h1:bq t1):=bt h0<|bt h1<|aG
def gm {t0 t1 t2} (h0:bq t0) (h1:bq t1) (h2:bq t2):=bt h0<|bt h1<|bt h2<|aG
def gY {t0 t1 t2 t3} (h0:bq t0) (h1:bq t1) (h2:bq t2) (h3:bq t3):=bt h0<|bt h1<|bt h2<|bt h3<|aG
def fF {t0 t1 t2 t3 t4} (h0:bq t0) (h1:bq t1) (h2:bq t2) (h3:bq t3) (h4:bq t4):=bt h0<|bt h1<|bt h2<|bt h3<|bt h4<|aG
def fE {t0 t1 t2 t3 t4 t5} (h0:bq t0) (h1:bq t1) (h2:bq t2) (h3:bq t3) (h4:bq t4) (h5:bq t5):=bt h0<|bt h1<|bt h2<|bt h3<|bt h4<|bt h5<|aG
def ru {t0 t1 t2 t3 t4 t5 t6} (h0:bq t0) (h1:bq t1) (h2:bq t2) (h3:bq t3) (h4:bq t4) (h5:bq t5) (h6:bq t6):=bt h0<|bt h1<|bt h2<|bt h3<|bt h4<|bt h5<|bt h6<|aG
def uH {t0 t1 t2 t3 t4 t5 t6 t7} (h0:bq t0) (h1:bq t1) (h2:bq t2) (h3:bq t3) (h4:bq t4) (h5:bq t5) (h6:bq t6) (h7:bq t7):=bt h0<|bt h1<|bt h2<|bt h3<|bt h4<|bt h5<|bt h6<|bt h7<|aG
def af {S:cN}:mB S λ_=>[]:=λ_ _ _ _ h=>by cases h
def my {S:cN} {t D} (h:jo S t) (k:mB S D):mB S λm=>t m::D m:=λm E hE u hu=>by
 rcases mC hu with rfl|hu
 . exact h m E hE
 . exact k m E hE u hu
def aH {S:cN} {t0} (h0:jo S t0):=my h0<|af
def ed {S:cN} {t0 t1} (h0:jo S t0) (h1:jo S t1):=my h0<|my h1<|af
def Ct {S:cN} {t0 t1 t2} (h0:jo S t0) (h1:jo S t1) (h2:jo S t2):=my h0<|my h1<|my h2<|af
def ko (m:Nat) (l:List LT):List cF:=l.map λx=>x.at m
def og (S:cN) (l:List (Nat×Code)):List (Nat×Code):=l.map λp=>(p.1,jn S p.1)
def Cu {S:cN} {D:Nat->List LT} (h:mB S D) {c:Code} {k:Nat} {m:Nat} {E:aN} (hE:jX prog E S.f.ntmps S.H.pins) (R:Type) (ρ:R):dL (eZ prog E (dE R (ko m (D m))) ρ) (og S (mf c k)):=by
 generalize mf c k=l
 induction l with
 |nil=>trivial
 |cons p r ih=>
  refine⟨Oo λl hl hb=> ?_,ih⟩
  obtain⟨x,hx,rfl⟩:=List.mem_map.1 hl;have:=h m E hE x hx m;rw[show x.blk=p.1 from hb]at this
  exact this
def aA (S:cN) (b:Nat) (i:List Sh) (o:List (Ex×List Sh)) (g:Nat->Nat->cQ (Option (bV (mw S o))) (kl (oe S b) i)) {D:Nat->List cJ} (hD:oh D) {X:Nat->List LT} (hX:mB S X)
 (hl:mf (jn S b) b=og S (mf (jn S b) b):=by kernel_rfl)
 (hr: ∀m n x,HP (tF (bV (mw S o)) (D m)) (dE (bV (mw S o)) (ko m (X m))) tt S.f.ntmps S.H (jn S b) b ((kl (oe S b) i).enc x) (Kl (uq (g m n)))=uq (g m (n+1)) x:=by intro m n x;kernel_rfl)
 (h0: ∀m x,uq (l:=kl (oe S b) i) (g m 0) x=none:=by intro m x;kernel_rfl)
 (hk: ∀m,xF [] (ko m (X m))=true:=by intro m;kernel_rfl):jo S (CE S b i o g):=λm E hE n=>
 CM hH rI hE (hD m) (B:=jn S b) (L:=ko m (X m)) (CE S b i o g m) (l:=og S (mf (jn S b) b)) hl (λR ρ=>Cu hX hE R ρ) (hr m) (h0 m) n (hk m)
def ah (S:cN) (g:Nat->cT (Option (S.r.Val×Qq S.u)) S.a) (hf:prog.funcs[S.n]? =some S.f) {D:Nat->List cJ} (hD:oh D) {X:Nat->List LT} (hX:mB S X) (hb:O5 S.f=true:=by kernel_rfl)
 (hl:mf (cU S.f) 0=og S (mf (cU S.f) 0):=by kernel_rfl)
 (hr: ∀m x,Ik (tF (S.r.Val×Qq S.u) (D m)) (dE (S.r.Val×Qq S.u) (ko m (X m))) tt S.H S.f (fy S.a x) (Kd S.r S.u)=un (g m) x:=by intro m x;kernel_rfl)
 (hk: ∀m,xF [] (ko m (X m))=true:=by intro m;kernel_rfl):bq (km S g):=λm=>
 TX hH rI (H:=S.H) (km S g m) hf hb (hD m) (L:=ko m (X m)) (l:=og S (mf (cU S.f) 0)) hl (λE hE R ρ=>Cu hX hE R ρ) (hr m) (hk m)
abbrev CP:bF:=.iptr (some 351) (.sl false (.int .i64)) 0
abbrev uR:bF:=.iptr (some 295) (.sl false (.sl false (.int .i64))) 0
abbrev fI:Sh:=.tup []
abbrev eu:Ty:=.bool
abbrev bO:Ty:=.int .i64
abbrev fo:Ty:=.int .u32
abbrev cW:bF:=.bool
abbrev mG:bF:=.int .u64
abbrev cf:Ty:=.int .u64
abbrev bG:bF:=.int .i64
abbrev oq:Ty:=.sl false bO
abbrev uT:Ty:=.sl false eu
abbrev rD:bF:=.dp 0 eu
abbrev ot:bF:=.nm 3 bO
abbrev fJ:bF:=.imm bO
abbrev mH:bF:=.nm 2 bO
abbrev mI:bF:=.nm 1 bO
abbrev ou:bF:=.nm 0 bO
abbrev jv:bF:=.imm fo
abbrev jx:cD:=.c cW
abbrev oz:bF:=.imm cf
abbrev de:cD:=.c bG
abbrev CQ:cD:=.bx 7 [.nm 8 bO,.nm 9 bO,.nm 10 bO,.nm 11 cf]
abbrev CR:cD:=.bx 2 [ot,.nm 4 bO,.nm 5 bO,.nm 6 cf]
abbrev uU:cD:=.bx 0 [mI,mH,ot,.nm 4 cf]
abbrev CT:cD:=.bx 6 [.nm 7 bO,.nm 8 bO,.nm 9 bO,.nm 10 cf]
abbrev CU:cD:=.bx 1 [mH,ot,.nm 4 bO,.nm 5 cf]
abbrev CV:cD:=.agg [ou,mI,mH,.nm 3 cf]
abbrev CW:cD:=.bx 6 [cW,cW,.nm 7 fo,bG]
abbrev ku:Sh:=sD
abbrev c8:bF:=.imm oq
abbrev dU:Sh:=.a (.c (.fn 287))
abbrev rE:cD:=.bx 1 [bG,bG,mH,ot,.nm 4 cf]
abbrev gp:Ty:=.pr bO (.pr bO cf)
abbrev rF:cD:=.bx 2 [cW,jv]
abbrev uV:cD:=.agg [bG,bG,ou,mI,.nm 2 cf]
abbrev uW:Sh:=.tup [de,jx]
abbrev rG:cD:=.agg [cW,cW,jv,bG]
abbrev rH:cD:=.bx 1 [cW,.nm 2 fo]
abbrev fK:Sh:=.a (.c (.int .u32))
abbrev CY:cD:=.agg [cW,cW,.nm 0 fo,bG]
abbrev mJ:cD:=.agg [cW,jv]
abbrev oA:cD:=.c jv
abbrev aU:Sh:=.a jx
abbrev aV:Sh:=.a (.c mG)
abbrev aa:Sh:=.a de
abbrev kx:Sh:=.a (.c (.nm 2 cf))
abbrev uX:Sh:=.tup [.c (.nm 0 cf),de]
abbrev oB:Sh:=.a (.bx 1 [cW,cW,.nm 2 fo,bG])
abbrev fp:Sh:=.a (.bx 0 [fJ,fJ,fJ,oz])
abbrev mK:Sh:=.a (.agg [fJ,fJ,fJ,oz])
abbrev CZ:cD:=.bx 0 [c8,.imm (.sl false cf),.dead,c8]
abbrev mL:Sh:=.a (.agg [cW,cW,jv,bG,cW])
abbrev ky:Sh:=.a (.c (.wn 0 fo))
abbrev oC:Sh:=.a (.c (.nm 0 eu))
abbrev mM:Sh:=.a (.bx 0 [mI,mH])
abbrev g9:Sh:=.a (.c mI)
abbrev aJ:Sh:=.a (.c fJ)
abbrev eW:Sh:=.a (.c (.nm 0 cf))
abbrev bl:Sh:=.a (.c ou)
abbrev oD:Sh:=.a (.c (.nm 8 bO))
abbrev oE:Sh:=.a (.bx 8 [bG,bG,.nm 9 bO,.nm 10 bO,.nm 11 cf])
abbrev jy:Sh:=.a (.bx 0 [cW,cW,.nm 1 fo,bG])
abbrev cg:Sh:=.a (.bx 0 [bG,bG,fJ,fJ,oz])
abbrev dV:Sh:=.a (.agg [bG,bG,fJ,fJ,oz])
abbrev cX:Sh:=.a (.bx 4 [bG,bG,.nm 5 bO,.nm 6 bO,.nm 7 cf])
abbrev cE:Sh:=.a (.bx 0 [bG,bG,mI,mH,.nm 3 cf])
abbrev mO:Sh:=.a uV
abbrev bL:Sh:=.a rG
abbrev jz:Sh:=.a (.bx 0 [cW,jv])
abbrev aY:Sh:=.a mJ
abbrev bR:Sh:=.a (.c (.nm 0 fo))
abbrev aK:Sh:=.a oA
abbrev bH:Sh:=.a (.c oz)
abbrev kI:Sh:=.a (.c c8)
abbrev fM:Sh:=.a (.bx 0 [c8])
abbrev oG:Sh:=.a (.bx 0 [.nm 1 oq])
abbrev gq:Sh:=.a (.agg [c8])
abbrev cA:Ty:=.pr eu (.pr (.pr eu (.sl false fo)) bO)
abbrev oH:Sh:=.a (.c (.nm 5 gp))
abbrev jE:Sh:=.a (.c (.imm gp))
abbrev mP:Sh:=.a (.c (.nm 1 gp))
abbrev cq:Sh:=.a (.c (.nm 0 gp))
abbrev yj:bF:=.imm cA
abbrev Ko:cD:=.bx 7 [c8,.dp 8 cf,.mm 9 cA,.dp 10 bO]
abbrev yk:cD:=.bx 2 [c8,.dp 3 cf,.mm 4 cA,.dp 5 bO]
abbrev sH:Sh:=.a (.c (.dp 1 cA))
abbrev sJ:Sh:=.a (.c (.nm 0 cA))
abbrev uY:Sh:=.a (.c (.dp 0 cA))
abbrev oF:Sh:=.a (.bx 4 [bG,c8,.mm 5 cA])
abbrev nz:Sh:=.a (.bx 0 [c8,.dp 1 cf,.mm 2 cA,.dp 3 bO])
abbrev qb:Sh:=.a (.bx 0 [bG,c8,.mm 1 cA])
abbrev uZ:Sh:=.a (.bx 2 [bG,c8,.mm 3 cA])
def wv:=ah (ak f14 14 [aa,aa] aa []) Bw func14 aG af
def Gw:=ah (ak f67 67 [bH,aa] aV []) Ie func67 (aR wv) af
def wE:=ah (ak f137 137 [aV] aU []) qJ func137 aG af
def vZ:=ak f215 215 [aK] bR []
def AG:=aA vZ 2 [aK,aa,bR,aa] [(.exit 2,[bR])] lD aG af
def AH:=aA vZ 0 [aK,aa] [(.exit 0,[aK,aa])] iO aG af
def o6:=ah vZ nK func215 aG (ed AH AG)
def nn:=ah (ak f210 210 [aU,aK] aY [2,6,1]) ie func210 (aR o6) af
def wH:=ah (ak f134 134 [aa] aY []) cO func134 (aR nn) af
def rP:=ah (ak f206 206 [aY] aY []) qE func206 (aR nn) af
def rT:=ah (ak f138 138 [] (.a CY) []) qI func138 aG af
def DE:=ah (ak f278 278 [fK] aa []) vz func278 aG af
def Eb:=ak f207 207 [aY] aa []
def Ec:=(bN o6 DE)
def AK:=aA Eb 0 [bR,aa] [(.ret,[aa]),(.exit 0,[])] iR Ec af
def Ea:=ah Eb eX func207 Ec (aH AK)
def wF:=ah (ak f136 136 [aY] aY []) s6 func136 (aR nn) af
def DY:=ak f219 219 [aK,aa] bR []
def AA:=aA DY 0 [aK,aa,bR,aV,aa] [(.exit 0,[bR,aV])] lC aG af
def L3:=ah DY vX func219 aG (aH AA)
def vW:=ak f220 220 [aK,aa] (.tup [.c (.nm 0 fo),jx]) []
def Ay:=aA vW 2 [aK,aa,aU,bR,aa,aa] [(.exit 2,[aU,bR])] dW aG af
def Az:=aA vW 0 [aK,aa,aU,aa] [(.exit 0,[aK,aa,aU])] iM aG af
def DX:=ah vW sY func220 aG (ed Az Ay)
def Ll:=ah (ak f291 291 [aY] aY []) zj func291 (aR nn) af
def D1:=ak f216 216 [aK,aK] bR []
def AE:=aA D1 0 [aK,aK,bR,aV,aa] [(.exit 0,[bR,aV])] fg aG af
def L6:=ah D1 AF func216 aG (aH AE)
def D0:=ak f217 217 [aK,aK] aa []
def AC:=aA D0 0 [aK,aK,aa] [(.ret,[aa]),(.exit 0,[])] iN aG af
def L5:=ah D0 AD func217 aG (aH AC)
def DZ:=ak f218 218 [aK,aK] bR []
def AB:=aA DZ 0 [aK,aK,bR,aV,aa] [(.exit 0,[bR])] gM aG af
def L4:=ah DZ vY func218 aG (aH AB)
def wC:=ah (ak f142 142 [aY,aY] aY []) cI func142 (fF o6 L6 nn L5 L4) af
def LZ:=ah (ak f221 221 [aY,aY] aY []) Ax func221 (bN Ll wC) af
def wB:=ah (ak f143 143 [aY,aa] aY []) lN func143 (fE rP L3 nn DX wH LZ) af
def D8:=ak f208 208 [aY,aa] aY []
def D9:=(aR wB)
def AJ:=aA D8 0 [aa,jz,.a rH] [(.exit 0,[aa,jz,.a rH])] nM D9 af
def D7:=ah D8 o8 func208 D9 (aH AJ)
def vA:=ah (ak f276 276 [fK] aa []) sX func276 aG af
def D6:=ah (ak f209 209 [aY] aa []) v5 func209 (bN o6 vA) af
def pj:=ah (ak f133 133 [aY,aa] bL []) lO func133 (fE rP rT Ea wF D7 D6) af
def KL:=ah (ak f60 60 [aa] bL []) KM func60 (bN wH pj) af
def wG:=ah (ak f135 135 [bL] bL []) qK func135 (bN rT pj) af
def wD:=ah (ak f140 140 [aY] aa []) dX func140 (aR rP) af
def D2:=ah (ak f214 214 [aU,aV] aV []) dz func214 aG af
def L9:=ah (ak f211 211 [aU,aa] aV []) mi func211 (aR D2) af
def Lo:=ah (ak f289 289 [aY,aa] aU []) qq func289 (bN o6 DX) af
def Ln:=ah (ak f290 290 [aU,aa,aU,aa] aU []) da func290 aG af
def L8:=ah (ak f212 212 [aU,aY,aa,aU,aa] aY []) v3 func212 (ru D7 Lo Ea wD Ln wH wC) af
def D3:=ak f213 213 [aY] uW []
def D4:=(aR rP)
def AI:=aA D3 0 [jz,aV,aa] [(.exit 0,[jz,aV])] iQ D4 af
def L7:=ah D3 o7 func213 D4 (aH AI)
def ML:=ah (ak f141 141 [aU,aY,aa,aU,aa] aV []) Bu func141 (fE D6 L9 L8 L7 D2 wB) af
def KH:=ah (ak f64 64 [bL,aa] aV []) KI func64 (gY wG wD wF ML) af
def LX:=ah (ak f222 222 [aa,aa] aV []) LY func222 (bN KL KH) af
def MK:=ah (ak f144 144 [aV] aV []) ph func144 (aR LX) af
def KB:=ah (ak f68 68 [aV,aa] aV []) KC func68 (gm wv wE MK) af
def G6:=ak f26 26 [bH,aa,aa,aa] mO [10,1,1,11,6,3,12,1,1,13,0,1]
def G7:=(bN Gw KB)
def G4:=aA G6 2 [bH,aa,aa,aa,cE,cX,aa,aa] [(.exit 2,[bH,aa,aa,aa,cE,cX,aa])] nk G7 af
def G5:=aA G6 0 [bH,aa,aa,aa,cE,cX,aa] [(.exit 0,[cE,cX])] oX G7 (aH G4)
def TK:=ah G6 Ph func26 G7 (aH G5)
def Ed:=ak f205 205 [bH] aU []
def Ee:=(aR wE)
def AL:=aA Ed 0 [bH,aa] [(.ret,[aU]),(.exit 0,[])] lE Ee af
def Md:=ah Ed AM func205 Ee (aH AL)
def rU:=ak f132 132 [dV] aa []
def rV:=(aR Md)
def By:=aA rU 4 [cg,aa,aa] [(.ret,[aa]),(.exit 4,[cg,aa])] iZ rV af
def Bz:=aA rU 2 [cg,aa] [(.ret,[aa]),(.exit 2,[cg])] lP rV (aH By)
def BA:=aA rU 0 [cg,aa] [(.ret,[aa]),(.exit 0,[cg])] lQ rV af
def ET:=ah rU wM func132 rV (ed BA Bz)
def KJ:=ak f63 63 [dV,aa,aa] aV []
def KK:=(aR ET)
def Gz:=aA KJ 0 [aa,aa,cg,aa] [(.ret,[aV]),(.exit 0,[])] m9 KK af
def Tw:=ah KJ If func63 KK (aH Gz)
def MM:=ah (ak f139 139 [aV] aU []) Bx func139 aG af
def Tx:=ah (ak f62 62 [aV] bL []) Pe func62 (gY wE rT MM pj) af
def Tz:=ah (ak f61 61 [bL] bL []) Pf func61 (gm wG wF pj) af
def KE:=ak f65 65 [.a (.c yj)] bL [1,1,2,1,2,2]
def KF:=(fE wG rT wD wB wC pj)
def Gy:=aA KE 0 [.a (.c yj),jy,.a rF,aa,aa] [(.ret,[jy]),(.exit 0,[jy,.a rF,aa])] jG KF af
def Tv:=ah KE KG func65 KF (aH Gy)
def KD:=ak f66 66 [dV,aa,aa] aU []
def Gx:=aA KD 0 [aa,aa,cg,aa] [(.ret,[aU]),(.exit 0,[])] oO aG af
def Tu:=ah KD Pd func66 aG (aH Gx)
def A8:=ak f16 16 [bH,aa,aa] mO [16,1,1,17,6,3,19,1,1,20,7,3,21,1,1,22,0,1]
def A9:=(bt wv<|uH TK KL Tw Tx Tz Tv KH Tu)
def Ho:=aA A8 4 [aa,cE,cX,oE,aa,aa,.a (.c (.nm 12 cA)),aa] [(.exit 4,[aa,cE,cX,oE,aa,aa,.a (.c (.nm 12 cA))])] np A9 af
def Hp:=aA A8 2 [aa,cE,cX,oE,aa,aa] [(.exit 2,[aa,cE,cX,oE,aa])] lH A9 (aH Ho)
def Hq:=aA A8 0 [aa,cE,cX,oE,aa] [(.exit 0,[cE,cX])] pf A9 (aH Hp)
def TU:=ah A8 Po func16 A9 (aH Hq)
def GC:=ak f59 59 [dV] cq []
def GD:=(aR ET)
def GA:=aA GC 2 [cg,mP,aa,aa] [(.exit 2,[cg,mP,aa])] oP GD af
def GB:=aA GC 0 [cg,mP,aa] [(.exit 0,[cq])] na GD (aH GA)
def TA:=ah GC Ig func59 GD (aH GB)
def yv:=ak f39 39 [aa,aa,jE] mO [15,1,1,16,9,3,17,1,1,18,0,1]
def GK:=aA yv 4 [aa,aa,jE,cE,cX,oD,aa,aa] [(.exit 4,[aa,aa,jE,cE,cX,oD,aa])] kO aG af
def GL:=aA yv 2 [aa,aa,jE,cE,cX,oD,aa] [(.exit 2,[cE,cX])] ng aG (aH GK)
def GM:=aA yv 0 [aa,aa,jE,cE,cX,oD,aa] [(.exit 0,[aa,aa,jE,cE,cX,oD])] oS aG af
def TJ:=ah yv Pg func39 aG (ed GM GL)
def Mu:=ak f15 15 [dV] mO []
def Mv:=(bN TA TJ)
def Hr:=aA Mu 0 [cg,.a rE,oH,.a (.c (.nm 6 gp)),aa] [(.exit 0,[cg,.a rE,oH])] gu Mv af
def TV:=ah Mu Pp func15 Mv (aH Hr)
def Mr:=ak f17 17 [bH,aa] bl []
def Ms:=(bN Gw wv)
def Hn:=aA Mr 0 [bH,aa,bl,aa] [(.exit 0,[bl])] pe Ms af
def TS:=ah Mr Pn func17 Ms (aH Hn)
def Ml:=ak f18 18 [bH,aa,aa,aa] eW []
def Mm:=(bN Gw KB)
def Hl:=aA Ml 0 [bH,aa,aa,aa,eW,aa] [(.exit 0,[eW])] pd Mm af
def TR:=ah Ml Pm func18 Mm (aH Hl)
def Kp:=ah (ak f88 88 [aa,aa,aa] aU []) Ic func88 aG af
def Di:=ah (ak f308 308 [aa] aU []) nG func308 aG af
def vD:=ah (ak f247 247 [aa,aa] aU []) qu func247 (aR Di) af
def Ev:=ak f189 189 [aJ] aU []
def Ew:=(aR vD)
def A3:=aA Ev 0 [aJ,aa] [(.ret,[aU]),(.exit 0,[])] iW Ew af
def Mn:=ah Ev A4 func189 Ew (aH A3)
def wW:=ak f107 107 [dV] aU []
def wX:=(aR Mn)
def BL:=aA wW 2 [cg,aa,aa,aa,aJ,aa,aa] [(.ret,[aU]),(.exit 2,[cg,aa,aa])] lU wX af
def BM:=aA wW 0 [cg,aa,aa] [(.ret,[aU]),(.exit 0,[])] lV wX (aH BL)
def MU:=ah wW BN func107 wX (aH BM)
def wV:=ah (ak f110 110 [aV] (.tup [de,.c mG]) []) nP func110 aG af
def sN:=ah (ak f82 82 [aV] aU []) tI func82 (aR wV) af
def MS:=ah (ak f109 109 [aV] aU []) Hv func109 (aR sN) af
def Et:=ak f190 190 [bH,.a (.c (.fn 109))] aa []
def Eu:=(aR MS)
def A0:=aA Et 0 [bH,.a (.c (.fn 109)),aa,aa] [(.ret,[aa]),(.exit 0,[])] lG Eu af
def Mk:=ah Et Hk func190 Eu (aH A0)
def MT:=ah (ak f108 108 [bH,.a (.c (.fn 109))] aU []) BK func108 (aR Mk) af
def u9:=ah (ak f40 40 [dV] aa []) C5 func40 (gm Kp MU MT) af
def yq:=ak f69 69 [aJ,aa] (.tup [.c ou,de]) []
def yr:=(aR Kp)
def Gs:=aA yq 4 [bl,aJ,aa,aa] [(.ret,[bl,aa]),(.exit 4,[bl])] mZ yr af
def Gt:=aA yq 2 [aJ,aa,bl,aJ,aa,aa] [(.ret,[bl,aa]),(.exit 2,[aJ,bl])] m8 yr af
def Gu:=aA yq 0 [aJ,aa,bl,aa,aa] [(.exit 0,[aJ,aa,bl])] oN yr af
def Tt:=ah yq Gv func69 yr (Ct Gu Gt Gs)
def GJ:=ak f43 43 [dV] cq []
def GG:=aA GJ 2 [cg,mP,aa,aa,aa,aa] [(.exit 2,[cg,mP,aa,aa])] oQ aG af
def GH:=aA GJ 0 [cg,mP,aa,aa] [(.exit 0,[cq])] nc aG (aH GG)
def GF:=ah GJ Ii func43 aG (aH GH)
def Lv:cR:={regs:=[⟨[],[0]⟩,⟨[],[0]⟩,⟨[],[2]⟩,⟨[],[2]⟩],heads:=[],exits:=[],rets:=[2],pins:=[],spec:=[[true]]}
abbrev Dy:List Sh:=[.a (.c (.imm (.pr (.int .i64) (.pr (.int .i64) (.int .u64)))))]
abbrev Dx:Sh:= .a (.c (.nm 0 (.pr (.int .i64) (.pr (.int .i64) (.int .u64)))))
abbrev Dv:List Sh:=[sD]
def Lu (m:Nat):Qq Dy->Option (Dx.Val×Qq Dv):=λ(x:(List (Int×Int×Int))×Unit)=>G2 m x.1
def Dw (m:Nat):cJ:=⟨285,Dy,Dx,Dv,Lu m⟩
noncomputable def oW:Code:=cU Tryz.f285
def G1 (m:Nat):bM Tryz.prog (Dw m):=
 RC hH rI (H:=Lv) (fn:=Tryz.f285) (f:=285) (t:=(.pr (.int .i64) (.pr (.int .i64) (.int .u64)))) (ty:=78) (e:=81) (ty2:=78) (k:=1) (cells:=[.nil (.pr (.int .i64) (.pr (.int .i64) (.int .u64)))]) (A:=pA oW) (X:=pX (pB (pA (pB oW)))) (Y:=pB (pB oW)) (o0:=pO 0 (pA (pA (pB oW)))) (o1:=pO 1 (pA (pA (pB oW)))) Tryz.func285 kR kR kR kR kR kR kR kR kR (of_decide_eq_true kR) rfl kR kR kR (λxs=>[(0,.sl .imm (.pr (.int .i64) (.pr (.int .i64) (.int .u64))) xs)]) (λxs=>[(2,.sl (.nm 0) (.pr (.int .i64) (.pr (.int .i64) (.int .u64))) xs)]) (λxs=>kR) (λ_=>rfl) (λ_=>rfl) (λ_=>rfl) kR (λxs=>kR) (λxs=>kR)
def Lt:bq Dw:=G1
def Dz:=ah (ak f283 283 [aa,aa] aa []) sW func283 (aR Di) af
def Ds:=ak f288 288 [aJ] aa []
def zm:=aA Ds 0 [aa,aJ,aa,aa] [(.ret,[aa]),(.exit 0,[aa])] iJ aG af
def Lq:=ah Ds sV func288 aG (aH zm)
def Dt:=ah (ak f287 287 [.a (.agg [bG,bG,mG]),.a (.agg [bG,bG,mG])] aa []) oV func287 (bN Dz Lq) af
def Du (m:Nat):cJ:=km (ak f287 287 [.a (.agg [bG,bG,mG]),.a (.agg [bG,bG,mG])] aa []) oV m
def G0 (m:Nat):bM Tryz.prog (Du m):=Dt m
def vn:=ak f348 348 [cq,aa,aa,dU] fI []
def vo:=(aR Dt)
def yy:=aA vn 2 [cq,aa,aa,dU,aa,aa] [(.exit 2,[cq,aa,aa,dU,aa])] gI vo af
def yz:=aA vn 0 [cq,aa,aa,dU,aa] [(.exit 0,[cq])] gJ vo (aH yy)
def KX:=ah vn qk func348 vo (aH yz)
def C6:=ak f366 366 [cq,aa,aa,aa,dU] fI []
def yw:=aA C6 0 [cq,aa,aa,aa,aa] [(.exit 0,[cq])] gF aG af
def KS:=ah C6 sQ func366 aG (aH yw)
def va:=ak f361 361 [cq,aa,aa,aa,dU] fI [4,7,11,6,11,11,8,7,11]
def C8:=(aR KS)
def yx:=aA va 0 [cq,aa,dU,aa,aa] [(.exit 0,[cq,aa,dU,aa])] iD C8 af
def KT:=ah va qe func361 C8 (aH yx)
def C7 (m:Nat):cJ:=km va qe m
def GN (m:Nat):bM Tryz.prog (C7 m):=KT m
def ni:cR:=⟨[⟨[],[0,1,2,3,4,28]⟩,⟨[(0,1)],[0,1,3,4,10]⟩,⟨[(0,1)],[0,1,4,10,11]⟩,⟨[],[0,1,4,10,11,33]⟩,⟨[],[0,1,4,10,11,12]⟩,⟨[],[0,1,4,10,11,12,50]⟩,⟨[(0,1)],[0,1,4,10,11]⟩,⟨[(0,1)],[0,1,4,10,11]⟩,⟨[(0,1)],[0,10,13]⟩,⟨[],[0,10,13,58]⟩,⟨[(0,1)],[0,10,13]⟩,⟨[],[0,10,13]⟩,⟨[],[0,1,2,3,4,80]⟩,⟨[(0,1)],[0,2,4,14]⟩,⟨[],[0,2,4,14,15]⟩,⟨[],[0,2,4,14,15,85]⟩,⟨[],[0,2,4,14,15,16]⟩,⟨[],[0,2,4,14,15,16,103]⟩,⟨[(0,1)],[0,2,4,14,15]⟩,⟨[(0,1)],[0,2,4,14,15]⟩,⟨[(0,1)],[0,14,17]⟩,⟨[],[0,14,17,110]⟩,⟨[(0,1)],[0,14,17]⟩,⟨[],[0,14,17]⟩,⟨[],[0,1,2,3,4,18]⟩,⟨[],[0,1,2,3,4,18,19]⟩,⟨[],[0,1,2,3,4,18,19]⟩,⟨[],[0,1,2,3,4,18,19,140]⟩,⟨[],[0,1,2,3,4,18,19,20]⟩,⟨[],[0,1,2,3,4,18,19,20,21]⟩,⟨[],[0,1,2,3,4,18,19,20]⟩,⟨[],[0,1,2,3,4,18,19,20,21]⟩,⟨[],[0,1,2,3,4,18,19,20,21,22]⟩,⟨[],[0,1,2,3,4,18,19,20,21,22,151]⟩,⟨[],[0,1,2,3,4,18,19,20,21,22,23]⟩,⟨[],[0,1,2,3,4,18,19,20,21,22,23,171]⟩,⟨[(0,1)],[0,1,2,3,4,18,19,20,21,22]⟩,⟨[(0,1)],[0,1,2,3,4,18,19,20,21,22]⟩,⟨[(0,1)],[0,1,2,3,4,18,20,24]⟩,⟨[(3,1)],[0,1,2,3,4,18,20,24,185]⟩,⟨[(2,1),(5,11)],[0,1,3,4,18,20,24]⟩,⟨[(3,1)],[0,1,3,4,18,20,24,199]⟩,⟨[(1,1),(2,1),(5,11)],[0,3,4,18,24]⟩,⟨[(3,1)],[0,3,4,18,24,213]⟩,⟨[(1,1),(2,1),(3,1),(4,1),(5,11)],[0]⟩],[(0,[0,1,4,10,11]),(2,[0,10,13]),(4,[0,2,4,14,15]),(6,[0,14,17]),(8,[0,1,2,3,4,18,19,20,21,22])],[(0,[0,1,10]),(1,[0,1,4,10,11]),(2,[0]),(3,[0,10,13]),(4,[0,2,14]),(5,[0,2,4,14,15]),(6,[0]),(7,[0,14,17]),(8,[0,1,2,3,4,18,19,20]),(9,[0,1,2,3,4,18,19,20,21,22])],[0],[0],[]⟩
def gr (m:Nat):cJ:=⟨349,[.a (.c (.nm 0 (.pr (.int .i64) (.pr (.int .i64) (.int .u64))))),sI,sI,sI,.a (.c (.fn 287))],.tup [],[.a (.c (.nm 0 (.pr (.int .i64) (.pr (.int .i64) (.int .u64))))),sD,sD,sD,sD],λ(x:(List (Int×Int×Int))×Int×Int×Int×Unit×Unit)=>bz m x.1 x.2.1 x.2.2.1 x.2.2.2.1⟩
noncomputable def oT:Code:=cU Tryz.f349
noncomputable def vm:Code:=ql oT 0 0
noncomputable def vk:Code:=ql oT 0 1
noncomputable def vj:Code:=ql oT 0 2
noncomputable def vi:Code:=ql oT 0 3
noncomputable def vh:Code:=ql oT 0 4
def nh (m:Nat) (hself:bM Tryz.prog (gr m)): ∀u∈[Du m,C7 m,gr m],bM Tryz.prog u:=tj.mem ⟨G0 m,GN m,hself,trivial⟩
def nA (m:Nat):LT:=⟨8,[(0,.a (.c (.nm 0 (.pr (.int .i64) (.pr (.int .i64) (.int .u64)))))),(1,sI),(2,sI),(3,sI),(4,.a (.c (.fn 287))),(18,sI),(19,sI),(20,sI),(21,sI),(22,sI)],[(.exit 8,[(0,.a (.c (.nm 0 (.pr (.int .i64) (.pr (.int .i64) (.int .u64)))))),(1,sI),(2,sI),(3,sI),(4,.a (.c (.fn 287))),(18,sI),(19,sI),(20,sI)])],λn (x:(List (Int×Int×Int))×Int×Int×Int×Unit×Int×Int×Int×Int×Int×Unit)=>fN (λa0 a1 a2 a3=>bz m a0 a1 a2 a3) m n x.1 x.2.1 x.2.2.1 x.2.2.2.1 x.2.2.2.2.2.1 x.2.2.2.2.2.2.1 x.2.2.2.2.2.2.2.1 x.2.2.2.2.2.2.2.2.1 x.2.2.2.2.2.2.2.2.2.1⟩
def vc {E:aN} (hE:jX Tryz.prog E 220 ni.pins) (m:Nat) (hself:bM Tryz.prog (gr m)) (n:Nat):dJ Tryz.prog E vh ((nA m).at n):=
 CM hH rI hE (nh m hself) (L:=[]) (nA m) (l:=[]) kR (λ_ _=>trivial) (λn x=>kR) (λ_=>kR) n
def nB (m:Nat):LT:=⟨6,[(0,.a (.c (.nm 0 (.pr (.int .i64) (.pr (.int .i64) (.int .u64)))))),(14,sI),(17,sI)],[(.exit 6,[(0,.a (.c (.nm 0 (.pr (.int .i64) (.pr (.int .i64) (.int .u64))))))])],λn (x:(List (Int×Int×Int))×Int×Int×Unit)=>gG (λa0 a1 a2 a3=>bz m a0 a1 a2 a3) m n x.1 x.2.1 x.2.2.1⟩
def vd {E:aN} (hE:jX Tryz.prog E 220 ni.pins) (m:Nat) (hself:bM Tryz.prog (gr m)) (n:Nat):dJ Tryz.prog E vi ((nB m).at n):=
 CM hH rI hE (nh m hself) (L:=[]) (nB m) (l:=[]) kR (λ_ _=>trivial) (λn x=>kR) (λ_=>kR) n
def nC (m:Nat):LT:=⟨4,[(0,.a (.c (.nm 0 (.pr (.int .i64) (.pr (.int .i64) (.int .u64)))))),(2,sI),(4,.a (.c (.fn 287))),(14,sI),(15,sI)],[(.exit 4,[(0,.a (.c (.nm 0 (.pr (.int .i64) (.pr (.int .i64) (.int .u64)))))),(2,sI),(14,sI)])],λn (x:(List (Int×Int×Int))×Int×Unit×Int×Int×Unit)=>iE (λa0 a1 a2 a3=>bz m a0 a1 a2 a3) m n x.1 x.2.1 x.2.2.2.1 x.2.2.2.2.1⟩
def ve {E:aN} (hE:jX Tryz.prog E 220 ni.pins) (m:Nat) (hself:bM Tryz.prog (gr m)) (n:Nat):dJ Tryz.prog E vj ((nC m).at n):=
 CM hH rI hE (nh m hself) (L:=[]) (nC m) (l:=[]) kR (λ_ _=>trivial) (λn x=>kR) (λ_=>kR) n
def nD (m:Nat):LT:=⟨2,[(0,.a (.c (.nm 0 (.pr (.int .i64) (.pr (.int .i64) (.int .u64)))))),(10,sI),(13,sI)],[(.exit 2,[(0,.a (.c (.nm 0 (.pr (.int .i64) (.pr (.int .i64) (.int .u64))))))])],λn (x:(List (Int×Int×Int))×Int×Int×Unit)=>gH (λa0 a1 a2 a3=>bz m a0 a1 a2 a3) m n x.1 x.2.1 x.2.2.1⟩
def vf {E:aN} (hE:jX Tryz.prog E 220 ni.pins) (m:Nat) (hself:bM Tryz.prog (gr m)) (n:Nat):dJ Tryz.prog E vk ((nD m).at n):=
 CM hH rI hE (nh m hself) (L:=[]) (nD m) (l:=[]) kR (λ_ _=>trivial) (λn x=>kR) (λ_=>kR) n
def nE (m:Nat):LT:=⟨0,[(0,.a (.c (.nm 0 (.pr (.int .i64) (.pr (.int .i64) (.int .u64)))))),(1,sI),(4,.a (.c (.fn 287))),(10,sI),(11,sI)],[(.exit 0,[(0,.a (.c (.nm 0 (.pr (.int .i64) (.pr (.int .i64) (.int .u64)))))),(1,sI),(10,sI)])],λn (x:(List (Int×Int×Int))×Int×Unit×Int×Int×Unit)=>iF (λa0 a1 a2 a3=>bz m a0 a1 a2 a3) m n x.1 x.2.1 x.2.2.2.1 x.2.2.2.2.1⟩
def vg {E:aN} (hE:jX Tryz.prog E 220 ni.pins) (m:Nat) (hself:bM Tryz.prog (gr m)) (n:Nat):dJ Tryz.prog E vm ((nE m).at n):=
 CM hH rI hE (nh m hself) (L:=[]) (nE m) (l:=[]) kR (λ_ _=>trivial) (λn x=>kR) (λ_=>kR) n
def vb: ∀m:Nat,bM Tryz.prog (gr m)
 |0=>λ_ _ h=>by cases h
 |m+1=>by
  have hself:=vb m;exact TX hH rI (H:=ni) (gr (m+1)) Tryz.func349 kR (nh m hself) (L:=[(nE m).at m,(nD m).at m,(nC m).at m,(nB m).at m,(nA m).at m]) (l:=[(0,vm),(2,vk),(4,vj),(6,vi),(8,vh)]) kR (λ_ hE _ _=>⟨qh ⟨yb (vg hE m hself m),nb rfl,nb rfl,nb rfl,nb rfl,trivial⟩,qh ⟨nb rfl,yb (vf hE m hself m),nb rfl,nb rfl,nb rfl,trivial⟩,qh ⟨nb rfl,nb rfl,yb (ve hE m hself m),nb rfl,nb rfl,trivial⟩,qh ⟨nb rfl,nb rfl,nb rfl,yb (vd hE m hself m),nb rfl,trivial⟩,qh ⟨nb rfl,nb rfl,nb rfl,nb rfl,yb (vc hE m hself m),trivial⟩,trivial⟩) (λx=>kR)
def KW:bq gr:=vb
def rK:=ak f332 332 [cq,aa,dU] fI [3,4,11,6,4,11,10,7,11,15,5,11]
def rL:=(bN KX KW)
def yJ:=aA rK 4 [cq,aa,dU,aa,aa,aa] [(.exit 4,[cq,aa,dU,aa,aa])] kV rL af
def yK:=aA rK 2 [cq,aa,dU,aa] [(.exit 2,[cq])] gK rL (aH yJ)
def yL:=aA rK 0 [cq,aa,dU,aa,aa,aa] [(.exit 0,[cq,aa,dU,aa,aa])] iG rL af
def K5:=ah rK GT func332 rL (ed yL yK)
def Lr:=ah (ak f286 286 [cq,dU] fI [0,4,11]) zp func286 (aR K5) af
def Me:=ah (ak f204 204 [jE] cq [2,1,11]) AN func204 (bN Lt Lr) af
def wN:=ak f131 131 [aa,aa,jE] mO [5,5,3,5,11,3,13,0,1]
def wO:=(aR Me)
def BB:=aA wN 2 [cE,cX,aa,aa] [(.exit 2,[cE,cX])] i6 wO af
def BC:=aA wN 0 [aa,cE,cX,.a (.c (.nm 8 gp)),aa,aa] [(.exit 0,[aa,cE,cX])] gP wO af
def EU:=ah wN wP func131 wO (ed BC BB)
def Kz:=ak f70 70 [dV,aJ,aJ,aJ,aJ] mO []
def KA:=(bN GF EU)
def Gr:=aA Kz 0 [aJ,aJ,aJ,aJ,cE,.a (.c (.nm 4 gp)),oH,aa,aa] [(.exit 0,[aJ,aJ,cE,.a (.c (.nm 4 gp))])] kM KA af
def Ts:=ah Kz Pc func70 KA (aH Gr)
def TQ:=ah (ak f19 19 [dV,aJ,aJ] (.tup [uV,de]) []) Pk func19 (gm u9 Tt Ts) af
def ES:=ak f145 145 [aJ,aa] (.tup [.c ou,jx]) []
def Br:=aA ES 0 [aa,bl,.a (.c (.nm 1 eu)),aJ,aa,aa] [(.ret,[bl,aU]),(.exit 0,[bl])] lM aG af
def MJ:=ah ES Bt func145 aG (aH Br)
def EP:=ak f146 146 [dV] (.tup [uV,de]) []
def ER:=(gm u9 GF EU)
def Bp:=aA EP 0 [cg,.a rE,oH,.a (.c (.nm 6 gp)),aa,aa] [(.exit 0,[cg,.a rE,oH])] iY ER af
def MI:=ah EP Bq func146 ER (aH Bp)
def DW:=ak f223 223 [aa] (.a (.c rD)) [1,1,4,5,5,4]
def Aw:=aA DW 0 [aa,.a (.c rD),aa,aa] [(.exit 0,[.a (.c rD)])] lB aG af
def DU:=ah DW vV func223 aG (aH Aw)
def Mq:=ah (ak f185 185 [dV] cq []) A7 func185 (bN u9 GF) af
def DT:=ah (ak f224 224 [.a (.c rD),aa,aa] fI []) vU func224 aG af
def Dr:=ak f292 292 [.a (.c (.imm uT)),aa] bl []
def ze:=aA Dr 0 [bl,.a (.c (.imm eu)),aa,aa] [(.exit 0,[bl])] iI aG af
def Lk:=ah Dr zg func292 aG (aH ze)
def DR:=ak f225 225 [.a (.c (.imm uT))] gq [1,2,4,5,7,4,7,0,7]
def DS:=(aR Lk)
def Au:=aA DR 0 [.a (.c (.imm uT)),oG,.a (.bx 2 [.dp 3 bO]),aa,aa] [(.exit 0,[oG,.a (.bx 2 [.dp 3 bO])])] lA DS af
def DQ:=ah DR vT func225 DS (aH Au)
def EN:=ak f147 147 [dV] (.tup [.agg [c8],de]) [10,5,11]
def EO:=(fF u9 DU Mq DT DQ)
def Bn:=aA EN 1 [oG,.a (.c (.dp 2 eu)),.a (.c (.nm 3 gp)),aa,aa] [(.exit 1,[oG,.a (.c (.dp 2 eu))])] lL EO af
def MH:=ah EN Bo func147 EO (aH Bn)
def Dh:=ak f333 333 [aJ,aa] aU []
def yH:=aA Dh 0 [aa,aa,aJ,aa,aa] [(.ret,[aU]),(.exit 0,[])] kU aG af
def K4:=ah Dh yI func333 aG (aH yH)
def LD:=ah (ak f248 248 [aa] aU []) zR func248 aG af
def EA:=ak f169 169 [aJ,aa] uW []
def EB:=(bN vD LD)
def Ba:=aA EA 0 [aJ,aa,aa,aa,aa] [(.exit 0,[aJ,aa,aa,aa])] iX EB af
def Mt:=ah EA Bb func169 EB (aH Ba)
def Do:=ah (ak f298 298 [gq,aa,aa] aU []) sS func298 (aR Mt) af
def oU:=ak f293 293 [gq] aa []
def rM:=(bN K4 Do)
def yZ:=aA oU 4 [fM,aa,kI,aa,aa,aJ,aa,aa] [(.ret,[aa]),(.exit 4,[fM,kI,aa,aa])] k8 rM af
def zc:=aA oU 2 [fM,kI,aa,aa] [(.ret,[aa]),(.exit 2,[])] k9 rM (aH yZ)
def zd:=aA oU 0 [fM,aa,kI,aa,aa] [(.ret,[aa]),(.exit 0,[fM])] ld rM af
def Dp:=ah oU sT func293 rM (ed zd zc)
def Dq (m:Nat):cJ:=km oU sT m
def GZ (m:Nat):bM Tryz.prog (Dq m):=Dp m
def Lh:=ah (ak f296 296 [gq,aa] aU []) GX func296 aG af
def Li:=ah (ak f295 295 [aa,.a (.c (.iptr none (.sl false (.sl false (.int .i64))) 0))] aU []) GY func295 (aR Lh) af
def Df:=ak f334 334 [aJ,.a (.c uR)] aa []
def Dg:=(aR Li)
def yG:=aA Df 0 [aJ,.a (.c uR),aa,aa] [(.ret,[aa]),(.exit 0,[])] kT Dg af
def K3:=ah Df GS func334 Dg (aH yG)
def Lj:=ah (ak f294 294 [aJ,.a (.c uR)] aU []) yY func294 (aR K3) af
def K0:=ah (ak f337 337 [aJ] (.a (.c CP)) []) GQ func337 aG af
abbrev Dc:List Sh:=[.a (.c (.iptr (some 351) (.sl false (.int .i64)) 0))]
abbrev Db:Sh:= .a (.c (.nm 0 (.int .i64)))
abbrev C9:List Sh:=[sD]
def KV (m:Nat):Qq Dc->Option (Db.Val×Qq C9):=λ(x:(List LI×Nat)×Unit)=>GP m x.1
def Da (m:Nat):cJ:=⟨350,Dc,Db,C9,KV m⟩
def GO (m:Nat):bM Tryz.prog (Da m):=qlg rfl
def KU:bq Da:=GO
def Lz:=ah (ak f277 277 [aV] aa []) LA func277 aG af
def Mo:=ah (ak f188 188 [aV] aa []) A5 func188 (aR Lz) af
def vB:=ak f268 268 [bl,aa,aa] fI []
def vC:=(aR vD)
def zz:=aA vB 2 [bl,aa,aa,aa,aa] [(.exit 2,[bl,aa,aa,aa])] lg vC af
def zP:=aA vB 0 [bl,aa,aa,aa] [(.exit 0,[bl])] iK vC (aH zz)
def LB:=ah vB G8 func268 vC (aH zP)
def Ey:=ak f187 187 [bl,aa,aa,aa] fI [4,3,11,6,3,11,8,3,11]
def Ez:=(aR LB)
def A6:=aA Ey 0 [bl,aa,aa,aa,aU,aU] [(.ret,[bl])] qH Ez af
def Mp:=ah Ey Hm func187 Ez (aH A6)
def MW:=ah (ak f105 105 [bl] fI [1,5,11]) wY func105 (bN Mo Mp) af
def K1:=ah (ak f336 336 [.a (.c CP)] bl [2,1,11]) GR func336 (bN KU MW) af
def vp:=mA f335 335 [bl] bl [ku] [2,0,1,16,0,1] [[true]]
def yD:=aA vp 2 [bl,aa,.a (.c (.refw 0 0 1)),aa] [(.exit 2,[bl,aa])] nF aG af
def yE:=aA vp 0 [bl,aa] [(.exit 0,[bl])] kS aG (aH yD)
def K2:=ah vp yF func335 aG (aH yE)
def Lg:=ah (ak f297 297 [aJ] aU [1,3,11]) yX func297 (gm K0 K1 K2) af
def LW:=ah (ak f226 226 [gq,aJ] aa []) At func226 (gm Dp Lj Lg) af
def vR:=ak f227 227 [gq,aJ] gq [9,3,11]
def vS:=(gY DU Do DT DQ)
def Aq:=aA vR 2 [aJ,fM,.a (.bx 1 [.nm 2 oq]),.a (.c (.dp 3 eu)),aa,aa,aJ,aa,aa,aJ,aa,aa] [(.exit 2,[aJ,fM,.a (.bx 1 [.nm 2 oq]),.a (.c (.dp 3 eu)),aJ,aa,aa])] gL vS af
def Ar:=aA vR 0 [aJ,fM,.a (.bx 1 [.nm 2 oq]),.a (.c (.dp 3 eu)),aJ,aa,aa] [(.exit 0,[oG,.a (.c (.dp 2 eu))])] lz vS (aH Aq)
def LV:=ah vR Hf func227 vS (aH Ar)
def MG:=ah (ak f148 148 [gq,aJ] (.tup [.agg [c8],de]) []) Bm func148 (bN LW LV) af
def E8:=ak f116 116 [aK] aK []
def BJ:=aA E8 0 [aK,aa] [(.exit 0,[aK,aa])] i9 aG af
def dB:=ah E8 cZ func116 aG (aH BJ)
def ig:=ah (ak f117 117 [aU,aK] aY []) dA func117 (aR dB) af
def wU:=ah (ak f111 111 [aa] aY []) jS func111 (aR ig) af
def MR:=ah (ak f112 112 [aV] aU []) s9 func112 aG af
def MP:cR:={regs:=[⟨[],[0]⟩,⟨[],[0]⟩,⟨[],[2]⟩,⟨[],[2]⟩],heads:=[],exits:=[],rets:=[2],pins:=[],spec:=[[true]]}
abbrev E1:List Sh:=[.a (.c (.imm (.int .u32)))]
abbrev E0:Sh:= .a (.c (.nm 0 (.int .u32)))
abbrev EY:List Sh:=[sD]
def MO (m:Nat):Qq E1->Option (E0.Val×Qq EY):=λ(x:LI×Unit)=>qL m x.1
def EZ (m:Nat):cJ:=⟨125,E1,E0,EY,MO m⟩
noncomputable def pn:Code:=cU Tryz.f125
def Hu (m:Nat):bM Tryz.prog (EZ m):=
 RC hH rI (H:=MP) (fn:=Tryz.f125) (f:=125) (t:=(.int .u32)) (ty:=85) (e:=186) (ty2:=85) (k:=1) (cells:=[.nil (.int .u32)]) (A:=pA pn) (X:=pX (pB (pA (pB pn)))) (Y:=pB (pB pn)) (o0:=pO 0 (pA (pA (pB pn)))) (o1:=pO 1 (pA (pA (pB pn)))) Tryz.func125 kR kR kR kR kR kR kR kR kR (of_decide_eq_true kR) rfl kR kR kR (λxs=>[(0,.sl .imm (.int .u32) xs)]) (λxs=>[(2,.sl (.nm 0) (.int .u32) xs)]) (λxs=>kR) (λ_=>rfl) (λ_=>rfl) (λ_=>rfl) kR (λxs=>kR) (λxs=>kR)
def rW:bq EZ:=Hu
def GE:=ah (ak f50 50 [aY] aY []) kN func50 (bN rW ig) af
def rS:=ah (ak f191 191 [] (.a CY) []) qG func191 aG af
def MQ:=ah (ak f124 124 [aY] aY []) BE func124 (bN rW ig) af
def lS:=ah (ak f115 115 [aY] aa []) ja func115 (aR dB) af
def Er:=ak f192 192 [aY] aa []
def Es:=(aR DE)
def AZ:=aA Er 0 [aK,aa,aa] [(.ret,[aa]),(.exit 0,[])] lF Es af
def Ep:=ah Er v9 func192 Es (aH AZ)
def DD:=ah (ak f279 279 [aK] aa []) vy func279 (aR vA) af
def o9:=ah (ak f193 193 [aY] aa []) nO func193 (bN dB DD) af
def E6:=ak f118 118 [aK,aa] aK []
def E7:=(aR dB)
def BI:=aA E6 0 [aa,aV,bR,aK,aa,aa] [(.exit 0,[bR])] lR E7 af
def wT:=ah E6 qN func118 E7 (aH BI)
def Mi:=ah (ak f196 196 [fK] aU []) Hj func196 aG af
def DB:=ak f280 280 [aK,.a (.c (.fn 196))] aa []
def DC:=(aR Mi)
def zw:=aA DB 0 [aK,.a (.c (.fn 196)),aa,aa] [(.ret,[aa]),(.exit 0,[])] lf DC af
def Ly:=ah DB G3 func280 DC (aH zw)
def Mj:=ah (ak f195 195 [aK,.a (.c (.fn 196))] aU []) AX func195 (aR Ly) af
def E4:=ak f119 119 [aK,aa] (.tup [oA,jx]) []
def E5:=(bN Mj dB)
def BH:=aA E4 0 [aK,aa,aV,aU,bR,aa,aa] [(.exit 0,[aU,bR])] fh E5 af
def wS:=ah E4 s7 func119 E5 (aH BH)
def E2:=ak f120 120 [aK,aK] aK []
def E3:=(aR dB)
def BG:=aA E2 0 [aK,bR,aV,aK,aa,aa] [(.exit 0,[bR,aV])] fR E3 af
def rX:=ah E2 qM func120 E3 (aH BG)
def KR:=ah (ak f44 44 [aY,aa] (.tup [mJ,de]) []) C4 func44 (fF dB wT ig wS rX) af
def En:=ak f194 194 [aY,aa] aY []
def Eo:=(aR KR)
def AY:=aA En 0 [aa,jz,.a rH] [(.exit 0,[aa,jz,.a rH])] nN Eo af
def Em:=ah En v8 func194 Eo (aH AY)
def lT:=ah (ak f114 114 [bL] (.tup [rG,jx]) []) gQ func114 (fE rS MQ lS Ep o9 Em) af
def rY:=ah (ak f113 113 [aY,aa] bL []) jR func113 (aR lT) af
def qd:=ah (ak f41 41 [aV] bL []) sP func41 (fF wV wU MR GE rY) af
def yo:=mA f71 71 [dV,aJ] (.altT [.c .nilp,de] [.bx 0 [bG,c8,.mm 1 cA],de]) [ku,ku] [9,5,2,9,6,2,10,0,2,12,5,600000,13,4,600000,16,5,600000,16,6,600000,16,7,600002,27,7,600000,27,8,600002,27,18,600000] [[false,false,true],[false]]
def yp:=(fE u9 MJ MI MH MG qd)
def Gn:=aA yo 4 [cg,g9,uZ,aa,aa,aa,aa] [(.exit 4,[cg,g9,uZ,aa,aa])] mX yp af
def Gp:=aA yo 2 [cg,g9,uZ,aa,aa] [(.exit 2,[qb])] oM yp (aH Gn)
def Gq:=aA yo 0 [cg,g9,uZ,aa,aa] [(.exit 0,[cg,g9,uZ])] mY yp af
def Tq:=ah yo Ky func71 yp (ed Gq Gp)
def vx:=ak f299 299 [aa] mM []
def yV:=aA vx 0 [mM,aa,aa] [(.exit 0,[mM])] kZ aG af
def Lf:=ah vx yW func299 aG (aH yV)
def Dm (m:Nat):cJ:=km vx yW m
def GV (m:Nat):bM Tryz.prog (Dm m):=Lf m
def vu:=ak f300 300 [mM,aa,aa] fI []
def yT:=aA vu 0 [mM,aa,aa] [(.exit 0,[mM])] iH aG af
def Le:=ah vu yU func300 aG (aH yT)
def Dl (m:Nat):cJ:=km vu yU m
def GU (m:Nat):bM Tryz.prog (Dl m):=Le m
def vP:cR:=⟨[⟨[],[1]⟩,⟨[],[1,4]⟩,⟨[],[1,4,13]⟩,⟨[(0,1)],[2,3]⟩,⟨[],[1,5]⟩,⟨[],[5,20,21,22]⟩,⟨[],[5,20,21,22,23]⟩,⟨[],[5,6,7,20,21,22]⟩,⟨[(0,1)],[5,6,20,21,22,27,28,29]⟩,⟨[],[5,6,20,21,22,27,28,29,30]⟩,⟨[],[5,6,9,20,21,22,27,28,29]⟩,⟨[(1,1)],[5,6,20,21,22,27,28,29]⟩,⟨[(1,1)],[5,6,20,21,22,27,28,29]⟩,⟨[(1,1)],[5,20,21,22]⟩,⟨[(0,1),(3,1)],[2,3,39]⟩],[(0,[5,20,21,22]),(2,[5,6,20,21,22,27,28,29])],[(0,[5]),(1,[5,20,21,22]),(2,[5,20,21,22]),(3,[5,6,20,21,22,27,28,29])],[2,3,39],[],[[true],[false]]⟩
def vL (m:Nat):cJ:=⟨228,[.a (.agg [(.imm (.sl false (.int .i64)))])],.tup [(.c (.nm 0 (.int .i64))),(.c (.int .i64))],[sD],λ(x:(List LI×Unit)×Unit)=>Ap m x.1.1⟩
noncomputable def LU:Code:=cU Tryz.f228
noncomputable def qD:Code:=ql LU 0 0
noncomputable def vQ:Code:=ql qD 0 0
def vO (m:Nat): ∀u∈[Dq m,Dm m,Dl m],bM Tryz.prog u:=tj.mem ⟨GZ m,GV m,GU m,trivial⟩
def nI (m:Nat):LT:=⟨2,[(5,.a (.bx 0 [(.nm 1 (.int .i64)),(.nm 2 (.int .i64))])),(6,sI),(20,.a (.c (.imm (.sl false (.int .i64))))),(21,sI),(22,sI),(27,sL),(28,sI),(29,sI)],[(.exit 2,[(5,.a (.bx 0 [(.nm 1 (.int .i64)),(.nm 2 (.int .i64))])),(20,.a (.c (.imm (.sl false (.int .i64))))),(21,sI),(22,sI)])],λn (x:(LI×LI×Unit)×Int×List LI×Int×Int×LI×Int×Int×Unit)=>lx m n x.1.1 x.1.2.1 x.2.1 x.2.2.1 x.2.2.2.1 x.2.2.2.2.1 x.2.2.2.2.2.1 x.2.2.2.2.2.2.1 x.2.2.2.2.2.2.2.1⟩
def vM {E:aN} (hE:jX Tryz.prog E 43 vP.pins) (m:Nat) (n:Nat):dJ Tryz.prog E vQ ((nI m).at n):=
 CM hH rI hE (vO m) (L:=[]) (nI m) (l:=[]) kR (λ_ _=>trivial) (λn x=>kR) (λ_=>kR) n
def nJ (m:Nat):LT:=⟨0,[(5,.a (.bx 0 [(.nm 1 (.int .i64)),(.nm 2 (.int .i64))])),(20,.a (.c (.imm (.sl false (.int .i64))))),(21,sI),(22,sI)],[(.exit 0,[(5,.a (.bx 0 [(.nm 1 (.int .i64)),(.nm 2 (.int .i64))]))])],λn (x:(LI×LI×Unit)×List LI×Int×Int×Unit)=>ly m n x.1.1 x.1.2.1 x.2.1 x.2.2.1 x.2.2.2.1⟩
def vN {E:aN} (hE:jX Tryz.prog E 43 vP.pins) (m:Nat) (n:Nat):dJ Tryz.prog E qD ((nJ m).at n):=
 CM hH rI hE (vO m) (L:=[(nI m).at m]) (nJ m) (l:=[(2,vQ)]) kR (λ_ _=>⟨qh ⟨yb (vM hE m m),trivial⟩,trivial⟩) (λn x=>kR) (λ_=>kR) n
def He (m:Nat):bM Tryz.prog (vL m):=
 TX hH rI (H:=vP) (vL m) Tryz.func228 kR (vO m) (L:=[(nJ m).at m]) (l:=[(0,qD)]) kR (λ_ hE _ _=>⟨qh ⟨yb (vN hE m m),trivial⟩,trivial⟩) (λx=>kR)
def LS:bq vL:=He
def rO:=ak f229 229 [gq,aJ,aa] bl []
def Al:=aA rO 4 [bl,.a (.c (.nm 1 eu)),aa,aa] [(.exit 4,[bl])] iL aG af
def Am:=aA rO 2 [aJ,aa,oC,aa,aJ,aa,aa] [(.exit 2,[aJ,aa,oC,aJ,aa,aa])] lr aG af
def An:=aA rO 0 [aJ,aa,oC,aJ,aa,aa] [(.exit 0,[oC])] ls aG (aH Am)
def LR:=ah rO Ao func229 aG (ed An Al)
def wz:=ak f149 149 [gq] (.tup [.c c8,de]) [4,2,4,11,5,4,11,10,4]
def wA:=(bN LS LR)
def Bj:=aA wz 2 [fM,g9,.a (.c (.dp 2 bO)),aa,aa,aa,.a (.c ot),aa,aa] [(.exit 2,[fM,g9,.a (.c (.dp 2 bO)),aa,aa])] lJ wA af
def Bk:=aA wz 0 [fM,g9,.a (.c (.dp 2 bO)),aa,aa] [(.exit 0,[.a (.c (.dp 0 bO))])] lK wA (aH Bj)
def MF:=ah wz Bl func149 wA (aH Bk)
def Gl:=mA f72 72 [qb] nz [oF] [2,5,4,2,10,600000,2,15,4,10,11,4,10,16,4] [[false,true,true,true]]
def Gm:=(aR MF)
def Gj:=aA Gl 2 [qb,.a yk,aa,kI,aa,aa,aJ,aa,aa] [(.exit 2,[qb,.a yk,kI,aa,aa])] jF Gm af
def Gk:=aA Gl 0 [qb,.a yk,kI,aa,aa] [(.exit 0,[qb,.a yk])] mW Gm (aH Gj)
def Tp:=ah Gl Pb func72 Gm (aH Gk)
def LP:=ah (ak f230 230 [qb,aa,aa] bL [1,7,600000,1,8,600002,1,12,600000]) Hc func230 aG af
def LF:=ah (ak f242 242 [bL,bL] (.tup [rG,rG,jx]) []) Aa func242 (aR lT) af
def vq:=ak f330 330 [aK,aK] aK []
def vr:=(aR dB)
def yN:=aA vq 2 [aK,bR,aa,fK,aV,aK,aa,aa,aK,aa,aa] [(.exit 2,[aK,bR,aa,aV,aK,aa,aa])] kW vr af
def yO:=aA vq 0 [aK,bR,aK,aa,aa] [(.exit 0,[bR])] kX vr (aH yN)
def K7:=ah vq yP func330 vr (aH yO)
def DA:=ah (ak f282 282 [aY,aY] aY []) qs func282 (gm dB K7 ig) af
def DO:=ah (ak f232 232 [bL,bL] bL []) qC func232 (gY LF rS DA rY) af
def DP:=ah (ak f231 231 [bL] bL []) vK func231 (bN lT GE) af
def nj:=ah (ak f301 301 [aY,aa] aY []) jP func301 (aR KR) af
def K6:=ah (ak f331 331 [fK] aU []) yM func331 aG af
def Lw:=ah (ak f284 284 [fK,fK] aa []) zr func284 (aR K6) af
def Ek:=ak f199 199 [aK,aK] aa []
def El:=(bN Dz Lw)
def AW:=aA Ek 0 [aK,aK,aa] [(.ret,[aa]),(.exit 0,[])] iV El af
def rR:=ah Ek qF func199 El (aH AW)
def Eg:=ak f203 203 [aK,aK] aK []
def Eh:=(aR dB)
def AO:=aA Eg 0 [aK,bR,aV,aK,aa,aa] [(.exit 0,[bR])] gN Eh af
def Ef:=ah Eg sZ func203 Eh (aH AO)
def rN:=ah (ak f244 244 [aY,aY] aY []) jQ func244 (fF dB rX ig rR Ef) af
def vI:=ak f233 233 [.a (.c yj)] bL [12,0,2,16,0,2]
def vJ:=(fF lT rS nj rN rY)
def Ai:=aA vI 2 [jy,aa,.a rF,.a (.c (.nm 3 cA)),aa,aa] [(.exit 2,[jy,aa,.a rF])] ll vJ af
def Aj:=aA vI 0 [jy,.a (.c (.nm 2 cA)),aa,.a (.c yj),aa,aa] [(.ret,[jy]),(.exit 0,[jy,.a (.c (.nm 2 cA)),aa])] lq vJ af
def LO:=ah vI Ak func233 vJ (ed Aj Ai)
def EL:=ak f150 150 [nz,oF,aa,aa] bL [5,5,600000,5,6,600002,5,8,600000,7,7,600000,7,8,600002,7,10,600000]
def EM:=(gY LP DO DP LO)
def Bi:=aA EL 0 [nz,oF,aa,aa,.a CW,.a (.c (.nm 8 cA)),.a (.c (.drr 0 3)),aa,aa] [(.exit 0,[nz,oF,.a CW,.a (.c (.nm 8 cA))])] eN EM af
def ME:=ah EL wo func150 EM (aH Bi)
def yu:=ah (ak f42 42 [bL] aa []) u7 func42 (bN lT lS) af
def DN:=ah (ak f234 234 [bL] bL []) nH func234 (aR lT) af
def Ei:=ak f200 200 [aK,fK] (.tup [oA,.c (.int .u32)]) []
def Ej:=(aR dB)
def AU:=aA Ei 0 [aK,fK,bR,aV,aa] [(.exit 0,[bR,aV])] iU Ej af
def Mh:=ah Ei v7 func200 Ej (aH AU)
def Mg:=ah (ak f201 201 [fK] aa []) AT func201 (aR vA) af
def rQ:=ak f202 202 [ky,aK] fK []
def AP:=aA rQ 4 [ky,aa,aV,aV,aK,aa,aa] [(.exit 4,[ky,aa,aV,aV])] iS aG af
def AQ:=aA rQ 2 [ky,aK,aa,aV,aV,aV,aK,aa,aa] [(.exit 2,[ky,aK,aa,aV,aV,aV])] iT aG af
def AR:=aA rQ 0 [ky,aK,aa,aV,aV] [(.exit 0,[ky,aK,aa,aV])] gO aG af
def Mf:=ah rQ AS func202 aG (Ct AR AQ AP)
def EW:=ak f126 126 [aK,aK] (.tup [oA,oA]) [15,10,300]
def EX:=(uH rR rW Mh dB Mg wT Mf wS)
def BD:=aA EW 0 [bR,aa,aK,.a (.c (.nm 1 fo)),aa,aa] [(.exit 0,[bR,aa,.a (.c (.nm 1 fo)),aa])] i7 EX af
def EV:=ah EW pk func126 EX (aH BD)
def Dd:=ak f339 339 [aK] aK []
def De:=(fE DD wT EV rX wS rR)
def yA:=aA Dd 0 [aK,aK] [(.ret,[aK])] kP De af
def KY:=ah Dd yB func339 De (aH yA)
def K8:=ah (ak f306 306 [aY] (.tup [mJ,de]) []) sR func306 (gY lS dB KY ig) af
def DF:=ah (ak f250 250 [aY,aY] aa []) qt func250 (gm lS dB rR) af
def LN:=ah (ak f236 236 [bL,aa] mL []) Ah func236 (fF o9 nj K8 DA DF) af
def Ld:=ah (ak f302 302 [mL] aa []) yS func302 (aR o9) af
def Lx:=ah (ak f281 281 [aY,aY] aY []) zt func281 (aR rN) af
def KZ:=ah (ak f338 338 [mL,aa] (.tup [mJ,de,jx]) []) yC func338 (ru o9 Em nj Lx wU DF lS) af
def La:=ah (ak f304 304 [mL,aa,aa] aY []) qn func304 (ru nj GE KZ wU rN lS Ep) af
def KP:=ah (ak f49 49 [aY] aY []) Ih func49 (bN rW ig) af
def Dj:=ak f303 303 [aY] uW []
def Dk:=(aR dB)
def yQ:=aA Dj 0 [jz,aV,aK,aa,aa] [(.exit 0,[jz,aV])] kY Dk af
def Lb:=ah Dj yR func303 Dk (aH yQ)
def DG:=ah (ak f245 245 [aV,aU] aV []) ia func245 aG af
def K9:=ah (ak f305 305 [aU,aa] aV []) vt func305 (aR DG) af
def DM:=ah (ak f235 235 [mL,aa] aV []) vF func235 (fE Ld La KP Lb K9 DG) af
def MD:=ah (ak f151 151 [bL,aa] aV []) Bh func151 (gY DN yu LN DM) af
def MC:=ah (ak f152 152 [aV] aa []) Bg func152 (aR wV) af
def MN:=ah (ak f127 127 [aY,aY] (.tup [mJ,mJ,de]) []) wR func127 (fF dB EV rX Ef ig) af
def LM:=ah (ak f237 237 [bL,bL,aa] mL []) Ag func237 (fF o9 KP nj MN lS) af
def wm:=ah (ak f153 153 [bL,bL,aa] aV []) s5 func153 (gY DN yu LM DM) af
def Kw:=ak f73 73 [nz,oF,aa] aa [7,12,600000,7,16,600000,7,17,1,7,19,4,7,20,600000,7,21,600002,16,10,600000,16,11,600002,16,19,4,16,26,4,16,27,600000,16,29,600000]
def Kx:=(ru ME yu MD MC qd sN wm)
def Gh:=aA Kw 0 [nz,oF,aa,aV,aJ,aa,aa] [(.ret,[nz,oF,aa]),(.exit 0,[nz,oF])] kL Kx af
def To:=ah Kw Gi func73 Kx (aH Gh)
def MA:cR:={regs:=[⟨[],[0]⟩,⟨[],[0]⟩,⟨[],[2]⟩,⟨[],[2]⟩],heads:=[],exits:=[],rets:=[2],pins:=[],spec:=[[true]]}
abbrev EK:List Sh:=[sL]
abbrev EJ:Sh:= .a (.c (.nm 0 (.int .i64)))
abbrev EH:List Sh:=[sD]
def Mz (m:Nat):Qq EK->Option (EJ.Val×Qq EH):=λ(x:LI×Unit)=>Ht m x.1
def EI (m:Nat):cJ:=⟨154,EK,EJ,EH,Mz m⟩
noncomputable def pg:Code:=cU Tryz.f154
def Hs (m:Nat):bM Tryz.prog (EI m):=
 RC hH rI (H:=MA) (fn:=Tryz.f154) (f:=154) (t:=(.int .i64)) (ty:=22) (e:=3) (ty2:=22) (k:=1) (cells:=[.nil (.int .i64)]) (A:=pA pg) (X:=pX (pB (pA (pB pg)))) (Y:=pB (pB pg)) (o0:=pO 0 (pA (pA (pB pg)))) (o1:=pO 1 (pA (pA (pB pg)))) Tryz.func154 kR kR kR kR kR kR kR kR kR (of_decide_eq_true kR) rfl kR kR kR (λxs=>[(0,.sl .imm (.int .i64) xs)]) (λxs=>[(2,.sl (.nm 0) (.int .i64) xs)]) (λxs=>kR) (λ_=>rfl) (λ_=>rfl) (λ_=>rfl) kR (λxs=>kR) (λxs=>kR)
def My:bq EI:=Hs
def Ku:=mA f74 74 [nz,aJ] (.a CV) [.a (.bx 4 [c8,.imm (.sl false cf),.dead,c8]),ku] [2,0,3000,5,9,3,6,9,3,7,1,1,9,0,1] [[true,true,true,true]]
def Kv:=(aR My)
def Gg:=aA Ku 0 [.a CZ,.a CU,.a CT,aa,aa] [(.exit 0,[.a CZ,.a CU,.a CT])] mV Kv af
def Tn:=ah Ku Pa func74 Kv (aH Gg)
def Mb:=ak f20 20 [dV,aJ] (.tup [CV,de,de]) []
def Mc:=(gY Tq Tp To Tn)
def Hg:=aA Mb 0 [aJ,.a uU,.a (.bx 5 [bG,c8,.mm 6 cA]),.a Ko,aa,aa] [(.ret,[.a uU,aa,aa]),(.exit 0,[aJ,.a uU,.a (.bx 5 [bG,c8,.mm 6 cA]),.a Ko])] jH Mc af
def Ma:=ah Mb Hi func20 Mc (aH Hg)
def g8k:=ah (ak f8 8 [aa,aa] aa []) g8 func8 aG af
def Ge:=ak f75 75 [aJ,aa] bl [14,7,5]
def Gf:=(aR g8k)
def Gc:=aA Ge 2 [aJ,aa,bl,g9,aa] [(.exit 2,[bl])] rJ Gf af
def Gd:=aA Ge 0 [aJ,aa,bl,aa] [(.exit 0,[aJ,aa,bl])] u5 Gf af
def Tm:=ah Ge g75 func75 Gf (ed Gd Gc)
def TO:=ah (ak f21 21 [aa] bl []) TP func21 (aR Tm) af
def LQ:=ak f22 22 [aJ,aJ] aU []
def Hd:=aA LQ 0 [aJ,aJ,aa] [(.ret,[aU]),(.exit 0,[])] o5 aG af
def TN:=ah LQ Ij func22 aG (aH Hd)
def LJ:=ak f23 23 [bH,bH] aU []
def Ha:=aA LJ 0 [bH,bH,aa] [(.ret,[aU]),(.exit 0,[])] oY aG af
def TM:=ah LJ Pj func23 aG (aH Ha)
def DJ:=ak f238 238 [aJ] aU []
def Ae:=aA DJ 0 [aJ,oC,aJ,aa,aa] [(.ret,[aU]),(.exit 0,[])] lk aG af
def LL:=ah DJ Af func238 aG (aH Ae)
def vE:=ak f239 239 [mK] aU []
def Ac:=aA vE 2 [fp,aa,aJ,aa,aa,aa] [(.ret,[aU]),(.exit 2,[fp,aa,aa,aa])] fO aG af
def Ad:=aA vE 0 [fp,aa,aa,aa] [(.ret,[aU]),(.exit 0,[])] eM aG (aH Ac)
def LK:=ah vE qv func239 aG (aH Ad)
def wg:=ak f155 155 [mK] aa []
def wh:=(fF LL LK sN qd yu)
def Be:=aA wg 3 [fp,aa,aa] [(.ret,[aa]),(.exit 3,[])] fP wh af
def Bf:=aA wg 1 [fp,aa,bH,aa,aa] [(.ret,[aa]),(.exit 1,[fp,aa])] fQ wh af
def Mx:=ah wg wj func155 wh (ed Bf Be)
def DH:=ak f240 240 [bH] aa []
def DI:=(aR sN)
def Ab:=aA DH 0 [bH,aa,aa] [(.ret,[aa]),(.exit 0,[])] lh DI af
def LG:=ah DH G9 func240 DI (aH Ab)
def Mw:=ah (ak f156 156 [bH,aa] aa []) Bd func156 (aR LG) af
def Tl:=ah (ak f76 76 [mK,bH] aa []) Kt func76 (bN Mx Mw) af
def Ks:=ak f78 78 [bH,aJ] eW []
def F7:=aA Ks 0 [bH,eW,aJ,aa,aa] [(.exit 0,[eW])] oL aG af
def Tj:=ah Ks O8 func78 aG (aH F7)
def Kr:=ak f79 79 [aa] bl []
def F6:=aA Kr 0 [bl,aa,aa] [(.exit 0,[bl])] oK aG af
def Ti:=ah Kr O7 func79 aG (aH F6)
def EF:=ak f157 157 [bH] uY [1,2,4,5,6,4]
def EG:=(aR qd)
def Bc:=aA EF 0 [uY,bH,aa,aa] [(.exit 0,[uY])] lI EG af
def EE:=ah EF we func157 EG (aH Bc)
def qA:=ak f233 233 [sJ] bL [12,0,2,16,0,2]
def qB:=(fF lT rS nj rN rY)
def vG:=aA qA 2 [sJ,oB,aa,.a (.bx 3 [cW,jv]),.a (.c (.nm 4 cA)),aa,aa] [(.exit 2,[sJ,oB,aa,.a (.bx 3 [cW,jv])])] ib qB af
def vH:=aA qA 0 [sJ,oB,.a (.c (.nm 3 cA)),aa,.a (.c (.ref 0 0 4)),aa,aa] [(.ret,[sJ,oB]),(.exit 0,[sJ,oB,.a (.c (.nm 3 cA)),aa])] ic qB af
def Hb:=ah qA oZ func233 qB (ed vH vG)
def ED:=ah (ak f158 158 [uY,aa] bL [1,4,301]) wb func158 (aR Hb) af
def EC:=ah (ak f159 159 [uY,aa,aV,aV] fI [0,5,4,0,15,4]) wa func159 (gm qd DO DP) af
def Ga:=ak f77 77 [mK,bH,aJ] uX [5,4,11,11,15,11]
def Gb:=(fE EE ED qd wm sN EC)
def F8:=aA Ga 2 [fp,sH,kx,aa,aa,aJ,aa,aa] [(.exit 2,[fp,sH,kx,aJ,aa,aa])] mU Gb af
def F9:=aA Ga 0 [fp,sH,kx,aJ,aa,aa] [(.ret,[eW,aa]),(.exit 0,[eW])] kK Gb (aH F8)
def Tk:=ah Ga O9 func77 Gb (aH F9)
def F4:=ak f80 80 [mK,bH] uX [8,15,11,9,4,11]
def F5:=(fE EE EC ED qd wm sN)
def F2:=aA F4 2 [fp,sH,kx,aa,aa] [(.exit 2,[fp,sH,kx,aa])] mR F5 af
def F3:=aA F4 0 [fp,sH,kx,aa] [(.ret,[eW,aa]),(.exit 0,[eW])] kJ F5 (aH F2)
def Th:=ah F4 O6 func80 F5 (aH F3)
def Kq:=ak f81 81 [bH,aJ] eW []
def F1:=aA Kq 0 [bH,eW,aJ,aa,aa] [(.exit 0,[eW])] oJ aG af
def Tf:=ah Kq Tg func81 aG (aH F1)
def LC:=ah (ak f25 25 [mK,bH] uX []) xK func25 (fE Tl Tj Ti Tk Th Tf) af
def TL:=ah (ak f24 24 [] aU []) LH func24 (bN Ma LC) af
abbrev C3:List Sh:=[bH,aa,aa]
abbrev TE:Sh:=aU
abbrev TC:List Sh:=[ku,ku,ku]
def TG:=mA f4 4 C3 TE TC [] [[false]]
def TH:=(bt wv<|bt TU<|bt TV<|bt TS<|uH TR TQ Ma TO TN TM TL LC)
def KN:=aA TG 2 [aa,bl,.a (.c (.nm 1 cf)),aa,kx,aa] [(.ret,[aU]),(.exit 2,[])] sO TH af
def KO:=aA TG 0 [aa,bl,.a (.c (.nm 1 cf)),.a CR,.a CQ,.a (.c (.nm 12 cf)),aa] [(.exit 0,[aa,bl,.a (.c (.nm 1 cf)),.a CR,.a CQ,.a (.c (.nm 12 cf))])] u6 TH af
set_option maxHeartbeats 4000000 in
def g4k:=ah TG g4 func4 TH (ed KO KN)
def TF (m:Nat):Qq C3->Option (TE.Val×Qq TC):=un (g4 m)
def g4T (m:Nat):cJ:=⟨4,C3,TE,TC,TF m⟩
def TB (m:Nat):bM Tryz.prog (g4T m):=g4k m
end
end Go.Vs.F
