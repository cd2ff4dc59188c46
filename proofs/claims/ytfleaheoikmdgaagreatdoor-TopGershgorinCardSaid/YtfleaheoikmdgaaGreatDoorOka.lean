import Derived.Test.YtfleaheoikmdgaaGreatDoorFn
import Derived.Test.YtfleaheoikmdgaaGreatDoorVc
import Derived.Test.YtfleaheoikmdgaaGreatDoorProg
import Derived.KernelRfl
set_option linter.unusedVariables false
set_option linter.unusedSimpArgs false
set_option linter.unusedSectionVars false
set_option linter.defProp false
set_option maxRecDepth 100000
namespace Go.Vs.F
open Go.Proofs
def kR{p:Prop}(h:p:=by kernel_rfl):p:=h
abbrev sD:Sh:=.a (.c .dead)
abbrev sI:Sh:=.a (.c (.int .i64))
abbrev sL:Sh:=.a (.c (.imm (.int .i64)))
abbrev sB:Sh:=.a (.c .bool)
abbrev sU:Sh:=.a (.c (.int .u64))
open Tryz
def tt:TT:=[none,none,none,some ⟨(.int .i64),[.int .i64]⟩,some ⟨.bool,[.bool]⟩,some ⟨(.int .u8),[.int .u8]⟩,none,none,none,some ⟨.string,[.other]⟩,none,none,none,none,none,none,none,none,none,none,none,none,some ⟨(.slice 30 (.int .u64)),[.nil (.int .u64)]⟩,none,some ⟨(.slice 3 (.int .i64)),[.nil (.int .i64)]⟩,some ⟨(.slice 31 (.int .u64)),[.nil (.int .u64)]⟩,none,some ⟨(.struct [(0,1),(1,1),(2,1),(3,1),(4,1)]),[.int .i64,.int .i64,.nil (.int .i64),.nil (.int .i64),.nil (.int .u64)]⟩,none,none,some ⟨(.int .u64),[.int .u64]⟩,some ⟨(.int .u64),[.int .u64]⟩,none,some ⟨(.struct [(0,1),(1,1)]),[.int .u64,.int .u64]⟩,none,none,none,none,none,none,none,none,none,none,none,some ⟨(.int .u64),[.int .u64]⟩,some ⟨(.slice 49 (.pr (.int .i64) (.pr (.int .i64) (.int .u64)))),[.nil (.pr (.int .i64) (.pr (.int .i64) (.int .u64)))]⟩,none,none,some ⟨(.struct [(0,1),(1,1),(2,1)]),[.int .i64,.int .i64,.int .u64]⟩,none,none,none,none,none,none,none,none,none,none,none,none,none,none,none,none,some ⟨(.struct [(0,1),(1,1),(2,1)]),[.int .i64,.int .i64,.int .i64]⟩,none,none,some ⟨(.slice 33 (.pr (.int .u64) (.int .u64))),[.nil (.pr (.int .u64) (.int .u64))]⟩,none,some ⟨(.struct [(0,1),(1,1),(2,1)]),[.int .i64,.int .i64,.nil (.int .u64)]⟩,none,some ⟨(.struct [(0,3),(3,1)]),[.int .i64,.int .i64,.nil (.int .u64),.nil (.int .u64)]⟩,none,none,none,some ⟨(.slice 117 (.int .u32)),[.nil (.int .u32)]⟩,none,some ⟨(.struct [(0,1),(1,1)]),[.bool,.nil (.int .u32)]⟩,none,some ⟨(.struct [(0,1),(1,2),(3,1)]),[.bool,.bool,.nil (.int .u32),.int .i64]⟩,none,none,none,none,none,none,none,none,none,none,none,none,none,none,none,none,some ⟨(.slice 140 (.sl false (.pr .bool (.sl false (.int .u32))))),[.nil (.sl false (.pr .bool (.sl false (.int .u32))))]⟩,none,some ⟨(.slice 144 (.sl false (.pr .bool (.pr (.pr .bool (.sl false (.int .u32))) (.int .i64))))),[.nil (.sl false (.pr .bool (.pr (.pr .bool (.sl false (.int .u32))) (.int .i64))))]⟩,none,none,none,some ⟨(.struct [(0,1),(1,1),(2,1),(3,1),(4,1),(5,1),(6,1),(7,1)]),[.nil (.int .i64),.nil (.int .i64),.nil (.int .i64),.nil (.int .i64),.nil (.int .u64),.nil (.int .i64),.nil (.int .i64),.nil (.int .u64)]⟩,none,none,none,none,none,none,none,none,none,none,none,none,some ⟨(.int .u32),[.int .u32]⟩,none,none,none,none,none,none,none,none,none,none,none,none,none,none,none,some ⟨(.struct [(0,1),(1,2),(3,1),(4,1)]),[.bool,.bool,.nil (.int .u32),.int .i64,.bool]⟩,none,none,none,none,none,none,some ⟨(.slice 79 (.pr .bool (.sl false (.int .u32)))),[.nil (.pr .bool (.sl false (.int .u32)))]⟩,none,none,none,some ⟨(.slice 81 (.pr .bool (.pr (.pr .bool (.sl false (.int .u32))) (.int .i64)))),[.nil (.pr .bool (.pr (.pr .bool (.sl false (.int .u32))) (.int .i64)))]⟩,none,none,none,none,some ⟨(.ptr 153),[.other]⟩,some ⟨(.slice 203 .opq),[.nil .opq]⟩,some ⟨(.slice 192 (.pr (.sl false (.int .i64)) (.sl false (.int .u64)))),[.nil (.pr (.sl false (.int .i64)) (.sl false (.int .u64)))]⟩,none,some ⟨(.struct [(0,5),(5,1),(6,1),(7,1),(8,1),(9,1),(10,1)]),[.int .i64,.int .i64,.nil (.int .i64),.nil (.int .i64),.nil (.int .u64),.nil (.int .i64),.nil (.int .i64),.nil (.int .i64),.nil .opq,.nil (.pr (.sl false (.int .i64)) (.sl false (.int .u64))),.nil (.pr (.sl false (.int .i64)) (.sl false (.int .u64)))]⟩,none,none,none,none,none,none,none,some ⟨(.slice 165 (.pr (.int .u64) (.int .u64))),[.nil (.pr (.int .u64) (.int .u64))]⟩,none,none,none,some ⟨(.struct [(0,1),(1,1)]),[.int .u64,.int .u64]⟩,none,none,none,none,none,none,none,none,none,none,none,none,none,none,none,none,none,none,none,none,some ⟨(.slice 4 .bool),[.nil .bool]⟩,some ⟨(.map 144 (.sl false (.pr .bool (.pr (.pr .bool (.sl false (.int .u32))) (.int .i64))))),[.mnil]⟩,none,some ⟨(.struct [(0,1)]),[.mnil]⟩,none,none,some ⟨(.struct [(0,1),(1,1)]),[.nil (.int .i64),.nil (.int .u64)]⟩,none,none,none,some ⟨(.slice 201 (.pr (.int .i64) (.pr (.pr .bool (.pr (.pr .bool (.sl false (.int .u32))) (.int .i64))) (.int .u64)))),[.nil (.pr (.int .i64) (.pr (.pr .bool (.pr (.pr .bool (.sl false (.int .u32))) (.int .i64))) (.int .u64)))]⟩,none,none,none,none,some ⟨(.struct [(0,1),(1,4),(5,1)]),[.int .i64,.bool,.bool,.nil (.int .u32),.int .i64,.int .u64]⟩,none,some ⟨(.map 81 (.pr .bool (.pr (.pr .bool (.sl false (.int .u32))) (.int .i64)))),[.mnil]⟩,none,none,some ⟨(.slice 25 (.sl false (.int .u64))),[.nil (.sl false (.int .u64))]⟩,none,none,none,some ⟨(.slice 144 (.sl false (.pr .bool (.pr (.pr .bool (.sl false (.int .u32))) (.int .i64))))),[.nil (.sl false (.pr .bool (.pr (.pr .bool (.sl false (.int .u32))) (.int .i64))))]⟩,none,none,none,none,none,none,none,none,none,none,none,none,none,none,none,none,none,none,none,none,none,none,none,none,none,none,none,none,none,none,some ⟨(.tab 0 .u8 [0,1,28,2,29,14,24,3,30,22,20,15,25,17,4,8,31,27,13,23,21,19,16,7,26,12,18,6,11,5,10,9]),[.other,.other,.other,.other,.other,.other,.other,.other,.other,.other,.other,.other,.other,.other,.other,.other,.other,.other,.other,.other,.other,.other,.other,.other,.other,.other,.other,.other,.other,.other,.other,.other]⟩]
def htt:TTok Tryz.prog tt:=qia kR
def hmix:Tryz.prog.follows .mixedOrders=true:=kR
noncomputable section
@[reducible]def cC(R:Type):ShC->Type
 |.dead=>R
 |.bconst _=>R
 |.nilp=>R
 |.fn _=>R
 |.nl _=>R
 |.ref _ _ _=>R
 |.drw _ _=>R
 |.bool=>Bool->R
 |.int _=>Int->R
 |.imm t=>List (Den t)->R
 |.nm _ t=>List (Den t)->R
 |.dp _ t=>List (List (Den t))->R
 |s=>s.Val->R
def uC{R:Type}:(s:ShC)->cC R s->s.Val->R
 |.dead,f,_=>f
 |.bconst _,f,_=>f
 |.nilp,f,_=>f
 |.fn _,f,_=>f
 |.nl _,f,_=>f
 |.ref _ _ _,f,_=>f
 |.drw _ _,f,_=>f
 |.bool,f,x=>f x
 |.int _,f,x=>f x
 |.imm _,f,x=>f x
 |.nm _ _,f,x=>f x
 |.dp _ _,f,x=>f x
 |.lit,f,x=>f x
 |.refw _ _ _,f,x=>f x
 |.ptr _ _ _ _,f,x=>f x
 |.iptr _ _ _,f,x=>f x
 |.drr _ _,f,x=>f x
 |.wn _ _,f,x=>f x
 |.dq _ _,f,x=>f x
 |.fd _ _,f,x=>f x
 |.mm _ _,f,x=>f x
 |.mo _ _,f,x=>f x
@[reducible]def cL(R:Type):List ShC->Type
 |[]=>R
 |s::r=>cC (cL R r) s
def uL{R:Type}:(l:List ShC)->cL R l->valL ShC.Val l->R
 |[],f,_=>f
 |s::r,f,x=>uL r (uC s f x.1) x.2
@[reducible]def cS(R:Type):Sh->Type
 |.a (.c s)=>cC R s
 |.a (.bx _ l)=>cL R l
 |.a (.agg l)=>cL R l
 |s=>s.Val->R
def uS{R:Type}:(s:Sh)->cS R s->s.Val->R
 |.a (.c s),f,x=>uC s f x
 |.a (.bx _ l),f,x=>uL l f x
 |.a (.agg l),f,x=>uL l f x
 |.tup _,f,x=>f x
 |.altA _ _,f,x=>f x
 |.altT _ _,f,x=>f x
@[reducible]def cT(R:Type):List Sh->Type
 |[]=>R
 |s::r=>cS (cT R r) s
def un{R:Type}:{l:List Sh}->cT R l->valL Sh.Val l->R
 |[],f,_=>f
 |s::_,f,x=>un (uS s f x.1) x.2
@[reducible]def cQ(R:Type):SS->Type
 |[]=>R
 |s::r=>cS (cQ R r) s.2
def uq{R:Type}:{l:SS}->cQ R l->SS.Val l->R
 |[],f,_=>f
 |s::_,f,x=>uq (uS s.2 f x.1) x.2
def ok_oL:Op->List Operand
 | .call c=>(match c.callee with
   | .value f=>[f]
   | .invoke r _=>[r]
   | .builtin _=>[])++c.args.toList
 | .slice _ x l h m=>x::(l.toList++(h.toList++m.toList))
 | .makeFunc _ a b=>a.toList++b.toList
 |o=>o.operands.toList
def ok_vO:Operand->Nat
 | .tmp t=>Nat.pow 2 t
 |_=>0
def ok_oM:List Operand->Nat
 |[]=>0
 |x::r=>Nat.lor (ok_vO x) (ok_oM r)
def ok_rM (a:Array Oper) (o:Oper):Nat:=Nat.lor (ok_oM (ok_oL o.op)) (match o.guard with
 |some (j,_)=>(match guardOf a j with
  |some d=>Nat.pow 2 d
  |none=>0)
 |none=>0)
def ok_wM (o:Oper) (l:Nat):Nat:=match o.dst with
 |some d=>Nat.xor l (Nat.land l (Nat.pow 2 d))
 |none=>l
def ok_oI (a:Array Oper):List Oper->Nat->Nat
 |[],l=>l
 |o::r,l=>Nat.lor (ok_rM a o) (ok_wM o (ok_oI a r l))
def ok_nO (x:Nat):List Operand->Nat
 |[]=>0
 | .tmp t::r=>cond (Nat.beq t x) (ok_nO x r+1) (ok_nO x r)
 |_::r=>ok_nO x r
def ok_oC (x:Nat):List Oper->Nat
 |[]=>0
 |o::r=>ok_nO x (ok_oL o.op)+ok_oC x r
def ok_tB (m i:Nat):Bool:=Nat.beq (Nat.land (Nat.shiftRight m i) 1) 1
def ok_mv (a:Array Oper) (p:List Nat) (x:Nat) (d:Option Nat) (l:Nat):Bool:= !ok_tB l x&&(!p.any (Nat.beq x)&&((match d with
 |some y=>Nat.beq y x
 |none=>false)||Nat.beq (ok_oC x a.toList) 1))
def ok_mI (a:Array Oper) (p:List Nat) (l:Nat):List Oper->Nat->List (Nat×Nat)
 |[],_=>[]
 |o::r,i=>match o.op with
  | .move (.tmp x)=>cond (ok_mv a p x o.dst (ok_wM o (ok_oI a r l))) ((i,1)::ok_mI a p l r (i+1)) (ok_mI a p l r (i+1))
  |_=>ok_mI a p l r (i+1)
def ok_lI (R:Nat):Code->Nat->List (Nat×Nat)->Nat
 | .ret,_,_=>R
 | .region _ a _,o,_=>ok_oI a a.toList o
 | .seq a b,o,e=>ok_lI R a (ok_lI R b o e) e
 | .cond c a b,o,e=>Nat.lor (ok_vO c) (Nat.lor (ok_lI R a o e) (ok_lI R b o e))
 | .scope c,o,e=>ok_lI R c o e
 | .block i c,o,e=>ok_lI R c o ((i,o)::e)
 | .loop c,_,e=>ok_lI R c 0 e
 | .exit i,_,e=>lookD e i
 |_,o,_=>o
def ok_bL:Nat->Nat->Nat->List Nat
 |0,_,_=>[]
 |f+1,i,m=>cond (Nat.beq m 0) [] (cond (Nat.beq (Nat.mod m 2) 1) (i::ok_bL f (i+1) (Nat.div m 2)) (ok_bL f (i+1) (Nat.div m 2)))
def ok_eF:List Nat->Nat->List (Nat×Nat)
 |r::i::m::t,k=>cond (Nat.beq r k) ((i,m)::ok_eF t k) (ok_eF t k)
 |_,_=>[]
def ok_cD (R:Nat) (p x:List Nat):Code->Nat->List (Nat×Nat)->Nat->List (Nat×Nat×Hint)->List (Nat×Nat×Hint)
 | .region i a _,o,_,_,z=>(0,i,⟨ok_eF x i++ok_mI a p o a.toList 0,ok_bL 999 0 o⟩)::z
 | .seq a b,o,e,k,z=>ok_cD R p x a (ok_lI R b o e) e k (ok_cD R p x b o e k z)
 | .cond _ a b,o,e,k,z=>ok_cD R p x a o e k (ok_cD R p x b o e k z)
 | .scope c,o,e,k,z=>ok_cD R p x c o e k z
 | .block i c,o,e,_,z=>(2,i,⟨[],ok_bL 999 0 o⟩)::ok_cD R p x c o ((i,o)::e) i z
 | .loop c,_,e,k,z=>(1,k,⟨[],ok_bL 999 0 (ok_lI R c 0 e)⟩)::ok_cD R p x c (ok_lI R c 0 e) e k z
 |_,_,_,_,z=>z
def ok_fR (i:Nat):List (Nat×Nat×Hint)->Hint
 |[]=>⟨[],[]⟩
 |(a,j,h)::r=>cond (Nat.beq a 0&&Nat.beq j i) h (ok_fR i r)
def ok_tF (z:List (Nat×Nat×Hint)):Nat->Nat->List Hint
 |0,_=>[]
 |k+1,i=>ok_fR i z::ok_tF z k (i+1)
def ok_tK (t:Nat):List (Nat×Nat×Hint)->List (Nat×List Nat)
 |[]=>[]
 |(a,i,h)::r=>cond (Nat.beq a t) ((i,h.keep)::ok_tK t r) (ok_tK t r)
def ok_lS:Sh->Bool
 | .a (.bx _ _)=>true
 | .a (.c (.nm _ _))=>true
 | .a (.c (.wn _ _))=>true
 | .a (.c (.dp _ _))=>true
 |_=>false
def ok_pI:List Sh->Nat->List Nat
 |[],_=>[]
 |s::r,i=>cond (ok_lS s) (i::ok_pI r (i+1)) (ok_pI r (i+1))
def ok_rI:List ResultVar->Nat->Nat
 |[],m=>m
 | .tmp t::r,m=>ok_rI r (Nat.lor (Nat.pow 2 t) m)
 | .cell t _::r,m=>ok_rI r (Nat.lor (Nat.pow 2 t) m)
def ok_pN:List Nat->Nat
 |[]=>0
 |x::r=>Nat.lor (Nat.pow 2 x) (ok_pN r)
def ok_oS:ShC->Bool
 | .nm _ _=>true
 | .dp _ _=>true
 | .mm _ _=>true
 | .mo _ _=>true
 | .dq _ _=>true
 |_=>false
def ok_aS:ShA->List Bool
 | .c s=>[ok_oS s]
 | .agg l=>l.map ok_oS
 | .bx _ l=>l.map ok_oS
def ok_sA:Sh->List (List Bool)
 | .a s=>[ok_aS s]
 | .tup l=>l.map ok_aS
 |_=>[]
structure ok_HS where
 f:Func
 n:Nat
 a:List Sh
 r:Sh
 u:List Sh
 H:Hints
def ok_aG (f:Func) (n:Nat) (a:List Sh) (r:Sh) (u:List Sh) (p:List Nat) (R:Nat) (z:List (Nat×Nat×Hint)) (s:List (List Bool)):ok_HS:=⟨f,n,a,r,u,⟨ok_tF z z.length 0,ok_tK 1 z,ok_tK 2 z,ok_bL 999 0 R,p,s⟩⟩
def ok_aF (f:Func) (n:Nat) (a:List Sh) (r:Sh) (u:List Sh) (p:List Nat) (R:Nat) (x:List Nat) (s:List (List Bool)):ok_HS:=ok_aG f n a r u p R (ok_cD R p x (codeOf f) R [] 0 []) s
noncomputable def ok_aE (f:Func) (n:Nat) (a:List Sh) (r:Sh) (u:List Sh) (x:List Nat) (s:List (List Bool)):ok_HS:=ok_aF f n a r u (ok_pI a 0) (ok_rI f.results.toList (ok_pN (ok_pI a 0))) x s
noncomputable def ok_aH (f:Func) (n:Nat) (a:List Sh) (r:Sh) (x:List Nat):ok_HS:=ok_aE f n a r (a.map λs=>cond (ok_lS s) s (sD)) x (ok_sA r)
def ok_lB:Code->Nat->Nat->Option Code
 | .seq a b,k,t=>(match ok_lB a k t with
   |some c=>some c
   |none=>ok_lB b k t)
 | .cond _ a b,k,t=>(match ok_lB a k t with
   |some c=>some c
   |none=>ok_lB b k t)
 | .scope c,k,t=>ok_lB c k t
 | .block i c,_,t=>ok_lB c i t
 | .loop c,k,t=>cond (Nat.beq k t) (some c) (ok_lB c k t)
 |_,_,_=>none
def ok_bB (S:ok_HS) (t:Nat):Code:=(ok_lB (codeOf S.f) 0 t).getD .skip
def ok_zS:List Nat->List Sh->SS
 |_,[]=>[]
 |l,s::r=>(l.headD 0,s)::ok_zS l.tail r
def ok_zE (S:ok_HS):Ex->List Nat
 | .ret=>S.H.rets
 | .exit k=>(lookK S.H.exits k).getD []
 | .normal=>[]
def ok_zO (S:ok_HS):List (Ex×List Sh)->List (Ex×SS)
 |[]=>[]
 |x::r=>(x.1,ok_zS (ok_zE S x.1) x.2)::ok_zO S r
def ok_zH (S:ok_HS) (b:Nat):List Nat:=(lookK S.H.heads b).getD []
def ok_jX (S:ok_HS) (b:Nat) (i:List Sh) (o:List (Ex×List Sh)) (g:Nat->Nat->cQ (Option (outVal (ok_zO S o))) (ok_zS (ok_zH S b) i)) (m:Nat):LT:=⟨b,ok_zS (ok_zH S b) i,ok_zO S o,λn=>uq (g m n)⟩
def ok_tT (S:ok_HS) (g:Nat->cT (Option (S.r.Val×Qv S.u)) S.a) (m:Nat):FunT:=⟨S.n,S.a,S.r,S.u,un (g m)⟩
def ok_FQ (t:Nat->FunT):Prop:= ∀m,FunOK prog (t m)
def ok_FM (D:Nat->List FunT):Prop:= ∀m,∀u∈D m,FunOK prog u
def ok_LQ (S:ok_HS) (X:Nat->LT):Prop:= ∀m E,EOf prog E S.f.ntmps S.H.pins-> ∀n,LoopOK prog E (ok_bB S (X m).blk) ((X m).at n)
def ok_XM (S:ok_HS) (X:Nat->List LT):Prop:= ∀m E,EOf prog E S.f.ntmps S.H.pins-> ∀x∈X m,∀n,LoopOK prog E (ok_bB S x.blk) (x.at n)
def ok_k0:ok_FM λ_=>[]:=λ_ _ h=>by cases h
def ok_kC {t D} (h:ok_FQ t) (k:ok_FM D):ok_FM λm=>t m::D m:=λm u hu=>by
 rcases mC hu with rfl|hu
 . exact h m
 . exact k m u hu
def ok_k1 {t0} (h0:ok_FQ t0):=ok_kC h0<|ok_k0
def ok_k2 {t0 t1} (h0:ok_FQ t0) (h1:ok_FQ t1):=ok_kC h0<|ok_kC h1<|ok_k0
def ok_k3 {t0 t1 t2} (h0:ok_FQ t0) (h1:ok_FQ t1) (h2:ok_FQ t2):=ok_kC h0<|ok_kC h1<|ok_kC h2<|ok_k0
def ok_k4 {t0 t1 t2 t3} (h0:ok_FQ t0) (h1:ok_FQ t1) (h2:ok_FQ t2) (h3:ok_FQ t3):=ok_kC h0<|ok_kC h1<|ok_kC h2<|ok_kC h3<|ok_k0
def ok_k5 {t0 t1 t2 t3 t4} (h0:ok_FQ t0) (h1:ok_FQ t1) (h2:ok_FQ t2) (h3:ok_FQ t3) (h4:ok_FQ t4):=ok_kC h0<|ok_kC h1<|ok_kC h2<|ok_kC h3<|ok_kC h4<|ok_k0
def ok_k6 {t0 t1 t2 t3 t4 t5} (h0:ok_FQ t0) (h1:ok_FQ t1) (h2:ok_FQ t2) (h3:ok_FQ t3) (h4:ok_FQ t4) (h5:ok_FQ t5):=ok_kC h0<|ok_kC h1<|ok_kC h2<|ok_kC h3<|ok_kC h4<|ok_kC h5<|ok_k0
def ok_k7 {t0 t1 t2 t3 t4 t5 t6} (h0:ok_FQ t0) (h1:ok_FQ t1) (h2:ok_FQ t2) (h3:ok_FQ t3) (h4:ok_FQ t4) (h5:ok_FQ t5) (h6:ok_FQ t6):=ok_kC h0<|ok_kC h1<|ok_kC h2<|ok_kC h3<|ok_kC h4<|ok_kC h5<|ok_kC h6<|ok_k0
def ok_k8 {t0 t1 t2 t3 t4 t5 t6 t7} (h0:ok_FQ t0) (h1:ok_FQ t1) (h2:ok_FQ t2) (h3:ok_FQ t3) (h4:ok_FQ t4) (h5:ok_FQ t5) (h6:ok_FQ t6) (h7:ok_FQ t7):=ok_kC h0<|ok_kC h1<|ok_kC h2<|ok_kC h3<|ok_kC h4<|ok_kC h5<|ok_kC h6<|ok_kC h7<|ok_k0
def ok_y0 {S:ok_HS}:ok_XM S λ_=>[]:=λ_ _ _ _ h=>by cases h
def ok_yC {S:ok_HS} {t D} (h:ok_LQ S t) (k:ok_XM S D):ok_XM S λm=>t m::D m:=λm E hE u hu=>by
 rcases mC hu with rfl|hu
 . exact h m E hE
 . exact k m E hE u hu
def ok_y1 {S:ok_HS} {t0} (h0:ok_LQ S t0):=ok_yC h0<|ok_y0
def ok_y2 {S:ok_HS} {t0 t1} (h0:ok_LQ S t0) (h1:ok_LQ S t1):=ok_yC h0<|ok_yC h1<|ok_y0
def ok_y3 {S:ok_HS} {t0 t1 t2} (h0:ok_LQ S t0) (h1:ok_LQ S t1) (h2:ok_LQ S t2):=ok_yC h0<|ok_yC h1<|ok_yC h2<|ok_y0
def ok_aT (m:Nat) (l:List LT):List LoopT:=l.map λx=>x.at m
def ok_bP (S:ok_HS) (l:List (Nat×Code)):List (Nat×Code):=l.map λp=>(p.1,ok_bB S p.1)
def ok_xL {S:ok_HS} {D:Nat->List LT} (h:ok_XM S D) {c:Code} {k:Nat} {m:Nat} {E:Entry} (hE:EOf prog E S.f.ntmps S.H.pins) (R:Type) (ρ:R):AllL (LoopSpec prog E (mkLp R (ok_aT m (D m))) ρ) (ok_bP S (Y6 c k)):=by
 generalize Y6 c k=l
 induction l with
 |nil=>trivial
 |cons p r ih=>
  refine⟨q7g λl hl hb=> ?_,ih⟩
  obtain⟨x,hx,rfl⟩:=List.mem_map.1 hl;have:=h m E hE x hx m;rw[show x.blk=p.1 from hb]at this
  exact this
def ok_lq (S:ok_HS) (b:Nat) (i:List Sh) (o:List (Ex×List Sh)) (g:Nat->Nat->cQ (Option (outVal (ok_zO S o))) (ok_zS (ok_zH S b) i)) {D:Nat->List FunT} (hD:ok_FM D) {X:Nat->List LT} (hX:ok_XM S X)
 (hl:Y6 (ok_bB S b) b=ok_bP S (Y6 (ok_bB S b) b):=by kernel_rfl)
 (hr: ∀m n x,q86 (mkC (outVal (ok_zO S o)) (D m)) (mkLp (outVal (ok_zO S o)) (ok_aT m (X m))) tt S.f.ntmps S.H (ok_bB S b) b ((ok_zS (ok_zH S b) i).enc x) (Kl (uq (g m n)))=uq (g m (n+1)) x:=by intro m n x;kernel_rfl)
 (h0: ∀m x,uq (l:=ok_zS (ok_zH S b) i) (g m 0) x=none:=by intro m x;kernel_rfl)
 (hk: ∀m,q1b [] (ok_aT m (X m))=true:=by intro m;kernel_rfl):ok_LQ S (ok_jX S b i o g):=λm E hE n=>
 lok hmix htt hE (hD m) (B:=ok_bB S b) (L:=ok_aT m (X m)) (ok_jX S b i o g m) (l:=ok_bP S (Y6 (ok_bB S b) b)) hl (λR ρ=>ok_xL hX hE R ρ) (hr m) (h0 m) n (hk m)
def ok_fq (S:ok_HS) (g:Nat->cT (Option (S.r.Val×Qv S.u)) S.a) (hf:prog.funcs[S.n]? =some S.f) {D:Nat->List FunT} (hD:ok_FM D) {X:Nat->List LT} (hX:ok_XM S X) (hb:okB S.f=true:=by kernel_rfl)
 (hl:Y6 (codeOf S.f) 0=ok_bP S (Y6 (codeOf S.f) 0):=by kernel_rfl)
 (hr: ∀m x,fnK (mkC (S.r.Val×Qv S.u) (D m)) (mkLp (S.r.Val×Qv S.u) (ok_aT m (X m))) tt S.H S.f (encS S.a x) (Kd S.r S.u)=un (g m) x:=by intro m x;kernel_rfl)
 (hk: ∀m,q1b [] (ok_aT m (X m))=true:=by intro m;kernel_rfl):ok_FQ (ok_tT S g):=λm=>
 fok hmix htt (H:=S.H) (ok_tT S g m) hf hb (hD m) (L:=ok_aT m (X m)) (l:=ok_bP S (Y6 (codeOf S.f) 0)) hl (λE hE R ρ=>ok_xL hX hE R ρ) (hr m) (hk m)
abbrev qfx:ShC:=.iptr (some 199) (.int .i64) 0
abbrev qkb:ShC:=.iptr (some 191) (.int .i64) 0
abbrev qns:ShC:=.iptr none (.int .i64) 0
abbrev Xi:Ty:=.int .i64
abbrev q07:Ty:=.int .u32
abbrev X4:ShC:=.bool
abbrev q02:ShC:=.int .u64
abbrev Xa:Ty:=.int .u64
abbrev qp:ShC:=.int .i64
abbrev q48:Ty:=.pr Xa Xa
abbrev q88:ShC:=.nm 1 Xa
abbrev hz_99:ShC:=.nm 4 Xi
abbrev hz_98:Ty:=.sl false Xa
abbrev hz_97:ShC:=.nm 4 Xa
abbrev hz_96:ShC:=.nm 3 Xi
abbrev hz_95:ShC:=.nm 8 Xi
abbrev hz_94:ShC:=.imm Xi
abbrev hz_93:ShC:=.nm 6 Xi
abbrev hz_92:ShC:=.nm 5 Xi
abbrev hz_91:ShC:=.nm 3 Xa
abbrev hz_90:ShC:=.nm 2 Xi
abbrev hz_89:ShC:=.nm 2 Xa
abbrev hz_88:ShC:=.nm 1 Xi
abbrev hz_87:ShC:=.nm 0 Xi
abbrev hz_86:ShC:=.imm q07
abbrev hz_85:ShA:=.c X4
abbrev hz_84:ShC:=.imm Xa
abbrev hz_83:ShA:=.c qp
abbrev hz_82:ShA:=.bx 1 [qp,qp,hz_89,hz_91]
abbrev hz_81:ShA:=.bx 0 [qp,qp,hz_84,hz_84]
abbrev hz_80:ShA:=.bx 1 [X4,X4,hz_86,qp]
abbrev hz_79:ShA:=.bx 2 [X4,X4,hz_86,qp]
abbrev hz_78:ShA:=.c (.nm 0 Xa)
abbrev hz_77:ShA:=.bx 5 [hz_94,hz_84]
abbrev hz_76:Sh:=.a (.bx 1 [.ptr 0 0 1 0])
abbrev hz_75:ShA:=.bx 7 [X4,X4,hz_86,qp]
abbrev hz_74:ShA:=.bx 9 [.nm 10 Xi,.nm 11 Xa]
abbrev hz_73:Sh:=sD
abbrev hz_72:Ty:=.pr (.sl false Xi) hz_98
abbrev hz_71:Ty:=.pr .bool (.sl false q07)
abbrev hz_70:Sh:=.a (.agg [q02,q02])
abbrev hz_69:ShA:=.bx 1 [qp,qp,hz_90,hz_96,hz_97]
abbrev hz_68:Ty:=.pr Xi (.pr Xi Xa)
abbrev hz_67:ShA:=.agg [qp,qp,hz_87,hz_88,hz_89]
abbrev hz_66:Sh:=.tup [hz_83,hz_85]
abbrev hz_65:ShA:=.agg [X4,X4,hz_86,qp]
abbrev hz_64:ShA:=.bx 1 [X4,.nm 2 q07]
abbrev hz_63:Sh:=.a (.c (.int .u32))
abbrev hz_62:ShA:=.agg [X4,X4,.nm 0 q07,qp]
abbrev hz_61:ShA:=.agg [X4,hz_86]
abbrev hz_60:ShA:=.c hz_86
abbrev hz_59:Sh:=.a hz_85
abbrev hz_58:Sh:=.a (.c q02)
abbrev hz_57:Sh:=.a hz_83
abbrev hz_56:Sh:=.a (.bx 1 [qp,qp,hz_84])
abbrev hz_55:ShA:=.c (.nm 0 q48)
abbrev hz_54:Sh:=.a (.bx 1 [hz_94,hz_94,hz_94,hz_94,hz_84,hz_94,hz_94,hz_84])
abbrev hz_53:Sh:=.a (.c hz_89)
abbrev hz_52:Sh:=.a (.c q88)
abbrev hz_51:Sh:=.a (.bx 1 [X4,X4,.nm 2 q07,qp])
abbrev hz_50:Sh:=.a hz_78
abbrev hz_49:Sh:=.a (.bx 0 [hz_94,hz_94,hz_94,hz_94,hz_84,hz_94,hz_94,hz_84])
abbrev hz_48:Sh:=.a (.agg [hz_94,hz_94,hz_94,hz_94,hz_84,hz_94,hz_94,hz_84])
abbrev hz_47:Sh:=.a (.bx 1 [hz_90,hz_96,hz_99,hz_92,.nm 6 Xa,.nm 7 Xi,hz_95,.nm 9 Xa])
abbrev hz_46:Sh:=.a (.c hz_97)
abbrev hz_45:Sh:=.a (.c hz_96)
abbrev hz_44:Sh:=.a (.c hz_90)
abbrev hz_43:ShC:=.imm hz_72
abbrev hz_42:Sh:=.a (.c hz_87)
abbrev hz_41:Sh:=.a (.bx 0 [X4,X4,.nm 1 q07,qp])
abbrev hz_40:Sh:=.a (.c (.wn 0 q07))
abbrev hz_39:Sh:=.a (.bx 2 [X4,hz_86])
abbrev hz_38:Sh:=.a (.agg [X4,X4,hz_86,qp,X4])
abbrev hz_37:Sh:=.a (.c hz_94)
abbrev hz_36:Sh:=.a (.c hz_95)
abbrev hz_35:Sh:=.a (.bx 0 [qp,qp,hz_94,hz_94,hz_84])
abbrev hz_34:Sh:=.a (.agg [qp,qp,hz_94,hz_94,hz_84])
abbrev hz_33:Sh:=.a (.bx 4 [qp,qp,hz_92,hz_93,.nm 7 Xa])
abbrev hz_32:Sh:=.a (.bx 0 [qp,qp,hz_88,hz_90,hz_91])
abbrev hz_31:Sh:=.a hz_65
abbrev hz_30:Sh:=.a (.bx 0 [X4,hz_86])
abbrev hz_29:Sh:=.a hz_61
abbrev hz_28:Sh:=.a (.c (.nm 0 q07))
abbrev hz_27:Sh:=.a hz_60
abbrev hz_26:Sh:=.a (.c hz_84)
abbrev hz_25:Sh:=.a (.c (.imm q48))
abbrev hz_24:ShA:=.bx 1 [qp,qp,hz_94,hz_94,hz_84,hz_90,hz_96,hz_99,.nm 5 .opq,.nm 6 hz_72,.nm 7 hz_72]
abbrev hz_23:Ty:=.pr .bool (.pr hz_71 Xi)
abbrev hz_22:Sh:=.a (.bx 10 [qp,qp,hz_94,hz_94,hz_84,.nm 11 Xi,.nm 12 Xi,.nm 13 Xi,.nm 14 .opq,.nm 15 hz_72,.nm 16 hz_72])
abbrev hz_21:Sh:=.a (.c hz_43)
abbrev hz_20:Sh:=.a (.bx 0 [qp,qp,hz_94,hz_94,hz_84,hz_94,hz_94,.dead,.imm .opq,hz_43,hz_43])
abbrev hz_19:Sh:=.a (.bx 0 [qp,qp,hz_94,hz_94,hz_84,hz_88,hz_90,hz_96,.nm 4 .opq,.nm 5 hz_72,.nm 6 hz_72])
abbrev hz_18:Sh:=.a (.c (.dp 1 hz_71))
abbrev hz_17:Sh:=.a (.c (.nm 0 hz_71))
abbrev hz_16:Sh:=.a (.c (.nm 1 hz_71))
abbrev hz_15:Sh:=.a (.c (.imm hz_71))
abbrev hz_14:Sh:=.a (.c (.dp 0 hz_71))
abbrev hz_13:Ty:=.sl false hz_23
abbrev hz_12:Sh:=.a (.c (.imm hz_68))
abbrev hz_11:Ty:=.pr Xi (.pr hz_23 Xa)
abbrev hz_10:Sh:=.a (.c (.imm (.sl false hz_71)))
abbrev hz_9:Sh:=.a (.c (.dp 2 hz_23))
abbrev hz_8:Sh:=.a (.c (.nm 0 hz_23))
abbrev hz_7:Sh:=.a (.c (.nm 2 hz_23))
abbrev hz_6:Sh:=.a (.c (.nm 3 hz_23))
abbrev hz_5:Sh:=.a (.c (.imm hz_23))
abbrev hz_4:Sh:=.a (.c (.dp 1 hz_23))
abbrev hz_3:Sh:=.a (.c (.dp 0 hz_23))
abbrev hz_2:Sh:=.a (.bx 7 [.mo 8 hz_13])
abbrev hz_1:Sh:=.a (.c (.imm hz_13))
abbrev hz_0:Sh:=.a (.c (.imm hz_11))
def g4k:=ok_fq (ok_aH f4 4 [hz_57,hz_57] hz_57 []) g4 func4 ok_k0 ok_y0
def g19k:=ok_fq (ok_aH f19 19 [hz_26,hz_57] hz_58 []) g19 func19 (ok_k1 g4k) ok_y0
def g42k:=ok_fq (ok_aH f42 42 [hz_58] hz_59 []) g42 func42 ok_k0 ok_y0
def g179H:=ok_aH f179 179 [hz_27] hz_28 []
def g179L1q:=ok_lq g179H 2 [hz_27,hz_57,hz_28,hz_57] [(.exit 2,[hz_28])] g179L1 ok_k0 ok_y0
def g179L0q:=ok_lq g179H 0 [hz_27,hz_57] [(.exit 0,[hz_27,hz_57])] g179L0 ok_k0 ok_y0
def g179k:=ok_fq g179H g179 func179 ok_k0 (ok_y2 g179L0q g179L1q)
def g178k:=ok_fq (ok_aH f178 178 [hz_59,hz_27] hz_29 [2,6,1]) g178 func178 (ok_k1 g179k) ok_y0
def g186k:=ok_fq (ok_aH f186 186 [hz_57] hz_29 []) g186 func186 (ok_k1 g178k) ok_y0
def g123k:=ok_fq (ok_aH f123 123 [hz_29] hz_29 []) g123 func123 (ok_k1 g178k) ok_y0
def g76k:=ok_fq (ok_aH f76 76 [] (.a hz_62) []) g76 func76 ok_k0 ok_y0
def g180k:=ok_fq (ok_aH f180 180 [hz_63] hz_57 []) g180 func180 ok_k0 ok_y0
def g124H:=ok_aH f124 124 [hz_29] hz_57 []
def g124D:=(ok_k2 g179k g180k)
def g124L0q:=ok_lq g124H 0 [hz_28,hz_57] [(.ret,[hz_57]),(.exit 0,[])] g124L0 g124D ok_y0
def g124k:=ok_fq g124H g124 func124 g124D (ok_y1 g124L0q)
def g125k:=ok_fq (ok_aH f125 125 [hz_29] hz_29 []) g125 func125 (ok_k1 g178k) ok_y0
def g205H:=ok_aH f205 205 [hz_27,hz_57] hz_28 []
def g205L0q:=ok_lq g205H 0 [hz_27,hz_57,hz_28,hz_58,hz_57] [(.exit 0,[hz_28,hz_58])] g205L0 ok_k0 ok_y0
def g205k:=ok_fq g205H g205 func205 ok_k0 (ok_y1 g205L0q)
def g206H:=ok_aH f206 206 [hz_27,hz_57] (.tup [.c (.nm 0 q07),hz_85]) []
def g206L1q:=ok_lq g206H 2 [hz_27,hz_57,hz_59,hz_28,hz_57,hz_57] [(.exit 2,[hz_59,hz_28])] g206L1 ok_k0 ok_y0
def g206L0q:=ok_lq g206H 0 [hz_27,hz_57,hz_59,hz_57] [(.exit 0,[hz_27,hz_57,hz_59])] g206L0 ok_k0 ok_y0
def g206k:=ok_fq g206H g206 func206 ok_k0 (ok_y2 g206L0q g206L1q)
def g229k:=ok_fq (ok_aH f229 229 [hz_29] hz_29 []) g229 func229 (ok_k1 g178k) ok_y0
def g241H:=ok_aH f241 241 [hz_27,hz_27] hz_28 []
def g241L0q:=ok_lq g241H 0 [hz_27,hz_27,hz_28,hz_58,hz_57] [(.exit 0,[hz_28,hz_58])] g241L0 ok_k0 ok_y0
def g241k:=ok_fq g241H g241 func241 ok_k0 (ok_y1 g241L0q)
def g242H:=ok_aH f242 242 [hz_27,hz_27] hz_57 []
def g242L0q:=ok_lq g242H 0 [hz_27,hz_27,hz_57] [(.ret,[hz_57]),(.exit 0,[])] g242L0 ok_k0 ok_y0
def g242k:=ok_fq g242H g242 func242 ok_k0 (ok_y1 g242L0q)
def g243H:=ok_aH f243 243 [hz_27,hz_27] hz_28 []
def g243L0q:=ok_lq g243H 0 [hz_27,hz_27,hz_28,hz_58,hz_57] [(.exit 0,[hz_28])] g243L0 ok_k0 ok_y0
def g243k:=ok_fq g243H g243 func243 ok_k0 (ok_y1 g243L0q)
def g228k:=ok_fq (ok_aH f228 228 [hz_29,hz_29] hz_29 []) g228 func228 (ok_k5 g179k g241k g178k g242k g243k) ok_y0
def g207k:=ok_fq (ok_aH f207 207 [hz_29,hz_29] hz_29 []) g207 func207 (ok_k2 g229k g228k) ok_y0
def g181k:=ok_fq (ok_aH f181 181 [hz_29,hz_57] hz_29 []) g181 func181 (ok_k6 g123k g205k g178k g206k g186k g207k) ok_y0
def g126H:=ok_aH f126 126 [hz_29,hz_57] hz_29 []
def g126D:=(ok_k1 g181k)
def g126L0q:=ok_lq g126H 0 [hz_57,hz_30,.a hz_64] [(.exit 0,[hz_57,hz_30,.a hz_64])] g126L0 g126D ok_y0
def g126k:=ok_fq g126H g126 func126 g126D (ok_y1 g126L0q)
def g182k:=ok_fq (ok_aH f182 182 [hz_63] hz_57 []) g182 func182 ok_k0 ok_y0
def g127k:=ok_fq (ok_aH f127 127 [hz_29] hz_57 []) g127 func127 (ok_k2 g179k g182k) ok_y0
def g77k:=ok_fq (ok_aH f77 77 [hz_29,hz_57] hz_31 []) g77 func77 (ok_k6 g123k g76k g124k g125k g126k g127k) ok_y0
def g129k:=ok_fq (ok_aH f129 129 [hz_57] hz_31 []) g129 func129 (ok_k2 g186k g77k) ok_y0
def g183k:=ok_fq (ok_aH f183 183 [hz_31] hz_31 []) g183 func183 (ok_k2 g76k g77k) ok_y0
def g184k:=ok_fq (ok_aH f184 184 [hz_29] hz_57 []) g184 func184 (ok_k1 g123k) ok_y0
def g211k:=ok_fq (ok_aH f211 211 [hz_59,hz_58] hz_58 []) g211 func211 ok_k0 ok_y0
def g208k:=ok_fq (ok_aH f208 208 [hz_59,hz_57] hz_58 []) g208 func208 (ok_k1 g211k) ok_y0
def g230k:=ok_fq (ok_aH f230 230 [hz_29,hz_57] hz_59 []) g230 func230 (ok_k2 g179k g206k) ok_y0
def g231k:=ok_fq (ok_aH f231 231 [hz_59,hz_57,hz_59,hz_57] hz_59 []) g231 func231 ok_k0 ok_y0
def g209k:=ok_fq (ok_aH f209 209 [hz_59,hz_29,hz_57,hz_59,hz_57] hz_29 []) g209 func209 (ok_k7 g126k g230k g124k g184k g231k g186k g228k) ok_y0
def g210H:=ok_aH f210 210 [hz_29] hz_66 []
def g210D:=(ok_k1 g123k)
def g210L0q:=ok_lq g210H 0 [hz_30,hz_58,hz_57] [(.exit 0,[hz_30,hz_58])] g210L0 g210D ok_y0
def g210k:=ok_fq g210H g210 func210 g210D (ok_y1 g210L0q)
def g185k:=ok_fq (ok_aH f185 185 [hz_59,hz_29,hz_57,hz_59,hz_57] hz_58 []) g185 func185 (ok_k6 g127k g208k g209k g210k g211k g181k) ok_y0
def g128k:=ok_fq (ok_aH f128 128 [hz_31,hz_57] hz_58 []) g128 func128 (ok_k4 g183k g184k g125k g185k) ok_y0
def g79k:=ok_fq (ok_aH f79 79 [hz_57,hz_57] hz_58 []) g79 func79 (ok_k2 g129k g128k) ok_y0
def g43k:=ok_fq (ok_aH f43 43 [hz_58] hz_58 []) g43 func43 (ok_k1 g79k) ok_y0
def g20k:=ok_fq (ok_aH f20 20 [hz_58,hz_57] hz_58 []) g20 func20 (ok_k3 g4k g42k g43k) ok_y0
def g6H:=ok_aH f6 6 [hz_26,hz_57,hz_57,hz_57] (.a hz_67) [10,1,1,11,6,3,12,1,1,13,0,1]
def g6D:=(ok_k2 g19k g20k)
def g6L1q:=ok_lq g6H 2 [hz_26,hz_57,hz_57,hz_57,hz_32,hz_33,hz_57,hz_57] [(.exit 2,[hz_26,hz_57,hz_57,hz_57,hz_32,hz_33,hz_57])] g6L1 g6D ok_y0
def g6L0q:=ok_lq g6H 0 [hz_26,hz_57,hz_57,hz_57,hz_32,hz_33,hz_57] [(.exit 0,[hz_32,hz_33])] g6L0 g6D (ok_y1 g6L1q)
def g6k:=ok_fq g6H g6 func6 g6D (ok_y1 g6L0q)
def g78H:=ok_aH f78 78 [hz_26] hz_59 []
def g78D:=(ok_k1 g42k)
def g78L0q:=ok_lq g78H 0 [hz_26,hz_57] [(.ret,[hz_59]),(.exit 0,[])] g78L0 g78D ok_y0
def g78k:=ok_fq g78H g78 func78 g78D (ok_y1 g78L0q)
def g41H:=ok_aH f41 41 [hz_34] hz_57 []
def g41D:=(ok_k1 g78k)
def g41L2q:=ok_lq g41H 4 [hz_35,hz_57,hz_57] [(.ret,[hz_57]),(.exit 4,[hz_35,hz_57])] g41L2 g41D ok_y0
def g41L1q:=ok_lq g41H 2 [hz_35,hz_57] [(.ret,[hz_57]),(.exit 2,[hz_35])] g41L1 g41D (ok_y1 g41L2q)
def g41L0q:=ok_lq g41H 0 [hz_35,hz_57] [(.ret,[hz_57]),(.exit 0,[hz_35])] g41L0 g41D ok_y0
def g41k:=ok_fq g41H g41 func41 g41D (ok_y2 g41L0q g41L1q)
def g17H:=ok_aH f17 17 [hz_34] (.a (.c (.nm 0 hz_68))) []
def g17D:=(ok_k1 g41k)
def g17L1q:=ok_lq g17H 2 [hz_35,.a (.c (.nm 1 hz_68)),hz_57,hz_57] [(.exit 2,[hz_35,.a (.c (.nm 1 hz_68)),hz_57])] g17L1 g17D ok_y0
def g17L0q:=ok_lq g17H 0 [hz_35,.a (.c (.nm 1 hz_68)),hz_57] [(.exit 0,[.a (.c (.nm 0 hz_68))])] g17L0 g17D (ok_y1 g17L1q)
def g17k:=ok_fq g17H g17 func17 g17D (ok_y1 g17L0q)
def g18H:=ok_aH f18 18 [hz_57,hz_57,hz_12] (.a hz_67) [15,1,1,16,9,3,17,1,1,18,0,1]
def g18L2q:=ok_lq g18H 4 [hz_57,hz_57,hz_12,hz_32,hz_33,hz_36,hz_57,hz_57] [(.exit 4,[hz_57,hz_57,hz_12,hz_32,hz_33,hz_36,hz_57])] g18L2 ok_k0 ok_y0
def g18L1q:=ok_lq g18H 2 [hz_57,hz_57,hz_12,hz_32,hz_33,hz_36,hz_57] [(.exit 2,[hz_32,hz_33])] g18L1 ok_k0 (ok_y1 g18L2q)
def g18L0q:=ok_lq g18H 0 [hz_57,hz_57,hz_12,hz_32,hz_33,hz_36,hz_57] [(.exit 0,[hz_57,hz_57,hz_12,hz_32,hz_33,hz_36])] g18L0 ok_k0 ok_y0
def g18k:=ok_fq g18H g18 func18 ok_k0 (ok_y2 g18L0q g18L1q)
def g5H:=ok_aH f5 5 [hz_34] (.a hz_67) []
def g5D:=(ok_k2 g17k g18k)
def g5L0q:=ok_lq g5H 0 [hz_35,.a hz_69,.a (.c (.nm 5 hz_68)),.a (.c (.nm 6 hz_68)),hz_57] [(.exit 0,[hz_35,.a hz_69,.a (.c (.nm 5 hz_68))])] g5L0 g5D ok_y0
def g5k:=ok_fq g5H g5 func5 g5D (ok_y1 g5L0q)
def g44k:=ok_fq (ok_aH f44 44 [hz_58] (.tup [hz_83,.c q02]) []) g44 func44 ok_k0 ok_y0
def g21k:=ok_fq (ok_aH f21 21 [hz_58] hz_59 []) g21 func21 (ok_k1 g44k) ok_y0
def g22k:=ok_fq (ok_aH f22 22 [] hz_70 []) g22 func22 ok_k0 ok_y0
def g45k:=ok_fq (ok_aH f45 45 [hz_58] hz_58 []) g45 func45 ok_k0 ok_y0
def g23k:=ok_fq (ok_aH f23 23 [hz_58,hz_58] hz_70 []) g23 func23 (ok_k1 g45k) ok_y0
def g7k:=ok_fq (ok_aH f7 7 [hz_58] hz_70 []) g7 func7 (ok_k3 g21k g22k g23k) ok_y0
def g28k:=ok_fq (ok_aH f28 28 [hz_57,hz_57,hz_57] hz_59 []) g28 func28 ok_k0 ok_y0
def g146k:=ok_fq (ok_aH f146 146 [hz_57] hz_59 []) g146 func146 ok_k0 ok_y0
def g97k:=ok_fq (ok_aH f97 97 [hz_57,hz_57] hz_59 []) g97 func97 (ok_k1 g146k) ok_y0
def g95H:=ok_aH f95 95 [hz_37] hz_59 []
def g95D:=(ok_k1 g97k)
def g95L0q:=ok_lq g95H 0 [hz_37,hz_57] [(.ret,[hz_59]),(.exit 0,[])] g95L0 g95D ok_y0
def g95k:=ok_fq g95H g95 func95 g95D (ok_y1 g95L0q)
def g56H:=ok_aH f56 56 [hz_34] hz_59 []
def g56D:=(ok_k1 g95k)
def g56L1q:=ok_lq g56H 2 [hz_35,hz_57,hz_57,hz_57,hz_37,hz_57,hz_57] [(.ret,[hz_59]),(.exit 2,[hz_35,hz_57,hz_57])] g56L1 g56D ok_y0
def g56L0q:=ok_lq g56H 0 [hz_35,hz_57,hz_57] [(.ret,[hz_59]),(.exit 0,[])] g56L0 g56D (ok_y1 g56L1q)
def g56k:=ok_fq g56H g56 func56 g56D (ok_y1 g56L0q)
def g58k:=ok_fq (ok_aH f58 58 [hz_58] hz_59 []) g58 func58 (ok_k1 g21k) ok_y0
def g96H:=ok_aH f96 96 [hz_26,.a (.c (.fn 58))] hz_57 []
def g96D:=(ok_k1 g58k)
def g96L0q:=ok_lq g96H 0 [hz_26,.a (.c (.fn 58)),hz_57,hz_57] [(.ret,[hz_57]),(.exit 0,[])] g96L0 g96D ok_y0
def g96k:=ok_fq g96H g96 func96 g96D (ok_y1 g96L0q)
def g57k:=ok_fq (ok_aH f57 57 [hz_26,.a (.c (.fn 58))] hz_59 []) g57 func57 (ok_k1 g96k) ok_y0
def g27k:=ok_fq (ok_aH f27 27 [hz_34] hz_57 []) g27 func27 (ok_k3 g28k g56k g57k) ok_y0
def g98k:=ok_fq (ok_aH f98 98 [hz_57] hz_59 []) g98 func98 ok_k0 ok_y0
def g59H:=ok_aH f59 59 [hz_37,hz_57] hz_66 []
def g59D:=(ok_k2 g97k g98k)
def g59L0q:=ok_lq g59H 0 [hz_37,hz_57,hz_57,hz_57,hz_57] [(.exit 0,[hz_37,hz_57,hz_57,hz_57])] g59L0 g59D ok_y0
def g59k:=ok_fq g59H g59 func59 g59D (ok_y1 g59L0q)
def g29k:=ok_fq (ok_aH f29 29 [hz_34,hz_57,hz_57] (.tup [.c q02,hz_85]) []) g29 func29 (ok_k1 g59k) ok_y0
def g10k:=ok_fq (ok_aH f10 10 [hz_34,hz_57,hz_57] hz_58 []) g10 func10 (ok_k3 g27k g28k g29k) ok_y0
def g55k:=ok_fq (ok_aH f55 55 [hz_58] hz_57 []) g55 func55 ok_k0 ok_y0
def g26k:=ok_fq (ok_aH f26 26 [hz_58] hz_59 []) g26 func26 (ok_k1 g55k) ok_y0
def g9k:=ok_fq (ok_aH f9 9 [hz_58] hz_58 []) g9 func9 (ok_k1 g26k) ok_y0
def g63k:=ok_fq (ok_aH f63 63 [hz_58] hz_57 []) g63 func63 (ok_k1 g44k) ok_y0
def g47H:=ok_aH f47 47 [hz_26] hz_59 []
def g47D:=(ok_k1 g63k)
def g47L0q:=ok_lq g47H 0 [hz_26,hz_57,hz_57] [(.ret,[hz_59]),(.exit 0,[])] g47L0 g47D ok_y0
def g47k:=ok_fq g47H g47 func47 g47D (ok_y1 g47L0q)
def g87k:=ok_fq (ok_aH f87 87 [hz_58] hz_59 []) g87 func87 ok_k0 ok_y0
def g130k:=ok_fq (ok_aH f130 130 [hz_58] hz_57 []) g130 func130 (ok_k1 g87k) ok_y0
def g80k:=ok_fq (ok_aH f80 80 [hz_58,hz_58] hz_66 []) g80 func80 (ok_k2 g47k g130k) ok_y0
def g46k:=ok_fq (ok_aH f46 46 [hz_70] hz_59 []) g46 func46 (ok_k1 g80k) ok_y0
def g24k:=ok_fq (ok_aH f24 24 [hz_70,hz_70] hz_59 []) g24 func24 (ok_k1 g46k) ok_y0
def g48k:=ok_fq (ok_aH f48 48 [hz_58] hz_59 []) g48 func48 (ok_k1 g63k) ok_y0
def g49k:=ok_fq (ok_aH f49 49 [hz_58] hz_59 []) g49 func49 (ok_k1 g63k) ok_y0
def g132H:=ok_aH f132 132 [hz_27] hz_27 []
def g132L0q:=ok_lq g132H 0 [hz_27,hz_57] [(.exit 0,[hz_27,hz_57])] g132L0 ok_k0 ok_y0
def g132k:=ok_fq g132H g132 func132 ok_k0 (ok_y1 g132L0q)
def g133k:=ok_fq (ok_aH f133 133 [hz_59,hz_27] hz_29 []) g133 func133 (ok_k1 g132k) ok_y0
def g86k:=ok_fq (ok_aH f86 86 [hz_57] hz_29 []) g86 func86 (ok_k1 g133k) ok_y0
def g137H:Hints:={regs:=[⟨[],[0]⟩,⟨[],[0]⟩,⟨[],[2]⟩,⟨[],[2]⟩],heads:=[],exits:=[],rets:=[2],pins:=[],spec:=[[true]]}
abbrev g137A:List Sh:=[.a (.c (.imm (.int .u32)))]
abbrev g137S:Sh:= .a (.c (.nm 0 (.int .u32)))
abbrev g137U:List Sh:=[sD]
def g137R (m:Nat):Qv g137A->Option (g137S.Val×Qv g137U):=λ(x:LI×Unit)=>g137 m x.1
def g137T (m:Nat):FunT:=⟨137,g137A,g137S,g137U,g137R m⟩
noncomputable def g137C:Code:=codeOf Tryz.f137
def g137ok (m:Nat):FunOK Tryz.prog (g137T m):=
 qgd hmix htt (H:=g137H) (fn:=Tryz.f137) (f:=137) (t:=(.int .u32)) (ty:=77) (e:=117) (ty2:=77) (k:=1) (cells:=[.nil (.int .u32)]) (A:=pA g137C) (X:=pX (pB (pA (pB g137C)))) (Y:=pB (pB g137C)) (o0:=pO 0 (pA (pA (pB g137C)))) (o1:=pO 1 (pA (pA (pB g137C)))) Tryz.func137 kR kR kR kR kR kR kR kR kR (of_decide_eq_true kR) rfl kR kR kR (λxs=>[(0,.sl .imm (.int .u32) xs)]) (λxs=>[(2,.sl (.nm 0) (.int .u32) xs)]) (λxs=>kR) (λ_=>rfl) (λ_=>rfl) (λ_=>rfl) kR (λxs=>kR) (λxs=>kR)
def g137k:ok_FQ g137T:=g137ok
def g88k:=ok_fq (ok_aH f88 88 [hz_29] hz_29 []) g88 func88 (ok_k2 g137k g133k) ok_y0
def g82k:=ok_fq (ok_aH f82 82 [] (.a hz_62) []) g82 func82 ok_k0 ok_y0
def g105k:=ok_fq (ok_aH f105 105 [hz_29] hz_29 []) g105 func105 (ok_k2 g137k g133k) ok_y0
def g90k:=ok_fq (ok_aH f90 90 [hz_29] hz_57 []) g90 func90 (ok_k1 g132k) ok_y0
def g138H:=ok_aH f138 138 [hz_29] hz_57 []
def g138D:=(ok_k1 g180k)
def g138L0q:=ok_lq g138H 0 [hz_27,hz_57,hz_57] [(.ret,[hz_57]),(.exit 0,[])] g138L0 g138D ok_y0
def g138k:=ok_fq g138H g138 func138 g138D (ok_y1 g138L0q)
def g188k:=ok_fq (ok_aH f188 188 [hz_27] hz_57 []) g188 func188 (ok_k1 g182k) ok_y0
def g139k:=ok_fq (ok_aH f139 139 [hz_29] hz_57 []) g139 func139 (ok_k2 g132k g188k) ok_y0
def g193H:=ok_aH f193 193 [hz_27,hz_57] hz_27 []
def g193D:=(ok_k1 g132k)
def g193L0q:=ok_lq g193H 0 [hz_57,hz_58,hz_28,hz_27,hz_57,hz_57] [(.exit 0,[hz_28])] g193L0 g193D ok_y0
def g193k:=ok_fq g193H g193 func193 g193D (ok_y1 g193L0q)
def g217k:=ok_fq (ok_aH f217 217 [hz_63] hz_59 []) g217 func217 ok_k0 ok_y0
def g235H:=ok_aH f235 235 [hz_27,.a (.c (.fn 217))] hz_57 []
def g235D:=(ok_k1 g217k)
def g235L0q:=ok_lq g235H 0 [hz_27,.a (.c (.fn 217)),hz_57,hz_57] [(.ret,[hz_57]),(.exit 0,[])] g235L0 g235D ok_y0
def g235k:=ok_fq g235H g235 func235 g235D (ok_y1 g235L0q)
def g216k:=ok_fq (ok_aH f216 216 [hz_27,.a (.c (.fn 217))] hz_59 []) g216 func216 (ok_k1 g235k) ok_y0
def g194H:=ok_aH f194 194 [hz_27,hz_57] (.tup [hz_60,hz_85]) []
def g194D:=(ok_k2 g216k g132k)
def g194L0q:=ok_lq g194H 0 [hz_27,hz_57,hz_58,hz_59,hz_28,hz_57,hz_57] [(.exit 0,[hz_59,hz_28])] g194L0 g194D ok_y0
def g194k:=ok_fq g194H g194 func194 g194D (ok_y1 g194L0q)
def g134H:=ok_aH f134 134 [hz_27,hz_27] hz_27 []
def g134D:=(ok_k1 g132k)
def g134L0q:=ok_lq g134H 0 [hz_27,hz_28,hz_58,hz_27,hz_57,hz_57] [(.exit 0,[hz_28,hz_58])] g134L0 g134D ok_y0
def g134k:=ok_fq g134H g134 func134 g134D (ok_y1 g134L0q)
def g151k:=ok_fq (ok_aH f151 151 [hz_29,hz_57] (.tup [hz_61,hz_83]) []) g151 func151 (ok_k5 g132k g193k g133k g194k g134k) ok_y0
def g140H:=ok_aH f140 140 [hz_29,hz_57] hz_29 []
def g140D:=(ok_k1 g151k)
def g140L0q:=ok_lq g140H 0 [hz_57,hz_30,.a hz_64] [(.exit 0,[hz_57,hz_30,.a hz_64])] g140L0 g140D ok_y0
def g140k:=ok_fq g140H g140 func140 g140D (ok_y1 g140L0q)
def g89k:=ok_fq (ok_aH f89 89 [hz_31] (.tup [hz_65,hz_85]) []) g89 func89 (ok_k6 g82k g105k g90k g138k g139k g140k) ok_y0
def g84k:=ok_fq (ok_aH f84 84 [hz_29,hz_57] hz_31 []) g84 func84 (ok_k1 g89k) ok_y0
def g51k:=ok_fq (ok_aH f51 51 [hz_58] hz_31 []) g51 func51 (ok_k5 g44k g86k g87k g88k g84k) ok_y0
def g81k:=ok_fq (ok_aH f81 81 [hz_31,hz_31] (.tup [hz_65,hz_65,hz_85]) []) g81 func81 (ok_k1 g89k) ok_y0
def g131k:=ok_fq (ok_aH f131 131 [hz_29,hz_57] hz_29 []) g131 func131 (ok_k1 g151k) ok_y0
def g83k:=ok_fq (ok_aH f83 83 [hz_31,hz_31] (.tup [hz_61,hz_61,hz_83]) []) g83 func83 (ok_k1 g131k) ok_y0
def g160k:=ok_fq (ok_aH f160 160 [hz_57,hz_57] hz_57 []) g160 func160 (ok_k1 g146k) ok_y0
def g212k:=ok_fq (ok_aH f212 212 [hz_63] hz_59 []) g212 func212 ok_k0 ok_y0
def g187k:=ok_fq (ok_aH f187 187 [hz_63,hz_63] hz_57 []) g187 func187 (ok_k1 g212k) ok_y0
def g135H:=ok_aH f135 135 [hz_27,hz_27] hz_57 []
def g135D:=(ok_k2 g160k g187k)
def g135L0q:=ok_lq g135H 0 [hz_27,hz_27,hz_57] [(.ret,[hz_57]),(.exit 0,[])] g135L0 g135D ok_y0
def g135k:=ok_fq g135H g135 func135 g135D (ok_y1 g135L0q)
def g136H:=ok_aH f136 136 [hz_27,hz_27] hz_27 []
def g136D:=(ok_k1 g132k)
def g136L0q:=ok_lq g136H 0 [hz_27,hz_28,hz_58,hz_27,hz_57,hz_57] [(.exit 0,[hz_28])] g136L0 g136D ok_y0
def g136k:=ok_fq g136H g136 func136 g136D (ok_y1 g136L0q)
def g85k:=ok_fq (ok_aH f85 85 [hz_29,hz_29] hz_29 []) g85 func85 (ok_k5 g132k g134k g133k g135k g136k) ok_y0
def g50k:=ok_fq (ok_aH f50 50 [hz_31,hz_31] hz_31 []) g50 func50 (ok_k5 g81k g82k g83k g85k g84k) ok_y0
def g52k:=ok_fq (ok_aH f52 52 [hz_31] hz_57 []) g52 func52 (ok_k2 g89k g90k) ok_y0
def g91k:=ok_fq (ok_aH f91 91 [hz_58,hz_59] hz_58 []) g91 func91 ok_k0 ok_y0
def g53k:=ok_fq (ok_aH f53 53 [hz_57] hz_58 []) g53 func53 (ok_k1 g91k) ok_y0
def g92k:=ok_fq (ok_aH f92 92 [hz_31] hz_31 []) g92 func92 (ok_k1 g89k) ok_y0
def g143k:=ok_fq (ok_aH f143 143 [hz_29] hz_29 []) g143 func143 (ok_k2 g137k g133k) ok_y0
def g94k:=ok_fq (ok_aH f94 94 [hz_31] hz_38 []) g94 func94 (ok_k1 g143k) ok_y0
def g141k:=ok_fq (ok_aH f141 141 [hz_38] hz_57 []) g141 func141 (ok_k1 g139k) ok_y0
def g213k:=ok_fq (ok_aH f213 213 [hz_29,hz_29] hz_29 []) g213 func213 (ok_k1 g85k) ok_y0
def g100k:=ok_fq (ok_aH f100 100 [hz_29,hz_29] hz_57 []) g100 func100 (ok_k3 g90k g132k g135k) ok_y0
def g189k:=ok_fq (ok_aH f189 189 [hz_38,hz_57] (.tup [hz_61,hz_83,hz_85]) []) g189 func189 (ok_k7 g139k g140k g131k g213k g86k g100k g90k) ok_y0
def g144k:=ok_fq (ok_aH f144 144 [hz_38,hz_57,hz_57] hz_29 []) g144 func144 (ok_k7 g131k g88k g189k g86k g85k g90k g138k) ok_y0
def g142H:=ok_aH f142 142 [hz_29] hz_66 []
def g142D:=(ok_k1 g132k)
def g142L0q:=ok_lq g142H 0 [hz_30,hz_58,hz_27,hz_57,hz_57] [(.exit 0,[hz_30,hz_58])] g142L0 g142D ok_y0
def g142k:=ok_fq g142H g142 func142 g142D (ok_y1 g142L0q)
def g145k:=ok_fq (ok_aH f145 145 [hz_59,hz_57] hz_58 []) g145 func145 (ok_k1 g91k) ok_y0
def g93k:=ok_fq (ok_aH f93 93 [hz_38,hz_57] hz_58 []) g93 func93 (ok_k6 g141k g144k g143k g142k g145k g91k) ok_y0
def g54k:=ok_fq (ok_aH f54 54 [hz_31,hz_57] hz_58 []) g54 func54 (ok_k4 g92k g52k g94k g93k) ok_y0
def g25k:=ok_fq (ok_aH f25 25 [hz_58,hz_58,hz_57] hz_58 []) g25 func25 (ok_k8 g47k g48k g49k g51k g50k g52k g53k g54k) ok_y0
def g8k:=ok_fq (ok_aH f8 8 [hz_70,hz_70] hz_70 []) g8 func8 (ok_k4 g24k g22k g25k g23k) ok_y0
def g61k:=ok_fq (ok_aH f61 61 [hz_58] hz_58 []) g61 func61 (ok_k1 g47k) ok_y0
def g32k:=ok_fq (ok_aH f32 32 [hz_58,hz_58,hz_57] hz_58 []) g32 func32 (ok_k2 g61k g25k) ok_y0
def g12k:=ok_fq (ok_aH f12 12 [hz_70,hz_70] hz_70 []) g12 func12 (ok_k4 g24k g22k g32k g23k) ok_y0
def g60k:=ok_fq (ok_aH f60 60 [hz_58,hz_58] hz_59 []) g60 func60 (ok_k1 g80k) ok_y0
def g30H:=ok_aH f30 30 [hz_26] hz_58 []
def g30D:=(ok_k1 g60k)
def g30L0q:=ok_lq g30H 0 [hz_58,hz_26,hz_57,hz_57] [(.exit 0,[hz_58])] g30L0 g30D ok_y0
def g30k:=ok_fq g30H g30 func30 g30D (ok_y1 g30L0q)
def g31H:=ok_aH f31 31 [hz_26] hz_58 []
def g31D:=(ok_k1 g60k)
def g31L0q:=ok_lq g31H 0 [hz_58,hz_26,hz_57,hz_57] [(.exit 0,[hz_58])] g31L0 g31D ok_y0
def g31k:=ok_fq g31H g31 func31 g31D (ok_y1 g31L0q)
def g11k:=ok_fq (ok_aH f11 11 [hz_70,hz_70] hz_70 []) g11 func11 (ok_k5 g24k g22k g30k g31k g23k) ok_y0
def g62k:=ok_fq (ok_aH f62 62 [hz_58] hz_59 []) g62 func62 ok_k0 ok_y0
def g33k:=ok_fq (ok_aH f33 33 [hz_58] hz_57 []) g33 func33 (ok_k1 g62k) ok_y0
def g13k:=ok_fq (ok_aH f13 13 [hz_58,hz_58] hz_66 []) g13 func13 (ok_k2 g26k g33k) ok_y0
def g36k:=ok_fq (ok_aH f36 36 [hz_58] hz_58 []) g36 func36 (ok_k1 g26k) ok_y0
def g67k:=ok_fq (ok_aH f67 67 [hz_58] hz_59 []) g67 func67 (ok_k1 g55k) ok_y0
def g37k:=ok_fq (ok_aH f37 37 [hz_58] hz_58 []) g37 func37 (ok_k3 g26k g67k g62k) ok_y0
def g15k:=ok_fq (ok_aH f15 15 [hz_58] hz_58 []) g15 func15 (ok_k2 g36k g37k) ok_y0
def g34k:=ok_fq (ok_aH f34 34 [hz_34,hz_58,hz_59] hz_57 []) g34 func34 (ok_k3 g27k g63k g21k) ok_y0
def g152k:=ok_fq (ok_aH f152 152 [hz_31] hz_31 []) g152 func152 (ok_k2 g89k g88k) ok_y0
def g106k:=ok_fq (ok_aH f106 106 [hz_31,hz_31] hz_31 []) g106 func106 (ok_k2 g152k g50k) ok_y0
def g66H:=ok_aH f66 66 [hz_34,hz_58] hz_1 [1,2,4,5,6,4]
def g66D:=(ok_k2 g51k g106k)
def g66L3q:=ok_lq g66H 6 [hz_58,hz_3,hz_57,hz_57] [(.exit 6,[hz_3])] g66L3 g66D ok_y0
def g66L2q:=ok_lq g66H 4 [hz_58,hz_35,hz_4,hz_57,hz_57,hz_57,hz_57] [(.exit 4,[hz_58,hz_35,hz_4,hz_57,hz_57])] g66L2 g66D ok_y0
def g66L1q:=ok_lq g66H 2 [hz_58,hz_35,hz_4,hz_57,hz_57] [(.exit 2,[hz_58,hz_3])] g66L1 g66D (ok_y1 g66L2q)
def g66L0q:=ok_lq g66H 0 [hz_58,hz_35,hz_4,hz_57,hz_57] [(.exit 0,[hz_58,hz_35,hz_4])] g66L0 g66D ok_y0
def g66k:=ok_fq g66H g66 func66 g66D (ok_y3 g66L0q g66L1q g66L3q)
def g104k:=ok_fq (ok_aH f104 104 [hz_31,hz_57] hz_31 []) g104 func104 (ok_k3 g89k g82k g84k) ok_y0
def g103k:=ok_fq (ok_aH f103 103 [hz_31] (.tup [hz_61,hz_85]) []) g103 func103 (ok_k2 g89k g151k) ok_y0
def g65H:=ok_aH f65 65 [hz_1] hz_10 [13,2,4,21,5,4,21,11,4]
def g65D:=(ok_k5 g92k g52k g104k g103k g105k)
def g65L3q:=ok_lq g65H 6 [hz_57,hz_14,hz_57,hz_1,hz_57,hz_57,hz_5,hz_57,hz_57] [(.exit 6,[hz_57,hz_14,hz_1,hz_57,hz_57])] g65L3 g65D ok_y0
def g65L2q:=ok_lq g65H 4 [hz_57,hz_14,hz_1,hz_57,hz_57] [(.exit 4,[hz_14])] g65L2 g65D (ok_y1 g65L3q)
def g65L1q:=ok_lq g65H 2 [hz_1,hz_57,hz_1,hz_57,hz_57,hz_5,hz_57,hz_57] [(.exit 2,[hz_1,hz_57,hz_1,hz_57,hz_57])] g65L1 g65D ok_y0
def g65L0q:=ok_lq g65H 0 [hz_1,hz_57,hz_1,hz_57,hz_57] [(.exit 0,[hz_1,hz_57])] g65L0 g65D (ok_y1 g65L1q)
def g65k:=ok_fq g65H g65 func65 g65D (ok_y2 g65L0q g65L2q)
def g148k:=ok_fq (ok_aH f148 148 [hz_10] hz_57 []) g148 func148 ok_k0 ok_y0
def g191k:=ok_fq (ok_aH f191 191 [hz_15,.a (.c qns)] hz_59 []) g191 func191 ok_k0 ok_y0
def g214H:=ok_aH f214 214 [hz_10,.a (.c qkb)] hz_57 []
def g214D:=(ok_k1 g191k)
def g214L0q:=ok_lq g214H 0 [hz_10,.a (.c qkb),hz_57,hz_57] [(.ret,[hz_57]),(.exit 0,[])] g214L0 g214D ok_y0
def g214k:=ok_fq g214H g214 func214 g214D (ok_y1 g214L0q)
def g190k:=ok_fq (ok_aH f190 190 [hz_10,.a (.c qkb)] hz_59 []) g190 func190 (ok_k1 g214k) ok_y0
def g147k:=ok_fq (ok_aH f147 147 [hz_10] hz_57 []) g147 func147 (ok_k2 g148k g190k) ok_y0
def g99k:=ok_fq (ok_aH f99 99 [hz_10] hz_57 []) g99 func99 (ok_k2 g147k g148k) ok_y0
def g102H:=ok_aH f102 102 [hz_10,hz_15] hz_14 [1,0,6,13,2,6,13,3,6]
def g102D:=(ok_k1 g105k)
def g102L1q:=ok_lq g102H 2 [hz_15,hz_14,hz_57,hz_16,hz_10,hz_57,hz_57,hz_15,hz_57,hz_57] [(.exit 2,[hz_15,hz_14,hz_57,hz_16,hz_10,hz_57,hz_57])] g102L1 g102D ok_y0
def g102L0q:=ok_lq g102H 0 [hz_15,hz_14,hz_10,hz_57,hz_57] [(.exit 0,[hz_14])] g102L0 g102D (ok_y1 g102L1q)
def g102k:=ok_fq g102H g102 func102 g102D (ok_y1 g102L0q)
def g204H:=ok_aH f204 204 [hz_27,hz_27] hz_27 []
def g204D:=(ok_k1 g132k)
def g204L1q:=ok_lq g204H 2 [hz_27,hz_28,hz_57,hz_63,hz_58,hz_27,hz_57,hz_57,hz_27,hz_57,hz_57] [(.exit 2,[hz_27,hz_28,hz_57,hz_58,hz_27,hz_57,hz_57])] g204L1 g204D ok_y0
def g204L0q:=ok_lq g204H 0 [hz_27,hz_28,hz_27,hz_57,hz_57] [(.exit 0,[hz_28])] g204L0 g204D (ok_y1 g204L1q)
def g204k:=ok_fq g204H g204 func204 g204D (ok_y1 g204L0q)
def g177k:=ok_fq (ok_aH f177 177 [hz_29,hz_29] hz_29 []) g177 func177 (ok_k3 g132k g204k g133k) ok_y0
def g149H:=ok_aH f149 149 [hz_10,hz_10] hz_14 [1,0,6,9,0,2,13,0,2,17,2,6,17,3,6]
def g149D:=(ok_k2 g177k g85k)
def g149L2q:=ok_lq g149H 4 [hz_10,hz_14,hz_15,hz_16,hz_57,hz_39,hz_10,hz_57,hz_57,hz_57,hz_57,hz_15,hz_57,hz_57] [(.exit 4,[hz_10,hz_14,hz_15,hz_16,hz_39,hz_10,hz_57,hz_57,hz_57,hz_57])] g149L2 g149D ok_y0
def g149L1q:=ok_lq g149H 2 [hz_10,hz_14,hz_15,hz_16,hz_10,hz_57,hz_57,hz_57,hz_57] [(.exit 2,[hz_10,hz_14,hz_16,hz_10,hz_57,hz_57])] g149L1 g149D (ok_y1 g149L2q)
def g149L0q:=ok_lq g149H 0 [hz_10,hz_14,hz_10,hz_57,hz_57] [(.exit 0,[hz_14])] g149L0 g149D (ok_y1 g149L1q)
def g149k:=ok_fq g149H g149 func149 g149D (ok_y1 g149L0q)
def g232H:=ok_aH f232 232 [hz_27,hz_63] (.tup [hz_60,.c (.int .u32)]) []
def g232D:=(ok_k1 g132k)
def g232L0q:=ok_lq g232H 0 [hz_27,hz_63,hz_28,hz_58,hz_57] [(.exit 0,[hz_28,hz_58])] g232L0 g232D ok_y0
def g232k:=ok_fq g232H g232 func232 g232D (ok_y1 g232L0q)
def g233k:=ok_fq (ok_aH f233 233 [hz_63] hz_57 []) g233 func233 (ok_k1 g182k) ok_y0
def g234H:=ok_aH f234 234 [hz_40,hz_27] hz_63 []
def g234L2q:=ok_lq g234H 4 [hz_40,hz_57,hz_58,hz_58,hz_27,hz_57,hz_57] [(.exit 4,[hz_40,hz_57,hz_58,hz_58])] g234L2 ok_k0 ok_y0
def g234L1q:=ok_lq g234H 2 [hz_40,hz_27,hz_57,hz_58,hz_58,hz_58,hz_27,hz_57,hz_57] [(.exit 2,[hz_40,hz_27,hz_57,hz_58,hz_58,hz_58])] g234L1 ok_k0 ok_y0
def g234L0q:=ok_lq g234H 0 [hz_40,hz_27,hz_57,hz_58,hz_58] [(.exit 0,[hz_40,hz_27,hz_57,hz_58])] g234L0 ok_k0 ok_y0
def g234k:=ok_fq g234H g234 func234 ok_k0 (ok_y3 g234L0q g234L1q g234L2q)
def g215H:=ok_aH f215 215 [hz_27,hz_27] (.tup [hz_60,hz_60]) [15,10,300]
def g215D:=(ok_k8 g135k g137k g232k g132k g233k g193k g234k g194k)
def g215L0q:=ok_lq g215H 0 [hz_28,hz_57,hz_27,.a (.c (.nm 1 q07)),hz_57,hz_57] [(.exit 0,[hz_28,hz_57,.a (.c (.nm 1 q07)),hz_57])] g215L0 g215D ok_y0
def g215k:=ok_fq g215H g215 func215 g215D (ok_y1 g215L0q)
def g192k:=ok_fq (ok_aH f192 192 [hz_29,hz_29] (.tup [hz_61,hz_61,hz_83]) []) g192 func192 (ok_k5 g132k g215k g134k g136k g133k) ok_y0
def g150k:=ok_fq (ok_aH f150 150 [hz_29,hz_29] (.tup [hz_61,hz_83]) []) g150 func150 (ok_k1 g192k) ok_y0
def g101H:=ok_aH f101 101 [hz_10] hz_17 [4,1,4,8,5,4,19,0,2,23,0,2]
def g101D:=(ok_k5 g86k g85k g149k g150k g88k)
def g101L3q:=ok_lq g101H 6 [hz_10,hz_57,hz_17,hz_57,hz_18,hz_39,hz_57,hz_57] [(.exit 6,[hz_10,hz_57,hz_17,hz_57,hz_18,hz_39])] g101L3 g101D ok_y0
def g101L2q:=ok_lq g101H 4 [hz_10,hz_57,hz_17,hz_18,hz_57,hz_57,hz_57] [(.exit 4,[hz_10,hz_57,hz_17,hz_18,hz_57])] g101L2 g101D ok_y0
def g101L1q:=ok_lq g101H 2 [hz_10,hz_57,hz_17,hz_18,hz_57] [(.exit 2,[hz_17])] g101L1 g101D (ok_y2 g101L2q g101L3q)
def g101L0q:=ok_lq g101H 0 [hz_10,hz_57,hz_17,hz_18,hz_57,hz_57] [(.exit 0,[hz_10,hz_57,hz_17,hz_18])] g101L0 g101D ok_y0
def g101k:=ok_fq g101H g101 func101 g101D (ok_y2 g101L0q g101L1q)
def g64H:=ok_aH f64 64 [hz_10] (.tup [hz_83,hz_83,hz_83,hz_83]) []
def g64D:=(ok_k5 g99k g100k g102k g101k g90k)
def g64L3q:=ok_lq g64H 6 [hz_10,hz_57,hz_57,hz_57,hz_17,hz_57,hz_57] [(.exit 6,[hz_10,hz_57,hz_57])] g64L3 g64D ok_y0
def g64L2q:=ok_lq g64H 4 [hz_10,hz_57,hz_57,hz_17] [(.exit 4,[hz_10,hz_57,hz_57,hz_17])] g64L2 g64D ok_y0
def g64L1q:=ok_lq g64H 2 [hz_10,hz_57,hz_57,hz_57,hz_10,hz_57,hz_57,hz_15,hz_57,hz_57] [(.ret,[hz_57,hz_57,hz_57,hz_57]),(.exit 2,[hz_10,hz_57,hz_57,hz_10,hz_57,hz_57])] g64L1 g64D ok_y0
def g64L0q:=ok_lq g64H 0 [hz_10,hz_57,hz_57,hz_10,hz_57,hz_57] [(.ret,[hz_57,hz_57,hz_57,hz_57]),(.exit 0,[hz_10,hz_57,hz_57])] g64L0 g64D (ok_y1 g64L1q)
def g64k:=ok_fq g64H g64 func64 g64D (ok_y3 g64L0q g64L2q g64L3q)
def g35k:=ok_fq (ok_aH f35 35 [hz_34,hz_58] (.tup [.agg [qp,qp,qp],hz_83]) []) g35 func35 (ok_k4 g34k g66k g65k g64k) ok_y0
def g14k:=ok_fq (ok_aH f14 14 [hz_34,hz_58] (.tup [hz_83,hz_83]) []) g14 func14 (ok_k2 g34k g35k) ok_y0
def g153H:=ok_aE f153 153 [hz_19,hz_57] (.a (.agg [.mo 0 hz_13])) [.a hz_24,hz_73] [1,0,600000,5,20,600000,6,0,1] [[true]]
def g153D:=(ok_k1 g51k)
def g153L0q:=ok_lq g153H 0 [hz_19,hz_57,.a (.bx 7 [.dead]),.a (.bx 8 [.mo 9 hz_13]),hz_57] [(.exit 0,[hz_19,.a (.bx 7 [.dead]),.a (.bx 8 [.mo 9 hz_13])])] g153L0 g153D ok_y0
def g153k:=ok_fq g153H g153 func153 g153D (ok_y1 g153L0q)
def g175H:=ok_aH f175 175 [hz_5] hz_31 [12,0,2,16,0,2]
def g175D:=(ok_k5 g89k g82k g131k g85k g84k)
def g175L1q:=ok_lq g175H 2 [hz_41,hz_57,hz_39,hz_6,hz_57,hz_57] [(.exit 2,[hz_41,hz_57,hz_39])] g175L1 g175D ok_y0
def g175L0q:=ok_lq g175H 0 [hz_41,hz_7,hz_57,hz_5,hz_57,hz_57] [(.ret,[hz_41]),(.exit 0,[hz_41,hz_7,hz_57])] g175L0 g175D ok_y0
def g175k:=ok_fq g175H g175 func175 g175D (ok_y2 g175L0q g175L1q)
def g157k:=ok_fq (ok_aH f157 157 [.a (.bx 0 [hz_88,hz_89]),hz_57,hz_58] (.tup []) [0,8,3,0,15,3]) g157 func157 ok_k0 ok_y0
def g154H:=ok_aE f154 154 [hz_19,hz_2] (.tup [.agg [hz_87,q88],hz_83]) [.a (.bx 2 [qp,qp,hz_94,hz_94,hz_84,hz_96,hz_99,hz_92,.nm 6 .opq,.nm 7 hz_72,.nm 8 hz_72]),.a (.bx 9 [.mo 10 hz_13])] [5,5,600000,9,0,1,13,0,1] [[true,true],[false]]
def g154D:=(ok_k6 g175k g52k g54k g21k g157k g51k)
def g154L0q:=ok_lq g154H 0 [hz_19,hz_2,.a hz_74,.a (.bx 12 [.nm 13 Xi,.nm 14 Xa]),.a (.c (.ref 0 3 1)),hz_57,hz_57] [(.ret,[hz_19,hz_2,.a hz_74,hz_57]),(.exit 0,[hz_19,hz_2,.a hz_74,.a (.bx 12 [.nm 13 Xi,.nm 14 Xa])])] g154L0 g154D ok_y0
def g154k:=ok_fq g154H g154 func154 g154D (ok_y1 g154L0q)
def g155H:=ok_aE f155 155 [hz_19,hz_2] (.tup [.c (.nm 0 hz_11),hz_83]) [.a hz_24,.a (.bx 8 [.mo 9 hz_13])] [6,5,600000] [[true],[false]]
def g155D:=(ok_k4 g175k g52k g54k g21k)
def g155L0q:=ok_lq g155H 0 [hz_19,hz_2,.a (.c (.nm 9 hz_11)),hz_57,hz_57] [(.ret,[hz_19,hz_2,.a (.c (.nm 9 hz_11)),hz_57]),(.exit 0,[hz_19,hz_2,.a (.c (.nm 9 hz_11))])] g155L0 g155D ok_y0
def g155k:=ok_fq g155H g155 func155 g155D (ok_y1 g155L0q)
def g116k:=ok_fq (ok_aH f116 116 [hz_57] hz_31 []) g116 func116 (ok_k2 g86k g84k) ok_y0
def g196k:=ok_fq (ok_aH f196 196 [hz_58] hz_58 []) g196 func196 (ok_k1 g47k) ok_y0
def g75k:=ok_fq (ok_aH f75 75 [hz_31,hz_31] hz_66 []) g75 func75 (ok_k3 g81k g83k g100k) ok_y0
def g122k:=ok_fq (ok_aH f122 122 [hz_31,hz_31] hz_31 []) g122 func122 (ok_k4 g81k g82k g177k g84k) ok_y0
def g156H:=ok_aH f156 156 [hz_19,hz_0,hz_57,hz_57] hz_57 []
def g156D:=(ok_k6 g116k g196k g51k g75k g122k g63k)
def g156L1q:=ok_lq g156H 2 [hz_19,hz_0,hz_57,.a hz_75,hz_57,hz_0,hz_57,hz_57] [(.exit 2,[hz_19,hz_57])] g156L1 g156D ok_y0
def g156L0q:=ok_lq g156H 0 [hz_19,hz_0,hz_57,hz_57,.a hz_75,hz_0,hz_57,hz_57] [(.exit 0,[hz_19,hz_0,hz_57,hz_57,.a hz_75])] g156L0 g156D ok_y0
def g156k:=ok_fq g156H g156 func156 g156D (ok_y2 g156L0q g156L1q)
def g176k:=ok_fq (ok_aH f176 176 [hz_31,hz_31,hz_57] hz_38 []) g176 func176 (ok_k5 g139k g143k g131k g192k g90k) ok_y0
def g121k:=ok_fq (ok_aH f121 121 [hz_31,hz_31,hz_57] hz_58 []) g121 func121 (ok_k4 g92k g52k g176k g93k) ok_y0
def g109H:=ok_aH f109 109 [hz_19,hz_57,hz_57,hz_57] hz_57 [8,1,2,14,8,3,16,0,600000,27,7,7,27,9,3,27,14,7,27,16,3,27,22,600000,27,23,3]
def g109D:=(ok_k8 g153k g154k g155k g156k g157k g51k g121k g21k)
def g109L0q:=ok_lq g109H 0 [hz_19,.a (.bx 7 [hz_95,.nm 9 Xa]),hz_57,.a (.bx 10 [qp,X4,X4,hz_86,qp,q02]),.a (.bx 11 [.nm 12 Xi,.nm 13 Xa]),.a (.c (.mo 14 hz_23)),hz_0,hz_57,hz_57] [(.ret,[hz_19,hz_57]),(.exit 0,[hz_19,.a (.bx 7 [hz_95,.nm 9 Xa]),.a (.bx 10 [.nm 11 Xi,.nm 12 Xa]),.a (.c (.mo 13 hz_23))])] g109L0 g109D ok_y0
def g109k:=ok_fq g109H g109 func109 g109D (ok_y1 g109L0q)
def g110H:Hints:={regs:=[⟨[],[0]⟩,⟨[],[0]⟩,⟨[],[2]⟩,⟨[],[2]⟩],heads:=[],exits:=[],rets:=[2],pins:=[],spec:=[[true]]}
abbrev g110A:List Sh:=[sL]
abbrev g110S:Sh:= .a (.c (.nm 0 (.int .i64)))
abbrev g110U:List Sh:=[sD]
def g110R (m:Nat):Qv g110A->Option (g110S.Val×Qv g110U):=λ(x:LI×Unit)=>g110 m x.1
def g110T (m:Nat):FunT:=⟨110,g110A,g110S,g110U,g110R m⟩
noncomputable def g110C:Code:=codeOf Tryz.f110
def g110ok (m:Nat):FunOK Tryz.prog (g110T m):=
 qgd hmix htt (H:=g110H) (fn:=Tryz.f110) (f:=110) (t:=(.int .i64)) (ty:=24) (e:=3) (ty2:=24) (k:=1) (cells:=[.nil (.int .i64)]) (A:=pA g110C) (X:=pX (pB (pA (pB g110C)))) (Y:=pB (pB g110C)) (o0:=pO 0 (pA (pA (pB g110C)))) (o1:=pO 1 (pA (pA (pB g110C)))) Tryz.func110 kR kR kR kR kR kR kR kR kR (of_decide_eq_true kR) rfl kR kR kR (λxs=>[(0,.sl .imm (.int .i64) xs)]) (λxs=>[(2,.sl (.nm 0) (.int .i64) xs)]) (λxs=>kR) (λ_=>rfl) (λ_=>rfl) (λ_=>rfl) kR (λxs=>kR) (λxs=>kR)
def g110k:ok_FQ g110T:=g110ok
def g227k:=ok_fq (ok_aH f227 227 [hz_58] hz_57 []) g227 func227 ok_k0 ok_y0
def g198k:=ok_fq (ok_aH f198 198 [hz_58] hz_57 []) g198 func198 (ok_k1 g227k) ok_y0
def g219H:=ok_aH f219 219 [hz_42,hz_57,hz_57,hz_73] (.tup []) []
def g219L1q:=ok_lq g219H 2 [hz_42,hz_57,hz_57,hz_73,hz_57,hz_57] [(.exit 2,[hz_42,hz_57,hz_57,hz_73,hz_57])] g219L1 ok_k0 ok_y0
def g219L0q:=ok_lq g219H 0 [hz_42,hz_57,hz_57,hz_73,hz_57] [(.exit 0,[hz_42])] g219L0 ok_k0 (ok_y1 g219L1q)
def g219k:=ok_fq g219H g219 func219 ok_k0 (ok_y1 g219L0q)
def g197H:=ok_aH f197 197 [hz_42,hz_57,hz_57,hz_57,hz_73] (.tup []) [4,4,11,6,4,11,8,4,11]
def g197D:=(ok_k1 g219k)
def g197L0q:=ok_lq g197H 0 [hz_42,hz_57,hz_57,hz_57,hz_73,hz_59,hz_59] [(.ret,[hz_42])] g197L0 g197D ok_y0
def g197k:=ok_fq g197H g197 func197 g197D (ok_y1 g197L0q)
def g158k:=ok_fq (ok_aH f158 158 [hz_42,hz_73] (.tup []) [1,6,11]) g158 func158 (ok_k2 g198k g197k) ok_y0
def g111H:=ok_aE f111 111 [hz_20,hz_21] (.tup [.c hz_87,.c hz_88,.c hz_89]) [.a (.bx 3 [qp,qp,hz_94,hz_94,hz_84,hz_94,hz_94,.dead,.imm .opq,hz_43,hz_43]),hz_73] [0,0,8,11,1,9,11,2,11] [[true],[true],[true]]
def g111D:=(ok_k1 g158k)
def g111L2q:=ok_lq g111H 4 [hz_20,hz_76,hz_44,hz_45,hz_46,.a hz_77,hz_21,hz_57,hz_57,.a (.c hz_93),hz_57,hz_57] [(.exit 4,[hz_20,hz_76,hz_44,hz_45,hz_46,hz_21,hz_57,hz_57])] g111L2 g111D ok_y0
def g111L1q:=ok_lq g111H 2 [hz_20,hz_76,hz_44,hz_45,hz_46,.a hz_77,.a (.c hz_93),hz_21,hz_57,hz_57,hz_57,hz_57] [(.exit 2,[hz_20,hz_76,hz_44,hz_45,hz_46,.a hz_77,.a (.c hz_93),hz_21,hz_57,hz_57])] g111L1 g111D ok_y0
def g111L0q:=ok_lq g111H 0 [hz_20,hz_76,hz_44,hz_45,hz_46,hz_21,hz_57,hz_57] [(.exit 0,[hz_20,.a (.c hz_88),hz_44,.a (.c hz_91)])] g111L0 g111D (ok_y2 g111L1q g111L2q)
def g111k:=ok_fq g111H g111 func111 g111D (ok_y1 g111L0q)
def g108H:=ok_aH f108 108 [hz_37,hz_57] hz_59 []
def g108L0q:=ok_lq g108H 0 [hz_57,.a (.c (.nm 0 .bool)),hz_37,hz_57,hz_57] [(.ret,[hz_59]),(.exit 0,[])] g108L0 ok_k0 ok_y0
def g108k:=ok_fq g108H g108 func108 ok_k0 (ok_y1 g108L0q)
def g69H:=ok_aH f69 69 [hz_34,hz_37,hz_57,hz_57] (.tup [.agg [hz_87,hz_88,hz_90,hz_96,hz_97,hz_92,hz_93,.nm 7 Xa],hz_83,hz_83]) [32,3,1,33,4,7,35,0,1]
def g69D:=(ok_k5 g27k g109k g110k g111k g108k)
def g69L2q:=ok_lq g69H 5 [hz_37,hz_57,hz_57,hz_35,hz_47,hz_22,hz_37,hz_57,hz_57] [(.ret,[.a (.bx 0 [hz_88,hz_90,hz_96,hz_99,.nm 5 Xa,hz_93,.nm 7 Xi,.nm 8 Xa]),hz_57,hz_57]),(.exit 5,[hz_37,hz_35,hz_47,hz_22])] g69L2 g69D ok_y0
def g69L1q:=ok_lq g69H 3 [hz_37,hz_57,hz_57,hz_35,hz_47,hz_22,hz_37,hz_57,hz_57] [(.exit 3,[hz_37,hz_57,hz_57,hz_35,hz_47,hz_22])] g69L1 g69D ok_y0
def g69L0q:=ok_lq g69H 1 [hz_37,hz_57,hz_57,hz_35,hz_47,hz_22,hz_57,hz_57] [(.exit 1,[hz_37,hz_57,hz_57,hz_35,hz_47,hz_22])] g69L0 g69D ok_y0
def g69k:=ok_fq g69H g69 func69 g69D (ok_y3 g69L0q g69L1q g69L2q)
def g199k:=ok_fq (ok_aH f199 199 [hz_57,hz_37,.a (.c qns)] hz_59 []) g199 func199 ok_k0 ok_y0
def g201H:=ok_aH f201 201 [hz_37,hz_37,hz_57,.a (.c qfx)] hz_59 []
def g201D:=(ok_k1 g199k)
def g201L1q:=ok_lq g201H 2 [hz_37,hz_37,.a (.c qfx),hz_57,hz_37,hz_57,hz_57,hz_57] [(.ret,[hz_59]),(.exit 2,[hz_37,hz_37,.a (.c qfx),hz_57,hz_37,hz_57,hz_57])] g201L1 g201D ok_y0
def g201L0q:=ok_lq g201H 0 [hz_37,hz_37,.a (.c qfx),hz_57,hz_57] [(.ret,[hz_59]),(.exit 0,[])] g201L0 g201D (ok_y1 g201L1q)
def g201k:=ok_fq g201H g201 func201 g201D (ok_y1 g201L0q)
def g200k:=ok_fq (ok_aH f200 200 [hz_57,hz_37] hz_59 []) g200 func200 ok_k0 ok_y0
def g201bH:=ok_aH f201 201 [hz_37,hz_37,hz_57,.a (.c (.fn 200))] hz_59 []
def g201bD:=(ok_k1 g200k)
def g201bL1q:=ok_lq g201bH 2 [hz_37,hz_37,.a (.c (.fn 200)),hz_57,hz_37,hz_57,hz_57,hz_57] [(.ret,[hz_59]),(.exit 2,[hz_37,hz_37,.a (.c (.fn 200)),hz_57,hz_37,hz_57,hz_57])] g201bL1 g201bD ok_y0
def g201bL0q:=ok_lq g201bH 0 [hz_37,hz_37,.a (.c (.fn 200)),hz_57,hz_57] [(.ret,[hz_59]),(.exit 0,[])] g201bL0 g201bD (ok_y1 g201bL1q)
def g201bk:=ok_fq g201bH g201b func201 g201bD (ok_y1 g201bL0q)
def g161k:=ok_fq (ok_aH f161 161 [hz_48] hz_59 []) g161 func161 (ok_k2 g201k g201bk) ok_y0
def g112H:=ok_aH f112 112 [hz_48] hz_57 []
def g112D:=(ok_k4 g108k g161k g21k g63k)
def g112L2q:=ok_lq g112H 5 [hz_49,hz_57,hz_57] [(.ret,[hz_57]),(.exit 5,[])] g112L2 g112D ok_y0
def g112L1q:=ok_lq g112H 3 [hz_49,hz_57,.a (.c (.nm 1 hz_98)),hz_57,hz_57,hz_26,hz_57,hz_57] [(.ret,[hz_57]),(.exit 3,[hz_49,hz_57,.a (.c (.nm 1 hz_98)),hz_57,hz_57])] g112L1 g112D ok_y0
def g112L0q:=ok_lq g112H 1 [hz_49,hz_57,.a (.c (.nm 1 hz_98)),hz_57,hz_57] [(.ret,[hz_57]),(.exit 1,[hz_49,hz_57])] g112L0 g112D (ok_y1 g112L1q)
def g112k:=ok_fq g112H g112 func112 g112D (ok_y2 g112L0q g112L2q)
def g202H:=ok_aH f202 202 [hz_26] hz_57 []
def g202D:=(ok_k1 g21k)
def g202L0q:=ok_lq g202H 0 [hz_26,hz_57,hz_57] [(.ret,[hz_57]),(.exit 0,[])] g202L0 g202D ok_y0
def g202k:=ok_fq g202H g202 func202 g202D (ok_y1 g202L0q)
def g162k:=ok_fq (ok_aH f162 162 [hz_26,hz_57] hz_57 []) g162 func162 (ok_k1 g202k) ok_y0
def g164H:=ok_aH f164 164 [hz_26,hz_37] hz_50 []
def g164L0q:=ok_lq g164H 0 [hz_26,hz_50,hz_37,hz_57,hz_57] [(.exit 0,[hz_50])] g164L0 ok_k0 ok_y0
def g164k:=ok_fq g164H g164 func164 ok_k0 (ok_y1 g164L0q)
def g165H:=ok_aH f165 165 [hz_26] hz_3 [1,2,4,5,6,4]
def g165D:=(ok_k1 g51k)
def g165L0q:=ok_lq g165H 0 [hz_3,hz_26,hz_57,hz_57] [(.exit 0,[hz_3])] g165L0 g165D ok_y0
def g165k:=ok_fq g165H g165 func165 g165D (ok_y1 g165L0q)
def g175bH:=ok_aH f175 175 [hz_8] hz_31 [12,0,2,16,0,2]
def g175bD:=(ok_k5 g89k g82k g131k g85k g84k)
def g175bL1q:=ok_lq g175bH 2 [hz_8,hz_51,hz_57,.a (.bx 3 [X4,hz_86]),.a (.c (.nm 4 hz_23)),hz_57,hz_57] [(.exit 2,[hz_8,hz_51,hz_57,.a (.bx 3 [X4,hz_86])])] g175bL1 g175bD ok_y0
def g175bL0q:=ok_lq g175bH 0 [hz_8,hz_51,hz_6,hz_57,.a (.c (.ref 0 0 4)),hz_57,hz_57] [(.ret,[hz_8,hz_51]),(.exit 0,[hz_8,hz_51,hz_6,hz_57])] g175bL0 g175bD ok_y0
def g175bk:=ok_fq g175bH g175b func175 g175bD (ok_y2 g175bL0q g175bL1q)
def g166k:=ok_fq (ok_aH f166 166 [hz_3,hz_57] hz_31 [1,4,301]) g166 func166 (ok_k1 g175bk) ok_y0
def g167k:=ok_fq (ok_aH f167 167 [hz_3,hz_57,hz_58,hz_58] (.tup []) [0,5,4,0,15,4]) g167 func167 (ok_k3 g51k g122k g152k) ok_y0
def g163H:=ok_aH f163 163 [hz_37,hz_37,hz_26,hz_26] (.tup [hz_78,hz_83]) [5,4,11,11,13,11]
def g163D:=(ok_k5 g165k g166k g54k g21k g167k)
def g163L1q:=ok_lq g163H 2 [hz_37,hz_37,hz_26,hz_3,hz_52,hz_57,hz_57,hz_57,hz_57] [(.exit 2,[hz_37,hz_37,hz_26,hz_3,hz_52,hz_57,hz_57])] g163L1 g163D ok_y0
def g163L0q:=ok_lq g163H 0 [hz_37,hz_37,hz_26,hz_3,hz_52,hz_57,hz_57] [(.ret,[hz_50,hz_57]),(.exit 0,[hz_50])] g163L0 g163D (ok_y1 g163L1q)
def g163k:=ok_fq g163H g163 func163 g163D (ok_y1 g163L0q)
def g168H:=ok_aH f168 168 [hz_26,hz_37] hz_50 []
def g168L0q:=ok_lq g168H 0 [hz_26,hz_50,hz_37,hz_57,hz_57] [(.exit 0,[hz_50])] g168L0 ok_k0 ok_y0
def g168k:=ok_fq g168H g168 func168 ok_k0 (ok_y1 g168L0q)
def g113H:=ok_aH f113 113 [hz_48,hz_26] (.tup [hz_78,hz_83]) [6,14,2,9,0,2,14,4,11,20,15,11]
def g113D:=(ok_kC g112k<|ok_kC g162k<|ok_kC g164k<|ok_k8 g163k g165k g166k g51k g121k g21k g167k g168k)
def g113L1q:=ok_lq g113H 2 [hz_49,hz_4,hz_53,hz_57,hz_57,hz_57] [(.exit 2,[hz_49,hz_4,hz_53,hz_57])] g113L1 g113D ok_y0
def g113L0q:=ok_lq g113H 0 [hz_49,hz_4,hz_53,hz_57] [(.ret,[hz_50,hz_57]),(.exit 0,[hz_49,hz_52])] g113L0 g113D (ok_y1 g113L1q)
def g113k:=ok_fq g113H g113 func113 g113D (ok_y1 g113L0q)
def g70H:=ok_aH f70 70 [hz_48] (.tup [.agg [qp,qp,.nm 0 Xa],hz_83]) [16,1,1,18,0,1]
def g70D:=(ok_k2 g112k g113k)
def g70L0q:=ok_lq g70H 0 [hz_49,.a (.bx 1 [qp,qp,hz_89]),hz_57,.a (.bx 3 [qp,qp,hz_97]),hz_57,hz_57] [(.ret,[.a (.bx 0 [qp,qp,q88]),hz_57]),(.exit 0,[.a (.bx 0 [qp,qp,q88]),.a (.bx 2 [qp,qp,hz_91])])] g70L0 g70D ok_y0
def g70k:=ok_fq g70H g70 func70 g70D (ok_y1 g70L0q)
def g169k:=ok_fq (ok_aH f169 169 [hz_34,hz_48,hz_57] hz_57 []) g169 func169 (ok_k2 g27k g112k) ok_y0
def g171H:=ok_aH f171 171 [hz_25] hz_8 []
def g171D:=(ok_k2 g51k g50k)
def g171L0q:=ok_lq g171H 0 [hz_8,hz_25,hz_57,hz_57] [(.exit 0,[hz_8])] g171L0 g171D ok_y0
def g171k:=ok_fq g171H g171 func171 g171D (ok_y1 g171L0q)
def g203H:=ok_aH f203 203 [hz_26] hz_59 []
def g203D:=(ok_k1 g21k)
def g203L0q:=ok_lq g203H 0 [hz_26,hz_57,hz_57] [(.ret,[hz_59]),(.exit 0,[])] g203L0 g203D ok_y0
def g203k:=ok_fq g203H g203 func203 g203D (ok_y1 g203L0q)
def g170H:=ok_aH f170 170 [hz_34,hz_5,hz_26] (.tup [.c hz_84,hz_85]) [1,2,4,5,6,4,14,5,4,14,21,4,17,0,2,22,0,2]
def g170D:=(ok_k6 g51k g122k g152k g175k g54k g203k)
def g170L3q:=ok_lq g170H 6 [hz_50,hz_1,hz_57,hz_57] [(.exit 6,[hz_50])] g170L3 g170D ok_y0
def g170L2q:=ok_lq g170H 4 [hz_5,hz_35,hz_4,hz_57,hz_57,hz_57,hz_57] [(.exit 4,[hz_5,hz_35,hz_4,hz_57,hz_57])] g170L2 g170D ok_y0
def g170L1q:=ok_lq g170H 2 [hz_5,hz_35,hz_4,hz_57,hz_57] [(.exit 2,[hz_3])] g170L1 g170D (ok_y1 g170L2q)
def g170L0q:=ok_lq g170H 0 [hz_5,hz_35,hz_4,hz_26,hz_57,hz_57] [(.exit 0,[hz_5,hz_35,hz_4])] g170L0 g170D ok_y0
def g170k:=ok_fq g170H g170 func170 g170D (ok_y3 g170L0q g170L1q g170L3q)
def g172H:=ok_aH f172 172 [hz_26] hz_58 []
def g172D:=(ok_k3 g63k g196k g80k)
def g172L0q:=ok_lq g172H 0 [hz_58,hz_26,hz_57,hz_57] [(.ret,[hz_58]),(.exit 0,[hz_58])] g172L0 g172D ok_y0
def g172k:=ok_fq g172H g172 func172 g172D (ok_y1 g172L0q)
def g173k:=ok_fq (ok_aH f173 173 [hz_70,hz_58,hz_59] (.tup [.agg [q02,q02],hz_85]) []) g173 func173 (ok_k5 g51k g175k g54k g21k g106k) ok_y0
def g174k:=ok_fq (ok_aH f174 174 [hz_58,hz_58] hz_59 []) g174 func174 (ok_k3 g51k g104k g75k) ok_y0
def g114H:=ok_aH f114 114 [hz_34,hz_48,hz_26,hz_57,hz_59] (.tup [.c (.imm q48),hz_78,hz_83]) [13,1,2,33,1,2]
def g114D:=(ok_k8 g169k g113k g171k g170k g172k g63k g173k g174k)
def g114L2q:=ok_lq g114H 4 [hz_26,hz_59,hz_35,hz_54,hz_25,hz_53,hz_58,.a (.c hz_91),.a (.c (.nm 4 q48)),hz_57,hz_57,hz_57,hz_57] [(.ret,[.a hz_55,hz_52,hz_57]),(.exit 4,[hz_26,hz_59,hz_35,hz_54,hz_25,hz_53,hz_58,.a (.c (.nm 3 q48)),hz_57,hz_57])] g114L2 g114D ok_y0
def g114L1q:=ok_lq g114H 2 [hz_26,hz_59,hz_35,hz_54,hz_25,hz_26,hz_53,hz_57,hz_57] [(.exit 2,[hz_25,hz_50]),(.ret,[.a hz_55,hz_52,hz_57])] g114L1 g114D (ok_y1 g114L2q)
def g114L0q:=ok_lq g114H 0 [hz_26,hz_57,hz_59,hz_35,hz_54,.a (.c (.nm 2 q48)),.a (.c hz_91),hz_57,hz_57] [(.exit 0,[hz_26,hz_57,hz_59,hz_35,hz_54,.a (.c (.nm 2 q48))])] g114L0 g114D ok_y0
def g114k:=ok_fq g114H g114 func114 g114D (ok_y2 g114L0q g114L1q)
def g71H:=ok_aH f71 71 [hz_34,hz_48,hz_26,hz_57] (.tup [hz_78,.c q88,hz_83]) []
def g71D:=(ok_k1 g114k)
def g71L0q:=ok_lq g71H 0 [hz_50,hz_57,hz_52,hz_25,hz_57,hz_57] [(.exit 0,[hz_50,hz_57,hz_52])] g71L0 g71D ok_y0
def g71k:=ok_fq g71H g71 func71 g71D (ok_y1 g71L0q)
def g119k:=ok_fq (ok_aH f119 119 [hz_31] hz_31 []) g119 func119 (ok_k2 g89k g143k) ok_y0
def g115H:=ok_aH f115 115 [hz_34,.a (.agg [qp,qp,hz_84])] hz_8 [1,2,4,16,5,4,16,12,4,20,0,2]
def g115D:=(ok_k6 g116k g51k g122k g152k g175k g119k)
def g115L3q:=ok_lq g115H 6 [hz_8,hz_1,hz_57,hz_57] [(.exit 6,[hz_8])] g115L3 g115D ok_y0
def g115L2q:=ok_lq g115H 4 [hz_35,hz_56,hz_9,hz_57,hz_57,hz_6,hz_57,hz_57,hz_57,hz_57,hz_57] [(.exit 4,[hz_35,hz_56,hz_9,hz_57,hz_57,hz_6,hz_57,hz_57,hz_57,hz_57])] g115L2 g115D ok_y0
def g115L1q:=ok_lq g115H 2 [hz_35,hz_56,hz_9,hz_57,hz_57,hz_57,hz_57,hz_57] [(.exit 2,[hz_35,hz_56,hz_9,hz_57,hz_57])] g115L1 g115D (ok_y1 g115L2q)
def g115L0q:=ok_lq g115H 0 [hz_35,hz_56,hz_9,hz_57,hz_57] [(.exit 0,[hz_35,hz_4])] g115L0 g115D (ok_y1 g115L1q)
def g115k:=ok_fq g115H g115 func115 g115D (ok_y2 g115L0q g115L3q)
def g117H:=ok_aH f117 117 [hz_5] hz_31 []
def g117D:=(ok_k2 g116k g75k)
def g117L0q:=ok_lq g117H 0 [hz_41,.a hz_79,hz_5,hz_57,hz_57] [(.exit 0,[hz_41,.a hz_79])] g117L0 g117D ok_y0
def g117k:=ok_fq g117H g117 func117 g117D (ok_y1 g117L0q)
def g118H:=ok_aH f118 118 [hz_34,hz_26,hz_26] hz_8 [1,2,4,5,6,4,14,5,4,14,22,4,17,0,2]
def g118D:=(ok_k4 g51k g122k g152k g175k)
def g118L3q:=ok_lq g118H 6 [hz_8,hz_1,hz_57,hz_57] [(.exit 6,[hz_8])] g118L3 g118D ok_y0
def g118L2q:=ok_lq g118H 4 [hz_26,hz_35,hz_4,hz_57,hz_57,hz_57,hz_57] [(.exit 4,[hz_26,hz_35,hz_4,hz_57,hz_57])] g118L2 g118D ok_y0
def g118L1q:=ok_lq g118H 2 [hz_26,hz_35,hz_4,hz_57,hz_57] [(.exit 2,[hz_35,hz_4])] g118L1 g118D (ok_y1 g118L2q)
def g118L0q:=ok_lq g118H 0 [hz_26,hz_35,hz_4,hz_26,hz_57,hz_57] [(.exit 0,[hz_26,hz_35,hz_4])] g118L0 g118D ok_y0
def g118k:=ok_fq g118H g118 func118 g118D (ok_y3 g118L0q g118L1q g118L3q)
def g120H:=ok_aH f120 120 [.a (.agg [qp,qp,hz_84]),hz_57,hz_5] hz_31 []
def g120D:=(ok_k3 g51k g122k g175k)
def g120L0q:=ok_lq g120H 0 [hz_57,hz_5,.a (.bx 0 [qp,qp,hz_84]),hz_51,hz_6,hz_57,hz_57] [(.exit 0,[hz_41,hz_7])] g120L0 g120D ok_y0
def g120k:=ok_fq g120H g120 func120 g120D (ok_y1 g120L0q)
def g72H:=ok_aH f72 72 [hz_34,hz_26,.a (.agg [qp,qp,hz_84,hz_84])] (.tup [hz_55,hz_85]) [2,1,2,5,5,2,12,0,2]
def g72D:=(ok_kC g115k<|ok_kC g116k<|ok_kC g117k<|ok_kC g106k<|ok_kC g52k<|ok_k8 g118k g120k g119k g122k g50k g121k g32k g25k)
def g72L1q:=ok_lq g72H 2 [hz_5,.a (.bx 0 [X4,X4,hz_86,qp]),hz_5,.a hz_80,.a (.c (.nm 2 q48)),hz_26,hz_57,hz_57] [(.exit 2,[.a hz_55])] g72L1 g72D ok_y0
def g72L0q:=ok_lq g72H 0 [.a hz_81,hz_5,.a hz_80,hz_5,hz_7,hz_57,hz_57] [(.exit 0,[.a hz_81,hz_5,.a hz_80,hz_7])] g72L0 g72D ok_y0
def g72k:=ok_fq g72H g72 func72 g72D (ok_y2 g72L0q g72L1q)
def g107k:=ok_fq (ok_aH f107 107 [hz_58] hz_59 []) g107 func107 (ok_k1 g21k) ok_y0
def g96bH:=ok_aH f96 96 [hz_26,.a (.c (.fn 107))] hz_57 []
def g96bD:=(ok_k1 g107k)
def g96bL0q:=ok_lq g96bH 0 [hz_26,.a (.c (.fn 107)),hz_57,hz_57] [(.ret,[hz_57]),(.exit 0,[])] g96bL0 g96bD ok_y0
def g96bk:=ok_fq g96bH g96b func96 g96bD (ok_y1 g96bL0q)
def g57bk:=ok_fq (ok_aH f57 57 [hz_26,.a (.c (.fn 107))] hz_59 []) g57b func57 (ok_k1 g96bk) ok_y0
def g68k:=ok_fq (ok_aH f68 68 [hz_26] hz_59 []) g68 func68 (ok_k1 g57bk) ok_y0
def g38H:=ok_aH f38 38 [hz_34,hz_26] (.tup [hz_55,.agg [qp,qp,q88,hz_89],hz_83]) [32,1,1]
def g38D:=(ok_k6 g27k g69k g70k g71k g72k g68k)
def g38L0q:=ok_lq g38H 1 [hz_26,hz_35,.a hz_82,.a (.c hz_99),hz_57,hz_57] [(.exit 1,[hz_26,hz_35,.a hz_82,.a (.c hz_99)])] g38L0 g38D ok_y0
def g38k:=ok_fq g38H g38 func38 g38D (ok_y1 g38L0q)
def g40k:=ok_fq (ok_aH f40 40 [hz_58] hz_31 []) g40 func40 (ok_k4 g42k g76k g62k g77k) ok_y0
def g73k:=ok_fq (ok_aH f73 73 [hz_31] hz_59 []) g73 func73 (ok_k1 g89k) ok_y0
def g74k:=ok_fq (ok_aH f74 74 [hz_58,.a (.c (.iptr none (.pr .bool (.pr .bool (.pr (.sl false (.int .u32)) (.int .i64)))) 0))] hz_57 []) g74 func74 (ok_k2 g51k g75k) ok_y0
def g39k:=ok_fq (ok_aH f39 39 [hz_70,hz_31] hz_59 []) g39 func39 (ok_k3 g46k g73k g74k) ok_y0
def g16k:=ok_fq (ok_aH f16 16 [] hz_59 []) g16 func16 (ok_k4 g38k g14k g40k g39k) ok_y0
abbrev g3A:List Sh:=[hz_26,hz_57,hz_57]
abbrev g3S:Sh:=hz_59
abbrev g3U:List Sh:=[hz_73,hz_73,hz_73]
def g3H:=ok_aE f3 3 g3A g3S g3U [] [[false]]
def g3D:=(ok_kC g4k<|ok_kC g6k<|ok_kC g5k<|ok_kC g7k<|ok_kC g10k<|ok_k8 g9k g8k g12k g11k g13k g15k g14k g16k)
def g3L1q:=ok_lq g3H 2 [hz_57,hz_32,hz_58,hz_58,hz_57,.a (.bx 4 [q02,q02]),hz_57] [(.exit 2,[hz_57,hz_32,hz_58,hz_58,hz_57,.a (.bx 4 [q02,q02])])] g3L1 g3D ok_y0
def g3L0q:=ok_lq g3H 0 [hz_57,hz_32,hz_58,hz_58,hz_57] [(.exit 0,[hz_57,hz_32,hz_58,hz_58])] g3L0 g3D (ok_y1 g3L1q)
set_option maxHeartbeats 4000000 in
def g3k:=ok_fq g3H g3 func3 g3D (ok_y1 g3L0q)
def g3R (m:Nat):Qv g3A->Option (g3S.Val×Qv g3U):=un (g3 m)
def g3T (m:Nat):FunT:=⟨3,g3A,g3S,g3U,g3R m⟩
def g3ok (m:Nat):FunOK Tryz.prog (g3T m):=g3k m
end
end Go.Vs.F
