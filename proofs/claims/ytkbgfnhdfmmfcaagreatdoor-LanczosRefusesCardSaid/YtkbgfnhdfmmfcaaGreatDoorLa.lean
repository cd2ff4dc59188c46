import Derived.Test.YtkbgfnhdfmmfcaaGreatDoorVc
import Derived.Test.YtkbgfnhdfmmfcaaGreatDoorFn
set_option linter.unusedVariables false
set_option linter.unusedSimpArgs false
set_option maxRecDepth 100000
set_option linter.defProp false
namespace Go.Vs.F
section
def qru {x:Int}:0<=qp .u64 x 2047/\qp .u64 x 2047<2048:=by unfold qp;have h:(BitVec.ofInt IntKind.u64.bits x&&&BitVec.ofInt IntKind.u64.bits 2047).toNat<2048:=by{rw[BitVec.toNat_and];have:(BitVec.ofInt IntKind.u64.bits 2047).toNat=2047:=by{decide};rw[this];exact wR Nat.and_le_right (by decide)};generalize (BitVec.ofInt IntKind.u64.bits x&&&BitVec.ofInt IntKind.u64.bits 2047).toNat=y at h;rw[wu O O];omega
def lp (x:Int):Bool:=qp .u64 (aJ .u64 x 52) 2047 !=2047
def qfo {m:Nat} {x:Int}:te m x=some (lp x,(),()):=by rw[te,rW];have:=qru (x:=aJ .u64 x 52);simp only[bS,wi (show(-9223372036854775808:Int)<=qp .u64 (aJ .u64 x 52) 2047 by omega) O];rfl
def nP (a:LI):Bool:=ql (λi=>lp (a.getD i 0)) 0 a.length
end
section
def vR (S:LI) (i:Nat):Bool:=decide (S.getD i 0<=S.getD (i+1) 0)
def gA (R:Int):Int->LI->Bool
 |_,[]=>true
 |l,x::xs=>(decide (l<x)&&decide (x<R))&&gA R x xs
def dW (S I:LI) (j:Nat):LI:=(I.drop (S.getD j 0).toNat).take ((S.getD (j+1) 0).toNat-(S.getD j 0).toNat)
structure bL (C:Nat) (S I:LI):Prop where
 len:S.length=C+1
 s0:S.getD 0 0=0
 mono: ∀j,j<C->S.getD j 0<=S.getD (j+1) 0
 last:S.getD C 0=(I.length:Int)
def bL.le {C:Nat} {S I:LI} (h:bL C S I): ∀{i j:Nat},i<=j->j<=C->S.getD i 0<=S.getD j 0
 |i,0,G,h2=>by{have:i=0:=O;subst this;exact E3 _}
 |i,j+1,G,h2=>by rcases fS i (j+1)with u|u;{exact Int.le_trans (h.le O O) (h.mono j O)};{have:i=j+1:=O;subst this;exact E3 _}
def bL.rng {C:Nat} {S I:LI} (h:bL C S I) {j:Nat} (u:j<=C):0<=S.getD j 0/\S.getD j 0<=(I.length:Int):=by have a:=h.le (oX j) u;have b:=h.le u (zJ C);rw[h.s0]at a;rw[h.last]at b;exact⟨a,b⟩
def N0 {C:Nat} {S I:LI} (h:bL C S I) {j:Nat} (u:j<C):(dW S I j).length=(S.getD (j+1) 0).toNat-(S.getD j 0).toNat:=by have a:=h.rng (j:=j) O;have b:=h.rng (j:=j+1) O;unfold dW;rw[zU,ix];omega
def qdy {C:Nat} {S I:LI} (h:bL C S I) {j:Nat} (G:j<C) {k:Nat} (u:k<(dW S I j).length):(dW S I j).getD k 0=I.getD ((S.getD j 0).toNat+k) 0:=by rw[N0 h G]at u;unfold dW;rw[vU u,vV]
def nv (R:Int) (S I:LI) (j k:Nat):Bool:=
 decide (0<=I.getD k 0)&&decide (I.getD k 0<R)&&(!decide ((S.getD j 0).toNat<k)||decide (I.getD (k-1) 0<I.getD k 0))
def Bw (R:Int) (S I:LI) (j:Nat):Bool:=ql (nv R S I j) (S.getD j 0).toNat (S.getD (j+1) 0).toNat
def qhg (R:Int) (I:LI) (s e:Nat) (he:e<=I.length): ∀(d k:Nat) (l:Int),e-k=d->s<=k-> -1<=l->(k=s->l= -1)->(s<k->l=I.getD (k-1) 0)->
 gA R l ((I.drop k).take (e-k))=ql (λk=>decide (0<=I.getD k 0)&&decide (I.getD k 0<R)&&(!decide (s<k)||decide (I.getD (k-1) 0<I.getD k 0))) k e
 |0,k,l,Q,hk,hl,h1,h2=>by{rw[Q,Q5 O];simp[gA]}
 |d+1,k,l,Q,hk,hl,h1,h2=>by have K:k<e:=O;have J:k<I.length:=O;rw[qy K,cn (d:=0) J,Q,RS,gA];by_cases u:l<I.getD k 0;{have ih:=qhg R I s e he d (k+1) (I.getD k 0) O O O O (λ_=>by simp);rw[show e-(k+1)=d by omega]at ih;rw[ih];have G:0<=I.getD k 0:=O;by_cases hs:s<k;{have:=h2 hs;simp[-List.getD_eq_getElem?_getD,u,G,hs,<-this]};{simp[-List.getD_eq_getElem?_getD,u,G,hs]}};{by_cases hs:s<k;{have:=h2 hs;simp[-List.getD_eq_getElem?_getD,u,hs,<-this]};{have:l= -1:=h1 O;have G: ¬0<=I.getD k 0:=O;simp[-List.getD_eq_getElem?_getD,u,G]}}
def qlb {R:Int} {C:Nat} {S I:LI} (h:bL C S I) {j:Nat} (u:j<C):gA R (-1) (dW S I j)=Bw R S I j:=by have a:=h.rng (j:=j) O;have b:=h.rng (j:=j+1) O;exact qhg R I _ _ O _ _ _ rfl (zJ _) O (λ_=>rfl) (λh=>absurd h (Rx _))
def sW (R C:Int) (S I V:LI):Bool:=
 decide ((S.length:Int)=C+1)&&decide (S.getD 0 0=0)&&ql (vR S) 0 C.toNat&&decide (S.getD C.toNat 0=(I.length:Int))&&decide (I.length=V.length)&&ql (λj=>Bw R S I j) 0 C.toNat
def chk (R C:Int) (S I V:LI):Int:=
 if(decide (0<=R)&&decide (R<=200)&&decide (0<=C)&&decide (C<=200)&&decide (I.length<=10000))=false then 6 else if sW R C S I V=false then 1 else if nP V=false then 4 else 0
end
section
end
section
def qvq (R:Nat) (E:List LI):Prop:= ∀j,∀i∈E.getD j [],0<=i/\i<(R:Int)
def big:Nat:=2305843009213693952
end
section
def Fh (C:Nat) (S I:LI):List LI:=(List.range C).map (dW S I)
def WE {C:Nat} {S I:LI} {j:Nat} (u:j<C):(Fh C S I).getD j []=dW S I j:=by simp[Fh,List.getD,u]
structure cD (R C:Nat) (S I:LI):Prop where
 st:bL C S I
 ent: ∀j,j<C->Bw (R:Int) S I j=true
 sz:I.length<=10000
 cz:C<=200
 rz:R<=200
def cD.row {R C:Nat} {S I:LI} (h:cD R C S I) {j:Nat} (u:j<C) {k:Nat} (G:(S.getD j 0).toNat<=k) (h2:k<(S.getD (j+1) 0).toNat):0<=I.getD k 0/\I.getD k 0<(R:Int):=by have:=qx.1 (h.ent j u) k G h2;simp only[nv,zM,decide_eq_true_eq]at this;exact this.1
def cD.edge {R C:Nat} {S I:LI} (h:cD R C S I):qvq R (Fh C S I):=by intro j i G;by_cases u:j<C;{rw[WE u]at G;obtain⟨k,J,e⟩:=Vq (d:=0) G;rw[qdy h.st u J]at e;rw[N0 h.st u]at J;rw[<-e];exact h.row u O O};{simp[Fh,List.getD,u]at G}
def cD.len {R C:Nat} {S I:LI} (h:cD R C S I) (j:Nat):((Fh C S I).getD j []).length<big:=by by_cases u:j<C;{rw[WE u,N0 h.st u];have:=h.st.rng (j:=j+1) O;have:=h.sz;have G:(2305843009213693952:Nat)=big:=rfl;omega};{simp[Fh,List.getD,u,big]}
end
section
def So {R C:Int} {S I V:LI} (h:chk R C S I V=0): ∃r c:Nat,R=(r:Int)/\C=(c:Int)/\cD r c S I/\V.length=I.length/\nP V=true:=by unfold chk at h;split at h;{omega};{rename_i J;split at h;{omega};{rename_i h2;split at h;{omega};{rename_i G;simp only[Bool.not_eq_false,zM,decide_eq_true_eq]at J h2 G;obtain⟨⟨⟨⟨a1,a2⟩,a3⟩,a4⟩,a5⟩:=J;simp only[sW,zM,decide_eq_true_eq]at h2;obtain⟨⟨⟨⟨⟨b1,b2⟩,b3⟩,b4⟩,Q⟩,K⟩:=h2;refine⟨R.toNat,C.toNat,O,O,⟨⟨O,b2,λj u=> ?_,b4⟩,λj u=> ?_,a5,O,O⟩,Q.symm,G⟩;{have:=qx.1 b3 j O u;simpa [-List.getD_eq_getElem?_getD,vR]using this};{have:=qx.1 K j O u;rw[show((R.toNat:Nat):Int)=R by omega];exact this}}}}
end
section
def Xj {xs:LI} {k:Nat} (h:k<xs.length):xs.getD k 0∈xs:=by simp[List.getD,h]
section
variable {E:List LI} {R C:Nat}
end
end
section
def qgl {R C:Nat} {S I:LI} (h:cD R C S I) {j:Nat} (G:j<C):dW S I j=(List.range' (S.getD j 0).toNat ((S.getD (j+1) 0).toNat-(S.getD j 0).toNat)).map λt=>I.getD t 0:=by refine qps 0 (by rw[N0 h.st G];simp) λk u=> ?_;rw[qdy h.st G u];rw[N0 h.st G]at u;have e: ∀s n,k<n->(List.range' s n)[k]? =some (s+k):=λs n h=>by{rw[List.getElem?_range' h,wZ]};have J: ∀l:List Nat,(l.map λt=>I.getD t 0).getD k 0=((l[k]?).map λt=>I.getD t 0).getD 0:=λl=>by{rw[List.getD,List.getElem?_map]};rw[J,e _ _ u];rfl
section
variable {R C:Nat} {S I V:LI}
def Jw (S I V:LI) (j k e:Nat):List (Int×Int×Int):=(List.range' k (e-k)).map λt=>(I.getD t 0,(j:Int),V.getD t 0)
def ents (S I V:LI):Nat->Nat->List (Int×Int×Int)
 |0,_=>[]
 |d+1,k=>Jw S I V k (S.getD k 0).toNat (S.getD (k+1) 0).toNat++ents S I V d (k+1)
def q8w {j k e:Nat}:(Jw S I V j k e).length=e-k:=by simp[Jw]
def qgc {j k e:Nat} (h:k<e):Jw S I V j k e=(I.getD k 0,(j:Int),V.getD k 0)::Jw S I V j (k+1) e:=by unfold Jw;rw[show e-k=(e-(k+1))+1 by omega,MJ];rfl
def qjr {p:Int->Int->Bool} (G:cD R C S I) {j:Nat} (u:j<C):(Jw S I V j (S.getD j 0).toNat (S.getD (j+1) 0).toNat).all (λe=>p e.1 e.2.1)=(dW S I j).all (λi=>p i (j:Int)):=by rw[qgl G u,Jw,List.all_map,List.all_map];rfl
def qi5 {p:Int->Int->Bool} (u:cD R C S I): ∀(d k:Nat),C-k=d->k<=C->(ents S I V d k).all (λe=>p e.1 e.2.1)=ql (λj=>((Fh C S I).getD j []).all (λi=>p i (j:Int))) k C
 |0,k,J,G=>by rw[Q5 O];rfl
 |d+1,k,J,G=>by rw[ents,List.all_append,qjr u (by omega:k<C),qi5 u d (k+1) O O,qy (by omega:k<C),WE O]
def qi9 (u:cD R C S I): ∀(d k:Nat),C-k=d->k<=C->(ents S I V d k).length=(S.getD C 0).toNat-(S.getD k 0).toNat
 |0,k,J,G=>by{have:k=C:=O;subst this;simp[ents]}
 |d+1,k,J,G=>by have a:=u.st.rng (j:=k) O;have b:=u.st.rng (j:=k+1) O;have c:=u.st.rng (j:=C) O;have K:=u.st.mono k O;have e:=u.st.le (i:=k+1) (j:=C) O O;rw[ents,zG,q8w,qi9 u d (k+1) O O];omega
end
end
section
def Uw (a:Int):0<=IntKind.wrap .u64 a/\IntKind.wrap .u64 a<18446744073709551616:=by have e:IntKind.wrap .u64 a=a%18446744073709551616:=by{unfold IntKind.wrap;show(if(false&&decide (a%18446744073709551616>=9223372036854775808))=true then a%18446744073709551616-18446744073709551616 else a%18446744073709551616)=_;simp only[xh];rfl};rw[e];omega
def qvo (a:Int): ∃x:Nat,IntKind.wrap .u64 a=(x:Int)/\x<18446744073709551616:=
 ⟨(IntKind.wrap .u64 a).toNat,by have:=Uw a;omega,by have:=Uw a;omega⟩
def tm (x n:Nat):Int.tmod (x:Int) (n:Int)=((x%n:Nat):Int):=by rw[Int.tmod_eq_emod_of_nonneg O];rfl
def td (x n:Nat):Int.tdiv (x:Int) (n:Int)=((x/n:Nat):Int):=by rw[Int.tdiv_eq_ediv_of_nonneg O];rfl
end
section
abbrev eW:=Int×Int×Int
def Jp (es:List eW) (i j:Nat):Nat->Nat
 |0=>0
 |t+1=>if(es.getD t (0,(0,0))).1=(i:Int)/\(es.getD t (0,(0,0))).2.1=(j:Int)then t+1 else Jp es i j t
def Wm (es:List eW) (i j:Nat): ∀t,Jp es i j t<=t
 |0=>zJ _
 |t+1=>by rw[Jp];split;{exact zJ _};{exact Nat.le_succ_of_le (Wm es i j t)}
def xy (r c:Nat) (es:List eW):Prop:= ∀k,k<es.length->
 (0<=(es.getD k (0,(0,0))).1/\(es.getD k (0,(0,0))).1<(r:Int))/\(0<=(es.getD k (0,(0,0))).2.1/\(es.getD k (0,(0,0))).2.1<(c:Int))/\lp (es.getD k (0,(0,0))).2.2=true
def cell {r c i j:Nat} (G:i<r) (u:j<c):j*r+i<r*c:=by have K:(j+1)*r<=c*r:=zO r u;have h2:=MI j r;have J:=zY r c;simp only[Nat.succ_eq_add_one]at h2;omega
def qp8 {r i j i' j':Nat} (J:i<r) (G:i'<r) (h:j*r+i=j'*r+i'):i=i'/\j=j':=by rcases Nat.lt_trichotomy j j' with u|u|u;{have:=cell (c:=j') J u;have:=zY r j';omega};{subst u;exact⟨O,rfl⟩};{have:=cell (c:=j) G u;have:=zY r j;omega}
def Lq {r c:Nat} (u:r<=200) (G:c<=200):r*c<=40000:=pw u G
def Fa {r c i j:Nat} (u:r<=200) (K:c<=200) (J:i<r) (G:j<c):IntKind.wrap .i64 ((IntKind.wrap .i64 ((j:Int)*(r:Int)))+(i:Int))=((j*r+i:Nat):Int):=by have Q:=cell J G;have h2:=Lq u K;have e:(j:Int)*(r:Int)=((j*r:Nat):Int):=(sG j r).symm;rw[e,wi (n:=((j*r:Nat):Int)) O O,wi O O];omega
variable {es:List eW} {r c:Nat}
def jy (es:List eW) (j i d:Nat):List Nat:=(List.range' i d).filter λi=>decide (0<Jp es i j es.length)
def gx (es:List eW) (j i d:Nat):LI:=(jy es j i d).map λi:Nat=>(i:Int)
def ud (es:List eW) (j i d:Nat):LI:=(jy es j i d).map λi:Nat=>(es.getD (Jp es i j es.length-1) (0,(0,0))).2.2
def qpf {j i d:Nat}:(jy es j i d).length<=d:=by have:=MC (λi=>decide (0<Jp es i j es.length)) (List.range' i d);simpa [jy]using this
def b7 (es:List eW) (r:Nat):Nat->LI
 |0=>[]
 |j+1=>b7 es r j++gx es j 0 r
def eh (es:List eW) (r:Nat):Nat->LI
 |0=>[]
 |j+1=>eh es r j++ud es j 0 r
def dc (es:List eW) (r j:Nat):LI:=(List.range (j+1)).map λt=>((b7 es r t).length:Int)
def Tp (es:List eW) (r:Nat): ∀j,(eh es r j).length=(b7 es r j).length
 |0=>rfl
 |j+1=>by simp[eh,b7,Tp es r j,gx,ud]
def Wl (es:List eW) (r:Nat): ∀j,(b7 es r j).length<=j*r
 |0=>by simp[b7]
 |j+1=>by have:=Wl es r j;have h2:=qpf (es:=es) (j:=j) (i:=0) (d:=r);rw[MI];simp only[b7,zG,gx,zh];omega
def qke (es:List eW) (r j:Nat):dc es r (j+1)=dc es r j++[((b7 es r (j+1)).length:Int)]:=by simp[dc,AW]
end
section
variable {es:List eW} {r c:Nat}
def Mn {t:Nat} (h:t<=c):(dc es r c).getD t 0=((b7 es r t).length:Int):=by have:t<c+1:=O;simp[dc,List.getD,this]
def VZ {t:Nat}: ∀d,∃zs,b7 es r (t+d)=b7 es r t++zs
 |0=>⟨[],by simp⟩
 |d+1=>by obtain⟨zs,h⟩:=VZ (t:=t) d;exact⟨zs++gx es (t+d) 0 r,by rw[<-Nat.add_assoc,b7,h,py]⟩
def qjq {t u:Nat} (h:t<=u):(b7 es r t).length<=(b7 es r u).length:=by obtain⟨zs,e⟩:=VZ (es:=es) (r:=r) (t:=t) (u-t);rw[show t+(u-t)=u by omega]at e;rw[e];simp
def qjx {j:Nat} (u:j<c):dW (dc es r c) (b7 es r c) j=gx es j 0 r:=by unfold dW;rw[Mn O,Mn O,tN,tN];obtain⟨zs,e⟩:=VZ (es:=es) (r:=r) (t:=j+1) (c-(j+1));rw[show j+1+(c-(j+1))=c by omega]at e;rw[e,b7,py,List.drop_left,zG,Nat.add_sub_cancel_left,List.take_left]
def q8s:bL c (dc es r c) (b7 es r c) where
 len:=by simp[dc]
 s0:=by rw[Mn (oX _)];rfl
 mono j hj:=by
  rw[Mn O,Mn O];have:=qjq (es:=es) (r:=r) (show j<=j+1 by omega)
  omega
 last:=Mn (zJ _)
def qig {R:Int} {j:Nat}: ∀(d i:Nat) (l:Int),l<(i:Int)->((i+d:Nat):Int)<=R->gA R l (gx es j i d)=true
 |0,i,l,h,K=>by simp[gx,jy,gA]
 |d+1,i,l,h,K=>by have G:=qig (R:=R) (j:=j) d (i+1);by_cases J:0<Jp es i j es.length;{have u:gx es j i (d+1)=(i:Int)::gx es j (i+1) d:=by{unfold gx jy;rw[MJ,Lv,iP (by simpa using J),sP]};have h2:(i:Int)<R:=O;rw[u,gA,G (i:Int) O O];simp[h,h2]};{have u:gx es j i (d+1)=gx es j (i+1) d:=by{unfold gx jy;rw[MJ,Lv,af (by simpa using J)]};rw[u,G l O O]}
def qll (hr:r<=200) (hc:c<=200) (ha:c*r<=10000):cD r c (dc es r c) (b7 es r c) where
 st:=q8s
 ent j hj:=by
  rw[<-qlb q8s hj,qjx hj];exact qig r 0 (-1) O O
 sz:=zf (Wl es r c) ha
 cz:=hc
 rz:=hr
def qpb (u:xy r c es) {j i d:Nat} {x:Int} (h:x∈ud es j i d):lp x=true:=by obtain⟨i',J,h2⟩:=zk.1 h;have G:=IC.1 J;have Q:=of_decide_eq_true G.2;have K:=Wm es i' j es.length;rw[<-h2];exact(u _ O).2.2
def qdg (u:xy r c es) {x:Int}: ∀j,x∈eh es r j->lp x=true
 |0,h=>by cases h
 |j+1,h=>by rcases zX.1 h with h|h;{exact qdg u j h};{exact qpb u h}
def qp2 (Q:xy r c es) (J:r<=200) (K:c<=200) (O:c*r<=10000):chk (r:Int) (c:Int) (dc es r c) (b7 es r c) (eh es r c)=0:=by have u:=qll (es:=es) J K O;have hs:=u.st;have G:=u.sz;have e1:nP (eh es r c)=true:=by{unfold nP;refine qx.2 λi _ h=> ?_;exact qdg Q c (Xj h)};have e2:sW (r:Int) (c:Int) (dc es r c) (b7 es r c) (eh es r c)=true:=by{unfold sW;simp only[zM,decide_eq_true_eq,tN];refine⟨⟨⟨⟨⟨by rw[hs.len];omega,hs.s0⟩,?_⟩,hs.last⟩,(Tp es r c).symm⟩,?_⟩;{exact qx.2 λi _ h=>decide_eq_true (hs.mono i h)};{exact qx.2 λi _ h=>u.ent i h}};have e0:(decide (0<=(r:Int))&&decide ((r:Int)<=200)&&decide (0<=(c:Int))&&decide ((c:Int)<=200)&&decide ((b7 es r c).length<=10000))=true:=by{simp only[zM,decide_eq_true_eq];omega};unfold chk;rw[e0,e1,e2];rfl
end
section
def qj5 {S I V:LI} {R C:Nat} (u:cD R C S I) {e:eW}: ∀(d k:Nat),C-k=d->k<=C->e∈ents S I V d k-> ∃t,t<I.length/\e.2.2=V.getD t 0
 |0,k,J,G,h=>by simp[ents]at h
 |d+1,k,J,G,h=>by rw[ents,zX]at h;rcases h with h|h;{obtain⟨t,K,h2⟩:=zk.1 h;have Q:=List.mem_range'_1.1 K;have b:=u.st.rng (j:=k+1) O;have a:=u.st.rng (j:=k) O;exact⟨t,O,by rw[<-h2]⟩};{exact qj5 u d (k+1) O O h}
def qtb {S I V:LI} {R C:Nat} (G:cD R C S I) (hV:V.length=I.length) (hf:nP V=true):xy R C (ents S I V C 0):=by intro k J;have hm:(ents S I V C 0).getD k (0,(0,0))∈ents S I V C 0:=by{simp[List.getD,J]};have h:=qi5 (V:=V) (p:=λa b=>decide (0<=a)&&decide (a<(R:Int))&&decide (0<=b)&&decide (b<(C:Int))) G C 0 O O;have h4:ql (λj'=>((Fh C S I).getD j' []).all (λa=>decide (0<=a)&&decide (a<(R:Int))&&decide (0<=(j':Int))&&decide ((j':Int)<(C:Int)))) 0 C=true:=by{refine qx.2 λj' _ K=>zn.2 λi Q=> ?_;have:=G.edge j' i Q;simp only[zM,decide_eq_true_eq];omega};rw[h4]at h;have u:=zn.1 h _ hm;simp only[zM,decide_eq_true_eq]at u;obtain⟨t,ht,ev⟩:=qj5 G C 0 O O hm;refine⟨⟨u.1.1.1,u.1.1.2⟩,⟨u.1.2,u.2⟩,?_⟩;rw[ev];exact qx.1 hf t (oX _) O
end
section
abbrev zE:eW:=(0,(0,0))
def BI (x y:eW):Bool:=decide (x.2.1<y.2.1)||(decide (x.2.1=y.2.1)&&decide (x.1<y.1))
def qk0 {m:Nat} (x y:Int):Cj m x y=some (if x<y then-1 else if x>y then 1 else 0,(),(),()):=by simp only[Cj,B7,bS,bne_self_eq_false,cond_false,bQ];by_cases h:x<y;{simp[h]};{by_cases h2:x>y;{simp[h,h2]};{simp[h,h2]}}
def BL {α:Type} {P Q:List α} {x z:α} {k:Nat} (h:k=P.length):(P++x::Q).getD k z=x:=by subst h;simp[List.getD]
def TQ (x y:eW):Prop:=BI y x=false
def qvf {x y z:eW} (u:TQ x y) (h2:TQ y z):TQ x z:=by unfold TQ BI at*;simp only[RT,decide_eq_false_iff_not,Bool.and_eq_false_iff]at*;omega
end
section
def s9 {P M Q:List eW} {x y:eW} {j:Nat} (u:j=P.length+1+M.length):(P++x::(M++y::Q)).getD j zE=y:=by rw[show P++x::(M++y::Q)=(P++x::M)++y::Q by simp];exact BL (by simp;omega)
end
section
section
variable (self:(List (Int×Int×Int))->Int->Int->Int->Option (Unit×(List (Int×Int×Int))×Unit×Unit×Unit×Unit×Unit)) (m:Nat) (hm:2<m)
end
def Vq {l:List eW} {x:eW} (h:x∈l): ∃i,i<l.length/\l.getD i zE=x:=by obtain⟨i,u,rfl⟩:=nz h;exact⟨i,u,by simp[List.getD,u]⟩
end
section
end
section
end
section
end
section
def AQ (es:List eW):Prop:= ∀k u,k<es.length->u<es.length->(es.getD k zE).1=(es.getD u zE).1->(es.getD k zE).2.1=(es.getD u zE).2.1->k=u
section
variable {es:List eW} {r c:Nat}
end
end
section
section
variable {R C:Nat} {S I V:LI}
def cD.asc (G:cD R C S I) {j:Nat} (u:j<C): ∀(d t:Nat),(S.getD j 0).toNat<=t->t+(d+1)<(S.getD (j+1) 0).toNat->I.getD t 0<I.getD (t+(d+1)) 0
 |0,t,J,h2=>by{have:=qx.1 (G.ent j u) (t+1) O h2;simp only[nv,zM,EW,decide_eq_true_eq]at this;have h:=this.2;simp only[RP]at h;simp only[zH];rcases h with h|h;{simp only[Bool.not_eq_true',decide_eq_false_iff_not]at h;omega};{exact h}}
 |d+1,t,J,h2=>by have Q:=G.asc u d t J O;have K:=G.asc u 0 (t+(d+1)) O O;simp only[zH]at K;rw[show t+(d+1+1)=t+(d+1)+1 by omega];omega
def qfc (Q:cD R C S I) {j:Nat} (G:j<C):(Jw S I V j (S.getD j 0).toNat (S.getD (j+1) 0).toNat).Pairwise (λa b=>BI a b=true):=by unfold Jw;rw[List.pairwise_map];refine List.Pairwise.imp_of_mem ?_ (List.pairwise_lt_range' (s:=(S.getD j 0).toNat) (n:=(S.getD (j+1) 0).toNat-(S.getD j 0).toNat) (step:=1) O);intro a b u J K;rw[List.mem_range'_1]at u J;have:=Q.asc G (b-a-1) a u.1 O;rw[show a+(b-a-1+1)=b by omega]at this;unfold BI;simp[-List.getD_eq_getElem?_getD,this]
def qhp {x:eW}: ∀{d k:Nat},x∈ents S I V d k-> ∃j t,k<=j/\j<k+d/\(S.getD j 0).toNat<=t/\t<(S.getD (j+1) 0).toNat/\x=(I.getD t 0,(j:Int),V.getD t 0)
 |0,k,h=>by simp[ents]at h
 |d+1,k,h=>by rw[ents,zX]at h;rcases h with h|h;{unfold Jw at h;obtain⟨t,u,rfl⟩:=zk.1 h;rw[List.mem_range'_1]at u;exact⟨k,t,zJ _,O,u.1,O,rfl⟩};{obtain⟨j,t,J,h2,G⟩:=qhp h;exact⟨j,t,O,O,G⟩}
def We (G:cD R C S I): ∀(d k:Nat),k+d=C->(ents S I V d k).Pairwise (λa b=>BI a b=true)
 |0,k,h=>by simp[ents]
 |d+1,k,h=>by rw[ents,List.pairwise_append];refine⟨qfc G O,We G d (k+1) O,λa u b J=> ?_⟩;unfold Jw at u;obtain⟨t,K,rfl⟩:=zk.1 u;obtain⟨j,t',h1,h2,h3,Q,rfl⟩:=qhp J;unfold BI;simp[-List.getD_eq_getElem?_getD];omega
def q5b {es:List eW} (h:es.Pairwise (λa b=>BI a b=true)):AQ es:=by intro k G J u Q h2;rw[List.pairwise_iff_getElem]at h;have K: ∀i (O:i<es.length),es.getD i zE=es[i]:=λi O=>by{simp[List.getD,O]};rcases Nat.lt_trichotomy k G with e|e|e;{have:=h k G J u e;rw[<-K k J,<-K G u]at this;unfold BI at this;simp[-List.getD_eq_getElem?_getD]at this;omega};{exact e};{have:=h G k u J e;rw[<-K k J,<-K G u]at this;unfold BI at this;simp[-List.getD_eq_getElem?_getD]at this;omega}
end
end
section
end
section
def Zh {α:Type} {L:List α} {i:Nat} {d:α} (h:L.length<=i):L.getD i d=d:=by rw[List.getD,List.getElem?_eq_none h];rfl
end
section
end
section
end
section
variable {S I V:LI} {N:Nat}
end
end Go.Vs.F
