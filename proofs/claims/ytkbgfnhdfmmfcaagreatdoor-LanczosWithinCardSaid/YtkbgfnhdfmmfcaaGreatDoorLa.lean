import Derived.Test.YtkbgfnhdfmmfcaaGreatDoorVc
import Derived.Test.YtkbgfnhdfmmfcaaGreatDoorFn
set_option linter.unusedVariables false
set_option linter.unusedSimpArgs false
set_option linter.unusedSectionVars false
set_option linter.defProp false
set_option maxRecDepth 100000
namespace Go.Vs.F
section
def qtz {x:Int}:0<=qm .u64 x 2047/\qm .u64 x 2047<2048:=by unfold qm;have h:(BitVec.ofInt IntKind.u64.bits x&&&BitVec.ofInt IntKind.u64.bits 2047).toNat<2048:=by{rw[BitVec.toNat_and];have:(BitVec.ofInt IntKind.u64.bits 2047).toNat=2047:=by{decide};rw[this];exact vD Nat.and_le_right (by decide)};generalize (BitVec.ofInt IntKind.u64.bits x&&&BitVec.ofInt IntKind.u64.bits 2047).toNat=y at h;rw[wu O O];omega
def mj (x:Int):Bool:=qm .u64 (aJ .u64 x 52) 2047 !=2047
def qgq {m:Nat} {x:Int}:sw m x=some (mj x,(),()):=by rw[sw,qE];have:=qtz (x:=aJ .u64 x 52);simp only[bS,wi (show(-9223372036854775808:Int)<=qm .u64 (aJ .u64 x 52) 2047 by omega) O];rfl
def oV (a:LI):Bool:=qw (λi=>mj (a.getD i 0)) 0 a.length
end
section
def CD (S:LI) (i:Nat):Bool:=decide (S.getD i 0<=S.getD (i+1) 0)
def gY (R:Int):Int->LI->Bool
 |_,[]=>true
 |l,x::xs=>(decide (l<x)&&decide (x<R))&&gY R x xs
def eA (S I:LI) (j:Nat):LI:=(I.drop (S.getD j 0).toNat).take ((S.getD (j+1) 0).toNat-(S.getD j 0).toNat)
structure cn (C:Nat) (S I:LI):Prop where
 len:S.length=C+1
 s0:S.getD 0 0=0
 mono: ∀j,j<C->S.getD j 0<=S.getD (j+1) 0
 last:S.getD C 0=(I.length:Int)
def cn.le {C:Nat} {S I:LI} (h:cn C S I): ∀{i j:Nat},i<=j->j<=C->S.getD i 0<=S.getD j 0
 |i,0,G,h2=>by{have:i=0:=O;subst this;exact ug _}
 |i,j+1,G,h2=>by rcases gq i (j+1)with u|u;{exact OO (h.le O O) (h.mono j O)};{have:i=j+1:=O;subst this;exact ug _}
def cn.rng {C:Nat} {S I:LI} (h:cn C S I) {j:Nat} (u:j<=C):0<=S.getD j 0/\S.getD j 0<=(I.length:Int):=by have a:=h.le (lM j) u;have b:=h.le u (zI C);rw[h.s0]at a;rw[h.last]at b;exact⟨a,b⟩
def QD {C:Nat} {S I:LI} (h:cn C S I) {j:Nat} (u:j<C):(eA S I j).length=(S.getD (j+1) 0).toNat-(S.getD j 0).toNat:=by have a:=h.rng (j:=j) O;have b:=h.rng (j:=j+1) O;unfold eA;rw[zX,mA];omega
def qf6 {C:Nat} {S I:LI} (h:cn C S I) {j:Nat} (G:j<C) {k:Nat} (u:k<(eA S I j).length):(eA S I j).getD k 0=I.getD ((S.getD j 0).toNat+k) 0:=by rw[QD h G]at u;unfold eA;rw[xw u,xx]
def oD (R:Int) (S I:LI) (j k:Nat):Bool:=
 decide (0<=I.getD k 0)&&decide (I.getD k 0<R)&&(!decide ((S.getD j 0).toNat<k)||decide (I.getD (k-1) 0<I.getD k 0))
def CY (R:Int) (S I:LI) (j:Nat):Bool:=qw (oD R S I j) (S.getD j 0).toNat (S.getD (j+1) 0).toNat
def qhr (R:Int) (I:LI) (s e:Nat) (he:e<=I.length): ∀(d k:Nat) (l:Int),e-k=d->s<=k-> -1<=l->(k=s->l= -1)->(s<k->l=I.getD (k-1) 0)->
 gY R l ((I.drop k).take (e-k))=qw (λk=>decide (0<=I.getD k 0)&&decide (I.getD k 0<R)&&(!decide (s<k)||decide (I.getD (k-1) 0<I.getD k 0))) k e
 |0,k,l,hd,hk,hl,h1,h2=>by{rw[hd,Qk O];simp[gY]}
 |d+1,k,l,hd,hk,hl,h1,h2=>by have K:k<e:=O;have J:k<I.length:=O;rw[Qd K,iq (d:=0) J,hd,List.take_succ_cons,gY];by_cases u:l<I.getD k 0;{have ih:=qhr R I s e he d (k+1) (I.getD k 0) O O O O (λ_=>by simp);rw[show e-(k+1)=d by omega]at ih;rw[ih];have G:0<=I.getD k 0:=O;by_cases hs:s<k;{have:=h2 hs;simp[-List.getD_eq_getElem?_getD,u,G,hs,<-this]};{simp[-List.getD_eq_getElem?_getD,u,G,hs]}};{by_cases hs:s<k;{have:=h2 hs;simp[-List.getD_eq_getElem?_getD,u,hs,<-this]};{have:l= -1:=h1 O;have G: ¬0<=I.getD k 0:=O;simp[-List.getD_eq_getElem?_getD,u,G]}}
def qnu {R:Int} {C:Nat} {S I:LI} (h:cn C S I) {j:Nat} (u:j<C):gY R (-1) (eA S I j)=CY R S I j:=by have a:=h.rng (j:=j) O;have b:=h.rng (j:=j+1) O;exact qhr R I _ _ O _ _ _ rfl (zI _) O (λ_=>rfl) (λh=>absurd h (UH _))
def uv (R C:Int) (S I V:LI):Bool:=
 decide ((S.length:Int)=C+1)&&decide (S.getD 0 0=0)&&qw (CD S) 0 C.toNat&&decide (S.getD C.toNat 0=(I.length:Int))&&decide (I.length=V.length)&&qw (λj=>CY R S I j) 0 C.toNat
def chk (R C:Int) (S I V:LI):Int:=
 if(decide (0<=R)&&decide (R<=200)&&decide (0<=C)&&decide (C<=200)&&decide (I.length<=10000))=false then 6 else if uv R C S I V=false then 1 else if oV V=false then 4 else 0
end
section
end
section
def qxr (R:Nat) (E:List LI):Prop:= ∀j,∀i∈E.getD j [],0<=i/\i<(R:Int)
def big:Nat:=2305843009213693952
end
section
def GY (C:Nat) (S I:LI):List LI:=(List.range C).map (eA S I)
def q39 {C:Nat} {S I:LI} {j:Nat} (u:j<C):(GY C S I).getD j []=eA S I j:=by simp[GY,List.getD,u]
structure cN (R C:Nat) (S I:LI):Prop where
 st:cn C S I
 ent: ∀j,j<C->CY (R:Int) S I j=true
 sz:I.length<=10000
 cz:C<=200
 rz:R<=200
def cN.row {R C:Nat} {S I:LI} (h:cN R C S I) {j:Nat} (u:j<C) {k:Nat} (G:(S.getD j 0).toNat<=k) (h2:k<(S.getD (j+1) 0).toNat):0<=I.getD k 0/\I.getD k 0<(R:Int):=by have:=qp.1 (h.ent j u) k G h2;simp only[oD,zK,decide_eq_true_eq]at this;exact this.1
def cN.edge {R C:Nat} {S I:LI} (h:cN R C S I):qxr R (GY C S I):=by intro j i G;by_cases u:j<C;{rw[q39 u]at G;obtain⟨k,J,e⟩:=Z6 (d:=0) G;rw[qf6 h.st u J]at e;rw[QD h.st u]at J;rw[<-e];exact h.row u O O};{simp[GY,List.getD,u]at G}
def cN.len {R C:Nat} {S I:LI} (h:cN R C S I) (j:Nat):((GY C S I).getD j []).length<big:=by by_cases u:j<C;{rw[q39 u,QD h.st u];have:=h.st.rng (j:=j+1) O;have:=h.sz;have G:(2305843009213693952:Nat)=big:=rfl;omega};{simp[GY,List.getD,u,big]}
end
section
def Vg {R C:Int} {S I V:LI} (h:chk R C S I V=0): ∃r c:Nat,R=(r:Int)/\C=(c:Int)/\cN r c S I/\V.length=I.length/\oV V=true:=by unfold chk at h;split at h;{omega};{rename_i J;split at h;{omega};{rename_i h2;split at h;{omega};{rename_i G;simp only[Bool.not_eq_false,zK,decide_eq_true_eq]at J h2 G;obtain⟨⟨⟨⟨a1,a2⟩,a3⟩,a4⟩,a5⟩:=J;simp only[uv,zK,decide_eq_true_eq]at h2;obtain⟨⟨⟨⟨⟨b1,b2⟩,b3⟩,b4⟩,b5⟩,K⟩:=h2;refine⟨R.toNat,C.toNat,O,O,⟨⟨O,b2,λj u=> ?_,b4⟩,λj u=> ?_,a5,O,O⟩,b5.symm,G⟩;{have:=qp.1 b3 j O u;simpa [-List.getD_eq_getElem?_getD,CD]using this};{have:=qp.1 K j O u;rw[show((R.toNat:Nat):Int)=R by omega];exact this}}}}
end
section
def Xm {xs:LI} {k:Nat} (h:k<xs.length):xs.getD k 0∈xs:=by simp[List.getD,h]
section
variable {E:List LI} {R C:Nat}
end
end
section
def qga {R C:Nat} {S I:LI} (h:cN R C S I) {j:Nat} (G:j<C):eA S I j=(List.range' (S.getD j 0).toNat ((S.getD (j+1) 0).toNat-(S.getD j 0).toNat)).map λt=>I.getD t 0:=by refine qqs 0 (by rw[QD h.st G];simp) λk u=> ?_;rw[qf6 h.st G u];rw[QD h.st G]at u;have e: ∀s n,k<n->(List.range' s n)[k]? =some (s+k):=λs n h=>by{rw[List.getElem?_range' h,x7]};have e2: ∀l:List Nat,(l.map λt=>I.getD t 0).getD k 0=((l[k]?).map λt=>I.getD t 0).getD 0:=λl=>by{rw[List.getD,List.getElem?_map]};rw[e2,e _ _ u];rfl
section
variable {R C:Nat} {S I V:LI}
def vN (S I V:LI) (j k e:Nat):List (Int×Int×Int):=(List.range' k (e-k)).map λt=>(I.getD t 0,(j:Int),V.getD t 0)
def ents (S I V:LI):Nat->Nat->List (Int×Int×Int)
 |0,_=>[]
 |d+1,k=>vN S I V k (S.getD k 0).toNat (S.getD (k+1) 0).toNat++ents S I V d (k+1)
def q9u {j k e:Nat}:(vN S I V j k e).length=e-k:=by simp[vN]
def qg4 {j k e:Nat} (h:k<e):vN S I V j k e=(I.getD k 0,(j:Int),V.getD k 0)::vN S I V j (k+1) e:=by unfold vN;rw[show e-k=(e-(k+1))+1 by omega,OH];rfl
def qkk {p:Int->Int->Bool} (G:cN R C S I) {j:Nat} (u:j<C):(vN S I V j (S.getD j 0).toNat (S.getD (j+1) 0).toNat).all (λe=>p e.1 e.2.1)=(eA S I j).all (λi=>p i (j:Int)):=by rw[qga G u,vN,List.all_map,List.all_map];rfl
def qjw {p:Int->Int->Bool} (u:cN R C S I): ∀(d k:Nat),C-k=d->k<=C->(ents S I V d k).all (λe=>p e.1 e.2.1)=qw (λj=>((GY C S I).getD j []).all (λi=>p i (j:Int))) k C
 |0,k,J,G=>by rw[Qk O];rfl
 |d+1,k,J,G=>by rw[ents,Uh,qkk u (by omega:k<C),qjw u d (k+1) O O,Qd (by omega:k<C),q39 O]
def qjd (u:cN R C S I): ∀(d k:Nat),C-k=d->k<=C->(ents S I V d k).length=(S.getD C 0).toNat-(S.getD k 0).toNat
 |0,k,J,G=>by{have:k=C:=O;subst this;simp[ents]}
 |d+1,k,J,G=>by have a:=u.st.rng (j:=k) O;have b:=u.st.rng (j:=k+1) O;have c:=u.st.rng (j:=C) O;have K:=u.st.mono k O;have e:=u.st.le (i:=k+1) (j:=C) O O;rw[ents,zG,q9u,qjd u d (k+1) O O];omega
end
end
section
def XT (a:Int):0<=IntKind.wrap .u64 a/\IntKind.wrap .u64 a<18446744073709551616:=by have e:IntKind.wrap .u64 a=a%18446744073709551616:=by{unfold IntKind.wrap;show(if(false&&decide (a%18446744073709551616>=9223372036854775808))=true then a%18446744073709551616-18446744073709551616 else a%18446744073709551616)=_;simp only[CL];rfl};rw[e];omega
def qxl (a:Int): ∃x:Nat,IntKind.wrap .u64 a=(x:Int)/\x<18446744073709551616:=
 ⟨(IntKind.wrap .u64 a).toNat,by have:=XT a;omega,by have:=XT a;omega⟩
def tm (x n:Nat):Int.tmod (x:Int) (n:Int)=((x%n:Nat):Int):=by rw[Int.tmod_eq_emod_of_nonneg O];rfl
def td (x n:Nat):Int.tdiv (x:Int) (n:Int)=((x/n:Nat):Int):=by rw[Int.tdiv_eq_ediv_of_nonneg O];rfl
end
section
abbrev fw:=Int×Int×Int
def Jk (es:List fw) (i j:Nat):Nat->Nat
 |0=>0
 |t+1=>if(es.getD t (0,(0,0))).1=(i:Int)/\(es.getD t (0,(0,0))).2.1=(j:Int)then t+1 else Jk es i j t
def q8p (es:List fw) (i j:Nat): ∀t,Jk es i j t<=t
 |0=>zI _
 |t+1=>by rw[Jk];split;{exact zI _};{exact Nat.le_succ_of_le (q8p es i j t)}
def yI (r c:Nat) (es:List fw):Prop:= ∀k,k<es.length->
 (0<=(es.getD k (0,(0,0))).1/\(es.getD k (0,(0,0))).1<(r:Int))/\(0<=(es.getD k (0,(0,0))).2.1/\(es.getD k (0,(0,0))).2.1<(c:Int))/\mj (es.getD k (0,(0,0))).2.2=true
def cell {r c i j:Nat} (G:i<r) (u:j<c):j*r+i<r*c:=by have K:(j+1)*r<=c*r:=zO r u;have h2:=OG j r;have J:=zY r c;simp only[Nat.succ_eq_add_one]at h2;omega
def qs3 {r i j i' j':Nat} (J:i<r) (G:i'<r) (h:j*r+i=j'*r+i'):i=i'/\j=j':=by rcases Nat.lt_trichotomy j j' with u|u|u;{have:=cell (c:=j') J u;have:=zY r j';omega};{subst u;exact⟨O,rfl⟩};{have:=cell (c:=j) G u;have:=zY r j;omega}
def Ng {r c:Nat} (u:r<=200) (G:c<=200):r*c<=40000:=qK u G
def GQ {r c i j:Nat} (u:r<=200) (K:c<=200) (J:i<r) (G:j<c):IntKind.wrap .i64 ((IntKind.wrap .i64 ((j:Int)*(r:Int)))+(i:Int))=((j*r+i:Nat):Int):=by have h1:=cell J G;have h2:=Ng u K;have e:(j:Int)*(r:Int)=((j*r:Nat):Int):=(oZ j r).symm;rw[e,wi (n:=((j*r:Nat):Int)) O O,wi O O];omega
variable {es:List fw} {r c:Nat}
def j9 (es:List fw) (j i d:Nat):List Nat:=(List.range' i d).filter λi=>decide (0<Jk es i j es.length)
def gV (es:List fw) (j i d:Nat):LI:=(j9 es j i d).map λi:Nat=>(i:Int)
def vr (es:List fw) (j i d:Nat):LI:=(j9 es j i d).map λi:Nat=>(es.getD (Jk es i j es.length-1) (0,(0,0))).2.2
def qs4 {j i d:Nat}:(j9 es j i d).length<=d:=by have:=OP (λi=>decide (0<Jk es i j es.length)) (List.range' i d);simpa [j9]using this
def cm (es:List fw) (r:Nat):Nat->LI
 |0=>[]
 |j+1=>cm es r j++gV es j 0 r
def eM (es:List fw) (r:Nat):Nat->LI
 |0=>[]
 |j+1=>eM es r j++vr es j 0 r
def dm (es:List fw) (r j:Nat):LI:=(List.range (j+1)).map λt=>((cm es r t).length:Int)
def V7 (es:List fw) (r:Nat): ∀j,(eM es r j).length=(cm es r j).length
 |0=>rfl
 |j+1=>by simp[eM,cm,V7 es r j,gV,vr]
def q7w (es:List fw) (r:Nat): ∀j,(cm es r j).length<=j*r
 |0=>by simp[cm]
 |j+1=>by have:=q7w es r j;have h2:=qs4 (es:=es) (j:=j) (i:=0) (d:=r);rw[OG];simp only[cm,zG,gV,zi];omega
def qlp (es:List fw) (r j:Nat):dm es r (j+1)=dm es r j++[((cm es r (j+1)).length:Int)]:=by simp[dm,Cr]
end
section
variable {es:List fw} {r c:Nat}
def Og {t:Nat} (h:t<=c):(dm es r c).getD t 0=((cm es r t).length:Int):=by have:t<c+1:=O;simp[dm,List.getD,this]
def q8v {t:Nat}: ∀d,∃zs,cm es r (t+d)=cm es r t++zs
 |0=>⟨[],by simp⟩
 |d+1=>by obtain⟨zs,h⟩:=q8v (t:=t) d;exact⟨zs++gV es (t+d) 0 r,by rw[<-Nat.add_assoc,cm,h,qT]⟩
def qli {t u:Nat} (h:t<=u):(cm es r t).length<=(cm es r u).length:=by obtain⟨zs,e⟩:=q8v (es:=es) (r:=r) (t:=t) (u-t);rw[show t+(u-t)=u by omega]at e;rw[e];simp
def ql3 {j:Nat} (u:j<c):eA (dm es r c) (cm es r c) j=gV es j 0 r:=by unfold eA;rw[Og O,Og O,tN,tN];obtain⟨zs,e⟩:=q8v (es:=es) (r:=r) (t:=j+1) (c-(j+1));rw[show j+1+(c-(j+1))=c by omega]at e;rw[e,cm,qT,List.drop_left,zG,Nat.add_sub_cancel_left,List.take_left]
def qa8:cn c (dm es r c) (cm es r c) where
 len:=by simp[dm]
 s0:=by rw[Og (lM _)];rfl
 mono j hj:=by
  rw[Og O,Og O];have:=qli (es:=es) (r:=r) (show j<=j+1 by omega)
  omega
 last:=Og (zI _)
def qit {R:Int} {j:Nat}: ∀(d i:Nat) (l:Int),l<(i:Int)->((i+d:Nat):Int)<=R->gY R l (gV es j i d)=true
 |0,i,l,h,K=>by simp[gV,j9,gY]
 |d+1,i,l,h,K=>by have G:=qit (R:=R) (j:=j) d (i+1);by_cases J:0<Jk es i j es.length;{have u:gV es j i (d+1)=(i:Int)::gV es j (i+1) d:=by{unfold gV j9;rw[OH,NH,iP (by simpa using J),ui]};have h2:(i:Int)<R:=O;rw[u,gY,G (i:Int) O O];simp[h,h2]};{have u:gV es j i (d+1)=gV es j (i+1) d:=by{unfold gV j9;rw[OH,NH,ae (by simpa using J)]};rw[u,G l O O]}
def qo1 (G:r<=200) (J:c<=200) (K:c*r<=10000):cN r c (dm es r c) (cm es r c) where
 st:=qa8
 ent j u:=by
  rw[<-qnu qa8 u,ql3 u];exact qit r 0 (-1) O O
 sz:=zQ (q7w es r c) K
 cz:=J
 rz:=G
def qqv (u:yI r c es) {j i d:Nat} {x:Int} (h:x∈vr es j i d):mj x=true:=by obtain⟨i',J,h2⟩:=zk.1 h;have G:=Lb.1 J;have h4:=of_decide_eq_true G.2;have K:=q8p es i' j es.length;rw[<-h2];exact(u _ O).2.2
def qfb (u:yI r c es) {x:Int}: ∀j,x∈eM es r j->mj x=true
 |0,h=>by cases h
 |j+1,h=>by rcases zZ.1 h with h|h;{exact qfb u j h};{exact qqv u h}
def qr2 (hE:yI r c es) (J:r<=200) (K:c<=200) (O:c*r<=10000):chk (r:Int) (c:Int) (dm es r c) (cm es r c) (eM es r c)=0:=by have u:=qo1 (es:=es) J K O;have hs:=u.st;have G:=u.sz;have e1:oV (eM es r c)=true:=by{unfold oV;refine qp.2 λi _ h=> ?_;exact qfb hE c (Xm h)};have e2:uv (r:Int) (c:Int) (dm es r c) (cm es r c) (eM es r c)=true:=by{unfold uv;simp only[zK,decide_eq_true_eq,tN];refine⟨⟨⟨⟨⟨by rw[hs.len];omega,hs.s0⟩,?_⟩,hs.last⟩,(V7 es r c).symm⟩,?_⟩;{exact qp.2 λi _ h=>decide_eq_true (hs.mono i h)};{exact qp.2 λi _ h=>u.ent i h}};have e0:(decide (0<=(r:Int))&&decide ((r:Int)<=200)&&decide (0<=(c:Int))&&decide ((c:Int)<=200)&&decide ((cm es r c).length<=10000))=true:=by{simp only[zK,decide_eq_true_eq];omega};unfold chk;rw[e0,e1,e2];rfl
end
section
def qjl {S I V:LI} {R C:Nat} (u:cN R C S I) {e:fw}: ∀(d k:Nat),C-k=d->k<=C->e∈ents S I V d k-> ∃t,t<I.length/\e.2.2=V.getD t 0
 |0,k,J,G,h=>by simp[ents]at h
 |d+1,k,J,G,h=>by rw[ents,zZ]at h;rcases h with h|h;{obtain⟨t,K,h2⟩:=zk.1 h;have h3:=List.mem_range'_1.1 K;have b:=u.st.rng (j:=k+1) O;have a:=u.st.rng (j:=k) O;exact⟨t,O,by rw[<-h2]⟩};{exact qjl u d (k+1) O O h}
def qvl {S I V:LI} {R C:Nat} (G:cN R C S I) (hV:V.length=I.length) (hf:oV V=true):yI R C (ents S I V C 0):=by intro k J;have hm:(ents S I V C 0).getD k (0,(0,0))∈ents S I V C 0:=by{simp[List.getD,J]};have h:=qjw (V:=V) (p:=λa b=>decide (0<=a)&&decide (a<(R:Int))&&decide (0<=b)&&decide (b<(C:Int))) G C 0 O O;have h4:qw (λj'=>((GY C S I).getD j' []).all (λa=>decide (0<=a)&&decide (a<(R:Int))&&decide (0<=(j':Int))&&decide ((j':Int)<(C:Int)))) 0 C=true:=by{refine qp.2 λj' _ K=>zq.2 λi hi=> ?_;have:=G.edge j' i hi;simp only[zK,decide_eq_true_eq];omega};rw[h4]at h;have u:=zq.1 h _ hm;simp only[zK,decide_eq_true_eq]at u;obtain⟨t,ht,ev⟩:=qjl G C 0 O O hm;refine⟨⟨u.1.1.1,u.1.1.2⟩,⟨u.1.2,u.2⟩,?_⟩;rw[ev];exact qp.1 hf t (lM _) O
end
section
abbrev zE:fw:=(0,(0,0))
def De (x y:fw):Bool:=decide (x.2.1<y.2.1)||(decide (x.2.1=y.2.1)&&decide (x.1<y.1))
def qkz {m:Nat} (x y:Int):D8 m x y=some (if x<y then-1 else if x>y then 1 else 0,(),(),()):=by simp only[D8,DJ,bS,bne_self_eq_false,cond_false,bQ];by_cases h:x<y;{simp[h]};{by_cases h2:x>y;{simp[h,h2]};{simp[h,h2]}}
def Di {α:Type} {P Q:List α} {x z:α} {k:Nat} (h:k=P.length):(P++x::Q).getD k z=x:=by subst h;simp[List.getD]
def Wy (x y:fw):Prop:=De y x=false
def qy7 {x y z:fw} (u:Wy x y) (h2:Wy y z):Wy x z:=by unfold Wy De at*;simp only[Ut,decide_eq_false_iff_not,Bool.and_eq_false_iff]at*;omega
end
section
def uB {P M Q:List fw} {x y:fw} {j:Nat} (u:j=P.length+1+M.length):(P++x::(M++y::Q)).getD j zE=y:=by rw[show P++x::(M++y::Q)=(P++x::M)++y::Q by simp];exact Di (by simp;omega)
end
section
section
variable (self:(List (Int×Int×Int))->Int->Int->Int->Option (Unit×(List (Int×Int×Int))×Unit×Unit×Unit×Unit×Unit)) (m:Nat) (hm:2<m)
end
def Z6 {l:List fw} {x:fw} (h:x∈l): ∃i,i<l.length/\l.getD i zE=x:=by obtain⟨i,u,rfl⟩:=ml h;exact⟨i,u,by simp[List.getD,u]⟩
end
section
end
section
end
section
end
section
def Ck (es:List fw):Prop:= ∀k u,k<es.length->u<es.length->(es.getD k zE).1=(es.getD u zE).1->(es.getD k zE).2.1=(es.getD u zE).2.1->k=u
section
variable {es:List fw} {r c:Nat}
end
end
section
section
variable {R C:Nat} {S I V:LI}
def cN.asc (G:cN R C S I) {j:Nat} (u:j<C): ∀(d t:Nat),(S.getD j 0).toNat<=t->t+(d+1)<(S.getD (j+1) 0).toNat->I.getD t 0<I.getD (t+(d+1)) 0
 |0,t,J,h2=>by{have:=qp.1 (G.ent j u) (t+1) O h2;simp only[oD,zK,GF,decide_eq_true_eq]at this;have h:=this.2;simp only[Nm]at h;simp only[zH];rcases h with h|h;{simp only[Bool.not_eq_true',decide_eq_false_iff_not]at h;omega};{exact h}}
 |d+1,t,J,h2=>by have h3:=G.asc u d t J O;have K:=G.asc u 0 (t+(d+1)) O O;simp only[zH]at K;rw[show t+(d+1+1)=t+(d+1)+1 by omega];omega
def qgh (hM:cN R C S I) {j:Nat} (G:j<C):(vN S I V j (S.getD j 0).toNat (S.getD (j+1) 0).toNat).Pairwise (λa b=>De a b=true):=by unfold vN;rw[List.pairwise_map];refine List.Pairwise.imp_of_mem ?_ (List.pairwise_lt_range' (s:=(S.getD j 0).toNat) (n:=(S.getD (j+1) 0).toNat-(S.getD j 0).toNat) (step:=1) O);intro a b u J K;rw[List.mem_range'_1]at u J;have:=hM.asc G (b-a-1) a u.1 O;rw[show a+(b-a-1+1)=b by omega]at this;unfold De;simp[-List.getD_eq_getElem?_getD,this]
def qhx {x:fw}: ∀{d k:Nat},x∈ents S I V d k-> ∃j t,k<=j/\j<k+d/\(S.getD j 0).toNat<=t/\t<(S.getD (j+1) 0).toNat/\x=(I.getD t 0,(j:Int),V.getD t 0)
 |0,k,h=>by simp[ents]at h
 |d+1,k,h=>by rw[ents,zZ]at h;rcases h with h|h;{unfold vN at h;obtain⟨t,u,rfl⟩:=zk.1 h;rw[List.mem_range'_1]at u;exact⟨k,t,zI _,O,u.1,O,rfl⟩};{obtain⟨j,t,J,h2,G⟩:=qhx h;exact⟨j,t,O,O,G⟩}
def q8i (G:cN R C S I): ∀(d k:Nat),k+d=C->(ents S I V d k).Pairwise (λa b=>De a b=true)
 |0,k,h=>by simp[ents]
 |d+1,k,h=>by rw[ents,List.pairwise_append];refine⟨qgh G O,q8i G d (k+1) O,λa u b J=> ?_⟩;unfold vN at u;obtain⟨t,K,rfl⟩:=zk.1 u;obtain⟨j,t',h1,h2,h3,h4,rfl⟩:=qhx J;unfold De;simp[-List.getD_eq_getElem?_getD];omega
def q5o {es:List fw} (h:es.Pairwise (λa b=>De a b=true)):Ck es:=by intro k G J u h1 h2;rw[List.pairwise_iff_getElem]at h;have K: ∀i (O:i<es.length),es.getD i zE=es[i]:=λi O=>by{simp[List.getD,O]};rcases Nat.lt_trichotomy k G with e|e|e;{have:=h k G J u e;rw[<-K k J,<-K G u]at this;unfold De at this;simp[-List.getD_eq_getElem?_getD]at this;omega};{exact e};{have:=h G k u J e;rw[<-K k J,<-K G u]at this;unfold De at this;simp[-List.getD_eq_getElem?_getD]at this;omega}
end
end
section
end
section
def Z9 {α:Type} {L:List α} {i:Nat} {d:α} (h:L.length<=i):L.getD i d=d:=by rw[List.getD,List.getElem?_eq_none h];rfl
end
section
end
section
end
section
variable {S I V:LI} {N:Nat}
end
end Go.Vs.F
