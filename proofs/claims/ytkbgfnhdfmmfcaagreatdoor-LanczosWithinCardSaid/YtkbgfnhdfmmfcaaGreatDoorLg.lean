import Derived.Test.YtkbgfnhdfmmfcaaGreatDoorLf
set_option linter.unusedVariables false
set_option linter.unusedSimpArgs false
set_option linter.unusedSectionVars false
set_option linter.defProp false
set_option maxRecDepth 100000
namespace Go.Vs.F
def qcz (m:Nat) (a:LI) (J:a.length<4611686018427387904): ∀(n k:Nat),a.length-k<n->
 nB m n a (k:Int)=some (bif qw (λi=>mj (a.getD i 0)) k a.length then .inr (.inl ())else .inl (false,()))
 |0,k,h=>O
 |n+1,k,h=>by rw[nB];by_cases G:k<a.length;{have u:((k:Int)<(a.length:Int)):=O;simp only[bQ,u,if_true,tN,Up,and_self,ay (show k<4611686018427387904 by omega),wz,bS];rw[Qd G,qcz m a J n (k+1) O];show(bif !(mj (a.getD k 0))then _ else _)=_;cases mj (a.getD k 0)<;>simp};{have u: ¬((k:Int)<(a.length:Int)):=O;simp only[bQ,u,if_false];rw[Qk G];rfl}
def qmf {m:Nat} {a:LI} (h:a.length<m) (u:a.length<4611686018427387904):Ew m a=some (oV a,(),()):=by rw[Ew];have:=qcz m a u m 0 O;simp only[Uo,nZ,UJ]at this;rw[this];unfold oV;cases qw (λi=>mj (a.getD i 0)) 0 a.length<;>rfl
def q6t (m:Nat) (R C:Int) (c:Nat) (S I V:LI) (hC:C=(c:Int)) (hl:S.length=c+1) (K:c<4611686018427387904): ∀(n k:Nat),c-k<n->k<=c->
 oc m n R C S I V (k:Int)=some (bif qw (CD S) k c then .inr (.inl ((R,C,S,I,V,()),()))else .inl (1,()))
 |0,k,h,_=>O
 |n+1,k,h,h0=>by rw[oc];subst hC;by_cases J:k<c;{have u:((k:Int)<(c:Int)):=O;have h2:((k:Int)<(S.length:Int)):=O;have h3:(((k+1:Nat):Int)<(S.length:Int)):=O;simp only[bQ,u,h2,h3,if_true,tN,Up,and_self,ay (show k<4611686018427387904 by omega)];rw[q6t m R (c:Int) c S I V rfl hl K n (k+1) O O,Qd J,CD];by_cases G:S.getD k 0>S.getD (k+1) 0;{have: ¬S.getD k 0<=S.getD (k+1) 0:=O;simp[-List.getD_eq_getElem?_getD,G,this]};{have:S.getD k 0<=S.getD (k+1) 0:=O;simp[-List.getD_eq_getElem?_getD,G,this]}};{have u: ¬((k:Int)<(c:Int)):=O;simp only[bQ,u,if_false];rw[Qk J];rfl}
def q8m (m:Nat) (R C:Int) (c j:Nat) (S I V:LI) (hC:C=(c:Int)) (u:cn c S I) (hj:j<c) (hc:c<4611686018427387904) (hb:I.length<4611686018427387904): ∀(n k:Nat),(S.getD (j+1) 0).toNat-k<n->(S.getD j 0).toNat<=k->
 lC m n R C S I V (j:Int) (k:Int)=some (bif qw (oD R S I j) k (S.getD (j+1) 0).toNat then .inr (.inl ((R,C,S,I,V,()),(j:Int),()))else .inl (1,()))
 |0,k,h,_=>O
 |n+1,k,h,h0=>by rw[lC];subst hC;have hl:=u.len;have a:=u.rng (j:=j) O;have b:=u.rng (j:=j+1) O;have h2:((j:Int)<(S.length:Int)):=O;have h3:(((j+1:Nat):Int)<(S.length:Int)):=O;simp only[bQ,h2,h3,if_true,tN,Up,and_self,ay (show j<4611686018427387904 by omega)];by_cases hk:k<(S.getD (j+1) 0).toNat;{have G:((k:Int)<S.getD (j+1) 0):=O;have h4:((k:Int)<(I.length:Int)):=O;simp only[G,h4,if_true,and_self,ay (show k<4611686018427387904 by omega)];rw[q8m m R (c:Int) c j S I V rfl u hj hc hb n (k+1) O O,Qd hk,oD];by_cases e1:I.getD k 0<0;{have e2: ¬0<=I.getD k 0:=O;simp only[e1,e2,if_true,decide_false,CL,cond_false]};{have e2:0<=I.getD k 0:=O;by_cases e3:I.getD k 0>=R;{have e4: ¬I.getD k 0<R:=O;simp only[e1,e2,e3,e4,if_true,if_false,decide_false,decide_true,CL,vG,cond_false]};{have e4:I.getD k 0<R:=O;simp only[e1,e2,e3,e4,if_false,decide_true,vG];by_cases e5:(k:Int)>S.getD j 0;{have K:(S.getD j 0).toNat<k:=O;have e7:(0:Int)<=((k-1:Nat):Int)/\((k-1:Nat):Int)<(I.length:Int):=O;simp only[e5,K,if_true,decide_true,qS,Bool.false_or,GN (show k<4611686018427387904 by omega) (show 0<k by omega),e7,and_self,tN];by_cases e8:I.getD k 0<=I.getD (k-1) 0;{have J: ¬I.getD (k-1) 0<I.getD k 0:=O;simp only[e8,J,if_true,decide_false,CL,cond_false]};{have J:I.getD (k-1) 0<I.getD k 0:=O;simp only[e8,J,if_false,decide_true,vG]}};{have K: ¬(S.getD j 0).toNat<k:=O;simp only[e5,K,if_false,decide_false,CK,UB,vG]}}}};{have G: ¬((k:Int)<S.getD (j+1) 0):=O;simp only[G,if_false];rw[Qk hk];rfl}
def q8c (m:Nat) (R C:Int) (c:Nat) (S I V:LI) (hC:C=(c:Int)) (u:cn c S I) (K:c<4611686018427387904) (hb:I.length<4611686018427387904) (hm:I.length<m): ∀(n k:Nat),c-k<n->k<=c->
 ob m n R C S I V (k:Int)=some (bif qw (λj=>CY R S I j) k c then .inr (.inl ((R,C,S,I,V,()),()))else .inl (1,()))
 |0,k,h,_=>O
 |n+1,k,h,h0=>by rw[ob];subst hC;have hl:=u.len;by_cases G:k<c;{have J:((k:Int)<(c:Int)):=O;have h2:((k:Int)<(S.length:Int)):=O;have a:=u.rng (j:=k) O;have b:=u.rng (j:=k+1) O;have e:=q8m m R (c:Int) c k S I V rfl u G K hb m (S.getD k 0).toNat O (zI _);rw[show(((S.getD k 0).toNat:Nat):Int)=S.getD k 0 by omega]at e;simp only[bQ,J,h2,if_true,tN,Up,and_self];rw[e,Qd G];show _=some (bif (CY R S I k&&_)then _ else _);rw[CY];cases qw (oD R S I k) (S.getD k 0).toNat (S.getD (k+1) 0).toNat;{rfl};{simp only[cond_true,vG,bS,ay (show k<4611686018427387904 by omega)];exact q8c m R (c:Int) c S I V rfl u K hb hm n (k+1) O O}};{have J: ¬((k:Int)<(c:Int)):=O;simp only[bQ,J,if_false];rw[Qk G];rfl}
def Xo {m:Nat} {R C:Int} {S I V:LI} (hV:V.length<m) (hm:11000<m) (hv:V.length<4611686018427387904):
 s7 m R C S I V=some (chk R C S I V,(),()):=by rw[s7,chk];by_cases h1:0<=R;{have u: ¬R<0:=O;by_cases h2:R<=200;{have G: ¬R>200:=O;by_cases h3:0<=C;{have J: ¬C<0:=O;by_cases h4:C<=200;{have K: ¬C>200:=O;by_cases h5:I.length<=10000;{have a0: ¬(I.length:Int)>10000:=O;obtain⟨c,rfl⟩: ∃c:Nat,C=(c:Int):=⟨C.toNat,O⟩;simp only[bQ,h1,u,h2,G,h3,J,h4,K,h5,a0,if_false,decide_true,UE,Bool.true_eq_false,uv,aO,wi (show(-9223372036854775808:Int)<=(c:Int)+1 by omega) O,tN];by_cases g1:I.length=V.length;{have b0:(V.length:Int)=(I.length:Int):=O;simp only[b0,if_true];by_cases g2:(S.length:Int)=(c:Int)+1;{have hl:S.length=c+1:=O;have g3:(0:Int)<=0/\(0:Int)<(S.length:Int):=O;simp only[g2,if_true];rw[<-g2,iP g3];by_cases g4:S.getD 0 0=0;{have g5:(True/\(c:Int)<(S.length:Int)):=⟨trivial,O⟩;simp only[g4,if_true];rw[iP g5];by_cases g6:S.getD c 0=(I.length:Int);{simp only[g6,if_true];have e0:=q6t m R (c:Int) c S I V rfl hl O m 0 O O;simp only[Uo,nZ,UJ]at e0;rw[e0];cases h7:qw (CD S) 0 c;{simp};{have c0:cn c S I:=⟨hl,g4,λj hj=>by{have:=qp.1 h7 j O hj;simpa [-List.getD_eq_getElem?_getD,CD]using this},g6⟩;have e1:=q8c m R (c:Int) c S I V rfl c0 O O O m 0 O O;simp only[Uo,nZ,UJ]at e1;simp only[cond_true,bS];rw[e1];cases h8:qw (λj=>CY R S I j) 0 c;{simp};{simp only[cond_true,bS,qmf hV hv,Gw];cases oV V<;>simp[g1]}}};{simp[-List.getD_eq_getElem?_getD,g6]}};{simp[-List.getD_eq_getElem?_getD,g4]}};{simp[g2]}};{have b0: ¬(V.length:Int)=(I.length:Int):=O;simp[g1,b0]}};{have a0:(I.length:Int)>10000:=O;simp[u,G,J,K,h5,a0]}};{have K:C>200:=O;simp[u,G,J,h4,K]}};{have J:C<0:=O;simp[u,G,h3,J]}};{have G:R>200:=O;simp[u,h2,G]}};{have u:R<0:=O;simp[h1,u]}
section
variable {R C:Nat} {S I V:LI}
def q9g (m:Nat) (hM:cN R C S I) (hV:V.length=I.length) {j:Nat} (G:j<C): ∀(n k:Nat) (out:List (Int×Int×Int)),(S.getD (j+1) 0).toNat-k<n->out.length<=k->
 oa m n (R:Int) (C:Int) S I V out (j:Int) (k:Int)=some (.inl (((R:Int),(C:Int),S,I,V,()),out++vN S I V j k (S.getD (j+1) 0).toNat,(j:Int),()))
 |0,k,out,h,_=>O
 |n+1,k,out,h,ho=>by have hl:=hM.st.len;have K:=hM.cz;have J:=hM.sz;have b:=hM.st.rng (j:=j+1) O;rw[oa];simp only[ay (show j<4611686018427387904 by omega),tN,bQ];rw[iP O];by_cases u:k<(S.getD (j+1) 0).toNat;{rw[iP O,iP O,iP O,iP (by simp;omega),qg4 u];simp only[ay (show k<4611686018427387904 by omega)];rw[q9g m hM hV G n (k+1) _ O (by simp;omega)];simp};{rw[ae O];rw[vN,show(S.getD (j+1) 0).toNat-k=0 by omega];simp}
def qak (m:Nat) (hm:20000<m) (hM:cN R C S I) (hV:V.length=I.length): ∀(d n k:Nat) (out:List (Int×Int×Int)),C-k=d->k<=C->d<n->out.length=(S.getD k 0).toNat->
 ls m n (R:Int) (C:Int) S I V out (k:Int)=some (.inl (out++ents S I V d k,()))
 |0,n,k,out,hd,u,hn,J=>by{obtain⟨n,rfl⟩: ∃n',n=n'+1:=⟨n-1,O⟩;rw[ls,bQ,ae O];simp[ents]}
 |d+1,n,k,out,hd,u,hn,J=>by have hl:=hM.st.len;have a0:=hM.cz;have K:=hM.sz;have G:k<C:=O;have a:=hM.st.rng (j:=k) O;have b:=hM.st.rng (j:=k+1) O;have dd:=hM.st.mono k G;obtain⟨n,rfl⟩: ∃n',n=n'+1:=⟨n-1,O⟩;have e:=q9g (V:=V) m hM hV G m (S.getD k 0).toNat out O O;rw[show(((S.getD k 0).toNat:Nat):Int)=S.getD k 0 by omega]at e;rw[ls,bQ,iP O,iP O];simp only[tN];rw[e];simp only[bS,ay (show k<4611686018427387904 by omega)];rw[qak m hm hM hV d n (k+1) _ O O O (by rw[zG,q9u];omega),ents];simp
def q9z {m:Nat} (hm:20000<m) (hM:cN R C S I) (hV:V.length=I.length) (G:chk (R:Int) (C:Int) S I V=0):Be m (R:Int) (C:Int) S I V=some (ents S I V C 0,(),()):=by have u:=hM.sz;rw[Be,Xo O O O,G];have:=qak (V:=V) m hm hM hV C m 0 [] O O (by have:=hM.cz;omega) (by rw[hM.st.s0];rfl);simp only[Uo,nZ,UJ,yn]at this;simp only[bS,aO,if_true,this]
end
section
variable {es:List fw} {r c:Nat}
def qqr (m:Nat) (hE:yI r c es) (hr:r<=200) (hc:c<=200) (hl:es.length<=1000000) (a0 a1:Int) (a2 a3 a4:LI) (b0 b1:Int) (b2 b3 b4:LI): ∀(n k:Nat) (pos:LI),es.length-k<n->k<=es.length->pos.length=r*c->
 (∀i j,i<r->j<c->pos.getD (j*r+i) 0=(Jk es i j k:Int))->
 ∃pos',n9 m n (r:Int) (c:Int) es a0 a1 a2 a3 a4 b0 b1 b2 b3 b4 pos (k:Int)=some (.inl ((r:Int),(c:Int),es,(a0,a1,a2,a3,a4,()),(b0,b1,b2,b3,b4,()),pos',()))/\pos'.length=r*c/\ ∀i j,i<r->j<c->pos'.getD (j*r+i) 0=(Jk es i j es.length:Int)
 |0,k,pos,hn,_,_,_=>absurd hn (zC _)
 |n+1,k,pos,hn,hk,hp,hq=>by rw[n9];by_cases h:k<es.length;{have h1:(k:Int)<(es.length:Int):=O;obtain⟨⟨g1,g2⟩,⟨g3,g4⟩,_⟩:=hE k h;obtain⟨G,K⟩: ∃G:Nat,(es.getD k (0,(0,0))).1=(G:Int):=⟨_,(Int.toNat_of_nonneg g1).symm⟩;obtain⟨u,J⟩: ∃u:Nat,(es.getD k (0,(0,0))).2.1=(u:Int):=⟨_,(Int.toNat_of_nonneg g3).symm⟩;have hi:G<r:=O;have hj:u<c:=O;have g0:=cell hi hj;rw[bQ,iP h1];simp only[tN,K,J,wI,GQ hr hc hi hj,ay (k:=k) O,zH];rw[iP (inr h),iP (inr h),iP O];refine qqr m hE hr hc hl a0 a1 a2 a3 a4 b0 b1 b2 b3 b4 n (k+1) _ O O (by simp[hp]) ?_;intro i j c0 e0;rw[Jk,K,J];by_cases he:u*r+G=j*r+i;{obtain⟨e1,e2⟩:=qs3 hi c0 he;subst e1;subst e2;rw[Wu O,iP ⟨rfl,rfl⟩]};{rw[bD he,ae,hq i j c0 e0];rintro ⟨e1,e2⟩;exact he (by rw[show G=i by omega,show u=j by omega])}};{have h1: ¬(k:Int)<(es.length:Int):=O;have d0:k=es.length:=O;simp only[bQ,h1,if_false];exact⟨pos,rfl,hp,λi j hi hj=>by rw[hq i j hi hj,d0]⟩}
def ZG (m:Nat) (hr:r<=200) (hc:c<=200) (hl:es.length<=1000000) (a0 a1:Int) (a2 a3 a4:LI) (K J:Int) (S:LI) {pos:LI} (hp:pos.length=r*c)
 (hq: ∀i j,i<r->j<c->pos.getD (j*r+i) 0=(Jk es i j es.length:Int)) {j:Nat} (G:j<c): ∀(d n i:Nat) (I V:LI),d<n->r-i=d->i<=r->I.length+d<=1000000->V.length+d<=1000000->
 jo m n (r:Int) (c:Int) es a0 a1 a2 a3 a4 K J S I V pos (j:Int) (i:Int)=some (.inl ((r:Int),(c:Int),es,(a0,a1,a2,a3,a4,()),(K,J,S,I++gV es j i d,V++vr es j i d,()),pos,(j:Int),()))
 |d,0,i,I,V,hn,_,_,_,_=>absurd hn (zC _)
 |0,n+1,i,I,V,hn,hd,hi,hI,hV=>by{rw[jo];have h1: ¬(i:Int)<(r:Int):=O;simp[bQ,h1,gV,vr,j9]}
 |d+1,n+1,i,I,V,hn,hd,hi,hI,hV=>by rw[jo];have u:i<r:=O;have h1:(i:Int)<(r:Int):=O;have c0:=cell u G;have hle:=q8p es i j es.length;rw[bQ,iP h1];simp only[bQ,tN,wI,GQ hr hc u G,ay (k:=i) O,zH,hq i j u G];rw[iP O];by_cases hx:0<Jk es i j es.length;{have h2:(Jk es i j es.length:Int)>0:=O;have h3:I.length+([(i:Int)]:LI).length<=1073741824:=by{simp;omega};rw[iP h2,iP h3,GN O hx,tN];have h4: ∀x:Int,V.length+([x]:LI).length<=1073741824:=by{intro x;simp;omega};rw[iP O,iP (h4 _)];rw[ZG m hr hc hl a0 a1 a2 a3 a4 K J S hp hq G d n (i+1) _ _ O O O (by simp;omega) (by simp;omega)];have e1:j9 es j i (d+1)=i::j9 es j (i+1) d:=by{unfold j9;rw[OH,NH,iP (by simpa using hx)]};simp only[gV,vr,e1,ui,qT,yh]};{have h2: ¬(Jk es i j es.length:Int)>0:=O;rw[ae h2];rw[ZG m hr hc hl a0 a1 a2 a3 a4 K J S hp hq G d n (i+1) _ _ O O O O O];have e1:j9 es j i (d+1)=j9 es j (i+1) d:=by{unfold j9;rw[OH,NH,ae (by simpa using hx)]};simp only[gV,vr,e1]}
def qnl (m:Nat) (hm:300<m) (hr:r<=200) (hc:c<=200) (hl:es.length<=1000000) (a0 a1:Int) (a2 K J:LI) (G u:Int) {pos:LI} (hp:pos.length=r*c)
 (hq: ∀i j,i<r->j<c->pos.getD (j*r+i) 0=(Jk es i j es.length:Int)): ∀(d n j:Nat),d<n->c-j=d->j<=c->
 lr m n (r:Int) (c:Int) es a0 a1 a2 K J G u (dm es r j) (cm es r j) (eM es r j) pos (j:Int)=some (.inl ((a0,a1,a2,K,J,()),(G,u,dm es r c,cm es r c,eM es r c,()),()))
 |d,0,j,hn,_,_=>absurd hn (zC _)
 |0,n+1,j,hn,hd,hj=>by{rw[lr];have h1: ¬(j:Int)<(c:Int):=O;have:j=c:=O;subst this;simp[bQ]}
 |d+1,n+1,j,hn,hd,hj=>by rw[lr];have c0:j<c:=O;have h1:(j:Int)<(c:Int):=O;have l1:=q7w es r j;have l2:=V7 es r j;have l3:j*r<=40000:=Ng (r:=j) (c:=r) O hr;have:=ZG m hr hc hl a0 a1 a2 K J G u (dm es r j) hp hq c0 r m 0 (cm es r j) (eM es r j) O O O O O;simp only[nZ]at this;simp only[bQ,h1,if_true,this,bS];have h3: ∀x:Int,(dm es r j).length+([x]:LI).length<=1073741824:=by{intro x;simp[dm];omega};rw[iP (h3 _),show wI ((j:Int)+1)=((j+1:Nat):Int)from ay O];have e:=qnl m hm hr hc hl a0 a1 a2 K J G u hp hq d n (j+1) O O O;rw[qlp]at e;simp only[cm,eM]at e;exact e
def qv2 {m:Nat} (hE:yI r c es) (u:r<=200) (G:c<=200) (hl:es.length<=1000000) (hm:1000300<m):
 Fw m (r:Int) (c:Int) es=some (((r:Int),(c:Int),dm es r c,cm es r c,eM es r c,()),(),(),(),()):=by have ha:=Ng u G;have e:(r:Int)*(c:Int)=((r*c:Nat):Int):=(oZ r c).symm;rw[Fw];simp only[wI,e];rw[wi (n:=((r*c:Nat):Int)) O O,iP O,tN];obtain⟨pos,J,h2,h3⟩:=qqr m hE u G hl 0 0 [] [] [] (r:Int) (c:Int) [0] [] [] m 0 (List.replicate (r*c) 0) O O (by simp) (by{intro i j hi K;rw[Xf (cell hi K)];rfl});simp only[nZ]at J;rw[J];simp only[bS];have:=qnl m O u G hl 0 0 [] [] [] (r:Int) (c:Int) h2 h3 c m 0 O O O;simp only[nZ,cm,eM]at this;rw[show([0]:LI)=dm es r 0 from rfl,this];rfl
end
end Go.Vs.F
set_option maxRecDepth 100000
namespace Go.Vs.F
def kq {l x:LI} {k:Nat} (h:k<l.length):(l++x).getD k 0=l.getD k 0:=by simp[List.getD,List.getElem?_append_left h]
def mW {l x:LI} {k:Nat} (h:l.length<=k):(l++x).getD k 0=x.getD (k-l.length) 0:=by simp[List.getD,List.getElem?_append_right h]
def qw0 {l x:LI} (h:cf l) (h':cf x):cf (l++x):=by intro i u;rw[zG]at u;by_cases c:i<l.length;{rw[kq c];exact h i c};{rw[mW O];exact h' _ O}
structure CX (i:Nat) (X Y:LI):Prop where
 yl:Y.length=X.length
 fn:cf Y
 sz:X.length<=i
 row: ∀k,k<X.length->0<=X.getD k 0/\X.getD k 0<(i:Int)/\(0<k->X.getD (k-1) 0<X.getD k 0)
def CX.nil:CX 0 [] []:=⟨rfl,PE,zI _,λk h=>absurd h (zC _)⟩
def CX.skip {i:Nat} {X Y:LI} (h:CX i X Y):CX (i+1) X Y:=⟨h.yl,h.fn,by have:=h.sz;omega,λk u=>by have:=h.row k u;exact⟨this.1,O,this.2.2⟩⟩
def CX.snoc {i:Nat} {X Y:LI} (h:CX i X Y) {f:Int} (K:b7 f) (h2:aS f):CX (i+1) (X++[(i:Int)]) (Y++[f]):=by refine⟨by simp[h.yl],VU h.fn K h2,by have:=h.sz;simp;omega,λk J=> ?_⟩;rw[zG]at J;have e1:([(i:Int)]:LI).length=1:=rfl;by_cases c:k<X.length;{have:=h.row k c;rw[kq c];exact⟨this.1,O,λG=>by rw[kq O];exact this.2.2 G⟩};{have u:k=X.length:=O;subst u;rw[mW (zI _),x9];refine⟨by show(0:Int)<=i;omega,by show(i:Int)<((i+1:Nat):Int);omega,λG=> ?_⟩;rw[kq O];exact(h.row _ O).2.1}
structure GI (R j:Nat) (S I V:LI):Prop where
 st:cn j S I
 col: ∀t,t<j-> ∀k,(S.getD t 0).toNat<=k->k<(S.getD (t+1) 0).toNat->0<=I.getD k 0/\I.getD k 0<(R:Int)/\((S.getD t 0).toNat<k->I.getD (k-1) 0<I.getD k 0)
 vl:V.length=I.length
 fn:cf V
 sz:I.length<=j*R
def GI.nil {R:Nat}:GI R 0 [0] [] []:=⟨⟨rfl,rfl,λj h=>absurd h (zC _),rfl⟩,λt h=>absurd h (zC _),rfl,PE,lM _⟩
def GI.snoc {R j:Nat} {S I V X Y:LI} (h:GI R j S I V) (K:CX R X Y):GI R (j+1) (S++[((I++X).length:Int)]) (I++X) (V++Y):=by have hl:=h.st.len;have hlast:=h.st.last;have h0:=h.st.s0;have s1:=K.sz;have ea:(I++X).length=I.length+X.length:=zG;have J: ∀t,t<=j->(S++[((I++X).length:Int)]).getD t 0=S.getD t 0:=λt ht=>kq O;have eR:(S++[((I++X).length:Int)]).getD (j+1) 0=((I++X).length:Int):=by{rw[mW O,show j+1-S.length=0 by omega];rfl};refine⟨⟨by simp[hl],by rw[J 0 O];exact h0,λt ht=> ?_,eR⟩,λt ht k u G=> ?_,by simp[h.vl,K.yl],qw0 h.fn K.fn,?_⟩;{by_cases c:t<j;{rw[J t O,J (t+1) O];exact h.st.mono t c};{have:t=j:=O;subst this;rw[J t (zI _),eR,hlast,ea];omega}};{by_cases c:t<j;{rw[J t O]at u⊢;rw[J (t+1) O]at G;have:=h.st.le (i:=t+1) (j:=j) O (zI _);rw[kq O];have q:=h.col t c k u G;exact⟨q.1,q.2.1,λhs=>by rw[kq O];exact q.2.2 hs⟩};{have:t=j:=O;subst this;rw[J t (zI _)]at u⊢;rw[eR]at G;rw[hlast]at u⊢;rw[mW O];have q:=K.row (k-I.length) O;refine⟨q.1,q.2.1,λhs=> ?_⟩;rw[mW O,show k-1-I.length=k-I.length-1 by omega];exact q.2.2 O}};{have:=h.sz;rw[ea,OG];omega}
def GI.mat {R C:Nat} {S I V:LI} (h:GI R C S I V) (hR:R<=100) (hC:C<=100):cN R C S I:=by have:C*R<=100*100:=qK hC hR;have:=h.sz;refine⟨h.st,λj K=> ?_,O,O,O⟩;unfold CY;rw[qp];intro k h1 h2;obtain⟨G,u,J⟩:=h.col j K k h1 h2;unfold oD;by_cases c:(S.getD j 0).toNat<k;{simp only[G,u,c,J c,decide_true,UE,qS,CP]};{simp only[G,u,c,decide_true,decide_false,UE,CK,UB]}
section
variable {m:Nat} (hm:5000000000<=m) {raw:LI} (hl:raw.length<=9223372036854775807) {R C:Nat} (hR:R<=100) (style:Int)
include hm hl hR
theorem ql7 (a0 a1 J G:Int) (a2 a3 a4 S I V:LI) (j:Int) (hI:I.length<=100000) (hV:V.length=I.length): ∀(N i:Nat) (X Y:LI),R-i<N->i<=R->CX i X Y->
 ∃X' Y',CX R X' Y'/\pG m N raw (R:Int) (C:Int) style a0 a1 a2 a3 a4 J G S (I++X) (V++Y) j (i:Int)=some (.inl (raw,(R:Int),(C:Int),style,(a0,a1,a2,a3,a4,()),(J,G,S,I++X',V++Y',()),j,())):=by intro N;induction N with|zero=>{intro i X Y h;omega}|succ N K=>{intro i X Y h hi u;rw[pG,bQ];by_cases c:i<R;{obtain⟨w,ew,hw⟩:=Vy m hl (wI ((wI (100+(wI (j*(R:Int)))))+(i:Int)));rw[iP O,ew,bS,bQ,wQ (n:=(i:Int)+1),ay O];have s1:=u.sz;have s2:=u.yl;split;{obtain⟨f,ef,h1,h2⟩:=qt4 hm hw style;rw[iP (by rw[zG];show _+1<=_;omega)];dsimp only;rw[ef,bS,iP (by rw[zG];show _+1<=_;omega),qT,qT];exact K (i+1) _ _ O O (u.snoc h1 h2)};{exact K (i+1) _ _ O O u.skip}};{have:i=R:=O;subst this;rw[ae O];exact⟨X,Y,u,rfl⟩}}
theorem qkd (hC:C<=100) (a0 a1 J G:Int) (a2 a3 K:LI): ∀(N j:Nat) (S I V:LI),C-j<N->j<=C->GI R j S I V->
 ∃S' I' V',GI R C S' I' V'/\sF m N raw (R:Int) (C:Int) style a0 a1 a2 a3 K J G S I V (j:Int)=some (.inl ((a0,a1,a2,a3,K,()),(J,G,S',I',V',()),())):=by intro N;induction N with|zero=>{intro j S I V h;omega}|succ N ih=>{intro j S I V h hj u;rw[sF,bQ];by_cases c:j<C;{have s1:=u.sz;have:j*R<=100*100:=qK O hR;obtain⟨X,Y,hX,e⟩:=ql7 hm hl hR (C:=C) style a0 a1 J G a2 a3 K S I V (j:Int) O u.vl m 0 [] [] O O CX.nil;rw[mz,mz,nZ]at e;rw[iP O,e,bS];dsimp only;have hS:=u.st.len;rw[iP (by show _+1<=_;omega),wQ,ay O];exact ih (j+1) _ _ _ O O (u.snoc hX)};{have:j=C:=O;subst this;rw[ae O];exact⟨S,I,V,u,rfl⟩}}
theorem q9a (G:C<=100): ∃S I V,GI R C S I V/\RH m raw (R:Int) (C:Int) style=some (((R:Int),(C:Int),S,I,V,()),(),(),(),(),()):=by obtain⟨S,I,V,u,e⟩:=qkd hm hl hR (C:=C) style G 0 0 (R:Int) (C:Int) [] [] [] m 0 [0] [] [] O O GI.nil;rw[nZ]at e;exact⟨S,I,V,u,by rw[RH,e,bS]⟩
end
end Go.Vs.F
set_option maxRecDepth 100000
namespace Go.Vs.F
def qp0 {es:List fw} {k:Nat} (h:k<es.length):es.getD k zE∈es:=by simp[List.getD,h]
def ql0 {r c:Nat} {es:List fw} (h: ∀e∈es,(0<=e.1/\e.1<(r:Int))/\(0<=e.2.1/\e.2.1<(c:Int))/\mj e.2.2=true):yI r c es:=λk u=>h _ (qp0 u)
def qlg {r c:Nat} {es:List fw} (h:yI r c es): ∀e∈es,(0<=e.1/\e.1<(r:Int))/\(0<=e.2.1/\e.2.1<(c:Int))/\mj e.2.2=true:=λe he=>by obtain⟨k,u,rfl⟩:=Z6 he;exact h k u
structure MV (R C:Nat) (S I V:LI):Prop where
 ok:cN R C S I
 vl:V.length=I.length
 chk:chk (R:Int) (C:Int) S I V=0
section
variable {R C:Nat} {S I V:LI}
def MV.ents (h:MV R C S I V):yI R C (ents S I V C 0):=by obtain⟨_,_,_,_,_,_,u⟩:=Vg h.chk;exact qvl h.ok h.vl u
def MV.dist (h:MV R C S I V):Ck (Go.Vs.F.ents S I V C 0):=q5o (q8i h.ok C 0 O)
def MV.len (h:MV R C S I V):(Go.Vs.F.ents S I V C 0).length<=10000:=by rw[qjd h.ok C 0 O O];have:=h.ok.st.rng (j:=C) (zI _);have:=h.ok.sz;omega
def MV.sl (h:MV R C S I V):S.length<=201:=by have:=h.ok.st.len;have:=h.ok.cz;omega
def jM (e:fw):Bool:=decide (e.1>=e.2.1)
def q2w {es:List fw} {k:Nat} (u:k<es.length):es.take (k+1)=es.take k++[es.getD k zE]:=by rw[Ul];congr 1;rw[List.getElem?_eq_getElem u,List.getD,List.getElem?_eq_getElem u];rfl
def qfn {es:List fw} {p:fw->Bool} {k:Nat} (u:k<es.length):(es.take (k+1)).filter p=(es.take k).filter p++(if p (es.getD k zE)then [es.getD k zE]else []):=by rw[q2w u,List.filter_append,NH];split<;>rfl
def qk9 {es:List fw} {p:fw->Bool} {k:Nat}:((es.take k).filter p).length<=k:=by have h:=OP p (es.take k);rw[zX]at h;omega
def MV.filter (h:MV R C S I V) (p:fw->Bool):yI R C ((Go.Vs.F.ents S I V C 0).filter p)/\Ck ((Go.Vs.F.ents S I V C 0).filter p)/\((Go.Vs.F.ents S I V C 0).filter p).length<=10000:=by refine⟨ql0 λe he=>qlg h.ents e (Lb.1 he).1,q5o ((q8i h.ok C 0 O).filter _),zQ (OP ..) h.len⟩
end
def GI.MV {R C:Nat} {S I V:LI} (h:GI R C S I V) (hR:R<=100) (J:C<=100):MV R C S I V:=by have hM:=h.mat hR J;refine⟨hM,h.vl,?_⟩;have hz:=hM.sz;have h1:(decide (0<=(R:Int))&&decide ((R:Int)<=200)&&decide (0<=(C:Int))&&decide ((C:Int)<=200)&&decide (I.length<=10000))=true:=by{simp only[zK,decide_eq_true_eq];omega};have h2:uv (R:Int) (C:Int) S I V=true:=by{unfold uv;have a1:((S.length:Int)=(C:Int)+1):=by{have:=hM.st.len;omega};have a2:=hM.st.s0;have a3:qw (CD S) 0 (C:Int).toNat=true:=qp.2 λk _ G=>decide_eq_true (hM.st.mono k O);have a4:S.getD (C:Int).toNat 0=(I.length:Int):=hM.st.last;have a6:qw (λj=>CY (R:Int) S I j) 0 (C:Int).toNat=true:=qp.2 λk _ G=>hM.ent k O;simp only[a1,a2,a3,a4,a6,h.vl,decide_true,UE]};have K:oV V=true:=by{unfold oV;exact qp.2 λk _ G=>by{obtain⟨u,f⟩:=h.fn k G;rw[qnh u];exact decide_eq_true f}};unfold chk;rw[h1,h2,K];rfl
def j7 (I V:LI) (i:Int):Nat->Nat->Option Int
 |0,_=>none
 |d+1,k=>if I.getD k 0=i then some (V.getD k 0)else j7 I V i d (k+1)
def T5 (S I V:LI) (i j:Nat):Int:=(j7 I V (i:Int) ((S.getD (j+1) 0).toNat-(S.getD j 0).toNat) (S.getD j 0).toNat).getD 0
section
variable {R C:Nat} {S I V:LI}
def KU (m:Nat) {i:Int} {j:Nat} (hj:j+1<S.length) (u:j<4611686018427387903) {e:Nat} (he:S.getD (j+1) 0=(e:Int)) (hI:e<=I.length) (K:V.length=I.length) (hb:I.length<=100000) (J G:Int): ∀(n k:Nat),e-k<n->k<=e->
 pD m n i (j:Int) J G S I V (k:Int)=some (match j7 I V i (e-k) k with|some v=> .inl (v,())|none=> .inr (.inl ()))
 |0,k,h,_=>O
 |n+1,k,h,b0=>by have w:wI ((j:Int)+1)=((j+1:Nat):Int):=ay O;rw[pD,w,iP O,tN,he,bQ];by_cases hk:k<e;{rw[iP O,iP O,tN,aB,show e-k=e-(k+1)+1 by omega,j7];by_cases c:I.getD k 0=i;{rw[iP c,iP O,iP c]};{rw[ae c,show wI ((k:Int)+1)=((k+1:Nat):Int)from ay O,ae c];exact KU m hj u he hI K hb J G n (k+1) O O}};{rw[ae O,show e-k=0 by omega,j7]}
def Cl {m:Nat} (hm:3000000<m) (h:MV R C S I V) {i j:Nat} (hj:j<C):Mc m (R:Int) (C:Int) S I V (i:Int) (j:Int)=some (T5 S I V i j,(),(),(),()):=by have hl:=h.ok.st.len;have K:=h.ok.sz;have a0:=h.ok.cz;have ix:=h.vl;have a:=h.ok.st.rng (j:=j) O;have b:=h.ok.st.rng (j:=j+1) O;have mo:=h.ok.st.mono j hj;have c1:(0:Int)<=(j:Int)/\(j:Int)<(S.length:Int):=O;have e1:S.getD j 0=(((S.getD j 0).toNat:Nat):Int):=O;have hr:=KU (S:=S) (I:=I) (V:=V) m (i:=(i:Int)) (j:=j) O O (e:=(S.getD (j+1) 0).toNat) O O ix O (R:Int) (C:Int) m (S.getD j 0).toNat O O;have u:Mc m (R:Int) (C:Int) S I V (i:Int) (j:Int)=(pD m m (i:Int) (j:Int) (R:Int) (C:Int) S I V (((S.getD j 0).toNat:Nat):Int)).bind λJ=>match J with| .inl G=>some (G.1,((),(),(),()))| .inr (.inl z4)=>some (0,((),(),(),()))| .inr (.inr e)=>e.elim:=by{rw[Mc,Xo O O O,h.chk];simp only[bS,aO,if_true,bQ];rw[ae O,ae O,iP c1,tN,<-e1];rfl};rw[u,hr,T5];cases j7 I V (i:Int) ((S.getD (j+1) 0).toNat-(S.getD j 0).toNat) (S.getD j 0).toNat<;>rfl
end
section
variable {R C:Nat} {S I V:LI}
def qi9 (m:Nat) (r c:Int) (S I V:LI) (b0 b1:Int) (b2 b3 b4:LI) {es:List fw} (hl:es.length<=100000): ∀(n k:Nat),es.length-k<n->k<=es.length->
 lJ m n r c S I V b0 b1 b2 b3 b4 ((es.take k).filter jM) es (k:Int)=some (.inl ((r,c,S,I,V,()),(b0,b1,b2,b3,b4,()),es.filter jM,()))
 |0,k,h,_=>absurd h (zC _)
 |n+1,k,h,a0=>by rw[lJ];by_cases hk:k<es.length;{have K:((k:Int)<(es.length:Int)):=O;have c1:(0:Int)<=(k:Int)/\(k:Int)<(es.length:Int):=O;have hlen:=qk9 (es:=es) (p:=jM) (k:=k);have c2: ∀y:fw,((es.take k).filter jM).length+([y]:List fw).length<=1073741824:=λy=>by{show _+1<=_;omega};have G:=qi9 m r c S I V b0 b1 b2 b3 b4 hl n (k+1) O O;rw[qfn hk]at G;simp only[bQ,K,if_true,c1,c2,and_self,tN,zH,wQ,ay (show k<4611686018427387904 by omega)];by_cases J:(es.getD k zE).1>=(es.getD k zE).2.1;{have u:jM (es.getD k zE)=true:=decide_eq_true J;rw[iP u]at G;rw[iP J];exact G};{have u: ¬jM (es.getD k zE)=true:=λh=>J (of_decide_eq_true h);rw[ae u,mz]at G;rw[ae J];exact G}};{have K: ¬((k:Int)<(es.length:Int)):=O;simp only[bQ,K,if_false];rw[xd O]}
def qrs {m:Nat} (hm:3000000<m) (h:MV R C S I V):
 tp m (R:Int) (C:Int) S I V=some ((((R:Int),(C:Int),dm ((ents S I V C 0).filter jM) R C,cm ((ents S I V C 0).filter jM) R C,eM ((ents S I V C 0).filter jM) R C,()),0,()),(),()):=by obtain⟨hE,hD,hfl⟩:=h.filter jM;have hsz:=h.ok.sz;have hl:=h.len;have hv:=h.vl;have hs:=h.sl;have i2:=qi9 m (R:Int) (C:Int) S I V 0 0 [] [] [] (es:=ents S I V C 0) O m 0 O O;simp only[xh,List.filter_nil,nZ]at i2;rw[tp,Xo O O O,h.chk];simp only[bS,aO,if_true];rw[q9z O h.ok h.vl h.chk];simp only[bS,i2];rw[qv2 hE h.ok.rz h.ok.cz O O];rfl
def qs5 (h:MV R C S I V) (hs:C*R<=10000):MV R C (dm ((ents S I V C 0).filter jM) R C) (cm ((ents S I V C 0).filter jM) R C) (eM ((ents S I V C 0).filter jM) R C):=by obtain⟨G,J,u⟩:=h.filter jM;exact⟨qo1 h.ok.rz h.ok.cz hs,V7 _ _ _,qr2 G h.ok.rz h.ok.cz hs⟩
end
def nL (o:List Nat):LI:=o.map λk:Nat=>(k:Int)
def qu6 {o:List Nat}:(nL o).length=o.length:=by unfold nL;rw[zi]
def qsn {o:List Nat} {n k:Nat} (h:o.Perm (List.range n)):(o.take k++[n]++o.drop k).Perm (List.range (n+1)):=by have u:(o.take k++[n]++o.drop k).Perm (n::o):=by{rw[qT,yh];refine List.perm_middle.trans ?_;rw[yp]};rw[Cr];exact u.trans ((List.Perm.cons n h).trans (List.perm_append_singleton n (List.range n)).symm)
def qx6 {o:List Nat} {k:Nat}:(nL o).take k=nL (o.take k):=by unfold nL;rw[List.map_take]
def qvn {o:List Nat} {k:Nat}:(nL o).drop k=nL (o.drop k):=by unfold nL;rw[List.map_drop]
def qu2 {a b:List Nat}:nL a++nL b=nL (a++b):=by unfold nL;rw[tR]
section
variable {m:Nat} (hm:5000000000<=m) {raw:LI} (hl:raw.length<=9223372036854775807) {n:Nat} (hn:n<=100)
include hm hl hn
theorem qqy: ∀(N i:Nat) (o:List Nat),n-i<N->i<=n->o.Perm (List.range i)-> ∃G:List Nat,G.Perm (List.range n)/\sM m N raw (n:Int) (nL o) (i:Int)=some (.inl (nL G,())):=by intro N;induction N with|zero=>{intro i o h;omega}|succ N ih=>{intro i o h hi u;have hol:o.length=i:=by{rw[u.length_eq,yf]};rw[sM,bQ];by_cases c:i<n;{obtain⟨w,ew,hw⟩:=Vy m hl (wI (700+(i:Int)));obtain⟨a,ha,ea⟩:=Lk m (wI (aJ .u64 w 1)) (k:=i+1) O O;have J:wI ((i:Int)+1)=((i+1:Nat):Int):=ay O;rw[iP O,ew,bS];dsimp only;rw[J,ea,bS];dsimp only;have hL:(nL o).length=i:=by{rw[qu6,hol]};have e1:([]:LI)++((nL o).drop 0).take ((a:Int).toNat-0)++[(i:Int)]++((nL o).drop (0+(a:Int).toNat)).take ((nL o).length-(a:Int).toNat)=nL (o.take a++[i]++o.drop a):=by{rw[lN,OM,tN,zH,yn,xd (l:=(nL o).drop a) (by rw[mA];omega),qx6,qvn,show([(i:Int)]:LI)=nL [i]from rfl,qu2,qu2]};have K:(((nL o).drop 0).take ((a:Int).toNat-0)).length<=100:=by{rw[zX,mA];omega};have t2:(([]:LI)++((nL o).drop 0).take ((a:Int).toNat-0)).length<=100:=by{rw[yn];exact K};have t3:(([]:LI)++((nL o).drop 0).take ((a:Int).toNat-0)++[(i:Int)]).length<=101:=by{rw[zG];show _+1<=_;omega};have t4:(((nL o).drop (0+(a:Int).toNat)).take ((nL o).length-(a:Int).toNat)).length<=100:=by{rw[zX,mA];omega};rw[iP O,iP (by show 0+_<=_;omega),iP (by show _+1<=_;omega),iP O,iP O,e1];exact ih (i+1) _ O O (qsn u)};{have:i=n:=O;subst this;rw[ae O];exact⟨o,u,rfl⟩}}
theorem qrc: ∃o:List Nat,o.Perm (List.range n)/\Sw m raw (n:Int)=some (nL o,(),(),()):=by obtain⟨o,u,e⟩:=qqy hm hl hn m 0 [] O O (List.Perm.refl _);refine⟨o,u,?_⟩;rw[nZ]at e;rw[Sw,show([]:LI)=nL []from rfl,e,bS]
end
end Go.Vs.F
set_option maxRecDepth 100000
namespace Go.Vs.F
def qew {I V:LI} {i:Int}: ∀{d k:Nat} {v:Int},j7 I V i d k=some v-> ∃t,k<=t/\t<k+d/\V.getD t 0=v
 |0,k,v,h=>by cases h
 |d+1,k,v,h=>by rw[j7]at h;split at h;{injection h with h;exact⟨k,O,O,h⟩};{obtain⟨t,G,h2,u⟩:=qew h;exact⟨t,O,O,u⟩}
def B0 {R C:Nat} {S I V:LI} (h:MV R C S I V) (hV:UL V) {i j:Nat} (K:j<C):b7 (T5 S I V i j)/\aS (T5 S I V i j):=by unfold T5;cases hf:j7 I V (i:Int) ((S.getD (j+1) 0).toNat-(S.getD j 0).toNat) (S.getD j 0).toNat with|none=>{exact⟨NU,by unfold aS;decide⟩}|some v=>{obtain⟨t,h1,h2,h3⟩:=qew hf;have a:=h.ok.st.rng (j:=j+1) O;have b:=h.ok.st.rng (j:=j) O;have c:=h.ok.st.mono j K;have hl:=h.vl;have G:t<V.length:=O;obtain⟨_,_,_,_,_,_,u⟩:=Vg h.chk;have J:=qp.1 u t O G;rw[qnh (hV t G)]at J;rw[yq,<-h3];exact⟨hV t G,of_decide_eq_true J⟩}
section
variable {m:Nat} (hm:5000000000<=m) {R C:Nat} {S I V:LI} (hM:MV R C S I V)
include hm hM
theorem qdi {i j:Nat} (G:j<C): ∀(N k:Nat),(S.getD (j+1) 0).toNat-k<N->
 ∃r,so m N (i:Int) (j:Int) (R:Int) (C:Int) S I V (k:Int)=some r
 |0,k,h=>absurd h (zC _)
 |N+1,k,h=>by have hl:=hM.ok.st.len;have K:=hM.ok.cz;have J:=hM.ok.sz;have a:=hM.ok.st.rng (j:=j+1) O;have w:wI ((j:Int)+1)=((j+1:Nat):Int):=ay O;rw[so,w,iP O,tN,bQ];by_cases u:(k:Int)<S.getD (j+1) 0;{rw[iP u,iP O,aB];split;{exact⟨_,rfl⟩};{rw[show wI ((k:Int)+1)=((k+1:Nat):Int)from ay O];exact qdi G N (k+1) O}};{rw[ae u];exact⟨_,rfl⟩}
theorem qo9 {i j:Nat} (J:i<R) (u:j<C): ∃b,WD m (R:Int) (C:Int) S I V (i:Int) (j:Int)=some (b,(),(),(),()):=by have hl:=hM.ok.st.len;have K:=hM.ok.cz;have G:=hM.ok.sz;have a:=hM.ok.st.rng (j:=j) O;have b:=hM.ok.st.rng (j:=j+1) O;obtain⟨r,e⟩:=qdi hm hM (i:=i) u m (S.getD j 0).toNat O;rw[show(((S.getD j 0).toNat:Nat):Int)=S.getD j 0 by omega]at e;rw[WD,bQ,ae O,bQ,ae O,bQ,ae O,bQ,ae O,iP O,tN,e,bS];match r with| .inl z=>exact⟨_,rfl⟩| .inr (.inl z)=>exact⟨_,rfl⟩| .inr (.inr e)=>exact e.elim
end
def absP {f:Int} (h:aS f):ax ((aE f).natAbs:Int) (-1074)=ax (sc ((aE f).natAbs:Int) (-1074) (-2148)) (-2148):=(Cw O).symm
def qvx {f:Int} (h:aS f):cd (sc ((aE f).natAbs:Int) (-1074) (-2148)) (-2148):=by have u:=qmo (cq h);unfold cd at*;rwa [Cw O]
structure GW (S I V:LI) (a b:Nat):Prop where
 sl:S.length<=a
 il:I.length<=b
 vl:V.length=I.length
 u:UL V
def qp8 {l:LI} (h:UL l) {f:Int} (G:b7 f):UL (l++[f]):=λi u=>by by_cases c:i<l.length;{rw[kq c];exact h i c};{rw[mW O];rw[zG,zN]at u;rw[show i-l.length=0 by omega];exact G}
def GW.snoc {S I V:LI} {a b:Nat} (h:GW S I V a b) {i f:Int} (u:b7 f):GW S (I++[i]) (V++[f]) a (b+1):=
 ⟨h.sl,by have:=h.il;simp;omega,by simp[h.vl],qp8 h.u u⟩
section
variable {m:Nat} (hm:5000000000<=m) {n:Nat} (hn:n<=100) {S I V:LI} (hM:MV n n S I V) (hV:UL V)
include hm hn hM hV
theorem XD (a0 a1 b0 b1:Int) (a2 a3 a4 b2 b3 K:LI) (G:Int) {i:Nat} (hi:i<n): ∀(N k:Nat) (s:List bR) (t:Int),n-k<N->k<=n->DL s t (1+k)->
 ∃s' t',pF m N (n:Int) a0 a1 a2 a3 a4 (n:Int) (n:Int) S I V b0 b1 b2 b3 K G (i:Int) s (k:Int)=some (.inl ((n:Int),(a0,a1,a2,a3,a4,()),((n:Int),(n:Int),S,I,V,()),(b0,b1,b2,b3,K,()),G,(i:Int),s',()))/\DL s' t' (1+n)
 |0,k,s,t,h,_,_=>absurd h (zC _)
 |N+1,k,s,t,h,c0,J=>by rw[pF,bQ];by_cases hk:k<n;{have w:wI ((k:Int)+1)=((k+1:Nat):Int):=ay O;rw[iP O,aO,w];by_cases c:k=i;{rw[iP O];exact XD a0 a1 b0 b1 a2 a3 a4 b2 b3 K G hi N (k+1) s t O O (J.mono O)};{have e1:(if(k:Int)>(i:Int)then(k:Int)else(i:Int))=((max k i:Nat):Int):=by{split<;>omega};have e2:(if(k:Int)<(i:Int)then(k:Int)else(i:Int))=((min k i:Nat):Int):=by{split<;>omega};obtain⟨u,f⟩:=B0 hM hV (i:=max k i) (j:=min k i) O;have hl:=J.len;rw[ae O,e1,e2,Cl O hM O,bS];dsimp only;rw[GV O u,bS,Qs f,qie O (cq f),bS,absP f];dsimp only;rw[iP (by rw[zN];omega)];exact XD a0 a1 b0 b1 a2 a3 a4 b2 b3 K G hi N (k+1) _ _ O O ((J.add (qvx f)).mono O)}};{have e:k=n:=O;subst e;rw[ae O];exact⟨s,t,rfl,J⟩}
theorem UU (a0 a1 b0 K:Int) (a2 a3 a4 G:LI) {j:Nat} (J:j<n) {x:Nat} (hx:x<=10000): ∀(N i:Nat) (I' V':LI),n-i<N->i<=n->GW G I' V' 200 (x+i)->
 ∃I1 V1,nc m N (n:Int) a0 a1 a2 a3 a4 (n:Int) (n:Int) S I V b0 K G I' V' (j:Int) (i:Int)=some (.inl ((n:Int),(a0,a1,a2,a3,a4,()),((n:Int),(n:Int),S,I,V,()),(b0,K,G,I1,V1,()),(j:Int),()))/\GW G I1 V1 200 (x+n)
 |0,i,I',V',h,_,_=>absurd h (zC _)
 |N+1,i,I',V',h,d0,hg=>by rw[nc,bQ];by_cases hi:i<n;{have w:wI ((i:Int)+1)=((i+1:Nat):Int):=ay O;have c0:=hg.il;have ix:=hg.vl;rw[iP O,aB,w];by_cases c:i=j;{have hd:DL _ C9 (1+0):=DL.one (qtn (zQ qv5 O));obtain⟨s',t',e1,e2⟩:=XD hm hn hM hV a0 a1 b0 K a2 a3 a4 G I' V' (j:Int) hi m 0 _ _ O O hd;rw[nZ]at e1;rw[iP O,q6i O (by unfold CJ;omega),bS,qy3];dsimp only;rw[e1,bS];dsimp only;rw[iP (by rw[zN];omega),e2.rsum O O,bS];dsimp only;rw[V8 O,bS,iP (by rw[zN];omega),w];exact UU a0 a1 b0 K a2 a3 a4 G J hx N (i+1) _ _ O O (hg.snoc LA)};{obtain⟨b,eb⟩:=qo9 hm hM (i:=i) (j:=j) hi J;rw[ae O,eb,bS];cases b with|true=>{obtain⟨u,f⟩:=B0 hM hV (i:=i) (j:=j) J;dsimp only;rw[cond_true,iP (by rw[zN];omega),Cl O hM J,bS,iP (by rw[zN];omega)];exact UU a0 a1 b0 K a2 a3 a4 G J hx N (i+1) _ _ O O (hg.snoc u)}|false=>{dsimp only;rw[cond_false];exact UU a0 a1 b0 K a2 a3 a4 G J hx N (i+1) _ _ O O ⟨hg.sl,O,hg.vl,hg.u⟩}}};{have e:i=n:=O;subst e;rw[ae O];exact⟨I',V',rfl,hg⟩}
theorem que (a0 a1 b0 K:Int) (a2 a3 a4:LI): ∀(N j:Nat) (u J G:LI),n-j<N->j<=n->GW u J G (1+j) (j*n)->
 ∃S1 I1 V1,sE m N (n:Int) a0 a1 a2 a3 a4 (n:Int) (n:Int) S I V b0 K u J G (j:Int)=some (.inl ((a0,a1,a2,a3,a4,()),(b0,K,S1,I1,V1,()),()))/\GW S1 I1 V1 (1+n) (n*n)
 |0,j,u,J,G,h,_,_=>absurd h (zC _)
 |N+1,j,u,J,G,h,d0,hg=>by rw[sE,bQ];by_cases hj:j<n;{have w:wI ((j:Int)+1)=((j+1:Nat):Int):=ay O;have c0:=hg.sl;have hx:j*n<=100*100:=qK O hn;obtain⟨I1,V1,e1,e2⟩:=UU hm hn hM hV a0 a1 b0 K a2 a3 a4 u hj (x:=j*n) O m 0 J G O O ⟨O,by have:=hg.il;omega,hg.vl,hg.u⟩;rw[nZ]at e1;rw[iP O,e1,bS];dsimp only;rw[iP (by rw[zN];omega),w];exact que a0 a1 b0 K a2 a3 a4 N (j+1) _ I1 V1 O O ⟨by rw[zG,zN];omega,by have:=e2.il;rw[OG];exact this,e2.vl,e2.u⟩};{have e:j=n:=O;subst e;rw[ae O];exact⟨u,J,G,rfl,hg⟩}
end
def qh3 {m:Nat} (hm:5000000000<=m) {raw:LI} (hl:raw.length<=9223372036854775807) {n:Nat} (hn:n<=100) (style:Int):
 ∃S I V,WO m raw (n:Int) style=some (((n:Int),(n:Int),S,I,V,()),(),(),(),())/\GW S I V (1+n) (n*n):=by obtain⟨r,hr,K⟩:=Lk m style (k:=3) O O;obtain⟨S,I,V,u,eG⟩:=q9a hm hl hn (r:Int) hn;obtain⟨S1,I1,V1,G,e2⟩:=que hm hn (u.MV hn hn) u.fn.U 0 0 (n:Int) (n:Int) [] [] [] m 0 [0] [] [] O O ⟨by simp,by simp,rfl,λi J=>absurd J (zC _)⟩;rw[nZ]at G;refine⟨S1,I1,V1,?_,e2⟩;rw[WO,show(3:Int)=((3:Nat):Int)from rfl,K,bS];dsimp only;rw[eG,bS];dsimp only;rw[G];rfl
end Go.Vs.F
set_option maxRecDepth 100000
namespace Go.Vs.F
section
variable {m:Nat} (hm:5000000000<=m)
include hm
theorem KM {l:LI} (hl:l.length<=1000) (v:Int): ∀(N k:Nat),l.length-k<N-> ∃r,ny m N l v (k:Int)=some r
 |0,k,h=>absurd h (zC _)
 |N+1,k,h=>by rw[ny,bQ];by_cases u:k<l.length;{rw[iP O,iP O,aB];split;{exact⟨_,rfl⟩};{rw[show wI ((k:Int)+1)=((k+1:Nat):Int)from ay O];exact KM hl v N (k+1) O}};{rw[ae O];exact⟨_,rfl⟩}
theorem KL {l:LI} (hl:l.length<=1000) (v:Int): ∃b,uM m l v=some (b,(),(),()):=by obtain⟨r,e⟩:=KM hm hl v m 0 O;rw[nZ]at e;rw[uM,e,bS];match r with| .inl z=>exact⟨_,rfl⟩| .inr (.inl z)=>exact⟨_,rfl⟩| .inr (.inr e)=>exact e.elim
theorem qtc {l:LI} (hl:l.length<=1000): ∀(N k:Nat),l.length-k<N->0<k-> ∃r,nA m N l (k:Int)=some r
 |0,k,h,_=>absurd h (zC _)
 |N+1,k,h,G=>by rw[nA,bQ];by_cases u:k<l.length;{have w:wI ((k:Int)-1)=((k-1:Nat):Int):=by{rw[wQ,wi O O];omega};rw[iP O,iP O,w,iP O,bQ];split;{exact⟨_,rfl⟩};{rw[show wI ((k:Int)+1)=((k+1:Nat):Int)from ay O];exact qtc hl N (k+1) O O}};{rw[ae O];exact⟨_,rfl⟩}
theorem qxj {l:LI} (hl:l.length<=1000): ∃b,AE m l=some (b,(),()):=by obtain⟨r,e⟩:=qtc hm hl m 1 O O;rw[AE,show(1:Int)=((1:Nat):Int)from rfl,e,bS];match r with| .inl z=>exact⟨_,rfl⟩| .inr (.inl z)=>exact⟨_,rfl⟩| .inr (.inr e)=>exact e.elim
theorem qja {l:LI} (hl:l.length<=1000): ∀(N k:Nat) (seen:List Bool),l.length-k<N->seen.length=l.length-> ∃r,n5 m N l (l.length:Int) seen (k:Int)=some r
 |0,k,seen,h,_=>absurd h (zC _)
 |N+1,k,seen,h,hs=>by rw[n5,bQ];by_cases G:k<l.length;{have u:(0:Int)<=(k:Int)/\(k:Int)<(l.length:Int):=O;rw[iP O,iP u,bQ];split;{exact⟨_,rfl⟩};{rw[bQ];split;{exact⟨_,rfl⟩};{rw[iP O];cases seen.getD (0+(l.getD (k:Int).toNat 0).toNat) false with|true=>exact⟨_,rfl⟩|false=>{rw[cond_false,iP O,show wI ((k:Int)+1)=((k+1:Nat):Int)from ay O];exact qja hl N (k+1) _ O (by rw[zU];exact hs)}}}};{rw[ae O];exact⟨_,rfl⟩}
theorem qqz {l:LI} (hl:l.length<=1000): ∃b,Fk m l (l.length:Int)=some (b,(),(),()):=by obtain⟨r,e⟩:=qja hm hl m 0 (List.replicate l.length false) O zM;rw[nZ]at e;rw[Fk,aO,iP rfl,iP O,tN,e,bS];match r with| .inl z=>exact⟨_,rfl⟩| .inr (.inl z)=>exact⟨_,rfl⟩| .inr (.inr e)=>exact e.elim
theorem qhy {l:LI} (hl:l.length<=1000) (n:Int): ∀(N k:Nat),l.length-k<N-> ∃r,nx m N l n (k:Int)=some r
 |0,k,h=>absurd h (zC _)
 |N+1,k,h=>by rw[nx,bQ];by_cases G:k<l.length;{have u:(0:Int)<=(k:Int)/\(k:Int)<(l.length:Int):=O;rw[iP O,iP u,bQ];split;{exact⟨_,rfl⟩};{rw[bQ];split;{exact⟨_,rfl⟩};{rw[show wI ((k:Int)+1)=((k+1:Nat):Int)from ay O];exact qhy hl n N (k+1) O}}};{rw[ae O];exact⟨_,rfl⟩}
theorem qrn {l:LI} (hl:l.length<=1000) (n:Int): ∃b,Er m l n=some (b,(),(),()):=by obtain⟨r,e⟩:=qhy hm hl n m 0 O;rw[nZ]at e;rw[Er,e,bS];match r with| .inl z=>exact⟨_,rfl⟩| .inr (.inl z)=>exact⟨_,rfl⟩| .inr (.inr e)=>exact e.elim
theorem qi3 {l:LI} (hl:l.length<=1000): ∀(N k:Nat),l.length-k<N-> ∃r,nw m N l (k:Int)=some r
 |0,k,h=>absurd h (zC _)
 |N+1,k,h=>by rw[nw,bQ];by_cases u:k<l.length;{obtain⟨b,e⟩:=KL hm (l:=l.take (k:Int).toNat) (by rw[zX];omega) (l.getD (k:Int).toNat 0);rw[iP O,iP O,iP O,e,bS];cases b with|true=>exact⟨_,rfl⟩|false=>{dsimp only;rw[cond_false,show wI ((k:Int)+1)=((k+1:Nat):Int)from ay O];exact qi3 hl N (k+1) O}};{rw[ae O];exact⟨_,rfl⟩}
theorem qsi {l:LI} (hl:l.length<=1000): ∃b,Eo m l=some (b,(),()):=by obtain⟨r,e⟩:=qi3 hm hl m 0 O;rw[nZ]at e;rw[Eo,e,bS];match r with| .inl z=>exact⟨_,rfl⟩| .inr (.inl z)=>exact⟨_,rfl⟩| .inr (.inr e)=>exact e.elim
end
structure Gr (n:Nat) (g:List LI):Prop where
 nn:n<=200
 len:g.length=n
 row: ∀v,(g.getD v []).length<=n
 rng: ∀v k,k<(g.getD v []).length->0<=(g.getD v []).getD k 0/\(g.getD v []).getD k 0<(n:Int)
section
variable {m:Nat} (hm:5000000000<=m) {n:Nat} {g:List LI} (hg:Gr n g)
include hm hg
theorem qfm {v:Nat} (u:v<n): ∀(N k:Nat),(g.getD v []).length-k<N->lq m N g (n:Int) (v:Int) (k:Int)=some (.inr (.inl ((g,()),(n:Int),(v:Int),())))\/ ∃c,lq m N g (n:Int) (v:Int) (k:Int)=some (.inl c)
 |0,k,h=>absurd h (zC _)
 |N+1,k,h=>by have hn:=hg.nn;have hl:=hg.len;have J:=hg.row v;rw[lq,iP O,bQ,tN,tN];by_cases G:k<(g.getD v []).length;{have K:=hg.rng v k G;rw[iP O,iP O,iP O,bQ,ae O,bQ,ae O,aB];split;{exact .inr ⟨_,rfl⟩};{obtain⟨b,e⟩:=KL hm (l:=g.getD ((g.getD v []).getD k 0).toNat []) (by have:=hg.row ((g.getD v []).getD k 0).toNat;omega) (v:Int);rw[iP O,e,bS];cases b with|false=>exact .inr ⟨_,rfl⟩|true=>{dsimp only;rw[show(!true)=false from rfl,cond_false,show wI ((k:Int)+1)=((k+1:Nat):Int)from ay O];exact qfm u N (k+1) O}}};{rw[ae O];exact .inl rfl}
theorem qfd: ∀(N v:Nat),n-v<N-> ∃r,n6 m N g (n:Int) (v:Int)=some r
 |0,k,h=>absurd h (zC _)
 |N+1,v,h=>by have hn:=hg.nn;have hl:=hg.len;have J:=hg.row v;rw[n6,bQ];by_cases G:v<n;{obtain⟨b,e⟩:=qxj hm (l:=g.getD v []) O;rw[iP O,iP O,tN,e,bS];cases b with|false=>exact⟨_,rfl⟩|true=>{dsimp only;rw[show(!true)=false from rfl,cond_false];have u:=qfm hm hg G m 0 O;rw[nZ]at u;rcases u with u|⟨c,u⟩;{rw[u,bS];dsimp only;rw[show wI ((v:Int)+1)=((v+1:Nat):Int)from ay O];exact qfd N (v+1) O};{rw[u];exact⟨_,rfl⟩}}};{rw[ae O];exact⟨_,rfl⟩}
theorem qnk: ∃c,uZ m g=some (c,(),()):=by have hn:=hg.nn;have hl:=hg.len;obtain⟨r,e⟩:=qfd hm hg m 0 O;rw[nZ]at e;rw[uZ,bQ,ae O,hl,e,bS];match r with| .inl z=>exact⟨_,rfl⟩| .inr (.inl z)=>exact⟨_,rfl⟩| .inr (.inr e)=>exact e.elim
end
structure pQ (n:Nat) (t:List (List Bool)):Prop where
 len:t.length=n
 row: ∀i,i<n->(t.getD i []).length=n
def pQ.set {n:Nat} {t:List (List Bool)} (h:pQ n t) {i:Nat} {r:List Bool} (G:r.length=n):pQ n (t.set i r):=by refine⟨by rw[zU];exact h.len,λj u=> ?_⟩;by_cases c:j=i;{subst c;rw[show(t.set j r).getD j []=r by simp[List.getD,h.len,u]];exact G};{rw[show(t.set i r).getD j []=t.getD j [] by simp[List.getD,List.getElem?_set,Ne.symm c]];exact h.row j u}
def pQ.rep {n:Nat}:pQ n (List.replicate n (List.replicate n false)):=by refine⟨zM,λi u=> ?_⟩;simp[List.getD,u]
def tq (t:List (List Bool)) (i j:Nat):Bool:=(t.getD i []).getD j false
def jh (q:Nat->Nat->Bool) (v k:Nat):LI:=((List.range k).filter λw=>decide (v≠w)&&(q v w||q w v)).map λw:Nat=>(w:Int)
def gB (n:Nat) (q:Nat->Nat->Bool):List LI:=(List.range n).map λv=>jh q v n
def qod {q:Nat->Nat->Bool} {v k:Nat}:jh q v (k+1)=jh q v k++if v≠k/\(q v k||q k v)=true then [(k:Int)]else []:=by unfold jh;rw[Cr,List.filter_append,tR];congr 1;by_cases c:v≠k/\(q v k||q k v)=true;{rw[iP c,List.filter_cons_of_pos (by simp[c.1,c.2])];rfl};{rw[ae c,List.filter_cons_of_neg (by simpa using c)];rfl}
def qiq {q:Nat->Nat->Bool} {v k:Nat}:(jh q v k).length<=k:=by unfold jh;rw[zi];exact zQ (OP ..) (by rw[yf];exact zI _)
def HA {n:Nat} (hn:n<=200) {q:Nat->Nat->Bool}:Gr n (gB n q):=by have hg: ∀v,(gB n q).getD v []=if v<n then jh q v n else []:=λv=>by{unfold gB;by_cases c:v<n;{rw[iP c];simp[List.getD,c]};{rw[ae c];simp[List.getD,c]}};refine⟨hn,by unfold gB;simp,λv=> ?_,λv k G=> ?_⟩;{rw[hg];split;{exact qiq};{exact lM _}};{rw[hg]at G⊢;by_cases c:v<n;{rw[iP c]at G⊢;have u:=Xm G;unfold jh at u;obtain⟨w,hw,e⟩:=zk.1 u;have:=vH.1 (Lb.1 hw).1;unfold jh;rw[<-e];omega};{rw[ae c]at G;exact absurd G (zC _)}}
section
variable {m:Nat} (hm:5000000000<=m) {n:Nat} (hn:n<=200)
include hm hn
theorem qjg: ∀(N k:Nat),n-k<N->k<=n->n8 m N (n:Int) (List.replicate k (List.replicate n false)) (k:Int)=some (.inl (List.replicate n (List.replicate n false),()))
 |0,k,h,_=>absurd h (zC _)
 |N+1,k,h,u=>by rw[n8,bQ];by_cases G:k<n;{rw[iP O,iP O,iP (by rw[zN,zM];omega),tN,<-List.replicate_succ',show wI ((k:Int)+1)=((k+1:Nat):Int)from ay O];exact qjg N (k+1) O O};{rw[ae O,show k=n by omega]}
theorem tA:Ba m (n:Int)=some (List.replicate n (List.replicate n false),(),()):=by have e:=qjg hm hn m 0 O O;rw[nZ,List.replicate_zero]at e;rw[Ba,e];rfl
theorem KO {t:List (List Bool)} (G:pQ n t) (J K:List LI) {v:Nat} (hv:v<n): ∀(N k:Nat),n-k<N->k<=n->
 gQ m N t J K (v:Int) (jh (tq t) v k) (k:Int)=some (.inl (t,(J,()),(K,()),(v:Int),jh (tq t) v n,()))
 |0,k,h,_=>absurd h (zC _)
 |N+1,k,h,a0=>by have hl:=G.len;rw[gQ,bQ];by_cases hk:k<n;{have r1:=G.row v hv;have r2:=G.row k hk;have b0:=qiq (q:=tq t) (v:=v) (k:=k);have u:=KO G J K hv N (k+1) O O;rw[qod]at u;rw[iP O,aO,show wI ((k:Int)+1)=((k+1:Nat):Int)from ay O];by_cases c:v=k;{rw[ae (λq=>q.1 c),mz]at u;rw[iP O];exact u};{rw[ae O,iP O,tN,tN,iP O];change (bif tq t v k then _ else _)=_;cases c1:tq t v k with|true=>{rw[iP ⟨c,by rw[c1];rfl⟩]at u;rw[cond_true,iP (by rw[zN];omega)];exact u}|false=>{rw[cond_false,iP O,iP O];change (bif tq t k v then _ else _)=_;cases c2:tq t k v with|true=>{rw[iP ⟨c,by rw[c1,c2];rfl⟩]at u;rw[cond_true,iP (by rw[zN];omega)];exact u}|false=>{rw[ae (λq=>by rw[c1,c2]at q;cases q.2),mz]at u;rw[cond_false];exact u}}}};{rw[ae O,show k=n by omega]}
theorem KP {t:List (List Bool)} (G:pQ n t) (u:List LI): ∀(N v:Nat),n-v<N->v<=n->
 n7 m N t u ((List.range v).map λi=>jh (tq t) i n) (v:Int)=some (.inl ((u,()),(gB n (tq t),()),()))
 |0,k,h,_=>absurd h (zC _)
 |N+1,v,h,K=>by have hl:=G.len;rw[n7,bQ];by_cases hv:v<n;{have e:=KO hm hn G u ((List.range v).map λi=>jh (tq t) i n) hv m 0 O O;rw[nZ,show jh (tq t) v 0=[]from rfl]at e;have J:=KP G u N (v+1) O O;rw[Cr,tR]at J;rw[iP O,e,bS];dsimp only;rw[iP (by rw[zN,zi,yf];omega),show wI ((v:Int)+1)=((v+1:Nat):Int)from ay O];exact J};{rw[ae O,show v=n by omega];rfl}
theorem KN {t:List (List Bool)} (u:pQ n t):A9 m t=some ((gB n (tq t),()),(),()):=by have e:=KP hm hn u [] m 0 O O;rw[nZ,List.range_zero,GK]at e;rw[A9,e];rfl
theorem KR {es:List fw} (hl:es.length<=100000) (K:yI n n es) (J:List LI): ∀(N k:Nat) (t:List (List Bool)),es.length-k<N->pQ n t->
 ∃t',oB m N J t es (k:Int)=some (.inl ((J,()),t',()))/\pQ n t'
 |0,k,t,h,_=>absurd h (zC _)
 |N+1,k,t,h,G=>by rw[oB,bQ];by_cases hk:k<es.length;{obtain⟨h1,h2,h3⟩:=K k hk;have a0:=G.len;have hr:=G.row (es.getD k (0,0,0)).1.toNat O;have u:(0:Int)<=(k:Int)/\(k:Int)<(es.length:Int):=O;rw[iP O,iP u,zH,tN,iP O,iP u,iP O,show wI ((k:Int)+1)=((k+1:Nat):Int)from ay O];exact KR hl K J N (k+1) _ O (G.set (by rw[zU];exact hr))};{rw[ae O];exact⟨t,rfl,G⟩}
theorem Uc {S I V:LI} (h:MV n n S I V): ∃q,tn m (n:Int) (n:Int) S I V=some (((gB n q,()),0,()),(),()):=by have G:=h.ok.sz;have J:=h.vl;obtain⟨t,u,e2⟩:=KR hm hn (es:=ents S I V n 0) (by have:=h.len;omega) h.ents [] m 0 _ (by have:=h.len;omega) pQ.rep;rw[nZ]at u;refine⟨tq t,?_⟩;rw[tn,Xo O O O,h.chk,bS,aO,iP rfl,aO,iP rfl,tA hm hn,bS,q9z O h.ok h.vl h.chk,bS];dsimp only;rw[u,bS];dsimp only;rw[KN hm hn e2];rfl
end
end Go.Vs.F
set_option maxRecDepth 100000
namespace Go.Vs.F
section
variable {m:Nat} (hm:5000000000<=m) {n:Nat} {g:List LI} (hg:Gr n g)
include hm hg
theorem qtb (out:List (List Bool)) {v:Nat} (K:v<n): ∀(N k:Nat) (row:List Bool),(g.getD v []).length-k<N->row.length=n->
 ∃u,nu m N g (n:Int) out (v:Int) row (k:Int)=some (.inl ((g,()),(n:Int),out,(v:Int),u,()))/\u.length=n
 |0,k,row,h,_=>absurd h (zC _)
 |N+1,k,row,h,J=>by have hn:=hg.nn;have hl:=hg.len;have G:=hg.row v;rw[nu,iP O,bQ,tN,tN];by_cases hk:k<(g.getD v []).length;{have h1:=hg.rng v k hk;rw[iP O,iP O,iP O,iP O,show wI ((k:Int)+1)=((k+1:Nat):Int)from ay O];exact qtb out K N (k+1) _ O (by rw[zU];exact J)};{rw[ae O];exact⟨row,rfl,J⟩}
theorem qte: ∀(N v:Nat) (out:List (List Bool)),n-v<N->v<=n->out.length=v->(∀i,i<v->(out.getD i []).length=n)->
 ∃t,nv m N g (n:Int) out (v:Int)=some (.inl (t,()))/\pQ n t
 |0,v,out,h,_,_,_=>absurd h (zC _)
 |N+1,v,out,h,K,G,u=>by have hn:=hg.nn;have hl:=hg.len;rw[nv,bQ];by_cases hv:v<n;{obtain⟨row,J,e2⟩:=qtb hm hg out hv m 0 (List.replicate n false) (by have:=hg.row v;omega) zM;rw[nZ]at J;rw[iP O,iP O,tN,J,bS];dsimp only;rw[iP (by rw[zN];omega),show wI ((v:Int)+1)=((v+1:Nat):Int)from ay O];refine qte N (v+1) _ O O (by rw[zG,G];rfl) λi hi=> ?_;by_cases c:i<v;{rw[show(out++[row]).getD i []=out.getD i [] by simp[List.getD,List.getElem?_append_left (G.symm▸c:i<out.length)]];exact u i c};{have:i=out.length:=O;subst this;rw[show(out++[row]).getD out.length []=row by simp[List.getD]];exact e2}};{rw[ae O];exact⟨out,rfl,O,λi hi=>u i O⟩}
theorem qyc: ∃t,AC m g=some (t,(),())/\pQ n t:=by have hl:=hg.len;obtain⟨t,u,e2⟩:=qte hm hg m 0 [] (by have:=hg.nn;omega) O rfl (λi G=>absurd G (zC _));rw[nZ]at u;exact⟨t,by rw[AC,hl,u];rfl,e2⟩
omit hg in
theorem qtx {o:LI} (hol:o.length<=200) (hor: ∀i,i<o.length->0<=o.getD i 0/\o.getD i 0<(n:Int)) (K:List LI) {J:List (List Bool)} (ht:pQ n J) {i:Nat} (hi:i<o.length): ∀(N k:Nat) (u:List (List Bool)),o.length-k<N->pQ o.length u->
 ∃t',nX m N o K J u (i:Int) (k:Int)=some (.inl (o,(K,()),J,t',(i:Int),()))/\pQ o.length t'
 |0,k,u,h,_=>absurd h (zC _)
 |N+1,k,u,h,G=>by have b0:=ht.len;have a0:=G.len;rw[nX,bQ];by_cases hk:k<o.length;{have a:=hor i hi;have b:=hor k hk;have c:=ht.row (o.getD i 0).toNat O;have d:=G.row i hi;rw[iP O,iP O,iP O,tN,tN,iP O,iP O,iP O,iP O,show wI ((k:Int)+1)=((k+1:Nat):Int)from ay O];exact qtx hol hor K ht hi N (k+1) _ O (G.set (by rw[zU];exact d))};{rw[ae O];exact⟨u,rfl,G⟩}
omit hg in
theorem qub {o:LI} (hol:o.length<=200) (hor: ∀i,i<o.length->0<=o.getD i 0/\o.getD i 0<(n:Int)) (G:List LI) {J:List (List Bool)} (K:pQ n J): ∀(N i:Nat) (u:List (List Bool)),o.length-i<N->pQ o.length u->
 ∃t',nY m N o G J u (i:Int)=some (.inl ((G,()),t',()))/\pQ o.length t'
 |0,k,u,h,_=>absurd h (zC _)
 |N+1,i,u,h,h8=>by rw[nY,bQ];by_cases hi:i<o.length;{obtain⟨t',e1,e2⟩:=qtx hm hol hor G K hi m 0 u O h8;rw[nZ]at e1;rw[iP O,e1,bS];dsimp only;rw[show wI ((i:Int)+1)=((i+1:Nat):Int)from ay O];exact qub hol hor G K N (i+1) t' O e2};{rw[ae O];exact⟨u,rfl,h8⟩}
theorem qal {o:LI} (hol:o.length<=200) (hor: ∀i,i<o.length->0<=o.getD i 0/\o.getD i 0<(o.length:Int)):
 ∃y n' q,xW m g o=some y/\y.1.1.1=gB n' q/\n'<=o.length:=by
 have hl:=hg.len;obtain⟨c,ec⟩:=qnk hm hg;have u: ∀{y:((List LI×Unit)×Int×Unit)×Unit×Unit×Unit},y.1.1.1=[]-> ∃n' q,y.1.1.1=gB n' q/\n'<=o.length:=λh=>⟨0,λ_ _=>false,h,lM _⟩
 rw[xW,ec,bS,aO];dsimp only;by_cases K:c=0
 case neg=>
  rw[ae K];obtain⟨n',q,G,h2⟩:=u (y:=((([],()),c,()),(),(),())) rfl;exact⟨_,n',q,rfl,G,h2⟩
 rw[iP K,aO];by_cases hlen:(o.length:Int)=(g.length:Int)
 case neg=>
  rw[ae hlen];obtain⟨n',q,G,h2⟩:=u (y:=((([],()),2,()),(),(),())) rfl;exact⟨_,n',q,rfl,G,h2⟩
 obtain⟨b,J⟩:=qqz hm (l:=o) O;rw[iP hlen,<-hlen,J,bS];dsimp only;cases b with
 |false=>
  obtain⟨n',q,G,h2⟩:=u (y:=((([],()),90,()),(),(),())) rfl;exact⟨_,n',q,rfl,G,h2⟩
 |true=>
 rw[show(!true)=false from rfl,cond_false,M8,ec,bS,aO]
 dsimp only;obtain⟨b,J⟩:=qrn hm (l:=o) O (g.length:Int);rw[iP K,J,bS];cases b with
 |false=>
  obtain⟨n',q,G,h2⟩:=u (y:=((([],()),3,()),(),(),())) rfl;exact⟨_,n',q,rfl,G,h2⟩
 |true=>
 obtain⟨b,J⟩:=qsi hm (l:=o) O;dsimp only;rw[show(!true)=false from rfl,cond_false,J,bS]
 cases b with
 |true=>
  obtain⟨n',q,G,h2⟩:=u (y:=((([],()),90,()),(),(),())) rfl;exact⟨_,n',q,rfl,G,h2⟩
 |false=>
 obtain⟨t,e1,e2⟩:=qyc hm hg;have a0:n=o.length:=O;obtain⟨t',e3,e4⟩:=qub hm (n:=n) hol (λi hi=>by have:=hor i hi;omega) [] e2 m 0 _ O (pQ.rep (n:=o.length))
 rw[nZ]at e3;dsimp only;rw[cond_false,e1,bS,tA hm hol,bS];dsimp only;rw[e3,bS];dsimp only;rw[KN hm hol e4];exact⟨_,o.length,tq t',rfl,rfl,zI _⟩
end
def qw9:chk 0 0 [] [] []≠0:=by decide
def qra {m:Nat} (hm:5000000000<=m) {n:Nat} (hn:n<=100) {S I V:LI} (hV:V.length<=100000) {o:LI} (hol:o.length=n) (hor: ∀i,i<o.length->0<=o.getD i 0/\o.getD i 0<(o.length:Int)):
 ∃G y2 u n' q,tp m (n:Int) (n:Int) S I V=some G/\tn m G.1.1.1 G.1.1.2.1 G.1.1.2.2.1 G.1.1.2.2.2.1 G.1.1.2.2.2.2.1=some y2/\
  xW m y2.1.1.1 o=some u/\u.1.1.1=gB n' q/\n'<=n:=by by_cases K:chk (n:Int) (n:Int) S I V=0;{obtain⟨r,c,e1,e2,hM,ix,_⟩:=Vg K;have er:r=n:=O;have ec:c=n:=O;subst er;subst ec;have J:MV c c S I V:=⟨hM,ix,K⟩;have a0:c*c<=100*100:=qK hn hn;obtain⟨q,e⟩:=Uc hm (by omega:c<=200) (qs5 J O);obtain⟨u,n1,q1,a,b,d⟩:=qal hm (HA (by omega:c<=200) (q:=q)) O hor;exact⟨_,_,u,n1,q1,qrs O J,e,a,b,O⟩};{have e1:tp m (n:Int) (n:Int) S I V=some (((0,0,[],[],[],()),chk (n:Int) (n:Int) S I V,()),(),()):=by{rw[tp,Xo O O O,bS,aO,ae K]};have e2:tn m 0 0 [] [] []=some ((([],()),chk 0 0 [] [] [],()),(),()):=by{rw[tn,Xo (by show 0<m;omega) O (by decide),bS,aO,ae qw9]};obtain⟨u,n',q',a,b,c⟩:=qal hm (HA (n:=0) O (q:=λ_ _=>false)) O hor;exact⟨_,_,u,n',q',e1,e2,a,b,O⟩}
end Go.Vs.F
set_option maxRecDepth 100000
namespace Go.Vs.F
def vj (m:Nat) (spl:Int->Bool):Nat->LI->List LI->Int->(List (Int×Int×LI×Int))->List (List Bool)->Int->Option ((Int×(List (Int×Int×LI×Int))×List (List Bool)×Unit)⊕Empty)
 |0,_,_,_,_,_,_=>none
 |n+1,a,b,c,d,f,h=>
  bif decide (h<c)then
   bif h==0 then
    if 0<([(h,(wI (h+1),(([]:LI),(-1))))]:List (Int×Int×LI×Int)).length/\d.length+([(h,(wI (h+1),(([]:LI),(-1))))]:List (Int×Int×LI×Int)).length<=1073741824 then
    if(0:Int)<=c/\c<=c/\c<=1073741824 then
    if 0<([List.replicate c.toNat false]:List (List Bool)).length/\f.length+([List.replicate c.toNat false]:List (List Bool)).length<=1073741824 then
    if(0:Int)<=(wI (((d++([(h,(wI (h+1),(([]:LI),(-1))))]:List (Int×Int×LI×Int))).length:Int)-1))/\(wI (((d++([(h,(wI (h+1),(([]:LI),(-1))))]:List (Int×Int×LI×Int))).length:Int)-1))<((d++([(h,(wI (h+1),(([]:LI),(-1))))]:List (Int×Int×LI×Int))).length:Int)then
    (iU m m a b c ((d++([(h,(wI (h+1),(([]:LI),(-1))))]:List (Int×Int×LI×Int))).set (wI (((d++([(h,(wI (h+1),(([]:LI),(-1))))]:List (Int×Int×LI×Int))).length:Int)-1)).toNat (((d++([(h,(wI (h+1),(([]:LI),(-1))))]:List (Int×Int×LI×Int))).getD (wI (((d++([(h,(wI (h+1),(([]:LI),(-1))))]:List (Int×Int×LI×Int))).length:Int)-1)).toNat (0,(0,(([]:LI),0)))).1,(wI (h+1),(((d++([(h,(wI (h+1),(([]:LI),(-1))))]:List (Int×Int×LI×Int))).getD (wI (((d++([(h,(wI (h+1),(([]:LI),(-1))))]:List (Int×Int×LI×Int))).length:Int)-1)).toNat (0,(0,(([]:LI),0)))).2.2.1,((d++([(h,(wI (h+1),(([]:LI),(-1))))]:List (Int×Int×LI×Int))).getD (wI (((d++([(h,(wI (h+1),(([]:LI),(-1))))]:List (Int×Int×LI×Int))).length:Int)-1)).toNat (0,(0,(([]:LI),0)))).2.2.2)))) (f++([List.replicate c.toNat false]:List (List Bool))) h (wI (((d++([(h,(wI (h+1),(([]:LI),(-1))))]:List (Int×Int×LI×Int))).length:Int)-1)) 0).bind λy1=>
    match y1 with
    | .inl J=>
      vj m spl n J.1 J.2.1 J.2.2.1 J.2.2.2.1 J.2.2.2.2.1 (wI (J.2.2.2.2.2.1+1))
    | .inr e=>
      e.elim
    else none
    else none
    else none
    else none
   else
    bif spl h then
     if 0<([(h,(wI (h+1),(([]:LI),(-1))))]:List (Int×Int×LI×Int)).length/\d.length+([(h,(wI (h+1),(([]:LI),(-1))))]:List (Int×Int×LI×Int)).length<=1073741824 then
     if(0:Int)<=c/\c<=c/\c<=1073741824 then
     if 0<([List.replicate c.toNat false]:List (List Bool)).length/\f.length+([List.replicate c.toNat false]:List (List Bool)).length<=1073741824 then
     if(0:Int)<=(wI (((d++([(h,(wI (h+1),(([]:LI),(-1))))]:List (Int×Int×LI×Int))).length:Int)-1))/\(wI (((d++([(h,(wI (h+1),(([]:LI),(-1))))]:List (Int×Int×LI×Int))).length:Int)-1))<((d++([(h,(wI (h+1),(([]:LI),(-1))))]:List (Int×Int×LI×Int))).length:Int)then
     (iU m m a b c ((d++([(h,(wI (h+1),(([]:LI),(-1))))]:List (Int×Int×LI×Int))).set (wI (((d++([(h,(wI (h+1),(([]:LI),(-1))))]:List (Int×Int×LI×Int))).length:Int)-1)).toNat (((d++([(h,(wI (h+1),(([]:LI),(-1))))]:List (Int×Int×LI×Int))).getD (wI (((d++([(h,(wI (h+1),(([]:LI),(-1))))]:List (Int×Int×LI×Int))).length:Int)-1)).toNat (0,(0,(([]:LI),0)))).1,(wI (h+1),(((d++([(h,(wI (h+1),(([]:LI),(-1))))]:List (Int×Int×LI×Int))).getD (wI (((d++([(h,(wI (h+1),(([]:LI),(-1))))]:List (Int×Int×LI×Int))).length:Int)-1)).toNat (0,(0,(([]:LI),0)))).2.2.1,((d++([(h,(wI (h+1),(([]:LI),(-1))))]:List (Int×Int×LI×Int))).getD (wI (((d++([(h,(wI (h+1),(([]:LI),(-1))))]:List (Int×Int×LI×Int))).length:Int)-1)).toNat (0,(0,(([]:LI),0)))).2.2.2)))) (f++([List.replicate c.toNat false]:List (List Bool))) h (wI (((d++([(h,(wI (h+1),(([]:LI),(-1))))]:List (Int×Int×LI×Int))).length:Int)-1)) 0).bind λO=>
     match O with
     | .inl G=>
       vj m spl n G.1 G.2.1 G.2.2.1 G.2.2.2.1 G.2.2.2.2.1 (wI (G.2.2.2.2.2.1+1))
     | .inr e=>
       e.elim
     else none
     else none
     else none
     else none
    else
     if(0:Int)<=(wI ((d.length:Int)-1))/\(wI ((d.length:Int)-1))<(d.length:Int)then
     (iU m m a b c (d.set (wI ((d.length:Int)-1)).toNat ((d.getD (wI ((d.length:Int)-1)).toNat (0,(0,(([]:LI),0)))).1,(wI (h+1),((d.getD (wI ((d.length:Int)-1)).toNat (0,(0,(([]:LI),0)))).2.2.1,(d.getD (wI ((d.length:Int)-1)).toNat (0,(0,(([]:LI),0)))).2.2.2)))) f h (wI ((d.length:Int)-1)) 0).bind λK=>
     match K with
     | .inl u=>
       vj m spl n u.1 u.2.1 u.2.2.1 u.2.2.2.1 u.2.2.2.2.1 (wI (u.2.2.2.2.2.1+1))
     | .inr e=>
       e.elim
     else none
  else
   some (.inl (c,d,f,()))
abbrev tP:=Int×Int×LI×Int
def zF:tP:=(0,0,[],0)
def q6 (a b c d e f:Bool) (i j:Nat):Bool:=if i=0 then(if j=1 then a else if j=2 then b else if j=3 then c else false)else if i=1 then(if j=2 then d else if j=3 then e else false)else if i=2 then(if j=3 then f else false)else false
def oM (a b c:Bool) (v:Int):Bool:=if v=1 then a else if v=2 then b else c
def okR (n:Nat) (x:tP):Bool:=decide (0<=x.1)&&decide (x.1<=x.2.1)&&decide (x.2.1<=(n:Int))&&decide (x.2.2.1.length<=4)&&x.2.2.1.all λr=>decide (0<=r)&&decide (r<(n:Int))
def okP (x y:tP):Bool:=x.2.2.1.all λr=>decide (r<x.2.1)||(decide (y.1<=r)&&decide (r<y.2.1))||(y.2.2.1.any (λs=>decide (s=r))&&decide (y.2.1<=r))
def Hm (n:Nat) (l:List tP):Bool:=decide (l.length<=4)&&l.all (okR n)&&(List.range l.length).all λf=>(List.range f).all λc=> !decide ((l.getD c zF).2.2.2=(f:Int))||okP (l.getD c zF) (l.getD f zF)
def BU (m:Nat) (raw:LI) (p:List LI) (spl:Int->Bool):Option (List tP):=
 (BS m p).bind λG=>
 (vj m spl m raw G.1.1 (G.1.1.length:Int) [] [] 0).bind λO=>
 match O with
 | .inl u=>(sC m m u.1 u.2.1 u.2.2.1 0).bind λK=>
   match K with
   | .inl J=>some J.1
   | .inr e=>e.elim
 | .inr e=>e.elim
def vi (m:Nat) (raw:LI) (n:Nat) (p:List LI) (spl:Int->Bool):Bool:=
 (match BS m p with
 |some u=>decide (u.1.1.length=n)
 |none=>false)&&
 match BU m raw p spl with
 |some l=>Hm n l&&(Na m p l).isSome
 |none=>false
def bB:List Bool:=[false,true]
def fr4 (j:Nat) (raw:LI):Bool:=bB.all λa=>bB.all λb=>bB.all λc=>bB.all λd=>bB.all λe=>bB.all λf=>bB.all λx=>bB.all λy=>bB.all λz=>vi (j+400) raw 4 (gB 4 (q6 a b c d e f)) (oM x y z)
def fr3 (j:Nat) (raw:LI):Bool:=bB.all λa=>bB.all λb=>bB.all λd=>bB.all λx=>bB.all λy=>vi (j+400) raw 3 (gB 3 (q6 a b false d false false)) (oM x y false)
def fr2 (j:Nat) (raw:LI):Bool:=bB.all λa=>bB.all λx=>vi (j+400) raw 2 (gB 2 (q6 a false false false false false)) (oM x false false)
def qvv (j:Nat) (raw:LI):fr4 j raw=true:=by kernel_rfl
def qv4 (j:Nat) (raw:LI):fr3 j raw=true:=by kernel_rfl
def qv7 (j:Nat) (raw:LI):fr2 j raw=true:=by kernel_rfl
def qwu (j:Nat) (raw:LI):vi (j+400) raw 1 (gB 1 (q6 false false false false false false)) (oM false false false)=true:=by kernel_rfl
def qwb (j:Nat) (raw:LI):vi (j+400) raw 0 (gB 0 (q6 false false false false false false)) (oM false false false)=true:=by kernel_rfl
end Go.Vs.F
set_option maxRecDepth 100000
namespace Go.Vs.F
def J5 {f:Bool->Bool} (h:bB.all f=true) (b:Bool):f b=true:=by unfold bB at h;simp only[Cq,List.all_nil,GM,zK]at h;cases b;{exact h.1};{exact h.2}
def qsh {n:Nat} {q r:Nat->Nat->Bool} (h: ∀v w,v<n->w<n->v≠w->(q v w||q w v)=(r v w||r w v)):gB n q=gB n r:=by unfold gB;refine Cm λv u=> ?_;unfold jh;congr 1;refine List.filter_congr λw hw=> ?_;by_cases c:v=w;{subst c;simp};{rw[h v w (vH.1 u) (vH.1 hw) c]}
def qxn {m:Nat} (hm:400<=m) (raw:LI) {n:Nat} (hn:n<=4) (q:Nat->Nat->Bool) (s:Int->Bool): ∃spl,(∀v:Int,1<=v->v<(n:Int)->spl v=s v)/\vi m raw n (gB n q) spl=true:=by
 obtain⟨j,rfl⟩: ∃j,m=j+400:=⟨m-400,O⟩;have J: ∀a b c d e f,(∀v w,v<n->w<n->v≠w->(q v w||q w v)=(q6 a b c d e f v w||q6 a b c d e f w v))->gB n q=gB n (q6 a b c d e f):=λa b c d e f h=>qsh h
 match n,hn with
 |0,_=>
  refine⟨oM false false false,λv u h2=>O,?_⟩
  rw[J false false false false false false (λv w u=>absurd u (zC _))];exact qwb j raw
 |1,_=>
  refine⟨oM false false false,λv u h2=>O,?_⟩
  rw[J false false false false false false (λv w u h2 G=>O)];exact qwu j raw
 |2,_=>
  refine⟨oM (s 1) false false,λv u h2=> ?_,?_⟩
  . have:v=1:=O;subst this;rfl
  . rw[J (q 0 1||q 1 0) false false false false false (λv w u h2 G=> ?_)]
    . exact J5 (J5 (qv7 j raw) _) _
    . have a1:v=0\/v=1:=O;have K:w=0\/w=1:=O;rcases a1 with rfl|rfl<;>rcases K with rfl|rfl<;>simp[q6,UA]at G⊢
 |3,_=>
  refine⟨oM (s 1) (s 2) false,λv u h2=> ?_,?_⟩
  . have:v=1\/v=2:=O;rcases this with rfl|rfl<;>rfl
  . rw[J (q 0 1||q 1 0) (q 0 2||q 2 0) false (q 1 2||q 2 1) false false (λv w u h2 G=> ?_)]
    . exact J5 (J5 (J5 (J5 (J5 (qv4 j raw) _) _) _) _) _
    . have a1:v=0\/v=1\/v=2:=O;have K:w=0\/w=1\/w=2:=O;rcases a1 with rfl|rfl|rfl<;>rcases K with rfl|rfl|rfl<;>simp[q6,UA]at G⊢
 |4,_=>
  refine⟨oM (s 1) (s 2) (s 3),λv u h2=> ?_,?_⟩
  . have:v=1\/v=2\/v=3:=O;rcases this with rfl|rfl|rfl<;>rfl
  . rw[J (q 0 1||q 1 0) (q 0 2||q 2 0) (q 0 3||q 3 0) (q 1 2||q 2 1) (q 1 3||q 3 1) (q 2 3||q 3 2) (λv w u h2 G=> ?_)]
    . exact J5 (J5 (J5 (J5 (J5 (J5 (J5 (J5 (J5 (qvv j raw) _) _) _) _) _) _) _) _) _
    . have a1:v=0\/v=1\/v=2\/v=3:=O;have K:w=0\/w=1\/w=2\/w=3:=O;rcases a1 with rfl|rfl|rfl|rfl<;>rcases K with rfl|rfl|rfl|rfl<;>simp[q6,UA]at G⊢
def VX {m:Nat} {raw:LI} {u:List LI} {n0:Int} {l:List tP} {j f:Int}: ∀{N:Nat} {has:List (List Bool)} {k:Int} {r},iU m N raw u n0 l has j f k=some (.inl r)->r.1=raw/\r.2.2.1=n0/\r.2.2.2.2.2.1=j
 |0,has,k,r,h=>by cases h
 |N+1,has,k,r,h=>by rw[iU,bQ]at h;(repeat' split at h);all_goals first|exact VX h|(injection h with h;injection h with h;subst h;exact⟨rfl,rfl,rfl⟩)|cases h
section
variable {m:Nat} {raw:LI} {n0:Int} {spl:Int->Bool} (hs: ∀v:Int,1<=v->v<n0-> ∃w,D6 m raw (wI (900+v))=some (w,(),(),())/\decide ((Int.tmod (aJ .u64 w 7) 3)>0)=spl v) (hn:n0<=4)
include hs hn
theorem qnp: ∀(N:Nat) (u:List LI) (l:List tP) (has:List (List Bool)) (j:Int),0<=j->jW m N raw u n0 l has j=vj m spl N raw u n0 l has j
 |0,u,l,has,j,_=>rfl
 |N+1,u,l,has,j,a0=>by
  rw[jW,vj,bQ,bQ];by_cases J:j<n0
  . have step: ∀(x:Option ((LI×List LI×Int×(List (Int×Int×LI×Int))×List (List Bool)×Int×Unit)⊕Empty)),(∀r,x=some (.inl r)->r.1=raw/\r.2.2.1=n0/\r.2.2.2.2.2.1=j)->
     (x.bind λK=>match K with
       | .inl G=>jW m N G.1 G.2.1 G.2.2.1 G.2.2.2.1 G.2.2.2.2.1 (wI (G.2.2.2.2.2.1+1))
       | .inr e=>e.elim)=x.bind λK=>match K with
       | .inl G=>vj m spl N G.1 G.2.1 G.2.2.1 G.2.2.2.1 G.2.2.2.2.1 (wI (G.2.2.2.2.2.1+1))
       | .inr e=>e.elim:=λx hx=>by
     match x,hx with
     |none,_=>rfl
     |some (.inr e),_=>exact e.elim
     |some (.inl r),hx=>
      obtain⟨h1,h2,h3⟩:=hx r rfl;rw[bS,bS];dsimp only;rw[h1,h2,h3];exact qnp N _ _ _ _ (by rw[wQ,wi O O];omega)
    rw[iP J,iP J];by_cases c:j=0
    . subst c;rw[show((0:Int)==0)=true from rfl,cond_true,cond_true]
      repeat' split
      all_goals first|rfl|exact step _ λr h=>VX h
    . have c':(j==0)=false:=beq_eq_false_iff_ne.2 c;obtain⟨w,e1,e2⟩:=hs j O J;rw[c',cond_false,cond_false,e1,bS];dsimp only;rw[e2];cases spl j with
      |true=>
       rw[cond_true,cond_true]
       repeat' split
       all_goals first|rfl|exact step _ λr h=>VX h
      |false=>
       rw[cond_false,cond_false]
       repeat' split
       all_goals first|rfl|exact step _ λr h=>VX h
  . rw[ae J,ae J]
end
end Go.Vs.F
set_option maxRecDepth 100000
namespace Go.Vs.F
section
variable {m:Nat} (hm:5000000000<=m) {raw:LI} (hl:raw.length<=9223372036854775807) {n:Nat} (hn:n<=4) {S I V:LI} (hV:V.length<=100000) {o:LI} (hol:o.length=n) (hor: ∀i,i<o.length->0<=o.getD i 0/\o.getD i 0<(o.length:Int))
include hm hl hn hV hol hor
theorem qqm: ∃l e,Mv m (n:Int) (n:Int) S I V o raw=some (l,(),(),(),())/\Hm n l=true/\L9 m (n:Int) (n:Int) S I V o l=some (e,(),(),(),())/\(e=0->chk (n:Int) (n:Int) S I V=0):=by
 obtain⟨y1,y2,y3,n',q,e1,e2,e3,e4,e5⟩:=qra hm (by omega:n<=100) (S:=S) (I:=I) hV hol hor
 have hw: ∀k:Int,∃w,D6 m raw k=some (w,(),(),()):=λk=>by
  obtain⟨w,h,_⟩:=Vy m hl k;exact⟨w,h⟩
 let s:Int->Bool:=λv=>decide ((Int.tmod (aJ .u64 (Classical.choose (hw (wI (900+v)))) 7) 3)>0)
 obtain⟨spl,h1,h2⟩:=qxn (m:=m) O raw (n:=n') O q s;unfold vi at h2;rw[zK]at h2;obtain⟨h0,h2⟩:=h2;cases hc:BS m (gB n' q)with
 |none=>rw[hc]at h0;cases h0
 |some K=>
 rw[hc]at h0;have j0:K.1.1.length=n':=of_decide_eq_true h0;cases u:BU m raw (gB n' q) spl with
 |none=>rw[u]at h2;cases h2
 |some l=>
  rw[u]at h2;dsimp only at h2;rw[zK]at h2;obtain⟨G,h4⟩:=h2
  have hF:Hm n l=true:=by
   unfold Hm at G⊢;simp only[zK]at G⊢;refine⟨⟨G.1.1,?_⟩,G.2⟩;rw[zq]at*;intro x hx;have:=G.1.2 x hx;unfold okR at this⊢;simp only[zK,decide_eq_true_iff,zq]at this⊢;exact⟨⟨⟨this.1.1.1,O⟩,this.1.2⟩,λr u=>⟨(this.2 r u).1,by have:=(this.2 r u).2;omega⟩⟩
  unfold BU at u;rw[hc,bS,<-qnp (n0:=(K.1.1.length:Int)) (λv h5 h6=>⟨_,Classical.choose_spec (hw (wI (900+v))),(h1 v h5 O).symm⟩) O m K.1.1 [] [] 0 O]at u
  have d0:Mv m (n:Int) (n:Int) S I V o raw=some (l,(),(),(),()):=by
   rw[Mv,e1,bS,e2,bS,e3,bS,e4,hc,bS];cases hL:jW m m raw K.1.1 (K.1.1.length:Int) [] [] 0 with
   |none=>rw[hL]at u;cases u
   |some z=>
    rw[hL,bS]at u
    match z,u with
    | .inr e,_=>exact e.elim
    | .inl z,u=>
      rw[bS];dsimp only at u⊢;cases c0:sC m m z.1 z.2.1 z.2.2.1 0 with
      |none=>rw[c0]at u;cases u
      |some w=>
       rw[c0,bS]at u
       match w,u with
       | .inr e,_=>exact e.elim
       | .inl w,u=>
         rw[bS];dsimp only at u⊢;injection u with u
         rw[u]
  by_cases J:chk (n:Int) (n:Int) S I V=0
  case neg=>
   refine⟨l,chk (n:Int) (n:Int) S I V,d0,hF,?_,λq=>absurd q J⟩
   rw[L9,FO,Xo O O O,bS,aO];dsimp only;rw[ae J,bS,aO];dsimp only;rw[ae J]
  obtain⟨e,he⟩: ∃e,L9 m (n:Int) (n:Int) S I V o l=some (e,(),(),(),()):=by
   rw[L9,FO,Xo O O O,bS,aO];dsimp only;have hp:=qsw (m:=m) O (l:=o) O;rw[hol]at hp;rw[iP J,aO,iP rfl,hp,bS];dsimp only;cases iJ o with
   |false=>exact⟨90,rfl⟩
   |true=>
   rw[show(!true)=false from rfl,cond_false,bS,aO]
   dsimp only
   have hG:FH m (n:Int) (n:Int) S I V o=some ((gB n' q,()),(),(),()):=by
    rw[FH,e1,bS,e2,bS,e3,bS,e4]
   rw[iP rfl,hG,bS];dsimp only;obtain⟨c,e0⟩:=Option.isSome_iff_exists.1 h4;rw[e0,bS,aO];by_cases b0:c.1=0
   case neg=>rw[ae b0];exact⟨_,rfl⟩
   rw[iP b0]
   have i0:l.length<=4:=by
    unfold Hm at G;simp only[zK,decide_eq_true_iff]at G;exact G.1.1
   have g0: ∀(N k:Nat),l.length-k<N-> ∃r,sk m N l (k:Int)=some r:=by
    intro N;induction N with
    |zero=>intro k h;omega
    |succ N ih=>
     intro k h;rw[sk,bQ];by_cases J:k<l.length
     . rw[iP O,iP O,bQ];split
       . exact⟨_,rfl⟩
       . rw[show wI ((k:Int)+1)=((k+1:Nat):Int)from ay O]
         exact ih (k+1) O
     . rw[ae O];exact⟨_,rfl⟩
   obtain⟨r,a0⟩:=g0 m 0 O;rw[nZ]at a0;rw[a0,bS]
   match r with
   | .inl z=>exact⟨_,rfl⟩
   | .inr (.inl z)=>exact⟨_,rfl⟩
   | .inr (.inr e)=>exact e.elim
  exact⟨l,e,d0,hF,he,λ_=>J⟩
end
end Go.Vs.F
