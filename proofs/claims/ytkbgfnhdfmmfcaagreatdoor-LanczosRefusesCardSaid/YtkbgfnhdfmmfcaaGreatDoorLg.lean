import Derived.Test.YtkbgfnhdfmmfcaaGreatDoorLf
set_option linter.unusedVariables false
set_option linter.unusedSimpArgs false
set_option maxRecDepth 100000
set_option linter.defProp false
namespace Go.Vs.F
def qe6 (m:Nat) (a:LI) (J:a.length<4611686018427387904): ∀(n k:Nat),a.length-k<n->
 ml m n a (k:Int)=some (bif ql (λi=>lp (a.getD i 0)) k a.length then .inr (.inl ())else .inl (false,()))
 |0,k,h=>O
 |n+1,k,h=>by rw[ml];by_cases G:k<a.length;{have u:((k:Int)<(a.length:Int)):=O;simp only[bQ,u,if_true,tN,RO,and_self,ax (show k<4611686018427387904 by omega),oH,bS];rw[qy G,qe6 m a J n (k+1) O];show(bif !(lp (a.getD k 0))then _ else _)=_;cases lp (a.getD k 0)<;>simp};{have u: ¬((k:Int)<(a.length:Int)):=O;simp only[bQ,u,if_false];rw[Q5 G];rfl}
def qnn {m:Nat} {a:LI} (h:a.length<m) (u:a.length<4611686018427387904):CK m a=some (nP a,(),()):=by rw[CK];have:=qe6 m a u m 0 O;simp only[RN,nZ,Rz]at this;rw[this];unfold nP;cases ql (λi=>lp (a.getD i 0)) 0 a.length<;>rfl
def q8d (m:Nat) (R C:Int) (c:Nat) (S I V:LI) (Q:C=(c:Int)) (hl:S.length=c+1) (K:c<4611686018427387904): ∀(n k:Nat),c-k<n->k<=c->
 mV m n R C S I V (k:Int)=some (bif ql (vR S) k c then .inr (.inl ((R,C,S,I,V,()),()))else .inl (1,()))
 |0,k,h,_=>O
 |n+1,k,h,h0=>by rw[mV];subst Q;by_cases J:k<c;{have u:((k:Int)<(c:Int)):=O;have h2:((k:Int)<(S.length:Int)):=O;have h3:(((k+1:Nat):Int)<(S.length:Int)):=O;simp only[bQ,u,h2,h3,if_true,tN,RO,and_self,ax (show k<4611686018427387904 by omega)];rw[q8d m R (c:Int) c S I V rfl hl K n (k+1) O O,qy J,vR];by_cases G:S.getD k 0>S.getD (k+1) 0;{have: ¬S.getD k 0<=S.getD (k+1) 0:=O;simp[-List.getD_eq_getElem?_getD,G,this]};{have:S.getD k 0<=S.getD (k+1) 0:=O;simp[-List.getD_eq_getElem?_getD,G,this]}};{have u: ¬((k:Int)<(c:Int)):=O;simp only[bQ,u,if_false];rw[Q5 J];rfl}
def q7a (m:Nat) (R C:Int) (c j:Nat) (S I V:LI) (hC:C=(c:Int)) (u:bL c S I) (hj:j<c) (hc:c<4611686018427387904) (hb:I.length<4611686018427387904): ∀(n k:Nat),(S.getD (j+1) 0).toNat-k<n->(S.getD j 0).toNat<=k->
 kd m n R C S I V (j:Int) (k:Int)=some (bif ql (nv R S I j) k (S.getD (j+1) 0).toNat then .inr (.inl ((R,C,S,I,V,()),(j:Int),()))else .inl (1,()))
 |0,k,h,_=>O
 |n+1,k,h,h0=>by rw[kd];subst hC;have hl:=u.len;have a:=u.rng (j:=j) O;have b:=u.rng (j:=j+1) O;have h2:((j:Int)<(S.length:Int)):=O;have h3:(((j+1:Nat):Int)<(S.length:Int)):=O;simp only[bQ,h2,h3,if_true,tN,RO,and_self,ax (show j<4611686018427387904 by omega)];by_cases hk:k<(S.getD (j+1) 0).toNat;{have J:((k:Int)<S.getD (j+1) 0):=O;have h4:((k:Int)<(I.length:Int)):=O;simp only[J,h4,if_true,and_self,ax (show k<4611686018427387904 by omega)];rw[q7a m R (c:Int) c j S I V rfl u hj hc hb n (k+1) O O,qy hk,nv];by_cases e1:I.getD k 0<0;{have G: ¬0<=I.getD k 0:=O;simp only[e1,G,if_true,decide_false,xh,cond_false]};{have G:0<=I.getD k 0:=O;by_cases e3:I.getD k 0>=R;{have e4: ¬I.getD k 0<R:=O;simp only[e1,G,e3,e4,if_true,if_false,decide_false,decide_true,xh,lr,cond_false]};{have e4:I.getD k 0<R:=O;simp only[e1,G,e3,e4,if_false,decide_true,lr];by_cases e5:(k:Int)>S.getD j 0;{have Q:(S.getD j 0).toNat<k:=O;have e7:(0:Int)<=((k-1:Nat):Int)/\((k-1:Nat):Int)<(I.length:Int):=O;simp only[e5,Q,if_true,decide_true,uw,Bool.false_or,E7 (show k<4611686018427387904 by omega) (show 0<k by omega),e7,and_self,tN];by_cases e8:I.getD k 0<=I.getD (k-1) 0;{have K: ¬I.getD (k-1) 0<I.getD k 0:=O;simp only[e8,K,if_true,decide_false,xh,cond_false]};{have K:I.getD (k-1) 0<I.getD k 0:=O;simp only[e8,K,if_false,decide_true,lr]}};{have Q: ¬(S.getD j 0).toNat<k:=O;simp only[e5,Q,if_false,decide_false,Bj,MA,lr]}}}};{have J: ¬((k:Int)<S.getD (j+1) 0):=O;simp only[J,if_false];rw[Q5 hk];rfl}
def q6y (m:Nat) (R C:Int) (c:Nat) (S I V:LI) (hC:C=(c:Int)) (u:bL c S I) (K:c<4611686018427387904) (Q:I.length<4611686018427387904) (hm:I.length<m): ∀(n k:Nat),c-k<n->k<=c->
 mU m n R C S I V (k:Int)=some (bif ql (λj=>Bw R S I j) k c then .inr (.inl ((R,C,S,I,V,()),()))else .inl (1,()))
 |0,k,h,_=>O
 |n+1,k,h,h0=>by rw[mU];subst hC;have hl:=u.len;by_cases G:k<c;{have J:((k:Int)<(c:Int)):=O;have h2:((k:Int)<(S.length:Int)):=O;have a:=u.rng (j:=k) O;have b:=u.rng (j:=k+1) O;have e:=q7a m R (c:Int) c k S I V rfl u G K Q m (S.getD k 0).toNat O (zJ _);rw[show(((S.getD k 0).toNat:Nat):Int)=S.getD k 0 by omega]at e;simp only[bQ,J,h2,if_true,tN,RO,and_self];rw[e,qy G];show _=some (bif (Bw R S I k&&_)then _ else _);rw[Bw];cases ql (nv R S I k) (S.getD k 0).toNat (S.getD (k+1) 0).toNat;{rfl};{simp only[cond_true,lr,bS,ax (show k<4611686018427387904 by omega)];exact q6y m R (c:Int) c S I V rfl u K Q hm n (k+1) O O}};{have J: ¬((k:Int)<(c:Int)):=O;simp only[bQ,J,if_false];rw[Q5 G];rfl}
def Xk {m:Nat} {R C:Int} {S I V:LI} (hV:V.length<m) (hm:11000<m) (hv:V.length<4611686018427387904):
 rK m R C S I V=some (chk R C S I V,(),()):=by rw[rK,chk];by_cases h1:0<=R;{have u: ¬R<0:=O;by_cases h2:R<=200;{have G: ¬R>200:=O;by_cases h3:0<=C;{have J: ¬C<0:=O;by_cases h4:C<=200;{have K: ¬C>200:=O;by_cases h5:I.length<=10000;{have Q: ¬(I.length:Int)>10000:=O;obtain⟨c,rfl⟩: ∃c:Nat,C=(c:Int):=⟨C.toNat,O⟩;simp only[bQ,h1,u,h2,G,h3,J,h4,K,h5,Q,if_false,decide_true,R4,Bool.true_eq_false,sW,aN,wi (show(-9223372036854775808:Int)<=(c:Int)+1 by omega) O,tN];by_cases g1:I.length=V.length;{have a0:(V.length:Int)=(I.length:Int):=O;simp only[a0,if_true];by_cases g2:(S.length:Int)=(c:Int)+1;{have hl:S.length=c+1:=O;have g3:(0:Int)<=0/\(0:Int)<(S.length:Int):=O;simp only[g2,if_true];rw[<-g2,iP g3];by_cases g4:S.getD 0 0=0;{have g5:(True/\(c:Int)<(S.length:Int)):=⟨trivial,O⟩;simp only[g4,if_true];rw[iP g5];by_cases g6:S.getD c 0=(I.length:Int);{simp only[g6,if_true];have e0:=q8d m R (c:Int) c S I V rfl hl O m 0 O O;simp only[RN,nZ,Rz]at e0;rw[e0];cases h7:ql (vR S) 0 c;{simp};{have b0:bL c S I:=⟨hl,g4,λj hj=>by{have:=qx.1 h7 j O hj;simpa [-List.getD_eq_getElem?_getD,vR]using this},g6⟩;have e1:=q6y m R (c:Int) c S I V rfl b0 O O O m 0 O O;simp only[RN,nZ,Rz]at e1;simp only[cond_true,bS];rw[e1];cases h8:ql (λj=>Bw R S I j) 0 c;{simp};{simp only[cond_true,bS,qnn hV hv,EN];cases nP V<;>simp[g1]}}};{simp[-List.getD_eq_getElem?_getD,g6]}};{simp[-List.getD_eq_getElem?_getD,g4]}};{simp[g2]}};{have a0: ¬(V.length:Int)=(I.length:Int):=O;simp[g1,a0]}};{have Q:(I.length:Int)>10000:=O;simp[u,G,J,K,h5,Q]}};{have K:C>200:=O;simp[u,G,J,h4,K]}};{have J:C<0:=O;simp[u,G,h3,J]}};{have G:R>200:=O;simp[u,h2,G]}};{have u:R<0:=O;simp[h1,u]}
section
variable {R C:Nat} {S I V:LI}
def q9o (m:Nat) (hM:cD R C S I) (hV:V.length=I.length) {j:Nat} (G:j<C): ∀(n k:Nat) (out:List (Int×Int×Int)),(S.getD (j+1) 0).toNat-k<n->out.length<=k->
 mR m n (R:Int) (C:Int) S I V out (j:Int) (k:Int)=some (.inl (((R:Int),(C:Int),S,I,V,()),out++Jw S I V j k (S.getD (j+1) 0).toNat,(j:Int),()))
 |0,k,out,h,_=>O
 |n+1,k,out,h,Q=>by have hl:=hM.st.len;have K:=hM.cz;have J:=hM.sz;have b:=hM.st.rng (j:=j+1) O;rw[mR];simp only[ax (show j<4611686018427387904 by omega),tN,bQ];rw[iP O];by_cases u:k<(S.getD (j+1) 0).toNat;{rw[iP O,iP O,iP O,iP (by simp;omega),qgc u];simp only[ax (show k<4611686018427387904 by omega)];rw[q9o m hM hV G n (k+1) _ O (by simp;omega)];simp};{rw[af O];rw[Jw,show(S.getD (j+1) 0).toNat-k=0 by omega];simp}
def q8v (m:Nat) (hm:20000<m) (hM:cD R C S I) (hV:V.length=I.length): ∀(d n k:Nat) (out:List (Int×Int×Int)),C-k=d->k<=C->d<n->out.length=(S.getD k 0).toNat->
 j5 m n (R:Int) (C:Int) S I V out (k:Int)=some (.inl (out++ents S I V d k,()))
 |0,n,k,out,Q,u,hn,J=>by{obtain⟨n,rfl⟩: ∃n',n=n'+1:=⟨n-1,O⟩;rw[j5,bQ,af O];simp[ents]}
 |d+1,n,k,out,Q,u,hn,J=>by have hl:=hM.st.len;have a0:=hM.cz;have K:=hM.sz;have G:k<C:=O;have a:=hM.st.rng (j:=k) O;have b:=hM.st.rng (j:=k+1) O;have dd:=hM.st.mono k G;obtain⟨n,rfl⟩: ∃n',n=n'+1:=⟨n-1,O⟩;have e:=q9o (V:=V) m hM hV G m (S.getD k 0).toNat out O O;rw[show(((S.getD k 0).toNat:Nat):Int)=S.getD k 0 by omega]at e;rw[j5,bQ,iP O,iP O];simp only[tN];rw[e];simp only[bS,ax (show k<4611686018427387904 by omega)];rw[q8v m hm hM hV d n (k+1) _ O O O (by rw[zG,q8w];omega),ents];simp
def q9j {m:Nat} (hm:20000<m) (hM:cD R C S I) (hV:V.length=I.length) (G:chk (R:Int) (C:Int) S I V=0):yV m (R:Int) (C:Int) S I V=some (ents S I V C 0,(),()):=by have u:=hM.sz;rw[yV,Xk O O O,G];have:=q8v (V:=V) m hm hM hV C m 0 [] O O (by have:=hM.cz;omega) (by rw[hM.st.s0];rfl);simp only[RN,nZ,Rz,vE]at this;simp only[bS,aN,if_true,this]
end
section
variable {es:List eW} {r c:Nat}
def qoi (m:Nat) (hE:xy r c es) (hr:r<=200) (hc:c<=200) (hl:es.length<=1000000) (a0 a1:Int) (a2 a3 a4:LI) (b0 b1:Int) (b2 b3 b4:LI): ∀(n k:Nat) (pos:LI),es.length-k<n->k<=es.length->pos.length=r*c->
 (∀i j,i<r->j<c->pos.getD (j*r+i) 0=(Jp es i j k:Int))->
 ∃pos',mQ m n (r:Int) (c:Int) es a0 a1 a2 a3 a4 b0 b1 b2 b3 b4 pos (k:Int)=some (.inl ((r:Int),(c:Int),es,(a0,a1,a2,a3,a4,()),(b0,b1,b2,b3,b4,()),pos',()))/\pos'.length=r*c/\ ∀i j,i<r->j<c->pos'.getD (j*r+i) 0=(Jp es i j es.length:Int)
 |0,k,pos,hn,_,_,_=>absurd hn (zA _)
 |n+1,k,pos,hn,hk,hp,hq=>by rw[mQ];by_cases h:k<es.length;{have h1:(k:Int)<(es.length:Int):=O;obtain⟨⟨g1,g2⟩,⟨g3,g4⟩,_⟩:=hE k h;obtain⟨G,K⟩: ∃G:Nat,(es.getD k (0,(0,0))).1=(G:Int):=⟨_,(Int.toNat_of_nonneg g1).symm⟩;obtain⟨u,J⟩: ∃u:Nat,(es.getD k (0,(0,0))).2.1=(u:Int):=⟨_,(Int.toNat_of_nonneg g3).symm⟩;have hi:G<r:=O;have hj:u<c:=O;have e0:=cell hi hj;rw[bQ,iP h1];simp only[tN,K,J,wI,Fa hr hc hi hj,ax (k:=k) O,zH];rw[iP (inr h),iP (inr h),iP O];refine qoi m hE hr hc hl a0 a1 a2 a3 a4 b0 b1 b2 b3 b4 n (k+1) _ O O (by simp[hp]) ?_;intro i j Q d0;rw[Jp,K,J];by_cases he:u*r+G=j*r+i;{obtain⟨e1,e2⟩:=qp8 hi Q he;subst e1;subst e2;rw[q76 O,iP ⟨rfl,rfl⟩]};{rw[bu he,af,hq i j Q d0];rintro ⟨e1,e2⟩;exact he (by rw[show G=i by omega,show u=j by omega])}};{have h1: ¬(k:Int)<(es.length:Int):=O;have c0:k=es.length:=O;simp only[bQ,h1,if_false];exact⟨pos,rfl,hp,λi j hi hj=>by rw[hq i j hi hj,c0]⟩}
def US (m:Nat) (hr:r<=200) (hc:c<=200) (hl:es.length<=1000000) (a0 a1:Int) (a2 a3 Q:LI) (K J:Int) (S:LI) {pos:LI} (hp:pos.length=r*c)
 (hq: ∀i j,i<r->j<c->pos.getD (j*r+i) 0=(Jp es i j es.length:Int)) {j:Nat} (G:j<c): ∀(d n i:Nat) (I V:LI),d<n->r-i=d->i<=r->I.length+d<=1000000->V.length+d<=1000000->
 iL m n (r:Int) (c:Int) es a0 a1 a2 a3 Q K J S I V pos (j:Int) (i:Int)=some (.inl ((r:Int),(c:Int),es,(a0,a1,a2,a3,Q,()),(K,J,S,I++gx es j i d,V++ud es j i d,()),pos,(j:Int),()))
 |d,0,i,I,V,hn,_,_,_,_=>absurd hn (zA _)
 |0,n+1,i,I,V,hn,hd,hi,hI,hV=>by{rw[iL];have h1: ¬(i:Int)<(r:Int):=O;simp[bQ,h1,gx,ud,jy]}
 |d+1,n+1,i,I,V,hn,hd,hi,hI,hV=>by rw[iL];have u:i<r:=O;have h1:(i:Int)<(r:Int):=O;have c0:=cell u G;have hle:=Wm es i j es.length;rw[bQ,iP h1];simp only[bQ,tN,wI,Fa hr hc u G,ax (k:=i) O,zH,hq i j u G];rw[iP O];by_cases hx:0<Jp es i j es.length;{have h2:(Jp es i j es.length:Int)>0:=O;have h3:I.length+([(i:Int)]:LI).length<=1073741824:=by{simp;omega};rw[iP h2,iP h3,E7 O hx,tN];have h4: ∀x:Int,V.length+([x]:LI).length<=1073741824:=by{intro x;simp;omega};rw[iP O,iP (h4 _)];rw[US m hr hc hl a0 a1 a2 a3 Q K J S hp hq G d n (i+1) _ _ O O O (by simp;omega) (by simp;omega)];have e1:jy es j i (d+1)=i::jy es j (i+1) d:=by{unfold jy;rw[MJ,Lv,iP (by simpa using hx)]};simp only[gx,ud,e1,sP,py,xc]};{have h2: ¬(Jp es i j es.length:Int)>0:=O;rw[af h2];rw[US m hr hc hl a0 a1 a2 a3 Q K J S hp hq G d n (i+1) _ _ O O O O O];have e1:jy es j i (d+1)=jy es j (i+1) d:=by{unfold jy;rw[MJ,Lv,af (by simpa using hx)]};simp only[gx,ud,e1]}
def qmt (m:Nat) (hm:300<m) (hr:r<=200) (hc:c<=200) (hl:es.length<=1000000) (a0 a1:Int) (Q K J:LI) (G u:Int) {pos:LI} (hp:pos.length=r*c)
 (hq: ∀i j,i<r->j<c->pos.getD (j*r+i) 0=(Jp es i j es.length:Int)): ∀(d n j:Nat),d<n->c-j=d->j<=c->
 j3 m n (r:Int) (c:Int) es a0 a1 Q K J G u (dc es r j) (b7 es r j) (eh es r j) pos (j:Int)=some (.inl ((a0,a1,Q,K,J,()),(G,u,dc es r c,b7 es r c,eh es r c,()),()))
 |d,0,j,hn,_,_=>absurd hn (zA _)
 |0,n+1,j,hn,hd,hj=>by{rw[j3];have h1: ¬(j:Int)<(c:Int):=O;have:j=c:=O;subst this;simp[bQ]}
 |d+1,n+1,j,hn,hd,hj=>by rw[j3];have c0:j<c:=O;have h1:(j:Int)<(c:Int):=O;have l1:=Wl es r j;have l2:=Tp es r j;have l3:j*r<=40000:=Lq (r:=j) (c:=r) O hr;have:=US m hr hc hl a0 a1 Q K J G u (dc es r j) hp hq c0 r m 0 (b7 es r j) (eh es r j) O O O O O;simp only[nZ]at this;simp only[bQ,h1,if_true,this,bS];have h3: ∀x:Int,(dc es r j).length+([x]:LI).length<=1073741824:=by{intro x;simp[dc];omega};rw[iP (h3 _),show wI ((j:Int)+1)=((j+1:Nat):Int)from ax O];have e:=qmt m hm hr hc hl a0 a1 Q K J G u hp hq d n (j+1) O O O;rw[qke]at e;simp only[b7,eh]at e;exact e
def qtu {m:Nat} (hE:xy r c es) (u:r<=200) (G:c<=200) (hl:es.length<=1000000) (hm:1000300<m):
 DA m (r:Int) (c:Int) es=some (((r:Int),(c:Int),dc es r c,b7 es r c,eh es r c,()),(),(),(),()):=by have ha:=Lq u G;have e:(r:Int)*(c:Int)=((r*c:Nat):Int):=(sG r c).symm;rw[DA];simp only[wI,e];rw[wi (n:=((r*c:Nat):Int)) O O,iP O,tN];obtain⟨pos,J,h2,h3⟩:=qoi m hE u G hl 0 0 [] [] [] (r:Int) (c:Int) [0] [] [] m 0 (List.replicate (r*c) 0) O O (by simp) (by{intro i j Q K;rw[Xg (cell Q K)];rfl});simp only[nZ]at J;rw[J];simp only[bS];have:=qmt m O u G hl 0 0 [] [] [] (r:Int) (c:Int) h2 h3 c m 0 O O O;simp only[nZ,b7,eh]at this;rw[show([0]:LI)=dc es r 0 from rfl,this];rfl
end
end Go.Vs.F
set_option maxRecDepth 100000
namespace Go.Vs.F
def jL {l x:LI} {k:Nat} (h:k<l.length):(l++x).getD k 0=l.getD k 0:=by simp[List.getD,List.getElem?_append_left h]
def lP {l x:LI} {k:Nat} (h:l.length<=k):(l++x).getD k 0=x.getD (k-l.length) 0:=by simp[List.getD,List.getElem?_append_right h]
def qtm {l x:LI} (h:bY l) (h':bY x):bY (l++x):=by intro i u;rw[zG]at u;by_cases c:i<l.length;{rw[jL c];exact h i c};{rw[lP O];exact h' _ O}
structure CX (i:Nat) (X Y:LI):Prop where
 yl:Y.length=X.length
 fn:bY Y
 sz:X.length<=i
 row: ∀k,k<X.length->0<=X.getD k 0/\X.getD k 0<(i:Int)/\(0<k->X.getD (k-1) 0<X.getD k 0)
def CX.nil:CX 0 [] []:=⟨rfl,NA,zJ _,λk h=>absurd h (zA _)⟩
def CX.skip {i:Nat} {X Y:LI} (h:CX i X Y):CX (i+1) X Y:=⟨h.yl,h.fn,by have:=h.sz;omega,λk u=>by have:=h.row k u;exact⟨this.1,O,this.2.2⟩⟩
def CX.snoc {i:Nat} {X Y:LI} (h:CX i X Y) {f:Int} (K:cd f) (h2:aU f):CX (i+1) (X++[(i:Int)]) (Y++[f]):=by refine⟨by simp[h.yl],Th h.fn K h2,by have:=h.sz;simp;omega,λk J=> ?_⟩;rw[zG]at J;have Q:([(i:Int)]:LI).length=1:=rfl;by_cases c:k<X.length;{have:=h.row k c;rw[jL c];exact⟨this.1,O,λG=>by rw[jL O];exact this.2.2 G⟩};{have u:k=X.length:=O;subst u;rw[lP (zJ _),xe];refine⟨by show(0:Int)<=i;omega,by show(i:Int)<((i+1:Nat):Int);omega,λG=> ?_⟩;rw[jL O];exact(h.row _ O).2.1}
structure GI (R j:Nat) (S I V:LI):Prop where
 st:bL j S I
 col: ∀t,t<j-> ∀k,(S.getD t 0).toNat<=k->k<(S.getD (t+1) 0).toNat->0<=I.getD k 0/\I.getD k 0<(R:Int)/\((S.getD t 0).toNat<k->I.getD (k-1) 0<I.getD k 0)
 vl:V.length=I.length
 fn:bY V
 sz:I.length<=j*R
def GI.nil {R:Nat}:GI R 0 [0] [] []:=⟨⟨rfl,rfl,λj h=>absurd h (zA _),rfl⟩,λt h=>absurd h (zA _),rfl,NA,oX _⟩
def GI.snoc {R j:Nat} {S I V X Y:LI} (h:GI R j S I V) (K:CX R X Y):GI R (j+1) (S++[((I++X).length:Int)]) (I++X) (V++Y):=by have hl:=h.st.len;have hlast:=h.st.last;have h0:=h.st.s0;have s1:=K.sz;have ea:(I++X).length=I.length+X.length:=zG;have J: ∀t,t<=j->(S++[((I++X).length:Int)]).getD t 0=S.getD t 0:=λt ht=>jL O;have Q:(S++[((I++X).length:Int)]).getD (j+1) 0=((I++X).length:Int):=by{rw[lP O,show j+1-S.length=0 by omega];rfl};refine⟨⟨by simp[hl],by rw[J 0 O];exact h0,λt ht=> ?_,Q⟩,λt ht k u G=> ?_,by simp[h.vl,K.yl],qtm h.fn K.fn,?_⟩;{by_cases c:t<j;{rw[J t O,J (t+1) O];exact h.st.mono t c};{have:t=j:=O;subst this;rw[J t (zJ _),Q,hlast,ea];omega}};{by_cases c:t<j;{rw[J t O]at u⊢;rw[J (t+1) O]at G;have:=h.st.le (i:=t+1) (j:=j) O (zJ _);rw[jL O];have q:=h.col t c k u G;exact⟨q.1,q.2.1,λhs=>by rw[jL O];exact q.2.2 hs⟩};{have:t=j:=O;subst this;rw[J t (zJ _)]at u⊢;rw[Q]at G;rw[hlast]at u⊢;rw[lP O];have q:=K.row (k-I.length) O;refine⟨q.1,q.2.1,λhs=> ?_⟩;rw[lP O,show k-1-I.length=k-I.length-1 by omega];exact q.2.2 O}};{have:=h.sz;rw[ea,MI];omega}
def GI.mat {R C:Nat} {S I V:LI} (h:GI R C S I V) (hR:R<=100) (Q:C<=100):cD R C S I:=by have:C*R<=100*100:=pw Q hR;have:=h.sz;refine⟨h.st,λj K=> ?_,O,O,O⟩;unfold Bw;rw[qx];intro k h1 h2;obtain⟨G,u,J⟩:=h.col j K k h1 h2;unfold nv;by_cases c:(S.getD j 0).toNat<k;{simp only[G,u,c,J c,decide_true,R4,uw,AS]};{simp only[G,u,c,decide_true,decide_false,R4,Bj,MA]}
section
variable {m:Nat} (hm:5000000000<=m) {raw:LI} (hl:raw.length<=9223372036854775807) {R C:Nat} (hR:R<=100) (style:Int)
include hm hl hR
theorem qk3 (a0 a1 J G:Int) (a2 a3 Q S I V:LI) (j:Int) (hI:I.length<=100000) (hV:V.length=I.length): ∀(N i:Nat) (X Y:LI),R-i<N->i<=R->CX i X Y->
 ∃X' Y',CX R X' Y'/\oL m N raw (R:Int) (C:Int) style a0 a1 a2 a3 Q J G S (I++X) (V++Y) j (i:Int)=some (.inl (raw,(R:Int),(C:Int),style,(a0,a1,a2,a3,Q,()),(J,G,S,I++X',V++Y',()),j,())):=by intro N;induction N with|zero=>{intro i X Y h;omega}|succ N K=>{intro i X Y h hi u;rw[oL,bQ];by_cases c:i<R;{obtain⟨w,ew,hw⟩:=SX m hl (wI ((wI (100+(wI (j*(R:Int)))))+(i:Int)));rw[iP O,ew,bS,bQ,wQ (n:=(i:Int)+1),ax O];have s1:=u.sz;have s2:=u.yl;split;{obtain⟨f,ef,h1,h2⟩:=qr0 hm hw style;rw[iP (by rw[zG];show _+1<=_;omega)];dsimp only;rw[ef,bS,iP (by rw[zG];show _+1<=_;omega),py,py];exact K (i+1) _ _ O O (u.snoc h1 h2)};{exact K (i+1) _ _ O O u.skip}};{have:i=R:=O;subst this;rw[af O];exact⟨X,Y,u,rfl⟩}}
theorem qka (hC:C<=100) (a0 a1 J G:Int) (a2 Q K:LI): ∀(N j:Nat) (S I V:LI),C-j<N->j<=C->GI R j S I V->
 ∃S' I' V',GI R C S' I' V'/\rp m N raw (R:Int) (C:Int) style a0 a1 a2 Q K J G S I V (j:Int)=some (.inl ((a0,a1,a2,Q,K,()),(J,G,S',I',V',()),())):=by intro N;induction N with|zero=>{intro j S I V h;omega}|succ N ih=>{intro j S I V h hj u;rw[rp,bQ];by_cases c:j<C;{have s1:=u.sz;have:j*R<=100*100:=pw O hR;obtain⟨X,Y,hX,e⟩:=qk3 hm hl hR (C:=C) style a0 a1 J G a2 Q K S I V (j:Int) O u.vl m 0 [] [] O O CX.nil;rw[ls,ls,nZ]at e;rw[iP O,e,bS];dsimp only;have hS:=u.st.len;rw[iP (by show _+1<=_;omega),wQ,ax O];exact ih (j+1) _ _ _ O O (u.snoc hX)};{have:j=C:=O;subst this;rw[af O];exact⟨S,I,V,u,rfl⟩}}
theorem q9f (G:C<=100): ∃S I V,GI R C S I V/\O2 m raw (R:Int) (C:Int) style=some (((R:Int),(C:Int),S,I,V,()),(),(),(),(),()):=by obtain⟨S,I,V,u,e⟩:=qka hm hl hR (C:=C) style G 0 0 (R:Int) (C:Int) [] [] [] m 0 [0] [] [] O O GI.nil;rw[nZ]at e;exact⟨S,I,V,u,by rw[O2,e,bS]⟩
end
end Go.Vs.F
set_option linter.unusedSectionVars false
set_option maxRecDepth 100000
namespace Go.Vs.F
def qmi {es:List eW} {k:Nat} (h:k<es.length):es.getD k zE∈es:=by simp[List.getD,h]
def qjn {r c:Nat} {es:List eW} (h: ∀e∈es,(0<=e.1/\e.1<(r:Int))/\(0<=e.2.1/\e.2.1<(c:Int))/\lp e.2.2=true):xy r c es:=λk u=>h _ (qmi u)
def qk2 {r c:Nat} {es:List eW} (h:xy r c es): ∀e∈es,(0<=e.1/\e.1<(r:Int))/\(0<=e.2.1/\e.2.1<(c:Int))/\lp e.2.2=true:=λe he=>by obtain⟨k,u,rfl⟩:=Vq he;exact h k u
structure MV (R C:Nat) (S I V:LI):Prop where
 ok:cD R C S I
 vl:V.length=I.length
 chk:chk (R:Int) (C:Int) S I V=0
section
variable {R C:Nat} {S I V:LI}
def MV.ents (h:MV R C S I V):xy R C (ents S I V C 0):=by obtain⟨_,_,_,_,_,_,u⟩:=So h.chk;exact qtb h.ok h.vl u
def MV.dist (h:MV R C S I V):AQ (Go.Vs.F.ents S I V C 0):=q5b (We h.ok C 0 O)
def MV.len (h:MV R C S I V):(Go.Vs.F.ents S I V C 0).length<=10000:=by rw[qi9 h.ok C 0 O O];have:=h.ok.st.rng (j:=C) (zJ _);have:=h.ok.sz;omega
def MV.sl (h:MV R C S I V):S.length<=201:=by have:=h.ok.st.len;have:=h.ok.cz;omega
def jb (e:eW):Bool:=decide (e.1>=e.2.1)
def q2q {es:List eW} {k:Nat} (u:k<es.length):es.take (k+1)=es.take k++[es.getD k zE]:=by rw[RJ];congr 1;rw[List.getElem?_eq_getElem u,List.getD,List.getElem?_eq_getElem u];rfl
def qf8 {es:List eW} {p:eW->Bool} {k:Nat} (u:k<es.length):(es.take (k+1)).filter p=(es.take k).filter p++(if p (es.getD k zE)then [es.getD k zE]else []):=by rw[q2q u,List.filter_append,Lv];split<;>rfl
def qjp {es:List eW} {p:eW->Bool} {k:Nat}:((es.take k).filter p).length<=k:=by have h:=MC p (es.take k);rw[zU]at h;omega
def MV.filter (h:MV R C S I V) (p:eW->Bool):xy R C ((Go.Vs.F.ents S I V C 0).filter p)/\AQ ((Go.Vs.F.ents S I V C 0).filter p)/\((Go.Vs.F.ents S I V C 0).filter p).length<=10000:=by refine⟨qjn λe he=>qk2 h.ents e (IC.1 he).1,q5b ((We h.ok C 0 O).filter _),zf (MC ..) h.len⟩
end
def GI.MV {R C:Nat} {S I V:LI} (h:GI R C S I V) (hR:R<=100) (J:C<=100):MV R C S I V:=by have hM:=h.mat hR J;refine⟨hM,h.vl,?_⟩;have hz:=hM.sz;have Q:(decide (0<=(R:Int))&&decide ((R:Int)<=200)&&decide (0<=(C:Int))&&decide ((C:Int)<=200)&&decide (I.length<=10000))=true:=by{simp only[zM,decide_eq_true_eq];omega};have h2:sW (R:Int) (C:Int) S I V=true:=by{unfold sW;have a1:((S.length:Int)=(C:Int)+1):=by{have:=hM.st.len;omega};have a2:=hM.st.s0;have a3:ql (vR S) 0 (C:Int).toNat=true:=qx.2 λk _ G=>decide_eq_true (hM.st.mono k O);have a4:S.getD (C:Int).toNat 0=(I.length:Int):=hM.st.last;have a6:ql (λj=>Bw (R:Int) S I j) 0 (C:Int).toNat=true:=qx.2 λk _ G=>hM.ent k O;simp only[a1,a2,a3,a4,a6,h.vl,decide_true,R4]};have K:nP V=true:=by{unfold nP;exact qx.2 λk _ G=>by{obtain⟨u,f⟩:=h.fn k G;rw[ql3 u];exact decide_eq_true f}};unfold chk;rw[Q,h2,K];rfl
def jx (I V:LI) (i:Int):Nat->Nat->Option Int
 |0,_=>none
 |d+1,k=>if I.getD k 0=i then some (V.getD k 0)else jx I V i d (k+1)
def Rn (S I V:LI) (i j:Nat):Int:=(jx I V (i:Int) ((S.getD (j+1) 0).toNat-(S.getD j 0).toNat) (S.getD j 0).toNat).getD 0
section
variable {R C:Nat} {S I V:LI}
def IB (m:Nat) {i:Int} {j:Nat} (hj:j+1<S.length) (u:j<4611686018427387903) {e:Nat} (he:S.getD (j+1) 0=(e:Int)) (hI:e<=I.length) (K:V.length=I.length) (hb:I.length<=100000) (J G:Int): ∀(n k:Nat),e-k<n->k<=e->
 oD m n i (j:Int) J G S I V (k:Int)=some (match jx I V i (e-k) k with|some v=> .inl (v,())|none=> .inr (.inl ()))
 |0,k,h,_=>O
 |n+1,k,h,Q=>by have w:wI ((j:Int)+1)=((j+1:Nat):Int):=ax O;rw[oD,w,iP O,tN,he,bQ];by_cases hk:k<e;{rw[iP O,iP O,tN,aA,show e-k=e-(k+1)+1 by omega,jx];by_cases c:I.getD k 0=i;{rw[iP c,iP O,iP c]};{rw[af c,show wI ((k:Int)+1)=((k+1:Nat):Int)from ax O,af c];exact IB m hj u he hI K hb J G n (k+1) O O}};{rw[af O,show e-k=0 by omega,jx]}
def AR {m:Nat} (hm:3000000<m) (h:MV R C S I V) {i j:Nat} (hj:j<C):JX m (R:Int) (C:Int) S I V (i:Int) (j:Int)=some (Rn S I V i j,(),(),(),()):=by have hl:=h.ok.st.len;have K:=h.ok.sz;have a0:=h.ok.cz;have gk:=h.vl;have a:=h.ok.st.rng (j:=j) O;have b:=h.ok.st.rng (j:=j+1) O;have mo:=h.ok.st.mono j hj;have c1:(0:Int)<=(j:Int)/\(j:Int)<(S.length:Int):=O;have e1:S.getD j 0=(((S.getD j 0).toNat:Nat):Int):=O;have Q:=IB (S:=S) (I:=I) (V:=V) m (i:=(i:Int)) (j:=j) O O (e:=(S.getD (j+1) 0).toNat) O O gk O (R:Int) (C:Int) m (S.getD j 0).toNat O O;have u:JX m (R:Int) (C:Int) S I V (i:Int) (j:Int)=(oD m m (i:Int) (j:Int) (R:Int) (C:Int) S I V (((S.getD j 0).toNat:Nat):Int)).bind λJ=>match J with| .inl G=>some (G.1,((),(),(),()))| .inr (.inl z4)=>some (0,((),(),(),()))| .inr (.inr e)=>e.elim:=by{rw[JX,Xk O O O,h.chk];simp only[bS,aN,if_true,bQ];rw[af O,af O,iP c1,tN,<-e1];rfl};rw[u,Q,Rn];cases jx I V (i:Int) ((S.getD (j+1) 0).toNat-(S.getD j 0).toNat) (S.getD j 0).toNat<;>rfl
end
section
variable {R C:Nat} {S I V:LI}
def qic (m:Nat) (r c:Int) (S I V:LI) (b0 b1:Int) (b2 b3 Q:LI) {es:List eW} (hl:es.length<=100000): ∀(n k:Nat),es.length-k<n->k<=es.length->
 ko m n r c S I V b0 b1 b2 b3 Q ((es.take k).filter jb) es (k:Int)=some (.inl ((r,c,S,I,V,()),(b0,b1,b2,b3,Q,()),es.filter jb,()))
 |0,k,h,_=>absurd h (zA _)
 |n+1,k,h,a0=>by rw[ko];by_cases hk:k<es.length;{have K:((k:Int)<(es.length:Int)):=O;have c1:(0:Int)<=(k:Int)/\(k:Int)<(es.length:Int):=O;have hlen:=qjp (es:=es) (p:=jb) (k:=k);have c2: ∀y:eW,((es.take k).filter jb).length+([y]:List eW).length<=1073741824:=λy=>by{show _+1<=_;omega};have G:=qic m r c S I V b0 b1 b2 b3 Q hl n (k+1) O O;rw[qf8 hk]at G;simp only[bQ,K,if_true,c1,c2,and_self,tN,zH,wQ,ax (show k<4611686018427387904 by omega)];by_cases J:(es.getD k zE).1>=(es.getD k zE).2.1;{have u:jb (es.getD k zE)=true:=decide_eq_true J;rw[iP u]at G;rw[iP J];exact G};{have u: ¬jb (es.getD k zE)=true:=λh=>J (of_decide_eq_true h);rw[af u,ls]at G;rw[af J];exact G}};{have K: ¬((k:Int)<(es.length:Int)):=O;simp only[bQ,K,if_false];rw[uo O]}
def qqu {m:Nat} (hm:3000000<m) (h:MV R C S I V):
 r9 m (R:Int) (C:Int) S I V=some ((((R:Int),(C:Int),dc ((ents S I V C 0).filter jb) R C,b7 ((ents S I V C 0).filter jb) R C,eh ((ents S I V C 0).filter jb) R C,()),0,()),(),()):=by obtain⟨hE,hD,hfl⟩:=h.filter jb;have hsz:=h.ok.sz;have hl:=h.len;have hv:=h.vl;have hs:=h.sl;have i2:=qic m (R:Int) (C:Int) S I V 0 0 [] [] [] (es:=ents S I V C 0) O m 0 O O;simp only[sC,List.filter_nil,nZ]at i2;rw[r9,Xk O O O,h.chk];simp only[bS,aN,if_true];rw[q9j O h.ok h.vl h.chk];simp only[bS,i2];rw[qtu hE h.ok.rz h.ok.cz O O];rfl
def qpx (h:MV R C S I V) (hs:C*R<=10000):MV R C (dc ((ents S I V C 0).filter jb) R C) (b7 ((ents S I V C 0).filter jb) R C) (eh ((ents S I V C 0).filter jb) R C):=by obtain⟨G,J,u⟩:=h.filter jb;exact⟨qll h.ok.rz h.ok.cz hs,Tp _ _ _,qp2 G h.ok.rz h.ok.cz hs⟩
end
def nL (o:List Nat):LI:=o.map λk:Nat=>(k:Int)
def ZL {o:List Nat}:(nL o).length=o.length:=by unfold nL;rw[zh]
def qpi {o:List Nat} {n k:Nat} (h:o.Perm (List.range n)):(o.take k++[n]++o.drop k).Perm (List.range (n+1)):=by have u:(o.take k++[n]++o.drop k).Perm (n::o):=by{rw[py,xc];refine List.perm_middle.trans ?_;rw[vD]};rw[AW];exact u.trans ((List.Perm.cons n h).trans (List.perm_append_singleton n (List.range n)).symm)
def qua {o:List Nat} {k:Nat}:(nL o).take k=nL (o.take k):=by unfold nL;rw[List.map_take]
def qtn {o:List Nat} {k:Nat}:(nL o).drop k=nL (o.drop k):=by unfold nL;rw[List.map_drop]
def ZO {a b:List Nat}:nL a++nL b=nL (a++b):=by unfold nL;rw[sF]
section
variable {m:Nat} (hm:5000000000<=m) {raw:LI} (hl:raw.length<=9223372036854775807) {n:Nat} (hn:n<=100)
include hm hl hn
theorem qq9: ∀(N i:Nat) (o:List Nat),n-i<N->i<=n->o.Perm (List.range i)-> ∃G:List Nat,G.Perm (List.range n)/\rA m N raw (n:Int) (nL o) (i:Int)=some (.inl (nL G,())):=by intro N;induction N with|zero=>{intro i o h;omega}|succ N Q=>{intro i o h hi u;have hol:o.length=i:=by{rw[u.length_eq,wY]};rw[rA,bQ];by_cases c:i<n;{obtain⟨w,ew,hw⟩:=SX m hl (wI (700+(i:Int)));obtain⟨a,ha,ea⟩:=Bt m (wI (aJ .u64 w 1)) (k:=i+1) O O;have J:wI ((i:Int)+1)=((i+1:Nat):Int):=ax O;rw[iP O,ew,bS];dsimp only;rw[J,ea,bS];dsimp only;have hL:(nL o).length=i:=by{rw[ZL,hol]};have e1:([]:LI)++((nL o).drop 0).take ((a:Int).toNat-0)++[(i:Int)]++((nL o).drop (0+(a:Int).toNat)).take ((nL o).length-(a:Int).toNat)=nL (o.take a++[i]++o.drop a):=by{rw[iX,Mz,tN,zH,vE,uo (l:=(nL o).drop a) (by rw[ix];omega),qua,qtn,show([(i:Int)]:LI)=nL [i]from rfl,ZO,ZO]};have K:(((nL o).drop 0).take ((a:Int).toNat-0)).length<=100:=by{rw[zU,ix];omega};have t2:(([]:LI)++((nL o).drop 0).take ((a:Int).toNat-0)).length<=100:=by{rw[vE];exact K};have t3:(([]:LI)++((nL o).drop 0).take ((a:Int).toNat-0)++[(i:Int)]).length<=101:=by{rw[zG];show _+1<=_;omega};have t4:(((nL o).drop (0+(a:Int).toNat)).take ((nL o).length-(a:Int).toNat)).length<=100:=by{rw[zU,ix];omega};rw[iP O,iP (by show 0+_<=_;omega),iP (by show _+1<=_;omega),iP O,iP O,e1];exact Q (i+1) _ O O (qpi u)};{have:i=n:=O;subst this;rw[af O];exact⟨o,u,rfl⟩}}
theorem qqa: ∃o:List Nat,o.Perm (List.range n)/\Pz m raw (n:Int)=some (nL o,(),(),()):=by obtain⟨o,u,e⟩:=qq9 hm hl hn m 0 [] O O (List.Perm.refl _);refine⟨o,u,?_⟩;rw[nZ]at e;rw[Pz,show([]:LI)=nL []from rfl,e,bS]
end
end Go.Vs.F
set_option maxRecDepth 100000
namespace Go.Vs.F
def qdo {I V:LI} {i:Int}: ∀{d k:Nat} {v:Int},jx I V i d k=some v-> ∃t,k<=t/\t<k+d/\V.getD t 0=v
 |0,k,v,h=>by cases h
 |d+1,k,v,h=>by rw[jx]at h;split at h;{injection h with h;exact⟨k,O,O,h⟩};{obtain⟨t,G,h2,u⟩:=qdo h;exact⟨t,O,O,u⟩}
def Az {R C:Nat} {S I V:LI} (h:MV R C S I V) (hV:UL V) {i j:Nat} (K:j<C):cd (Rn S I V i j)/\aU (Rn S I V i j):=by unfold Rn;cases Q:jx I V (i:Int) ((S.getD (j+1) 0).toNat-(S.getD j 0).toNat) (S.getD j 0).toNat with|none=>{exact⟨Ff,by unfold aU;decide⟩}|some v=>{obtain⟨t,h1,h2,h3⟩:=qdo Q;have a:=h.ok.st.rng (j:=j+1) O;have b:=h.ok.st.rng (j:=j) O;have c:=h.ok.st.mono j K;have hl:=h.vl;have G:t<V.length:=O;obtain⟨_,_,_,_,_,_,u⟩:=So h.chk;have J:=qx.1 u t O G;rw[ql3 (hV t G)]at J;rw[xj,<-h3];exact⟨hV t G,of_decide_eq_true J⟩}
section
variable {m:Nat} (hm:5000000000<=m) {R C:Nat} {S I V:LI} (hM:MV R C S I V)
include hm hM
theorem qe5 {i j:Nat} (G:j<C): ∀(N k:Nat),(S.getD (j+1) 0).toNat-k<N->
 ∃r,qL m N (i:Int) (j:Int) (R:Int) (C:Int) S I V (k:Int)=some r
 |0,k,h=>absurd h (zA _)
 |N+1,k,h=>by have hl:=hM.ok.st.len;have K:=hM.ok.cz;have J:=hM.ok.sz;have a:=hM.ok.st.rng (j:=j+1) O;have w:wI ((j:Int)+1)=((j+1:Nat):Int):=ax O;rw[qL,w,iP O,tN,bQ];by_cases u:(k:Int)<S.getD (j+1) 0;{rw[iP u,iP O,aA];split;{exact⟨_,rfl⟩};{rw[show wI ((k:Int)+1)=((k+1:Nat):Int)from ax O];exact qe5 G N (k+1) O}};{rw[af u];exact⟨_,rfl⟩}
theorem qm5 {i j:Nat} (J:i<R) (u:j<C): ∃b,TW m (R:Int) (C:Int) S I V (i:Int) (j:Int)=some (b,(),(),(),()):=by have hl:=hM.ok.st.len;have K:=hM.ok.cz;have G:=hM.ok.sz;have a:=hM.ok.st.rng (j:=j) O;have b:=hM.ok.st.rng (j:=j+1) O;obtain⟨r,e⟩:=qe5 hm hM (i:=i) u m (S.getD j 0).toNat O;rw[show(((S.getD j 0).toNat:Nat):Int)=S.getD j 0 by omega]at e;rw[TW,bQ,af O,bQ,af O,bQ,af O,bQ,af O,iP O,tN,e,bS];match r with| .inl z=>exact⟨_,rfl⟩| .inr (.inl z)=>exact⟨_,rfl⟩| .inr (.inr e)=>exact e.elim
end
def X1 {f:Int} (h:aU f):aE ((aM f).natAbs:Int) (-1074)=aE (sc ((aM f).natAbs:Int) (-1074) (-2148)) (-2148):=(A1 O).symm
def qul {f:Int} (h:aU f):bX (sc ((aM f).natAbs:Int) (-1074) (-2148)) (-2148):=by have u:=ql8 (cf h);unfold bX at*;rwa [A1 O]
structure GW (S I V:LI) (a b:Nat):Prop where
 sl:S.length<=a
 il:I.length<=b
 vl:V.length=I.length
 u:UL V
def qmy {l:LI} (h:UL l) {f:Int} (G:cd f):UL (l++[f]):=λi u=>by by_cases c:i<l.length;{rw[jL c];exact h i c};{rw[lP O];rw[zG,zL]at u;rw[show i-l.length=0 by omega];exact G}
def GW.snoc {S I V:LI} {a b:Nat} (h:GW S I V a b) {i f:Int} (u:cd f):GW S (I++[i]) (V++[f]) a (b+1):=
 ⟨h.sl,by have:=h.il;simp;omega,by simp[h.vl],qmy h.u u⟩
section
variable {m:Nat} (hm:5000000000<=m) {n:Nat} (hn:n<=100) {S I V:LI} (hM:MV n n S I V) (hV:UL V)
include hm hn hM hV
theorem Ul (a0 a1 b0 b1:Int) (a2 a3 a4 b2 Q K:LI) (G:Int) {i:Nat} (hi:i<n): ∀(N k:Nat) (s:List bJ) (t:Int),n-k<N->k<=n->DL s t (1+k)->
 ∃s' t',oK m N (n:Int) a0 a1 a2 a3 a4 (n:Int) (n:Int) S I V b0 b1 b2 Q K G (i:Int) s (k:Int)=some (.inl ((n:Int),(a0,a1,a2,a3,a4,()),((n:Int),(n:Int),S,I,V,()),(b0,b1,b2,Q,K,()),G,(i:Int),s',()))/\DL s' t' (1+n)
 |0,k,s,t,h,_,_=>absurd h (zA _)
 |N+1,k,s,t,h,c0,J=>by rw[oK,bQ];by_cases hk:k<n;{have w:wI ((k:Int)+1)=((k+1:Nat):Int):=ax O;rw[iP O,aN,w];by_cases c:k=i;{rw[iP O];exact Ul a0 a1 b0 b1 a2 a3 a4 b2 Q K G hi N (k+1) s t O O (J.mono O)};{have e1:(if(k:Int)>(i:Int)then(k:Int)else(i:Int))=((max k i:Nat):Int):=by{split<;>omega};have e2:(if(k:Int)<(i:Int)then(k:Int)else(i:Int))=((min k i:Nat):Int):=by{split<;>omega};obtain⟨u,f⟩:=Az hM hV (i:=max k i) (j:=min k i) O;have hl:=J.len;rw[af O,e1,e2,AR O hM O,bS];dsimp only;rw[vN O u,bS,Xn f,qh5 O (cf f),bS,X1 f];dsimp only;rw[iP (by rw[zL];omega)];exact Ul a0 a1 b0 b1 a2 a3 a4 b2 Q K G hi N (k+1) _ _ O O ((J.add (qul f)).mono O)}};{have e:k=n:=O;subst e;rw[af O];exact⟨s,t,rfl,J⟩}
theorem Sv (a0 a1 Q K:Int) (a2 a3 a4 G:LI) {j:Nat} (J:j<n) {x:Nat} (hx:x<=10000): ∀(N i:Nat) (I' V':LI),n-i<N->i<=n->GW G I' V' 200 (x+i)->
 ∃I1 V1,lV m N (n:Int) a0 a1 a2 a3 a4 (n:Int) (n:Int) S I V Q K G I' V' (j:Int) (i:Int)=some (.inl ((n:Int),(a0,a1,a2,a3,a4,()),((n:Int),(n:Int),S,I,V,()),(Q,K,G,I1,V1,()),(j:Int),()))/\GW G I1 V1 200 (x+n)
 |0,i,I',V',h,_,_=>absurd h (zA _)
 |N+1,i,I',V',h,d0,hg=>by rw[lV,bQ];by_cases hi:i<n;{have w:wI ((i:Int)+1)=((i+1:Nat):Int):=ax O;have c0:=hg.il;have gk:=hg.vl;rw[iP O,aA,w];by_cases c:i=j;{have hd:DL _ BB (1+0):=DL.one (qr1 (zf quh O));obtain⟨s',t',e1,e2⟩:=Ul hm hn hM hV a0 a1 Q K a2 a3 a4 G I' V' (j:Int) hi m 0 _ _ O O hd;rw[nZ]at e1;rw[iP O,Wp O (by unfold Rs;omega),bS,qv2];dsimp only;rw[e1,bS];dsimp only;rw[iP (by rw[zL];omega),e2.rsum O O,bS];dsimp only;rw[qdd O,bS,iP (by rw[zL];omega),w];exact Sv a0 a1 Q K a2 a3 a4 G J hx N (i+1) _ _ O O (hg.snoc Yx)};{obtain⟨b,eb⟩:=qm5 hm hM (i:=i) (j:=j) hi J;rw[af O,eb,bS];cases b with|true=>{obtain⟨u,f⟩:=Az hM hV (i:=i) (j:=j) J;dsimp only;rw[cond_true,iP (by rw[zL];omega),AR O hM J,bS,iP (by rw[zL];omega)];exact Sv a0 a1 Q K a2 a3 a4 G J hx N (i+1) _ _ O O (hg.snoc u)}|false=>{dsimp only;rw[cond_false];exact Sv a0 a1 Q K a2 a3 a4 G J hx N (i+1) _ _ O O ⟨hg.sl,O,hg.vl,hg.u⟩}}};{have e:i=n:=O;subst e;rw[af O];exact⟨I',V',rfl,hg⟩}
theorem qr5 (a0 a1 Q K:Int) (a2 a3 a4:LI): ∀(N j:Nat) (u J G:LI),n-j<N->j<=n->GW u J G (1+j) (j*n)->
 ∃S1 I1 V1,rm m N (n:Int) a0 a1 a2 a3 a4 (n:Int) (n:Int) S I V Q K u J G (j:Int)=some (.inl ((a0,a1,a2,a3,a4,()),(Q,K,S1,I1,V1,()),()))/\GW S1 I1 V1 (1+n) (n*n)
 |0,j,u,J,G,h,_,_=>absurd h (zA _)
 |N+1,j,u,J,G,h,d0,hg=>by rw[rm,bQ];by_cases hj:j<n;{have w:wI ((j:Int)+1)=((j+1:Nat):Int):=ax O;have c0:=hg.sl;have hx:j*n<=100*100:=pw O hn;obtain⟨I1,V1,e1,e2⟩:=Sv hm hn hM hV a0 a1 Q K a2 a3 a4 u hj (x:=j*n) O m 0 J G O O ⟨O,by have:=hg.il;omega,hg.vl,hg.u⟩;rw[nZ]at e1;rw[iP O,e1,bS];dsimp only;rw[iP (by rw[zL];omega),w];exact qr5 a0 a1 Q K a2 a3 a4 N (j+1) _ I1 V1 O O ⟨by rw[zG,zL];omega,by have:=e2.il;rw[MI];exact this,e2.vl,e2.u⟩};{have e:j=n:=O;subst e;rw[af O];exact⟨u,J,G,rfl,hg⟩}
end
def qgw {m:Nat} (hm:5000000000<=m) {raw:LI} (hl:raw.length<=9223372036854775807) {n:Nat} (hn:n<=100) (style:Int):
 ∃S I V,T5 m raw (n:Int) style=some (((n:Int),(n:Int),S,I,V,()),(),(),(),())/\GW S I V (1+n) (n*n):=by obtain⟨r,hr,K⟩:=Bt m style (k:=3) O O;obtain⟨S,I,V,u,Q⟩:=q9f hm hl hn (r:Int) hn;obtain⟨S1,I1,V1,G,e2⟩:=qr5 hm hn (u.MV hn hn) u.fn.U 0 0 (n:Int) (n:Int) [] [] [] m 0 [0] [] [] O O ⟨by simp,by simp,rfl,λi J=>absurd J (zA _)⟩;rw[nZ]at G;refine⟨S1,I1,V1,?_,e2⟩;rw[T5,show(3:Int)=((3:Nat):Int)from rfl,K,bS];dsimp only;rw[Q,bS];dsimp only;rw[G];rfl
end Go.Vs.F
set_option maxRecDepth 100000
namespace Go.Vs.F
section
variable {m:Nat} (hm:5000000000<=m)
include hm
theorem Iu {l:LI} (hl:l.length<=1000) (v:Int): ∀(N k:Nat),l.length-k<N-> ∃r,mi m N l v (k:Int)=some r
 |0,k,h=>absurd h (zA _)
 |N+1,k,h=>by rw[mi,bQ];by_cases u:k<l.length;{rw[iP O,iP O,aA];split;{exact⟨_,rfl⟩};{rw[show wI ((k:Int)+1)=((k+1:Nat):Int)from ax O];exact Iu hl v N (k+1) O}};{rw[af O];exact⟨_,rfl⟩}
theorem It {l:LI} (hl:l.length<=1000) (v:Int): ∃b,tl m l v=some (b,(),(),()):=by obtain⟨r,e⟩:=Iu hm hl v m 0 O;rw[nZ]at e;rw[tl,e,bS];match r with| .inl z=>exact⟨_,rfl⟩| .inr (.inl z)=>exact⟨_,rfl⟩| .inr (.inr e)=>exact e.elim
theorem qrz {l:LI} (hl:l.length<=1000): ∀(N k:Nat),l.length-k<N->0<k-> ∃r,mj m N l (k:Int)=some r
 |0,k,h,_=>absurd h (zA _)
 |N+1,k,h,G=>by rw[mj,bQ];by_cases u:k<l.length;{have w:wI ((k:Int)-1)=((k-1:Nat):Int):=by{rw[wQ,wi O O];omega};rw[iP O,iP O,w,iP O,bQ];split;{exact⟨_,rfl⟩};{rw[show wI ((k:Int)+1)=((k+1:Nat):Int)from ax O];exact qrz hl N (k+1) O O}};{rw[af O];exact⟨_,rfl⟩}
theorem qvm {l:LI} (hl:l.length<=1000): ∃b,yr m l=some (b,(),()):=by obtain⟨r,e⟩:=qrz hm hl m 1 O O;rw[yr,show(1:Int)=((1:Nat):Int)from rfl,e,bS];match r with| .inl z=>exact⟨_,rfl⟩| .inr (.inl z)=>exact⟨_,rfl⟩| .inr (.inr e)=>exact e.elim
theorem qh8 {l:LI} (hl:l.length<=1000): ∀(N k:Nat) (seen:List Bool),l.length-k<N->seen.length=l.length-> ∃r,mL m N l (l.length:Int) seen (k:Int)=some r
 |0,k,seen,h,_=>absurd h (zA _)
 |N+1,k,seen,h,hs=>by rw[mL,bQ];by_cases G:k<l.length;{have u:(0:Int)<=(k:Int)/\(k:Int)<(l.length:Int):=O;rw[iP O,iP u,bQ];split;{exact⟨_,rfl⟩};{rw[bQ];split;{exact⟨_,rfl⟩};{rw[iP O];cases seen.getD (0+(l.getD (k:Int).toNat 0).toNat) false with|true=>exact⟨_,rfl⟩|false=>{rw[cond_false,iP O,show wI ((k:Int)+1)=((k+1:Nat):Int)from ax O];exact qh8 hl N (k+1) _ O (by rw[zT];exact hs)}}}};{rw[af O];exact⟨_,rfl⟩}
theorem qqr {l:LI} (hl:l.length<=1000): ∃b,Dp m l (l.length:Int)=some (b,(),(),()):=by obtain⟨r,e⟩:=qh8 hm hl m 0 (List.replicate l.length false) O zI;rw[nZ]at e;rw[Dp,aN,iP rfl,iP O,tN,e,bS];match r with| .inl z=>exact⟨_,rfl⟩| .inr (.inl z)=>exact⟨_,rfl⟩| .inr (.inr e)=>exact e.elim
theorem qhm {l:LI} (hl:l.length<=1000) (n:Int): ∀(N k:Nat),l.length-k<N-> ∃r,mh m N l n (k:Int)=some r
 |0,k,h=>absurd h (zA _)
 |N+1,k,h=>by rw[mh,bQ];by_cases G:k<l.length;{have u:(0:Int)<=(k:Int)/\(k:Int)<(l.length:Int):=O;rw[iP O,iP u,bQ];split;{exact⟨_,rfl⟩};{rw[bQ];split;{exact⟨_,rfl⟩};{rw[show wI ((k:Int)+1)=((k+1:Nat):Int)from ax O];exact qhm hl n N (k+1) O}}};{rw[af O];exact⟨_,rfl⟩}
theorem qp7 {l:LI} (hl:l.length<=1000) (n:Int): ∃b,CE m l n=some (b,(),(),()):=by obtain⟨r,e⟩:=qhm hm hl n m 0 O;rw[nZ]at e;rw[CE,e,bS];match r with| .inl z=>exact⟨_,rfl⟩| .inr (.inl z)=>exact⟨_,rfl⟩| .inr (.inr e)=>exact e.elim
theorem qhu {l:LI} (hl:l.length<=1000): ∀(N k:Nat),l.length-k<N-> ∃r,mg m N l (k:Int)=some r
 |0,k,h=>absurd h (zA _)
 |N+1,k,h=>by rw[mg,bQ];by_cases u:k<l.length;{obtain⟨b,e⟩:=It hm (l:=l.take (k:Int).toNat) (by rw[zU];omega) (l.getD (k:Int).toNat 0);rw[iP O,iP O,iP O,e,bS];cases b with|true=>exact⟨_,rfl⟩|false=>{dsimp only;rw[cond_false,show wI ((k:Int)+1)=((k+1:Nat):Int)from ax O];exact qhu hl N (k+1) O}};{rw[af O];exact⟨_,rfl⟩}
theorem qqd {l:LI} (hl:l.length<=1000): ∃b,CC m l=some (b,(),()):=by obtain⟨r,e⟩:=qhu hm hl m 0 O;rw[nZ]at e;rw[CC,e,bS];match r with| .inl z=>exact⟨_,rfl⟩| .inr (.inl z)=>exact⟨_,rfl⟩| .inr (.inr e)=>exact e.elim
end
structure Gr (n:Nat) (g:List LI):Prop where
 nn:n<=200
 len:g.length=n
 row: ∀v,(g.getD v []).length<=n
 rng: ∀v k,k<(g.getD v []).length->0<=(g.getD v []).getD k 0/\(g.getD v []).getD k 0<(n:Int)
section
variable {m:Nat} (hm:5000000000<=m) {n:Nat} {g:List LI} (hg:Gr n g)
include hm hg
theorem qcy {v:Nat} (u:v<n): ∀(N k:Nat),(g.getD v []).length-k<N->jZ m N g (n:Int) (v:Int) (k:Int)=some (.inr (.inl ((g,()),(n:Int),(v:Int),())))\/ ∃c,jZ m N g (n:Int) (v:Int) (k:Int)=some (.inl c)
 |0,k,h=>absurd h (zA _)
 |N+1,k,h=>by have hn:=hg.nn;have hl:=hg.len;have J:=hg.row v;rw[jZ,iP O,bQ,tN,tN];by_cases G:k<(g.getD v []).length;{have K:=hg.rng v k G;rw[iP O,iP O,iP O,bQ,af O,bQ,af O,aA];split;{exact .inr ⟨_,rfl⟩};{obtain⟨b,e⟩:=It hm (l:=g.getD ((g.getD v []).getD k 0).toNat []) (by have:=hg.row ((g.getD v []).getD k 0).toNat;omega) (v:Int);rw[iP O,e,bS];cases b with|false=>exact .inr ⟨_,rfl⟩|true=>{dsimp only;rw[show(!true)=false from rfl,cond_false,show wI ((k:Int)+1)=((k+1:Nat):Int)from ax O];exact qcy u N (k+1) O}}};{rw[af O];exact .inl rfl}
theorem qem: ∀(N v:Nat),n-v<N-> ∃r,mM m N g (n:Int) (v:Int)=some r
 |0,k,h=>absurd h (zA _)
 |N+1,v,h=>by have hn:=hg.nn;have hl:=hg.len;have J:=hg.row v;rw[mM,bQ];by_cases G:v<n;{obtain⟨b,e⟩:=qvm hm (l:=g.getD v []) O;rw[iP O,iP O,tN,e,bS];cases b with|false=>exact⟨_,rfl⟩|true=>{dsimp only;rw[show(!true)=false from rfl,cond_false];have u:=qcy hm hg G m 0 O;rw[nZ]at u;rcases u with u|⟨c,u⟩;{rw[u,bS];dsimp only;rw[show wI ((v:Int)+1)=((v+1:Nat):Int)from ax O];exact qem N (v+1) O};{rw[u];exact⟨_,rfl⟩}}};{rw[af O];exact⟨_,rfl⟩}
theorem qlt: ∃c,tG m g=some (c,(),()):=by have hn:=hg.nn;have hl:=hg.len;obtain⟨r,e⟩:=qem hm hg m 0 O;rw[nZ]at e;rw[tG,bQ,af O,hl,e,bS];match r with| .inl z=>exact⟨_,rfl⟩| .inr (.inl z)=>exact⟨_,rfl⟩| .inr (.inr e)=>exact e.elim
end
structure oV (n:Nat) (t:List (List Bool)):Prop where
 len:t.length=n
 row: ∀i,i<n->(t.getD i []).length=n
def oV.set {n:Nat} {t:List (List Bool)} (h:oV n t) {i:Nat} {r:List Bool} (G:r.length=n):oV n (t.set i r):=by refine⟨by rw[zT];exact h.len,λj u=> ?_⟩;by_cases c:j=i;{subst c;rw[show(t.set j r).getD j []=r by simp[List.getD,h.len,u]];exact G};{rw[show(t.set i r).getD j []=t.getD j [] by simp[List.getD,List.getElem?_set,Ne.symm c]];exact h.row j u}
def oV.rep {n:Nat}:oV n (List.replicate n (List.replicate n false)):=by refine⟨zI,λi u=> ?_⟩;simp[List.getD,u]
def tq (t:List (List Bool)) (i j:Nat):Bool:=(t.getD i []).getD j false
def iG (q:Nat->Nat->Bool) (v k:Nat):LI:=((List.range k).filter λw=>decide (v≠w)&&(q v w||q w v)).map λw:Nat=>(w:Int)
def gB (n:Nat) (q:Nat->Nat->Bool):List LI:=(List.range n).map λv=>iG q v n
def qkx {q:Nat->Nat->Bool} {v k:Nat}:iG q v (k+1)=iG q v k++if v≠k/\(q v k||q k v)=true then [(k:Int)]else []:=by unfold iG;rw[AW,List.filter_append,sF];congr 1;by_cases c:v≠k/\(q v k||q k v)=true;{rw[iP c,List.filter_cons_of_pos (by simp[c.1,c.2])];rfl};{rw[af c,List.filter_cons_of_neg (by simpa using c)];rfl}
def qh4 {q:Nat->Nat->Bool} {v k:Nat}:(iG q v k).length<=k:=by unfold iG;rw[zh];exact zf (MC ..) (by rw[wY];exact zJ _)
def FW {n:Nat} (hn:n<=200) {q:Nat->Nat->Bool}:Gr n (gB n q):=by have hg: ∀v,(gB n q).getD v []=if v<n then iG q v n else []:=λv=>by{unfold gB;by_cases c:v<n;{rw[iP c];simp[List.getD,c]};{rw[af c];simp[List.getD,c]}};refine⟨hn,by unfold gB;simp,λv=> ?_,λv k G=> ?_⟩;{rw[hg];split;{exact qh4};{exact oX _}};{rw[hg]at G⊢;by_cases c:v<n;{rw[iP c]at G⊢;have u:=Xj G;unfold iG at u;obtain⟨w,hw,e⟩:=zk.1 u;have:=ux.1 (IC.1 hw).1;unfold iG;rw[<-e];omega};{rw[af c]at G;exact absurd G (zA _)}}
section
variable {m:Nat} (hm:5000000000<=m) {n:Nat} (hn:n<=200)
include hm hn
theorem qh6: ∀(N k:Nat),n-k<N->k<=n->mP m N (n:Int) (List.replicate k (List.replicate n false)) (k:Int)=some (.inl (List.replicate n (List.replicate n false),()))
 |0,k,h,_=>absurd h (zA _)
 |N+1,k,h,u=>by rw[mP,bQ];by_cases G:k<n;{rw[iP O,iP O,iP (by rw[zL,zI];omega),tN,<-List.replicate_succ',show wI ((k:Int)+1)=((k+1:Nat):Int)from ax O];exact qh6 N (k+1) O O};{rw[af O,show k=n by omega]}
theorem sj:yR m (n:Int)=some (List.replicate n (List.replicate n false),(),()):=by have e:=qh6 hm hn m 0 O O;rw[nZ,List.replicate_zero]at e;rw[yR,e];rfl
theorem Ix {t:List (List Bool)} (G:oV n t) (J K:List LI) {v:Nat} (Q:v<n): ∀(N k:Nat),n-k<N->k<=n->
 gq m N t J K (v:Int) (iG (tq t) v k) (k:Int)=some (.inl (t,(J,()),(K,()),(v:Int),iG (tq t) v n,()))
 |0,k,h,_=>absurd h (zA _)
 |N+1,k,h,a0=>by have hl:=G.len;rw[gq,bQ];by_cases hk:k<n;{have r1:=G.row v Q;have r2:=G.row k hk;have b0:=qh4 (q:=tq t) (v:=v) (k:=k);have u:=Ix G J K Q N (k+1) O O;rw[qkx]at u;rw[iP O,aN,show wI ((k:Int)+1)=((k+1:Nat):Int)from ax O];by_cases c:v=k;{rw[af (λq=>q.1 c),ls]at u;rw[iP O];exact u};{rw[af O,iP O,tN,tN,iP O];change (bif tq t v k then _ else _)=_;cases c1:tq t v k with|true=>{rw[iP ⟨c,by rw[c1];rfl⟩]at u;rw[cond_true,iP (by rw[zL];omega)];exact u}|false=>{rw[cond_false,iP O,iP O];change (bif tq t k v then _ else _)=_;cases c2:tq t k v with|true=>{rw[iP ⟨c,by rw[c1,c2];rfl⟩]at u;rw[cond_true,iP (by rw[zL];omega)];exact u}|false=>{rw[af (λq=>by rw[c1,c2]at q;cases q.2),ls]at u;rw[cond_false];exact u}}}};{rw[af O,show k=n by omega]}
theorem Iy {t:List (List Bool)} (G:oV n t) (u:List LI): ∀(N v:Nat),n-v<N->v<=n->
 mO m N t u ((List.range v).map λi=>iG (tq t) i n) (v:Int)=some (.inl ((u,()),(gB n (tq t),()),()))
 |0,k,h,_=>absurd h (zA _)
 |N+1,v,h,K=>by have hl:=G.len;rw[mO,bQ];by_cases Q:v<n;{have e:=Ix hm hn G u ((List.range v).map λi=>iG (tq t) i n) Q m 0 O O;rw[nZ,show iG (tq t) v 0=[]from rfl]at e;have J:=Iy G u N (v+1) O O;rw[AW,sF]at J;rw[iP O,e,bS];dsimp only;rw[iP (by rw[zL,zh,wY];omega),show wI ((v:Int)+1)=((v+1:Nat):Int)from ax O];exact J};{rw[af O,show v=n by omega];rfl}
theorem Iw {t:List (List Bool)} (u:oV n t):yQ m t=some ((gB n (tq t),()),(),()):=by have e:=Iy hm hn u [] m 0 O O;rw[nZ,List.range_zero,E4]at e;rw[yQ,e];rfl
theorem Iz {es:List eW} (hl:es.length<=100000) (K:xy n n es) (J:List LI): ∀(N k:Nat) (t:List (List Bool)),es.length-k<N->oV n t->
 ∃t',nt m N J t es (k:Int)=some (.inl ((J,()),t',()))/\oV n t'
 |0,k,t,h,_=>absurd h (zA _)
 |N+1,k,t,h,G=>by rw[nt,bQ];by_cases hk:k<es.length;{obtain⟨h1,h2,h3⟩:=K k hk;have a0:=G.len;have Q:=G.row (es.getD k (0,0,0)).1.toNat O;have u:(0:Int)<=(k:Int)/\(k:Int)<(es.length:Int):=O;rw[iP O,iP u,zH,tN,iP O,iP u,iP O,show wI ((k:Int)+1)=((k+1:Nat):Int)from ax O];exact Iz hl K J N (k+1) _ O (G.set (by rw[zT];exact Q))};{rw[af O];exact⟨t,rfl,G⟩}
theorem Rt {S I V:LI} (h:MV n n S I V): ∃q,r8 m (n:Int) (n:Int) S I V=some (((gB n q,()),0,()),(),()):=by have G:=h.ok.sz;have K:=h.vl;obtain⟨t,u,J⟩:=Iz hm hn (es:=ents S I V n 0) (by have:=h.len;omega) h.ents [] m 0 _ (by have:=h.len;omega) oV.rep;rw[nZ]at u;refine⟨tq t,?_⟩;rw[r8,Xk O O O,h.chk,bS,aN,iP rfl,aN,iP rfl,sj hm hn,bS,q9j O h.ok h.vl h.chk,bS];dsimp only;rw[u,bS];dsimp only;rw[Iw hm hn J];rfl
end
end Go.Vs.F
set_option maxRecDepth 100000
namespace Go.Vs.F
section
variable {m:Nat} (hm:5000000000<=m) {n:Nat} {g:List LI} (hg:Gr n g)
include hm hg
theorem qrj (out:List (List Bool)) {v:Nat} (K:v<n): ∀(N k:Nat) (row:List Bool),(g.getD v []).length-k<N->row.length=n->
 ∃u,me m N g (n:Int) out (v:Int) row (k:Int)=some (.inl ((g,()),(n:Int),out,(v:Int),u,()))/\u.length=n
 |0,k,row,h,_=>absurd h (zA _)
 |N+1,k,row,h,J=>by have hn:=hg.nn;have hl:=hg.len;have G:=hg.row v;rw[me,iP O,bQ,tN,tN];by_cases Q:k<(g.getD v []).length;{have h1:=hg.rng v k Q;rw[iP O,iP O,iP O,iP O,show wI ((k:Int)+1)=((k+1:Nat):Int)from ax O];exact qrj out K N (k+1) _ O (by rw[zT];exact J)};{rw[af O];exact⟨row,rfl,J⟩}
theorem ZA: ∀(N v:Nat) (out:List (List Bool)),n-v<N->v<=n->out.length=v->(∀i,i<v->(out.getD i []).length=n)->
 ∃t,mf m N g (n:Int) out (v:Int)=some (.inl (t,()))/\oV n t
 |0,v,out,h,_,_,_=>absurd h (zA _)
 |N+1,v,out,h,K,G,u=>by have hn:=hg.nn;have hl:=hg.len;rw[mf,bQ];by_cases Q:v<n;{obtain⟨row,J,e2⟩:=qrj hm hg out Q m 0 (List.replicate n false) (by have:=hg.row v;omega) zI;rw[nZ]at J;rw[iP O,iP O,tN,J,bS];dsimp only;rw[iP (by rw[zL];omega),show wI ((v:Int)+1)=((v+1:Nat):Int)from ax O];refine ZA N (v+1) _ O O (by rw[zG,G];rfl) λi hi=> ?_;by_cases c:i<v;{rw[show(out++[row]).getD i []=out.getD i [] by simp[List.getD,List.getElem?_append_left (G.symm▸c:i<out.length)]];exact u i c};{have:i=out.length:=O;subst this;rw[show(out++[row]).getD out.length []=row by simp[List.getD]];exact e2}};{rw[af O];exact⟨out,rfl,O,λi hi=>u i O⟩}
theorem qva: ∃t,yp m g=some (t,(),())/\oV n t:=by have hl:=hg.len;obtain⟨t,u,J⟩:=ZA hm hg m 0 [] (by have:=hg.nn;omega) O rfl (λi G=>absurd G (zA _));rw[nZ]at u;exact⟨t,by rw[yp,hl,u];rfl,J⟩
omit hg in
theorem qrl {o:LI} (hol:o.length<=200) (hor: ∀i,i<o.length->0<=o.getD i 0/\o.getD i 0<(n:Int)) (K:List LI) {J:List (List Bool)} (Q:oV n J) {i:Nat} (hi:i<o.length): ∀(N k:Nat) (u:List (List Bool)),o.length-k<N->oV o.length u->
 ∃t',mJ m N o K J u (i:Int) (k:Int)=some (.inl (o,(K,()),J,t',(i:Int),()))/\oV o.length t'
 |0,k,u,h,_=>absurd h (zA _)
 |N+1,k,u,h,G=>by have b0:=Q.len;have a0:=G.len;rw[mJ,bQ];by_cases hk:k<o.length;{have a:=hor i hi;have b:=hor k hk;have c:=Q.row (o.getD i 0).toNat O;have d:=G.row i hi;rw[iP O,iP O,iP O,tN,tN,iP O,iP O,iP O,iP O,show wI ((k:Int)+1)=((k+1:Nat):Int)from ax O];exact qrl hol hor K Q hi N (k+1) _ O (G.set (by rw[zT];exact d))};{rw[af O];exact⟨u,rfl,G⟩}
omit hg in
theorem Zs {o:LI} (hol:o.length<=200) (hor: ∀i,i<o.length->0<=o.getD i 0/\o.getD i 0<(n:Int)) (G:List LI) {J:List (List Bool)} (K:oV n J): ∀(N i:Nat) (u:List (List Bool)),o.length-i<N->oV o.length u->
 ∃t',mK m N o G J u (i:Int)=some (.inl ((G,()),t',()))/\oV o.length t'
 |0,k,u,h,_=>absurd h (zA _)
 |N+1,i,u,h,Q=>by rw[mK,bQ];by_cases hi:i<o.length;{obtain⟨t',e1,e2⟩:=qrl hm hol hor G K hi m 0 u O Q;rw[nZ]at e1;rw[iP O,e1,bS];dsimp only;rw[show wI ((i:Int)+1)=((i+1:Nat):Int)from ax O];exact Zs hol hor G K N (i+1) t' O e2};{rw[af O];exact⟨u,rfl,Q⟩}
theorem q95 {o:LI} (hol:o.length<=200) (hor: ∀i,i<o.length->0<=o.getD i 0/\o.getD i 0<(o.length:Int)):
 ∃y n' q,wG m g o=some y/\y.1.1.1=gB n' q/\n'<=o.length:=by
 have hl:=hg.len;obtain⟨c,Q⟩:=qlt hm hg;have u: ∀{y:((List LI×Unit)×Int×Unit)×Unit×Unit×Unit},y.1.1.1=[]-> ∃n' q,y.1.1.1=gB n' q/\n'<=o.length:=λh=>⟨0,λ_ _=>false,h,oX _⟩
 rw[wG,Q,bS,aN];dsimp only;by_cases K:c=0
 case neg=>
  rw[af K];obtain⟨n',q,G,h2⟩:=u (y:=((([],()),c,()),(),(),())) rfl;exact⟨_,n',q,rfl,G,h2⟩
 rw[iP K,aN];by_cases hlen:(o.length:Int)=(g.length:Int)
 case neg=>
  rw[af hlen];obtain⟨n',q,G,h2⟩:=u (y:=((([],()),2,()),(),(),())) rfl;exact⟨_,n',q,rfl,G,h2⟩
 obtain⟨b,J⟩:=qqr hm (l:=o) O;rw[iP hlen,<-hlen,J,bS];dsimp only;cases b with
 |false=>
  obtain⟨n',q,G,h2⟩:=u (y:=((([],()),90,()),(),(),())) rfl;exact⟨_,n',q,rfl,G,h2⟩
 |true=>
 rw[show(!true)=false from rfl,cond_false,Lb,Q,bS,aN]
 dsimp only;obtain⟨b,J⟩:=qp7 hm (l:=o) O (g.length:Int);rw[iP K,J,bS];cases b with
 |false=>
  obtain⟨n',q,G,h2⟩:=u (y:=((([],()),3,()),(),(),())) rfl;exact⟨_,n',q,rfl,G,h2⟩
 |true=>
 obtain⟨b,J⟩:=qqd hm (l:=o) O;dsimp only;rw[show(!true)=false from rfl,cond_false,J,bS]
 cases b with
 |true=>
  obtain⟨n',q,G,h2⟩:=u (y:=((([],()),90,()),(),(),())) rfl;exact⟨_,n',q,rfl,G,h2⟩
 |false=>
 obtain⟨t,e1,e2⟩:=qva hm hg;have a0:n=o.length:=O;obtain⟨t',e3,e4⟩:=Zs hm (n:=n) hol (λi hi=>by have:=hor i hi;omega) [] e2 m 0 _ O (oV.rep (n:=o.length))
 rw[nZ]at e3;dsimp only;rw[cond_false,e1,bS,sj hm hol,bS];dsimp only;rw[e3,bS];dsimp only;rw[Iw hm hol e4];exact⟨_,o.length,tq t',rfl,rfl,zJ _⟩
end
def que:chk 0 0 [] [] []≠0:=by decide
def qqp {m:Nat} (hm:5000000000<=m) {n:Nat} (hn:n<=100) {S I V:LI} (hV:V.length<=100000) {o:LI} (hol:o.length=n) (hor: ∀i,i<o.length->0<=o.getD i 0/\o.getD i 0<(o.length:Int)):
 ∃G Q u n' q,r9 m (n:Int) (n:Int) S I V=some G/\r8 m G.1.1.1 G.1.1.2.1 G.1.1.2.2.1 G.1.1.2.2.2.1 G.1.1.2.2.2.2.1=some Q/\
  wG m Q.1.1.1 o=some u/\u.1.1.1=gB n' q/\n'<=n:=by by_cases K:chk (n:Int) (n:Int) S I V=0;{obtain⟨r,c,e1,e2,hM,gk,_⟩:=So K;have er:r=n:=O;have ec:c=n:=O;subst er;subst ec;have J:MV c c S I V:=⟨hM,gk,K⟩;have a0:c*c<=100*100:=pw hn hn;obtain⟨q,e⟩:=Rt hm (by omega:c<=200) (qpx J O);obtain⟨u,n1,q1,a,b,d⟩:=q95 hm (FW (by omega:c<=200) (q:=q)) O hor;exact⟨_,_,u,n1,q1,qqu O J,e,a,b,O⟩};{have e1:r9 m (n:Int) (n:Int) S I V=some (((0,0,[],[],[],()),chk (n:Int) (n:Int) S I V,()),(),()):=by{rw[r9,Xk O O O,bS,aN,af K]};have e2:r8 m 0 0 [] [] []=some ((([],()),chk 0 0 [] [] [],()),(),()):=by{rw[r8,Xk (by show 0<m;omega) O (by decide),bS,aN,af que]};obtain⟨u,n',q',a,b,c⟩:=q95 hm (FW (n:=0) O (q:=λ_ _=>false)) O hor;exact⟨_,_,u,n',q',e1,e2,a,b,O⟩}
end Go.Vs.F
set_option maxRecDepth 100000
namespace Go.Vs.F
def tW (m:Nat) (spl:Int->Bool):Nat->LI->List LI->Int->(List (Int×Int×LI×Int))->List (List Bool)->Int->Option ((Int×(List (Int×Int×LI×Int))×List (List Bool)×Unit)⊕Empty)
 |0,_,_,_,_,_,_=>none
 |n+1,a,b,c,d,f,h=>
  bif decide (h<c)then
   bif h==0 then
    if 0<([(h,(wI (h+1),(([]:LI),(-1))))]:List (Int×Int×LI×Int)).length/\d.length+([(h,(wI (h+1),(([]:LI),(-1))))]:List (Int×Int×LI×Int)).length<=1073741824 then
    if(0:Int)<=c/\c<=c/\c<=1073741824 then
    if 0<([List.replicate c.toNat false]:List (List Bool)).length/\f.length+([List.replicate c.toNat false]:List (List Bool)).length<=1073741824 then
    if(0:Int)<=(wI (((d++([(h,(wI (h+1),(([]:LI),(-1))))]:List (Int×Int×LI×Int))).length:Int)-1))/\(wI (((d++([(h,(wI (h+1),(([]:LI),(-1))))]:List (Int×Int×LI×Int))).length:Int)-1))<((d++([(h,(wI (h+1),(([]:LI),(-1))))]:List (Int×Int×LI×Int))).length:Int)then
    (ir m m a b c ((d++([(h,(wI (h+1),(([]:LI),(-1))))]:List (Int×Int×LI×Int))).set (wI (((d++([(h,(wI (h+1),(([]:LI),(-1))))]:List (Int×Int×LI×Int))).length:Int)-1)).toNat (((d++([(h,(wI (h+1),(([]:LI),(-1))))]:List (Int×Int×LI×Int))).getD (wI (((d++([(h,(wI (h+1),(([]:LI),(-1))))]:List (Int×Int×LI×Int))).length:Int)-1)).toNat (0,(0,(([]:LI),0)))).1,(wI (h+1),(((d++([(h,(wI (h+1),(([]:LI),(-1))))]:List (Int×Int×LI×Int))).getD (wI (((d++([(h,(wI (h+1),(([]:LI),(-1))))]:List (Int×Int×LI×Int))).length:Int)-1)).toNat (0,(0,(([]:LI),0)))).2.2.1,((d++([(h,(wI (h+1),(([]:LI),(-1))))]:List (Int×Int×LI×Int))).getD (wI (((d++([(h,(wI (h+1),(([]:LI),(-1))))]:List (Int×Int×LI×Int))).length:Int)-1)).toNat (0,(0,(([]:LI),0)))).2.2.2)))) (f++([List.replicate c.toNat false]:List (List Bool))) h (wI (((d++([(h,(wI (h+1),(([]:LI),(-1))))]:List (Int×Int×LI×Int))).length:Int)-1)) 0).bind λQ=>
    match Q with
    | .inl J=>
      tW m spl n J.1 J.2.1 J.2.2.1 J.2.2.2.1 J.2.2.2.2.1 (wI (J.2.2.2.2.2.1+1))
    | .inr e=>
      e.elim
    else none
    else none
    else none
    else none
   else
    bif spl h then
     if 0<([(h,(wI (h+1),(([]:LI),(-1))))]:List (Int×Int×LI×Int)).length/\d.length+([(h,(wI (h+1),(([]:LI),(-1))))]:List (Int×Int×LI×Int)).length<=1073741824 then
     if(0:Int)<=c/\c<=c/\c<=1073741824 then
     if 0<([List.replicate c.toNat false]:List (List Bool)).length/\f.length+([List.replicate c.toNat false]:List (List Bool)).length<=1073741824 then
     if(0:Int)<=(wI (((d++([(h,(wI (h+1),(([]:LI),(-1))))]:List (Int×Int×LI×Int))).length:Int)-1))/\(wI (((d++([(h,(wI (h+1),(([]:LI),(-1))))]:List (Int×Int×LI×Int))).length:Int)-1))<((d++([(h,(wI (h+1),(([]:LI),(-1))))]:List (Int×Int×LI×Int))).length:Int)then
     (ir m m a b c ((d++([(h,(wI (h+1),(([]:LI),(-1))))]:List (Int×Int×LI×Int))).set (wI (((d++([(h,(wI (h+1),(([]:LI),(-1))))]:List (Int×Int×LI×Int))).length:Int)-1)).toNat (((d++([(h,(wI (h+1),(([]:LI),(-1))))]:List (Int×Int×LI×Int))).getD (wI (((d++([(h,(wI (h+1),(([]:LI),(-1))))]:List (Int×Int×LI×Int))).length:Int)-1)).toNat (0,(0,(([]:LI),0)))).1,(wI (h+1),(((d++([(h,(wI (h+1),(([]:LI),(-1))))]:List (Int×Int×LI×Int))).getD (wI (((d++([(h,(wI (h+1),(([]:LI),(-1))))]:List (Int×Int×LI×Int))).length:Int)-1)).toNat (0,(0,(([]:LI),0)))).2.2.1,((d++([(h,(wI (h+1),(([]:LI),(-1))))]:List (Int×Int×LI×Int))).getD (wI (((d++([(h,(wI (h+1),(([]:LI),(-1))))]:List (Int×Int×LI×Int))).length:Int)-1)).toNat (0,(0,(([]:LI),0)))).2.2.2)))) (f++([List.replicate c.toNat false]:List (List Bool))) h (wI (((d++([(h,(wI (h+1),(([]:LI),(-1))))]:List (Int×Int×LI×Int))).length:Int)-1)) 0).bind λO=>
     match O with
     | .inl G=>
       tW m spl n G.1 G.2.1 G.2.2.1 G.2.2.2.1 G.2.2.2.2.1 (wI (G.2.2.2.2.2.1+1))
     | .inr e=>
       e.elim
     else none
     else none
     else none
     else none
    else
     if(0:Int)<=(wI ((d.length:Int)-1))/\(wI ((d.length:Int)-1))<(d.length:Int)then
     (ir m m a b c (d.set (wI ((d.length:Int)-1)).toNat ((d.getD (wI ((d.length:Int)-1)).toNat (0,(0,(([]:LI),0)))).1,(wI (h+1),((d.getD (wI ((d.length:Int)-1)).toNat (0,(0,(([]:LI),0)))).2.2.1,(d.getD (wI ((d.length:Int)-1)).toNat (0,(0,(([]:LI),0)))).2.2.2)))) f h (wI ((d.length:Int)-1)) 0).bind λK=>
     match K with
     | .inl u=>
       tW m spl n u.1 u.2.1 u.2.2.1 u.2.2.2.1 u.2.2.2.2.1 (wI (u.2.2.2.2.2.1+1))
     | .inr e=>
       e.elim
     else none
  else
   some (.inl (c,d,f,()))
abbrev sy:=Int×Int×LI×Int
def zF:sy:=(0,0,[],0)
def q6 (a b c d e f:Bool) (i j:Nat):Bool:=if i=0 then(if j=1 then a else if j=2 then b else if j=3 then c else false)else if i=1 then(if j=2 then d else if j=3 then e else false)else if i=2 then(if j=3 then f else false)else false
def nE (a b c:Bool) (v:Int):Bool:=if v=1 then a else if v=2 then b else c
def W4 (n:Nat) (x:sy):Bool:=decide (0<=x.1)&&decide (x.1<=x.2.1)&&decide (x.2.1<=(n:Int))&&decide (x.2.2.1.length<=4)&&x.2.2.1.all λr=>decide (0<=r)&&decide (r<(n:Int))
def okP (x y:sy):Bool:=x.2.2.1.all λr=>decide (r<x.2.1)||(decide (y.1<=r)&&decide (r<y.2.1))||(y.2.2.1.any (λs=>decide (s=r))&&decide (y.2.1<=r))
def FJ (n:Nat) (l:List sy):Bool:=decide (l.length<=4)&&l.all (W4 n)&&(List.range l.length).all λf=>(List.range f).all λc=> !decide ((l.getD c zF).2.2.2=(f:Int))||okP (l.getD c zF) (l.getD f zF)
def Au (m:Nat) (raw:LI) (p:List LI) (spl:Int->Bool):Option (List sy):=
 (Ar m p).bind λG=>
 (tW m spl m raw G.1.1 (G.1.1.length:Int) [] [] 0).bind λO=>
 match O with
 | .inl u=>(rk m m u.1 u.2.1 u.2.2.1 0).bind λK=>
   match K with
   | .inl J=>some J.1
   | .inr e=>e.elim
 | .inr e=>e.elim
def tU (m:Nat) (raw:LI) (n:Nat) (p:List LI) (spl:Int->Bool):Bool:=
 (match Ar m p with
 |some u=>decide (u.1.1.length=n)
 |none=>false)&&
 match Au m raw p spl with
 |some l=>FJ n l&&(Le m p l).isSome
 |none=>false
def bB:List Bool:=[false,true]
def fr4 (j:Nat) (raw:LI):Bool:=bB.all λa=>bB.all λb=>bB.all λc=>bB.all λd=>bB.all λe=>bB.all λf=>bB.all λx=>bB.all λy=>bB.all λz=>tU (j+400) raw 4 (gB 4 (q6 a b c d e f)) (nE x y z)
def fr3 (j:Nat) (raw:LI):Bool:=bB.all λa=>bB.all λb=>bB.all λd=>bB.all λx=>bB.all λy=>tU (j+400) raw 3 (gB 3 (q6 a b false d false false)) (nE x y false)
def fr2 (j:Nat) (raw:LI):Bool:=bB.all λa=>bB.all λx=>tU (j+400) raw 2 (gB 2 (q6 a false false false false false)) (nE x false false)
def quc (j:Nat) (raw:LI):fr4 j raw=true:=by kernel_rfl
def qt7 (j:Nat) (raw:LI):fr3 j raw=true:=by kernel_rfl
def qtv (j:Nat) (raw:LI):fr2 j raw=true:=by kernel_rfl
def qtx (j:Nat) (raw:LI):tU (j+400) raw 1 (gB 1 (q6 false false false false false false)) (nE false false false)=true:=by kernel_rfl
def qt2 (j:Nat) (raw:LI):tU (j+400) raw 0 (gB 0 (q6 false false false false false false)) (nE false false false)=true:=by kernel_rfl
end Go.Vs.F
set_option maxRecDepth 100000
namespace Go.Vs.F
def J6 {f:Bool->Bool} (h:bB.all f=true) (b:Bool):f b=true:=by unfold bB at h;simp only[AU,List.all_nil,Bh,zM]at h;cases b;{exact h.1};{exact h.2}
def qpq {n:Nat} {q r:Nat->Nat->Bool} (h: ∀v w,v<n->w<n->v≠w->(q v w||q w v)=(r v w||r w v)):gB n q=gB n r:=by unfold gB;refine AZ λv u=> ?_;unfold iG;congr 1;refine List.filter_congr λw hw=> ?_;by_cases c:v=w;{subst c;simp};{rw[h v w (ux.1 u) (ux.1 hw) c]}
def qv6 {m:Nat} (hm:400<=m) (raw:LI) {n:Nat} (hn:n<=4) (q:Nat->Nat->Bool) (s:Int->Bool): ∃spl,(∀v:Int,1<=v->v<(n:Int)->spl v=s v)/\tU m raw n (gB n q) spl=true:=by
 obtain⟨j,rfl⟩: ∃j,m=j+400:=⟨m-400,O⟩;have J: ∀a b c d e f,(∀v w,v<n->w<n->v≠w->(q v w||q w v)=(q6 a b c d e f v w||q6 a b c d e f w v))->gB n q=gB n (q6 a b c d e f):=λa b c d e f h=>qpq h
 match n,hn with
 |0,_=>
  refine⟨nE false false false,λv u h2=>O,?_⟩
  rw[J false false false false false false (λv w u=>absurd u (zA _))];exact qt2 j raw
 |1,_=>
  refine⟨nE false false false,λv u h2=>O,?_⟩
  rw[J false false false false false false (λv w u h2 G=>O)];exact qtx j raw
 |2,_=>
  refine⟨nE (s 1) false false,λv u h2=> ?_,?_⟩
  . have:v=1:=O;subst this;rfl
  . rw[J (q 0 1||q 1 0) false false false false false (λv w u h2 G=> ?_)]
    . exact J6 (J6 (qtv j raw) _) _
    . have Q:v=0\/v=1:=O;have K:w=0\/w=1:=O;rcases Q with rfl|rfl<;>rcases K with rfl|rfl<;>simp[q6,Bool.or_comm]at G⊢
 |3,_=>
  refine⟨nE (s 1) (s 2) false,λv u h2=> ?_,?_⟩
  . have:v=1\/v=2:=O;rcases this with rfl|rfl<;>rfl
  . rw[J (q 0 1||q 1 0) (q 0 2||q 2 0) false (q 1 2||q 2 1) false false (λv w u h2 G=> ?_)]
    . exact J6 (J6 (J6 (J6 (J6 (qt7 j raw) _) _) _) _) _
    . have Q:v=0\/v=1\/v=2:=O;have K:w=0\/w=1\/w=2:=O;rcases Q with rfl|rfl|rfl<;>rcases K with rfl|rfl|rfl<;>simp[q6,Bool.or_comm]at G⊢
 |4,_=>
  refine⟨nE (s 1) (s 2) (s 3),λv u h2=> ?_,?_⟩
  . have:v=1\/v=2\/v=3:=O;rcases this with rfl|rfl|rfl<;>rfl
  . rw[J (q 0 1||q 1 0) (q 0 2||q 2 0) (q 0 3||q 3 0) (q 1 2||q 2 1) (q 1 3||q 3 1) (q 2 3||q 3 2) (λv w u h2 G=> ?_)]
    . exact J6 (J6 (J6 (J6 (J6 (J6 (J6 (J6 (J6 (quc j raw) _) _) _) _) _) _) _) _) _
    . have Q:v=0\/v=1\/v=2\/v=3:=O;have K:w=0\/w=1\/w=2\/w=3:=O;rcases Q with rfl|rfl|rfl|rfl<;>rcases K with rfl|rfl|rfl|rfl<;>simp[q6,Bool.or_comm]at G⊢
def Ta {m:Nat} {raw:LI} {u:List LI} {n0:Int} {l:List sy} {j f:Int}: ∀{N:Nat} {has:List (List Bool)} {k:Int} {r},ir m N raw u n0 l has j f k=some (.inl r)->r.1=raw/\r.2.2.1=n0/\r.2.2.2.2.2.1=j
 |0,has,k,r,h=>by cases h
 |N+1,has,k,r,h=>by rw[ir,bQ]at h;(repeat' split at h);all_goals first|exact Ta h|(injection h with h;injection h with h;subst h;exact⟨rfl,rfl,rfl⟩)|cases h
section
variable {m:Nat} {raw:LI} {n0:Int} {spl:Int->Bool} (hs: ∀v:Int,1<=v->v<n0-> ∃w,Ch m raw (wI (900+v))=some (w,(),(),())/\decide ((Int.tmod (aJ .u64 w 7) 3)>0)=spl v) (hn:n0<=4)
include hs hn
theorem qod: ∀(N:Nat) (u:List LI) (l:List sy) (has:List (List Bool)) (j:Int),0<=j->jn m N raw u n0 l has j=tW m spl N raw u n0 l has j
 |0,u,l,has,j,_=>rfl
 |N+1,u,l,has,j,a0=>by
  rw[jn,tW,bQ,bQ];by_cases J:j<n0
  . have step: ∀(x:Option ((LI×List LI×Int×(List (Int×Int×LI×Int))×List (List Bool)×Int×Unit)⊕Empty)),(∀r,x=some (.inl r)->r.1=raw/\r.2.2.1=n0/\r.2.2.2.2.2.1=j)->
     (x.bind λK=>match K with
       | .inl G=>jn m N G.1 G.2.1 G.2.2.1 G.2.2.2.1 G.2.2.2.2.1 (wI (G.2.2.2.2.2.1+1))
       | .inr e=>e.elim)=x.bind λK=>match K with
       | .inl G=>tW m spl N G.1 G.2.1 G.2.2.1 G.2.2.2.1 G.2.2.2.2.1 (wI (G.2.2.2.2.2.1+1))
       | .inr e=>e.elim:=λx Q=>by
     match x,Q with
     |none,_=>rfl
     |some (.inr e),_=>exact e.elim
     |some (.inl r),Q=>
      obtain⟨h1,h2,h3⟩:=Q r rfl;rw[bS,bS];dsimp only;rw[h1,h2,h3];exact qod N _ _ _ _ (by rw[wQ,wi O O];omega)
    rw[iP J,iP J];by_cases c:j=0
    . subst c;rw[show((0:Int)==0)=true from rfl,cond_true,cond_true]
      repeat' split
      all_goals first|rfl|exact step _ λr h=>Ta h
    . have c':(j==0)=false:=beq_eq_false_iff_ne.2 c;obtain⟨w,e1,e2⟩:=hs j O J;rw[c',cond_false,cond_false,e1,bS];dsimp only;rw[e2];cases spl j with
      |true=>
       rw[cond_true,cond_true]
       repeat' split
       all_goals first|rfl|exact step _ λr h=>Ta h
      |false=>
       rw[cond_false,cond_false]
       repeat' split
       all_goals first|rfl|exact step _ λr h=>Ta h
  . rw[af J,af J]
end
end Go.Vs.F
set_option maxRecDepth 100000
namespace Go.Vs.F
section
variable {m:Nat} (hm:5000000000<=m) {raw:LI} (hl:raw.length<=9223372036854775807) {n:Nat} (hn:n<=4) {S I V:LI} (hV:V.length<=100000) {o:LI} (hol:o.length=n) (hor: ∀i,i<o.length->0<=o.getD i 0/\o.getD i 0<(o.length:Int))
include hm hl hn hV hol hor
theorem qnj: ∃l e,KF m (n:Int) (n:Int) S I V o raw=some (l,(),(),(),())/\FJ n l=true/\JU m (n:Int) (n:Int) S I V o l=some (e,(),(),(),())/\(e=0->chk (n:Int) (n:Int) S I V=0):=by
 obtain⟨y1,y2,y3,n',q,e1,e2,e3,e4,e5⟩:=qqp hm (by omega:n<=100) (S:=S) (I:=I) hV hol hor
 have hw: ∀k:Int,∃w,Ch m raw k=some (w,(),(),()):=λk=>by
  obtain⟨w,h,_⟩:=SX m hl k;exact⟨w,h⟩
 let s:Int->Bool:=λv=>decide ((Int.tmod (aJ .u64 (Classical.choose (hw (wI (900+v)))) 7) 3)>0)
 obtain⟨spl,h1,h2⟩:=qv6 (m:=m) O raw (n:=n') O q s;unfold tU at h2;rw[zM]at h2;obtain⟨h0,h2⟩:=h2;cases hc:Ar m (gB n' q)with
 |none=>rw[hc]at h0;cases h0
 |some K=>
 rw[hc]at h0;have i0:K.1.1.length=n':=of_decide_eq_true h0;cases u:Au m raw (gB n' q) spl with
 |none=>rw[u]at h2;cases h2
 |some l=>
  rw[u]at h2;dsimp only at h2;rw[zM]at h2;obtain⟨G,h4⟩:=h2
  have hF:FJ n l=true:=by
   unfold FJ at G⊢;simp only[zM]at G⊢;refine⟨⟨G.1.1,?_⟩,G.2⟩;rw[zn]at*;intro x hx;have:=G.1.2 x hx;unfold W4 at this⊢;simp only[zM,decide_eq_true_iff,zn]at this⊢;exact⟨⟨⟨this.1.1.1,O⟩,this.1.2⟩,λr u=>⟨(this.2 r u).1,by have:=(this.2 r u).2;omega⟩⟩
  unfold Au at u;rw[hc,bS,<-qod (n0:=(K.1.1.length:Int)) (λv h5 h6=>⟨_,Classical.choose_spec (hw (wI (900+v))),(h1 v h5 O).symm⟩) O m K.1.1 [] [] 0 O]at u
  have c0:KF m (n:Int) (n:Int) S I V o raw=some (l,(),(),(),()):=by
   rw[KF,e1,bS,e2,bS,e3,bS,e4,hc,bS];cases hL:jn m m raw K.1.1 (K.1.1.length:Int) [] [] 0 with
   |none=>rw[hL]at u;cases u
   |some z=>
    rw[hL,bS]at u
    match z,u with
    | .inr e,_=>exact e.elim
    | .inl z,u=>
      rw[bS];dsimp only at u⊢;cases b0:rk m m z.1 z.2.1 z.2.2.1 0 with
      |none=>rw[b0]at u;cases u
      |some w=>
       rw[b0,bS]at u
       match w,u with
       | .inr e,_=>exact e.elim
       | .inl w,u=>
         rw[bS];dsimp only at u⊢;injection u with u
         rw[u]
  by_cases J:chk (n:Int) (n:Int) S I V=0
  case neg=>
   refine⟨l,chk (n:Int) (n:Int) S I V,c0,hF,?_,λq=>absurd q J⟩
   rw[JU,DT,Xk O O O,bS,aN];dsimp only;rw[af J,bS,aN];dsimp only;rw[af J]
  obtain⟨e,he⟩: ∃e,JU m (n:Int) (n:Int) S I V o l=some (e,(),(),(),()):=by
   rw[JU,DT,Xk O O O,bS,aN];dsimp only;have hp:=qib (m:=m) O (l:=o) O;rw[hol]at hp;rw[iP J,aN,iP rfl,hp,bS];dsimp only;cases gX o with
   |false=>exact⟨90,rfl⟩
   |true=>
   rw[show(!true)=false from rfl,cond_false,bS,aN]
   dsimp only
   have hG:DN m (n:Int) (n:Int) S I V o=some ((gB n' q,()),(),(),()):=by
    rw[DN,e1,bS,e2,bS,e3,bS,e4]
   rw[iP rfl,hG,bS];dsimp only;obtain⟨c,d0⟩:=Option.isSome_iff_exists.1 h4;rw[d0,bS,aN];by_cases a0:c.1=0
   case neg=>rw[af a0];exact⟨_,rfl⟩
   rw[iP a0]
   have g0:l.length<=4:=by
    unfold FJ at G;simp only[zM,decide_eq_true_iff]at G;exact G.1.1
   have e0: ∀(N k:Nat),l.length-k<N-> ∃r,qK m N l (k:Int)=some r:=by
    intro N;induction N with
    |zero=>intro k h;omega
    |succ N ih=>
     intro k h;rw[qK,bQ];by_cases J:k<l.length
     . rw[iP O,iP O,bQ];split
       . exact⟨_,rfl⟩
       . rw[show wI ((k:Int)+1)=((k+1:Nat):Int)from ax O]
         exact ih (k+1) O
     . rw[af O];exact⟨_,rfl⟩
   obtain⟨r,Q⟩:=e0 m 0 O;rw[nZ]at Q;rw[Q,bS]
   match r with
   | .inl z=>exact⟨_,rfl⟩
   | .inr (.inl z)=>exact⟨_,rfl⟩
   | .inr (.inr e)=>exact e.elim
  exact⟨l,e,c0,hF,he,λ_=>J⟩
end
end Go.Vs.F
