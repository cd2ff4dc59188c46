import Derived.Test.YtoeiaipcgnjfcaaGreatDoorFn
import Derived.Test.YtoeiaipcgnjfcaaGreatDoorVc
set_option linter.unusedVariables false
set_option linter.unusedSimpArgs false
set_option linter.unusedSectionVars false
set_option linter.defProp false
set_option maxRecDepth 100000
namespace Go.Vs.F
section
def Vt (m:Nat) (a b:LI) (hl:a.length=b.length) (hb:a.length<4611686018427387904): ∀(n k:Nat),a.length-k<n->
 o5 m n a b (k:Int)=some (if a.drop k=b.drop k then .inr (.inl ())else .inl (false,()))
 |0,k,h=>O
 |n+1,k,h=>by
  rw[o5];by_cases hk:k<a.length
  . have hk':k<b.length:=O;have h1:((k:Int)<(a.length:Int)):=O;have h2:((k:Int)<(b.length:Int)):=O;simp only[bQ,h1,h2,if_true,aE,tN,xx,and_self,aB (show k<4611686018427387904 by omega)]
    rw[eY (d:=0) hk,eY (d:=0) hk',Vt m a b hl hb n (k+1) O];by_cases e:a.getD k 0=b.getD k 0
    . simp only[e,if_true,Fv,true_and]
    . simp only[e,if_false,Fv,false_and]
  . have h1: ¬((k:Int)<(a.length:Int)):=O;simp only[bQ,h1,if_false];rw[jd hk,jd (by omega: ¬k<b.length)];simp
def qt8 {m:Nat} {a b:LI} (h:a.length<m) (hb:a.length<4611686018427387904):Ij m a b=some (decide (a=b),(),(),()):=by
 rw[Ij];by_cases hl:a.length=b.length
 . have:=Vt m a b hl hb m 0 O;simp only[nZ,BY,B6]at this;have h1:(a.length:Int)=(b.length:Int):=O;simp only[h1,aE,if_true,nW]at this⊢;rw[this];by_cases e:a=b<;>simp[e]
 . have h1: ¬(a.length:Int)=(b.length:Int):=O;have e: ¬a=b:=λe=>hl (by rw[e])
   simp only[aE,h1,if_false,e,decide_false]
def U9 {x:Int}:0<=qp .u64 x 2047/\qp .u64 x 2047<2048:=by
 unfold qp
 have h:(BitVec.ofInt IntKind.u64.bits x&&&BitVec.ofInt IntKind.u64.bits 2047).toNat<2048:=by
  rw[BitVec.toNat_and];have:(BitVec.ofInt IntKind.u64.bits 2047).toNat=2047:=by decide
  rw[this];exact xP Nat.and_le_right (by decide)
 generalize (BitVec.ofInt IntKind.u64.bits x&&&BitVec.ofInt IntKind.u64.bits 2047).toNat=y at h
 rw[wu O O];omega
def fS (x:Int):Bool:=qp .u64 (az .u64 x 52) 2047 !=2047
def q7y {m:Nat} {x:Int}:tI m x=some (fS x,(),()):=by
 rw[tI,nP];have:=U9 (x:=az .u64 x 52);simp only[bS,wi (show(-9223372036854775808:Int)<=qp .u64 (az .u64 x 52) 2047 by omega) O]
 rfl
def X3 (m:Nat) (a:LI) (hb:a.length<4611686018427387904): ∀(n k:Nat),a.length-k<n->
 lE m n a (k:Int)=some (bif Qe (λi=>fS (a.getD i 0)) k a.length then .inr (.inl ())else .inl (false,()))
 |0,k,h=>O
 |n+1,k,h=>by
  rw[lE];by_cases hk:k<a.length
  . have h1:((k:Int)<(a.length:Int)):=O;simp only[bQ,h1,if_true,tN,xx,and_self,aB (show k<4611686018427387904 by omega),qJ,bS]
    rw[Xf hk,X3 m a hb n (k+1) O];show(bif !(fS (a.getD k 0))then _ else _)=_
    cases fS (a.getD k 0)<;>simp
  . have h1: ¬((k:Int)<(a.length:Int)):=O;simp only[bQ,h1,if_false];rw[Xy hk];rfl
def jc (a:LI):Bool:=Qe (λi=>fS (a.getD i 0)) 0 a.length
def qnx {m:Nat} {a:LI} (h:a.length<m) (hb:a.length<4611686018427387904):AM m a=some (jc a,(),()):=by
 rw[AM];have:=X3 m a hb m 0 O;simp only[B6,nZ,BY]at this;rw[this];unfold jc;cases Qe (λi=>fS (a.getD i 0)) 0 a.length<;>rfl
def q5j (m:Nat) (a:LI) (hb:a.length<4611686018427387904): ∀(n k:Nat),a.length-k<n->
 ∃j:Nat,lG m n a (a.length:Int) (k:Int)=some (bif Qe (λi=>fS (a.getD i 0)) k a.length then .inr (.inl ())else .inl ((j:Int),()))
 |0,k,h=>O
 |n+1,k,h=>by
  rw[lG];by_cases hk:k<a.length
  . have h1:((k:Int)<(a.length:Int)):=O;obtain⟨j,hj⟩:=q5j m a hb n (k+1) O;simp only[bQ,h1,if_true,tN,xx,and_self,aB (show k<4611686018427387904 by omega),Hv,q7y,bS]
    rw[Xf hk,hj];cases fS (a.getD k 0)
    . exact⟨k,by simp⟩
    . exact⟨j,by simp⟩
  . have h1: ¬((k:Int)<(a.length:Int)):=O;simp only[bQ,h1,if_false];rw[Xy hk];exact⟨0,rfl⟩
def q6c {m:Nat} {a:LI} (h:a.length<m) (hb:a.length<4611686018427387904):BK m a=some (!jc a,(),(),()):=by
 rw[BK,Hk];obtain⟨j,this⟩:=q5j m a hb m 0 O;simp only[B6,nZ,BY]at this;rw[this];unfold jc;cases Qe (λi=>fS (a.getD i 0)) 0 a.length
 . simp
 . simp
end
section
def pL (S:LI) (i:Nat):Bool:=decide (S.getD i 0<=S.getD (i+1) 0)
def q7u (m:Nat) (S:LI) (hb:S.length<4611686018427387904): ∀(n k:Nat),k<n->k<S.length->
 iW m n S (k:Int)=some (bif Qe (pL S) 0 k then .inr (.inl ())else .inl (false,()))
 |0,k,h,_=>O
 |n+1,0,h,h0=>by
  rw[iW];simp[Qe]
 |n+1,k+1,h,h0=>by
  rw[iW];have h1:(((k+1:Nat):Int)>0):=O;have h2:(((k+1:Nat):Int)<(S.length:Int)):=O;have h3:((k:Int)<(S.length:Int)):=O;have hp:IntKind.wrap .i64 (((k+1:Nat):Int)-1)=(k:Int):=by rw[wi O O];omega
  have e1:S.getD (k+1) 0≠S.getD (k+1) 0↔False:=by simp
  simp only[bQ,h1,h2,h3,if_true,hp,tN,xx,and_self,qu,nG,bS,aE];rw[q7u m S hb n k O O]
  have e:Qe (pL S) 0 (k+1)=(Qe (pL S) 0 k&&pL S k):=by
   rw[xO,zI,Qb,Qb];constructor
   . intro h;exact⟨λi a b=>h i a O,h k O O⟩
   . rintro ⟨g1,g2⟩ i a b
     rcases zq i k with h|h
     . exact g1 i a h
     . have:i=k:=O;rw[this];exact g2
  rw[e];unfold pL;by_cases hlt:S.getD (k+1) 0<S.getD k 0
  . have: ¬S.getD k 0<=S.getD (k+1) 0:=O;simp[-List.getD_eq_getElem?_getD,hlt,this]
  . have:S.getD k 0<=S.getD (k+1) 0:=O;simp[-List.getD_eq_getElem?_getD,hlt,this]
def qgr {m:Nat} {S:LI} (h:S.length<m) (h0:0<S.length) (hb:S.length<4611686018427387904):A4 m S=some (Qe (pL S) 0 (S.length-1),(),()):=by
 rw[A4,show wI ((S.length:Int)-1)=((S.length-1:Nat):Int) by show IntKind.wrap .i64 _=_;rw[wi O O];omega,q7u m S hb m (S.length-1) O O]
 cases Qe (pL S) 0 (S.length-1)<;>rfl
def jU (R:Int):Int->LI->Bool
 |_,[]=>true
 |l,x::xs=>(decide (l<x)&&decide (x<R))&&jU R x xs
def Z6 (m:Nat) (R C:Int) (S I V xs:LI) (a b:Int) (hb:xs.length<4611686018427387904): ∀(n k:Nat) (l:Int),xs.length-k<n->
 lU m n R C S I V l a b xs (xs.length:Int) (k:Int)=some (bif jU R l (xs.drop k)then .inr (.inl ((R,C,S,I,V,()),a,b,()))else .inl (false,()))
 |0,k,_,h=>O
 |n+1,k,l,h=>by
  rw[lU];by_cases hk:k<xs.length
  . have h1:((k:Int)<(xs.length:Int)):=O;simp only[bQ,h1,if_true,tN,xx,and_self,aB (show k<4611686018427387904 by omega)]
    rw[eY (d:=0) hk,Z6 m R C S I V xs a b hb n (k+1) _ O,jU];by_cases e1:xs.getD k 0<=l
    . have e2: ¬l<xs.getD k 0:=O;simp[-List.getD_eq_getElem?_getD,e1,e2]
    . have e2:l<xs.getD k 0:=O;by_cases e3:xs.getD k 0>=R
      . have e4: ¬xs.getD k 0<R:=O;simp[-List.getD_eq_getElem?_getD,e1,e2,e3,e4]
      . have e4:xs.getD k 0<R:=O;simp[-List.getD_eq_getElem?_getD,e1,e2,e3,e4]
  . have h1: ¬((k:Int)<(xs.length:Int)):=O;simp only[bQ,h1,if_false];rw[jd hk];rfl
def dD (S I:LI) (j:Nat):LI:=(I.drop (S.getD j 0).toNat).take ((S.getD (j+1) 0).toNat-(S.getD j 0).toNat)
structure bZ (C:Nat) (S I:LI):Prop where
 len:S.length=C+1
 s0:S.getD 0 0=0
 mono: ∀j,j<C->S.getD j 0<=S.getD (j+1) 0
 last:S.getD C 0=(I.length:Int)
def bZ.le {C:Nat} {S I:LI} (h:bZ C S I): ∀{i j:Nat},i<=j->j<=C->S.getD i 0<=S.getD j 0
 |i,0,h1,h2=>by have:i=0:=O
                subst this;exact Ny _
 |i,j+1,h1,h2=>by
  rcases zq i (j+1)with h3|h3
  . exact Int.le_trans (h.le O O) (h.mono j O)
  . have:i=j+1:=O;subst this;exact Ny _
def bZ.rng {C:Nat} {S I:LI} (h:bZ C S I) {j:Nat} (hj:j<=C):0<=S.getD j 0/\S.getD j 0<=(I.length:Int):=by
 have a:=h.le (l8 j) hj;have b:=h.le hj (zF C);rw[h.s0]at a;rw[h.last]at b;exact⟨a,b⟩
def H7 {C:Nat} {S I:LI} (h:bZ C S I) {j:Nat} (hj:j<C):(dD S I j).length=(S.getD (j+1) 0).toNat-(S.getD j 0).toNat:=by
 have a:=h.rng (j:=j) O;have b:=h.rng (j:=j+1) O;unfold dD;rw[zk,pI];omega
def XK {C:Nat} {S I:LI} (h:bZ C S I) {j:Nat} (hj:j<C) {k:Nat} (hk:k<(dD S I j).length):(dD S I j).getD k 0=I.getD ((S.getD j 0).toNat+k) 0:=by
 rw[H7 h hj]at hk;unfold dD;rw[mQ hk,sK]
def q90 (m:Nat) (R C:Int) (c:Nat) (S I V:LI) (hC:C=(c:Int)) (hok:bZ c S I) (hb:I.length<4611686018427387904) (hc:c<4611686018427387904) (hm:I.length<m): ∀(n k:Nat),c-k<n->k<=c->
 lV m n R C S I V C (k:Int)=some (bif Qe (λj=>jU R (-1) (dD S I j)) k c then .inr (.inl ())else .inl (false,()))
 |0,k,h,_=>O
 |n+1,k,h,hk0=>by
  rw[lV];subst hC;by_cases hk:k<c
  . have h1:((k:Int)<(c:Int)):=O;have hl:=hok.len;have h2:((k:Int)<(S.length:Int)):=O;have h3:(((k+1:Nat):Int)<(S.length:Int)):=O;have a:=hok.rng (j:=k) O;have b:=hok.rng (j:=k+1) O;have d:=hok.mono k hk;have hlen:(dD S I k).length<=I.length:=by rw[H7 hok hk];omega
    simp only[bQ,h1,h2,h3,if_true,tN,xx,and_self,aB (show k<4611686018427387904 by omega),a.1,b.2,d]
    have e:=Z6 m R (c:Int) S I V (dD S I k) (c:Int) (k:Int) O m 0 (-1) O;simp only[B6,nZ,BY,nW]at e;unfold dD at e⊢;rw[e,Xf hk];cases hA:jU R (-1) ((I.drop (S.getD k 0).toNat).take ((S.getD (k+1) 0).toNat-(S.getD k 0).toNat))
    . simp
    . have:=q90 m R (c:Int) c S I V rfl hok hb hc hm n (k+1) O O;unfold dD at this;simp only[cond_true,pR,bS,aB (show k<4611686018427387904 by omega)]
      exact this
  . have h1: ¬((k:Int)<(c:Int)):=O;simp only[bQ,h1,if_false];rw[Xy hk];rfl
def lX (R:Int) (S I:LI) (j k:Nat):Bool:=
 decide (0<=I.getD k 0)&&decide (I.getD k 0<R)&&(!decide ((S.getD j 0).toNat<k)||decide (I.getD (k-1) 0<I.getD k 0))
def uv (R:Int) (S I:LI) (j:Nat):Bool:=Qe (lX R S I j) (S.getD j 0).toNat (S.getD (j+1) 0).toNat
def WR (R:Int) (I:LI) (s e:Nat) (he:e<=I.length): ∀(d k:Nat) (l:Int),e-k=d->s<=k-> -1<=l->(k=s->l= -1)->(s<k->l=I.getD (k-1) 0)->
 jU R l ((I.drop k).take (e-k))=Qe (λk=>decide (0<=I.getD k 0)&&decide (I.getD k 0<R)&&(!decide (s<k)||decide (I.getD (k-1) 0<I.getD k 0))) k e
 |0,k,l,hd,hk,hl,h1,h2=>by
  rw[hd,Xy O];simp[jU]
 |d+1,k,l,hd,hk,hl,h1,h2=>by
  have hke:k<e:=O;have hki:k<I.length:=O;rw[Xf hke,eY (d:=0) hki,hd,List.take_succ_cons,jU];by_cases hx:l<I.getD k 0
  . have ih:=WR R I s e he d (k+1) (I.getD k 0) O O O O (λ_=>by simp)
    rw[show e-(k+1)=d by omega]at ih
    rw[ih];have h0:0<=I.getD k 0:=O;by_cases hs:s<k
    . have:=h2 hs;simp[-List.getD_eq_getElem?_getD,hx,h0,hs,<-this]
    . simp[-List.getD_eq_getElem?_getD,hx,h0,hs]
  . by_cases hs:s<k
    . have:=h2 hs;simp[-List.getD_eq_getElem?_getD,hx,hs,<-this]
    . have:l= -1:=h1 O;have h0: ¬0<=I.getD k 0:=O;simp[-List.getD_eq_getElem?_getD,hx,h0]
def XF {R:Int} {C:Nat} {S I:LI} (h:bZ C S I) {j:Nat} (hj:j<C):jU R (-1) (dD S I j)=uv R S I j:=by
 have a:=h.rng (j:=j) O;have b:=h.rng (j:=j+1) O;exact WR R I _ _ O _ _ _ rfl (zF _) O (λ_=>rfl) (λh=>absurd h (Nat.lt_irrefl _))
def me (R C:Int) (S I V:LI):Bool:=
 decide ((S.length:Int)=C+1)&&decide (S.getD 0 0=0)&&Qe (pL S) 0 C.toNat&&decide (S.getD C.toNat 0=(I.length:Int))&&decide (I.length=V.length)&&Qe (λj=>uv R S I j) 0 C.toNat
def qjx {m:Nat} {R C:Int} {S I V:LI} (hC:0<=C) (hC2:C<=200) (hI:I.length<=10000) (hS:S.length<m) (hm:11000<m) (hb:S.length<4611686018427387904):
 BN m R C S I V=some (me R C S I V,(),()):=by
 obtain⟨c,rfl⟩: ∃c:Nat,C=(c:Int):=⟨C.toNat,O⟩;rw[BN,me];simp only[aE,wi (show(-9223372036854775808:Int)<=(c:Int)+1 by omega) O,tN]
 by_cases h1:(S.length:Int)=(c:Int)+1
 . have hl:S.length=c+1:=O;have h2:(0:Int)<=0/\(0:Int)<(S.length:Int):=O;simp only[h1,if_true,decide_true,pR];rw[<-h1,iP h2];by_cases h3:S.getD 0 0=0
   . rw[qgr hS O hb];simp only[h3,if_true,decide_true,pR,bS,show S.length-1=c by omega]
     cases h4:Qe (pL S) 0 c
     . simp
     . have h5:(0:Int)<=(c:Int)/\(c:Int)<(S.length:Int):=O;simp only[j5,cond_true,pR];rw[iP h5];by_cases h6:S.getD c 0=(I.length:Int)
       . by_cases h7:I.length=V.length
         . have h8:(I.length:Int)=(V.length:Int):=O
           have hok:bZ c S I:=⟨hl,h3,λj hj=>by
            have:=Qb.1 h4 j O hj;simpa [-List.getD_eq_getElem?_getD,pL]using this,h6⟩
           have:=q90 m R (c:Int) c S I V rfl hok O O O m 0 O O;simp only[B6,nZ,BY]at this;rw[iP h6,iP h8,this,qbn (q:=λj=>uv R S I j) (λj _ hj=>XF hok hj)]
           simp only[h6,h7,decide_true,pR];cases Qe (λj=>uv R S I j) 0 c<;>rfl
         . have h8: ¬(I.length:Int)=(V.length:Int):=O;rw[iP h6,ao h8];simp[h7]
       . rw[ao h6];simp[-List.getD_eq_getElem?_getD,h6]
   . rw[ao h3];simp[-List.getD_eq_getElem?_getD,h3]
 . rw[ao h1];simp[h1]
def chk (R C:Int) (S I V:LI):Int:=
 if(decide (0<=R)&&decide (R<=200)&&decide (0<=C)&&decide (C<=200)&&decide (I.length<=10000))=false then 6 else if me R C S I V=false then 1 else if jc V=false then 4 else 0
def RL {m:Nat} {n lo hi:Int}:Ic m n lo hi=some (decide (lo<=n)&&decide (n<=hi),(),(),(),()):=by
 rw[Ic];by_cases h:n>=lo
 . have:lo<=n:=h;simp[h,this]
 . have: ¬lo<=n:=h;simp[h,this]
def oR {m:Nat} {R C:Int} {S I V:LI} (hS:S.length<m) (hV:V.length<m) (hm:11000<m) (hb:S.length<4611686018427387904) (hv:V.length<4611686018427387904):
 C5 m R C S I V=some (chk R C S I V,(),()):=by
 rw[C5,chk,RL,RL];by_cases h1:0<=R<;>by_cases h2:R<=200<;>by_cases h3:0<=C<;>by_cases h4:C<=200<;>simp[h1,h2,h3,h4];by_cases h5:I.length<=10000
 . have h6: ¬(10000:Int)<(I.length:Int):=O;have h7: ¬10000<I.length:=O;rw[qjx h3 h4 h5 hS hm hb,q6c hV hv];simp only[h6,h7,h5,if_false,bS];cases me R C S I V
   . simp
   . cases jc V<;>simp
 . have h6:(10000:Int)<(I.length:Int):=O;have h7:10000<I.length:=O;simp[h5,h6,h7]
end
section
def q71 (m:Nat) (R C:Int) (c:Nat) (S I V:LI) (hC:C=(c:Int)) (hl:S.length=c+1) (hc:c<4611686018427387904): ∀(n k:Nat),c-k<n->k<=c->
 lQ m n R C S I V (k:Int)=some (bif Qe (pL S) k c then .inr (.inl ((R,C,S,I,V,()),()))else .inl (1,()))
 |0,k,h,_=>O
 |n+1,k,h,h0=>by
  rw[lQ];subst hC;by_cases hk:k<c
  . have h1:((k:Int)<(c:Int)):=O;have h2:((k:Int)<(S.length:Int)):=O;have h3:(((k+1:Nat):Int)<(S.length:Int)):=O;simp only[bQ,h1,h2,h3,if_true,tN,xx,and_self,aB (show k<4611686018427387904 by omega)]
    rw[q71 m R (c:Int) c S I V rfl hl hc n (k+1) O O,Xf hk,pL];by_cases hx:S.getD k 0>S.getD (k+1) 0
    . have: ¬S.getD k 0<=S.getD (k+1) 0:=O;simp[-List.getD_eq_getElem?_getD,hx,this]
    . have:S.getD k 0<=S.getD (k+1) 0:=O;simp[-List.getD_eq_getElem?_getD,hx,this]
  . have h1: ¬((k:Int)<(c:Int)):=O;simp only[bQ,h1,if_false];rw[Xy hk];rfl
def q6u (m:Nat) (R C:Int) (c j:Nat) (S I V:LI) (hC:C=(c:Int)) (hok:bZ c S I) (hj:j<c) (hc:c<4611686018427387904) (hb:I.length<4611686018427387904): ∀(n k:Nat),(S.getD (j+1) 0).toNat-k<n->(S.getD j 0).toNat<=k->
 iZ m n R C S I V (j:Int) (k:Int)=some (bif Qe (lX R S I j) k (S.getD (j+1) 0).toNat then .inr (.inl ((R,C,S,I,V,()),(j:Int),()))else .inl (1,()))
 |0,k,h,_=>O
 |n+1,k,h,h0=>by
  rw[iZ];subst hC;have hl:=hok.len;have a:=hok.rng (j:=j) O;have b:=hok.rng (j:=j+1) O;have h2:((j:Int)<(S.length:Int)):=O;have h3:(((j+1:Nat):Int)<(S.length:Int)):=O;simp only[bQ,h2,h3,if_true,tN,xx,and_self,aB (show j<4611686018427387904 by omega)]
  by_cases hk:k<(S.getD (j+1) 0).toNat
  . have h1:((k:Int)<S.getD (j+1) 0):=O;have h4:((k:Int)<(I.length:Int)):=O;simp only[h1,h4,if_true,and_self,aB (show k<4611686018427387904 by omega)]
    rw[q6u m R (c:Int) c j S I V rfl hok hj hc hb n (k+1) O O,Xf hk,lX];by_cases e1:I.getD k 0<0
    . have e2: ¬0<=I.getD k 0:=O;simp only[e1,e2,if_true,decide_false,FD,cond_false]
    . have e2:0<=I.getD k 0:=O;by_cases e3:I.getD k 0>=R
      . have e4: ¬I.getD k 0<R:=O;simp only[e1,e2,e3,e4,if_true,if_false,decide_false,decide_true,FD,pR,cond_false]
      . have e4:I.getD k 0<R:=O;simp only[e1,e2,e3,e4,if_false,decide_true,pR];by_cases e5:(k:Int)>S.getD j 0
        . have e6:(S.getD j 0).toNat<k:=O;have e7:(0:Int)<=((k-1:Nat):Int)/\((k-1:Nat):Int)<(I.length:Int):=O;simp only[e5,e6,if_true,decide_true,jM,Bool.false_or,mu (show k<4611686018427387904 by omega) (show 0<k by omega),e7,and_self,tN]
          by_cases e8:I.getD k 0<=I.getD (k-1) 0
          . have e9: ¬I.getD (k-1) 0<I.getD k 0:=O;simp only[e8,e9,if_true,decide_false,FD,cond_false]
          . have e9:I.getD (k-1) 0<I.getD k 0:=O;simp only[e8,e9,if_false,decide_true,pR]
        . have e6: ¬(S.getD j 0).toNat<k:=O;simp only[e5,e6,if_false,decide_false,q9,NG,pR]
  . have h1: ¬((k:Int)<S.getD (j+1) 0):=O;simp only[h1,if_false];rw[Xy hk];rfl
def q6l (m:Nat) (R C:Int) (c:Nat) (S I V:LI) (hC:C=(c:Int)) (hok:bZ c S I) (hc:c<4611686018427387904) (hb:I.length<4611686018427387904) (hm:I.length<m): ∀(n k:Nat),c-k<n->k<=c->
 lP m n R C S I V (k:Int)=some (bif Qe (λj=>uv R S I j) k c then .inr (.inl ((R,C,S,I,V,()),()))else .inl (1,()))
 |0,k,h,_=>O
 |n+1,k,h,h0=>by
  rw[lP];subst hC;have hl:=hok.len;by_cases hk:k<c
  . have h1:((k:Int)<(c:Int)):=O;have h2:((k:Int)<(S.length:Int)):=O;have a:=hok.rng (j:=k) O;have b:=hok.rng (j:=k+1) O;have e:=q6u m R (c:Int) c k S I V rfl hok hk hc hb m (S.getD k 0).toNat O (zF _);rw[show(((S.getD k 0).toNat:Nat):Int)=S.getD k 0 by omega]at e
    simp only[bQ,h1,h2,if_true,tN,xx,and_self];rw[e,Xf hk];show _=some (bif (uv R S I k&&_)then _ else _)
    rw[uv];cases Qe (lX R S I k) (S.getD k 0).toNat (S.getD (k+1) 0).toNat
    . rfl
    . simp only[cond_true,pR,bS,aB (show k<4611686018427387904 by omega)]
      exact q6l m R (c:Int) c S I V rfl hok hc hb hm n (k+1) O O
  . have h1: ¬((k:Int)<(c:Int)):=O;simp only[bQ,h1,if_false];rw[Xy hk];rfl
def SR {m:Nat} {R C:Int} {S I V:LI} (hV:V.length<m) (hm:11000<m) (hv:V.length<4611686018427387904):
 wM m R C S I V=some (chk R C S I V,(),()):=by
 rw[wM,chk];by_cases h1:0<=R
 . have h1': ¬R<0:=O;by_cases h2:R<=200
   . have h2': ¬R>200:=O;by_cases h3:0<=C
     . have h3': ¬C<0:=O;by_cases h4:C<=200
       . have h4': ¬C>200:=O;by_cases h5:I.length<=10000
         . have h5': ¬(I.length:Int)>10000:=O;obtain⟨c,rfl⟩: ∃c:Nat,C=(c:Int):=⟨C.toNat,O⟩;simp only[bQ,h1,h1',h2,h2',h3,h3',h4,h4',h5,h5',if_false,decide_true,Iv,Bool.true_eq_false,me,aE,wi (show(-9223372036854775808:Int)<=(c:Int)+1 by omega) O,tN]
           by_cases g1:I.length=V.length
           . have g1':(V.length:Int)=(I.length:Int):=O;simp only[g1',if_true];by_cases g2:(S.length:Int)=(c:Int)+1
             . have hl:S.length=c+1:=O;have g3:(0:Int)<=0/\(0:Int)<(S.length:Int):=O;simp only[g2,if_true];rw[<-g2,iP g3];by_cases g4:S.getD 0 0=0
               . have g5:(True/\(c:Int)<(S.length:Int)):=⟨trivial,O⟩;simp only[g4,if_true];rw[iP g5];by_cases g6:S.getD c 0=(I.length:Int)
                 . simp only[g6,if_true];have e0:=q71 m R (c:Int) c S I V rfl hl O m 0 O O;simp only[B6,nZ,BY]at e0;rw[e0];cases h7:Qe (pL S) 0 c
                   . simp
                   . have hok:bZ c S I:=⟨hl,g4,λj hj=>by
                      have:=Qb.1 h7 j O hj;simpa [-List.getD_eq_getElem?_getD,pL]using this,g6⟩
                     have e1:=q6l m R (c:Int) c S I V rfl hok O O O m 0 O O;simp only[B6,nZ,BY]at e1;simp only[cond_true,bS];rw[e1];cases h8:Qe (λj=>uv R S I j) 0 c
                     . simp
                     . simp only[cond_true,bS,qnx hV hv,j5];cases jc V<;>simp[g1]
                 . simp[-List.getD_eq_getElem?_getD,g6]
               . simp[-List.getD_eq_getElem?_getD,g4]
             . simp[g2]
           . have g1': ¬(V.length:Int)=(I.length:Int):=O;simp[g1,g1']
         . have h5':(I.length:Int)>10000:=O;simp[h1',h2',h3',h4',h5,h5']
       . have h4':C>200:=O;simp[h1',h2',h3',h4,h4']
     . have h3':C<0:=O;simp[h1',h2',h3,h3']
   . have h2':R>200:=O;simp[h1',h2,h2']
 . have h1':R<0:=O;simp[h1,h1']
end
section
def qus (R:Nat) (E:List LI):Prop:= ∀j,∀i∈E.getD j [],0<=i/\i<(R:Int)
def big:Nat:=2305843009213693952
end
section
def Cq (C:Nat) (S I:LI):List LI:=(List.range C).map (dD S I)
def SM {C:Nat} {S I:LI} {j:Nat} (hj:j<C):(Cq C S I).getD j []=dD S I j:=by
 simp[Cq,List.getD,hj]
structure ck (R C:Nat) (S I:LI):Prop where
 st:bZ C S I
 ent: ∀j,j<C->uv (R:Int) S I j=true
 sz:I.length<=10000
 cz:C<=200
 rz:R<=200
def ck.row {R C:Nat} {S I:LI} (h:ck R C S I) {j:Nat} (hj:j<C) {k:Nat} (h1:(S.getD j 0).toNat<=k) (h2:k<(S.getD (j+1) 0).toNat):0<=I.getD k 0/\I.getD k 0<(R:Int):=by
 have:=Qb.1 (h.ent j hj) k h1 h2;simp only[lX,zI,decide_eq_true_eq]at this;exact this.1
def ck.edge {R C:Nat} {S I:LI} (h:ck R C S I):qus R (Cq C S I):=by
 intro j i hi;by_cases hj:j<C
 . rw[SM hj]at hi;obtain⟨k,hk,e⟩:=Yj (d:=0) hi;rw[XK h.st hj hk]at e;rw[H7 h.st hj]at hk;rw[<-e];exact h.row hj O O
 . simp[Cq,List.getD,hj]at hi
def ck.len {R C:Nat} {S I:LI} (h:ck R C S I) (j:Nat):((Cq C S I).getD j []).length<big:=by
 by_cases hj:j<C
 . rw[SM hj,H7 h.st hj];have:=h.st.rng (j:=j+1) O;have:=h.sz;have hb:(2305843009213693952:Nat)=big:=rfl;omega
 . simp[Cq,List.getD,hj,big]
end
section
def PI {R C:Int} {S I V:LI} (h:chk R C S I V=0): ∃r c:Nat,R=(r:Int)/\C=(c:Int)/\ck r c S I/\V.length=I.length/\jc V=true:=by
 unfold chk at h;split at h
 . omega
 . rename_i h1;split at h
   . omega
   . rename_i h2;split at h
     . omega
     . rename_i h3;simp only[Bool.not_eq_false,zI,decide_eq_true_eq]at h1 h2 h3;obtain⟨⟨⟨⟨a1,a2⟩,a3⟩,a4⟩,a5⟩:=h1;simp only[me,zI,decide_eq_true_eq]at h2;obtain⟨⟨⟨⟨⟨b1,b2⟩,b3⟩,b4⟩,b5⟩,b6⟩:=h2;refine⟨R.toNat,C.toNat,O,O,⟨⟨O,b2,λj hj=> ?_,b4⟩,λj hj=> ?_,a5,O,O⟩,b5.symm,h3⟩
       . have:=Qb.1 b3 j O hj;simpa [-List.getD_eq_getElem?_getD,pL]using this
       . have:=Qb.1 b6 j O hj;rw[show((R.toNat:Nat):Int)=R by omega];exact this
end
section
def Qx {xs:LI} {k:Nat} (h:k<xs.length):xs.getD k 0∈xs:=by simp[List.getD,h]
section
variable {E:List LI} {R C:Nat}
end
end
section
def qg7 {R C:Nat} {S I:LI} (h:ck R C S I) {j:Nat} (hj:j<C):dD S I j=(List.range' (S.getD j 0).toNat ((S.getD (j+1) 0).toNat-(S.getD j 0).toNat)).map λt=>I.getD t 0:=by
 refine qqh 0 (by rw[H7 h.st hj];simp) λk hk=> ?_
 rw[XK h.st hj hk];rw[H7 h.st hj]at hk;have e: ∀s n,k<n->(List.range' s n)[k]? =some (s+k):=λs n h=>by rw[List.getElem?_range' h,xS]
 have e2: ∀l:List Nat,(l.map λt=>I.getD t 0).getD k 0=((l[k]?).map λt=>I.getD t 0).getD 0:=λl=>by rw[List.getD,List.getElem?_map]
 rw[e2,e _ _ hk];rfl
section
variable {R C:Nat} {S I V:LI}
def Y9 (S I V:LI) (j k e:Nat):List (Int×Int×Int):=(List.range' k (e-k)).map λt=>(I.getD t 0,(j:Int),V.getD t 0)
def ents (S I V:LI):Nat->Nat->List (Int×Int×Int)
 |0,_=>[]
 |d+1,k=>Y9 S I V k (S.getD k 0).toNat (S.getD (k+1) 0).toNat++ents S I V d (k+1)
def Sd {j k e:Nat}:(Y9 S I V j k e).length=e-k:=by simp[Y9]
def SI {j k e:Nat} (h:k<e):Y9 S I V j k e=(I.getD k 0,(j:Int),V.getD k 0)::Y9 S I V j (k+1) e:=by
 unfold Y9;rw[show e-k=(e-(k+1))+1 by omega,II];rfl
def ZL (m:Nat) (hM:ck R C S I) (hV:V.length=I.length) {j:Nat} (hj:j<C): ∀(n k:Nat) (out:List (Int×Int×Int)),(S.getD (j+1) 0).toNat-k<n->out.length<=k->
 oP m n (R:Int) (C:Int) S I V out (j:Int) (k:Int)=some (.inl (((R:Int),(C:Int),S,I,V,()),out++Y9 S I V j k (S.getD (j+1) 0).toNat,(j:Int),()))
 |0,k,out,h,_=>O
 |n+1,k,out,h,ho=>by
  have hl:=hM.st.len;have hcz:=hM.cz;have hiz:=hM.sz;have b:=hM.st.rng (j:=j+1) O;rw[oP];simp only[aB (show j<4611686018427387904 by omega),tN,bQ]
  rw[iP O];by_cases hk:k<(S.getD (j+1) 0).toNat
  . rw[iP O,iP O,iP O,iP (by simp;omega),SI hk]
    simp only[aB (show k<4611686018427387904 by omega)]
    rw[ZL m hM hV hj n (k+1) _ O (by simp;omega)]
    simp
  . rw[ao O];rw[Y9,show(S.getD (j+1) 0).toNat-k=0 by omega];simp
def YV (m:Nat) (hm:20000<m) (hM:ck R C S I) (hV:V.length=I.length): ∀(d n k:Nat) (out:List (Int×Int×Int)),C-k=d->k<=C->d<n->out.length=(S.getD k 0).toNat->
 na m n (R:Int) (C:Int) S I V out (k:Int)=some (.inl (out++ents S I V d k,()))
 |0,n,k,out,hd,hk0,hn,ho=>by
  obtain⟨n,rfl⟩: ∃n',n=n'+1:=⟨n-1,O⟩;rw[na,bQ,ao O];simp[ents]
 |d+1,n,k,out,hd,hk0,hn,ho=>by
  have hl:=hM.st.len;have hcz:=hM.cz;have hiz:=hM.sz;have hk:k<C:=O;have a:=hM.st.rng (j:=k) O;have b:=hM.st.rng (j:=k+1) O;have dd:=hM.st.mono k hk;obtain⟨n,rfl⟩: ∃n',n=n'+1:=⟨n-1,O⟩;have e:=ZL (V:=V) m hM hV hk m (S.getD k 0).toNat out O O;rw[show(((S.getD k 0).toNat:Nat):Int)=S.getD k 0 by omega]at e
  rw[na,bQ,iP O,iP O];simp only[tN];rw[e];simp only[bS,aB (show k<4611686018427387904 by omega)]
  rw[YV m hm hM hV d n (k+1) _ O O O (by rw[zJ,Sd];omega),ents]
  simp
def qk1 {m:Nat} (hm:20000<m) (hM:ck R C S I) (hV:V.length=I.length) (hc:chk (R:Int) (C:Int) S I V=0):Ig m (R:Int) (C:Int) S I V=some (ents S I V C 0,(),()):=by
 have hiz:=hM.sz;rw[Ig,SR O O O,hc];have:=YV (V:=V) m hm hM hV C m 0 [] O O (by have:=hM.cz;omega) (by rw[hM.st.s0];rfl)
 simp only[B6,nZ,BY,n5]at this;simp only[bS,aE,if_true,this]
def qla {p:Int->Int->Bool} (hM:ck R C S I) {j:Nat} (hj:j<C):(Y9 S I V j (S.getD j 0).toNat (S.getD (j+1) 0).toNat).all (λe=>p e.1 e.2.1)=(dD S I j).all (λi=>p i (j:Int)):=by
 rw[qg7 hM hj,Y9,List.all_map,List.all_map];rfl
def V9 {p:Int->Int->Bool} (hM:ck R C S I): ∀(d k:Nat),C-k=d->k<=C->(ents S I V d k).all (λe=>p e.1 e.2.1)=Qe (λj=>((Cq C S I).getD j []).all (λi=>p i (j:Int))) k C
 |0,k,hd,hk=>by rw[Xy O];rfl
 |d+1,k,hd,hk=>by
  rw[ents,List.all_append,qla hM (by omega:k<C),V9 hM d (k+1) O O,Xf (by omega:k<C),SM O]
def WH (hM:ck R C S I): ∀(d k:Nat),C-k=d->k<=C->(ents S I V d k).length=(S.getD C 0).toNat-(S.getD k 0).toNat
 |0,k,hd,hk=>by
  have:k=C:=O;subst this;simp[ents]
 |d+1,k,hd,hk=>by
  have a:=hM.st.rng (j:=k) O;have b:=hM.st.rng (j:=k+1) O;have c:=hM.st.rng (j:=C) O;have dd:=hM.st.mono k O;have e:=hM.st.le (i:=k+1) (j:=C) O O;rw[ents,zJ,Sd,WH hM d (k+1) O O];omega
end
end
section
def PQ (a:Int):0<=IntKind.wrap .u64 a/\IntKind.wrap .u64 a<18446744073709551616:=by
 have e:IntKind.wrap .u64 a=a%18446744073709551616:=by
  unfold IntKind.wrap;show(if(false&&decide (a%18446744073709551616>=9223372036854775808))=true then a%18446744073709551616-18446744073709551616 else a%18446744073709551616)=_
  simp only[FD];rfl
 rw[e];omega
def quj (a:Int): ∃x:Nat,IntKind.wrap .u64 a=(x:Int)/\x<18446744073709551616:=
 ⟨(IntKind.wrap .u64 a).toNat,by have:=PQ a;omega,by have:=PQ a;omega⟩
def tm (x n:Nat):Int.tmod (x:Int) (n:Int)=((x%n:Nat):Int):=by
 rw[Int.tmod_eq_emod_of_nonneg O];rfl
def td (x n:Nat):Int.tdiv (x:Int) (n:Int)=((x/n:Nat):Int):=by
 rw[Int.tdiv_eq_ediv_of_nonneg O];rfl
end
section
abbrev aS:=Int×Int×Int
def Qc (es:List aS) (i j:Nat):Nat->Nat
 |0=>0
 |t+1=>if(es.getD t (0,(0,0))).1=(i:Int)/\(es.getD t (0,(0,0))).2.1=(j:Int)then t+1 else Qc es i j t
def OH (es:List aS) (i j:Nat): ∀t,Qc es i j t<=t
 |0=>zF _
 |t+1=>by
  rw[Qc];split
  . exact zF _
  . exact Nat.le_succ_of_le (OH es i j t)
def bw (r c:Nat) (es:List aS):Prop:= ∀k,k<es.length->
 (0<=(es.getD k (0,(0,0))).1/\(es.getD k (0,(0,0))).1<(r:Int))/\(0<=(es.getD k (0,(0,0))).2.1/\(es.getD k (0,(0,0))).2.1<(c:Int))/\fS (es.getD k (0,(0,0))).2.2=true
def cell {r c i j:Nat} (hi:i<r) (hj:j<c):j*r+i<r*c:=by
 have h1:(j+1)*r<=c*r:=zO r hj;have h2:=IH j r;have h3:=zh r c;simp only[Nat.succ_eq_add_one]at h2;omega
def qqg {r i j i' j':Nat} (hi:i<r) (hi':i'<r) (h:j*r+i=j'*r+i'):i=i'/\j=j':=by
 rcases IJ j j' with h1|h1|h1
 . have:=cell (c:=j') hi h1;have:=zh r j';omega
 . subst h1;exact⟨O,rfl⟩
 . have:=cell (c:=j) hi' h1;have:=zh r j;omega
def Hz {r c:Nat} (hr:r<=200) (hc:c<=200):r*c<=40000:=pN hr hc
def B9 {r c i j:Nat} (hr:r<=200) (hc:c<=200) (hi:i<r) (hj:j<c):IntKind.wrap .i64 ((IntKind.wrap .i64 ((j:Int)*(r:Int)))+(i:Int))=((j*r+i:Nat):Int):=by
 have h1:=cell hi hj;have h2:=Hz hr hc;have e:(j:Int)*(r:Int)=((j*r:Nat):Int):=(qZ j r).symm;rw[e,wi (n:=((j*r:Nat):Int)) O O,wi O O];omega
variable {es:List aS} {r c:Nat}
def VF (m:Nat) (hE:bw r c es) (hr:r<=200) (hc:c<=200) (hl:es.length<=1000000) (a0 a1:Int) (a2 a3 a4:LI) (b0 b1:Int) (b2 b3 b4:LI): ∀(n k:Nat) (pos:LI),es.length-k<n->k<=es.length->pos.length=r*c->
 (∀i j,i<r->j<c->pos.getD (j*r+i) 0=(Qc es i j k:Int))->
 ∃pos',oS m n (r:Int) (c:Int) es a0 a1 a2 a3 a4 b0 b1 b2 b3 b4 pos (k:Int)=some (.inl ((r:Int),(c:Int),es,(a0,a1,a2,a3,a4,()),(b0,b1,b2,b3,b4,()),pos',()))/\pos'.length=r*c/\ ∀i j,i<r->j<c->pos'.getD (j*r+i) 0=(Qc es i j es.length:Int)
 |0,k,pos,hn,_,_,_=>absurd hn (zA _)
 |n+1,k,pos,hn,hk,hp,hq=>by
  rw[oS];by_cases h:k<es.length
  . have h1:(k:Int)<(es.length:Int):=O;obtain⟨⟨g1,g2⟩,⟨g3,g4⟩,_⟩:=hE k h;obtain⟨i0,hi0⟩: ∃i0:Nat,(es.getD k (0,(0,0))).1=(i0:Int):=⟨_,(Int.toNat_of_nonneg g1).symm⟩;obtain⟨j0,hj0⟩: ∃j0:Nat,(es.getD k (0,(0,0))).2.1=(j0:Int):=⟨_,(Int.toNat_of_nonneg g3).symm⟩;have hi:i0<r:=O;have hj:j0<c:=O;have hce:=cell hi hj;rw[bQ,iP h1];simp only[tN,hi0,hj0,wI,B9 hr hc hi hj,aB (k:=k) O,zG];rw[iP (inr h),iP (inr h),iP O];refine VF m hE hr hc hl a0 a1 a2 a3 a4 b0 b1 b2 b3 b4 n (k+1) _ O O (by simp[hp]) ?_
    intro i j hi' hj';rw[Qc,hi0,hj0];by_cases he:j0*r+i0=j*r+i
    . obtain⟨e1,e2⟩:=qqg hi hi' he;subst e1;subst e2;rw[SD O,iP ⟨rfl,rfl⟩]
    . rw[bP he,ao,hq i j hi' hj']
      rintro ⟨e1,e2⟩
      exact he (by rw[show i0=i by omega,show j0=j by omega])
  . have h1: ¬(k:Int)<(es.length:Int):=O;have hke:k=es.length:=O;simp only[bQ,h1,if_false];exact⟨pos,rfl,hp,λi j hi hj=>by rw[hq i j hi hj,hke]⟩
def dR (es:List aS) (j i d:Nat):List Nat:=(List.range' i d).filter λi=>decide (0<Qc es i j es.length)
def d9 (es:List aS) (j i d:Nat):LI:=(dR es j i d).map λi:Nat=>(i:Int)
def jT (es:List aS) (j i d:Nat):LI:=(dR es j i d).map λi:Nat=>(es.getD (Qc es i j es.length-1) (0,(0,0))).2.2
def qpl {j i d:Nat}:(dR es j i d).length<=d:=by
 have:=Fz (λi=>decide (0<Qc es i j es.length)) (List.range' i d)
 simpa [dR]using this
def QU (m:Nat) (hr:r<=200) (hc:c<=200) (hl:es.length<=1000000) (a0 a1:Int) (a2 a3 a4:LI) (b0 b1:Int) (S:LI) {pos:LI} (hp:pos.length=r*c)
 (hq: ∀i j,i<r->j<c->pos.getD (j*r+i) 0=(Qc es i j es.length:Int)) {j:Nat} (hj:j<c): ∀(d n i:Nat) (I V:LI),d<n->r-i=d->i<=r->I.length+d<=1000000->V.length+d<=1000000->
 kO m n (r:Int) (c:Int) es a0 a1 a2 a3 a4 b0 b1 S I V pos (j:Int) (i:Int)=some (.inl ((r:Int),(c:Int),es,(a0,a1,a2,a3,a4,()),(b0,b1,S,I++d9 es j i d,V++jT es j i d,()),pos,(j:Int),()))
 |d,0,i,I,V,hn,_,_,_,_=>absurd hn (zA _)
 |0,n+1,i,I,V,hn,hd,hi,hI,hV=>by
  rw[kO];have h1: ¬(i:Int)<(r:Int):=O;simp[bQ,h1,d9,jT,dR]
 |d+1,n+1,i,I,V,hn,hd,hi,hI,hV=>by
  rw[kO];have hir:i<r:=O;have h1:(i:Int)<(r:Int):=O;have hce:=cell hir hj;have hle:=OH es i j es.length;rw[bQ,iP h1];simp only[bQ,tN,wI,B9 hr hc hir hj,aB (k:=i) O,zG,hq i j hir hj];rw[iP O];by_cases hx:0<Qc es i j es.length
  . have h2:(Qc es i j es.length:Int)>0:=O;have h3:I.length+([(i:Int)]:LI).length<=1073741824:=by simp;omega
    rw[iP h2,iP h3,mu O hx,tN];have h4: ∀x:Int,V.length+([x]:LI).length<=1073741824:=by intro x;simp;omega
    rw[iP O,iP (h4 _)];rw[QU m hr hc hl a0 a1 a2 a3 a4 b0 b1 S hp hq hj d n (i+1) _ _ O O O (by simp;omega) (by simp;omega)]
    have e1:dR es j i (d+1)=i::dR es j (i+1) d:=by
     unfold dR;rw[II,tR,iP (by simpa using hx)]
    simp only[d9,jT,e1,nV,zu,xq]
  . have h2: ¬(Qc es i j es.length:Int)>0:=O;rw[ao h2];rw[QU m hr hc hl a0 a1 a2 a3 a4 b0 b1 S hp hq hj d n (i+1) _ _ O O O O O]
    have e1:dR es j i (d+1)=dR es j (i+1) d:=by
     unfold dR;rw[II,tR,ao (by simpa using hx)]
    simp only[d9,jT,e1]
def a7 (es:List aS) (r:Nat):Nat->LI
 |0=>[]
 |j+1=>a7 es r j++d9 es j 0 r
def bo (es:List aS) (r:Nat):Nat->LI
 |0=>[]
 |j+1=>bo es r j++jT es j 0 r
def br (es:List aS) (r j:Nat):LI:=(List.range (j+1)).map λt=>((a7 es r t).length:Int)
def JS (es:List aS) (r:Nat): ∀j,(bo es r j).length=(a7 es r j).length
 |0=>rfl
 |j+1=>by simp[bo,a7,JS es r j,d9,jT]
def RP (es:List aS) (r:Nat): ∀j,(a7 es r j).length<=j*r
 |0=>by simp[a7]
 |j+1=>by
  have:=RP es r j;have h2:=qpl (es:=es) (j:=j) (i:=0) (d:=r);rw[IH];simp only[a7,zJ,d9,zy];omega
def qka (es:List aS) (r j:Nat):br es r (j+1)=br es r j++[((a7 es r (j+1)).length:Int)]:=by
 simp[br,Fu]
def VG (m:Nat) (hm:300<m) (hr:r<=200) (hc:c<=200) (hl:es.length<=1000000) (a0 a1:Int) (a2 a3 a4:LI) (b0 b1:Int) {pos:LI} (hp:pos.length=r*c)
 (hq: ∀i j,i<r->j<c->pos.getD (j*r+i) 0=(Qc es i j es.length:Int)): ∀(d n j:Nat),d<n->c-j=d->j<=c->
 ng m n (r:Int) (c:Int) es a0 a1 a2 a3 a4 b0 b1 (br es r j) (a7 es r j) (bo es r j) pos (j:Int)=some (.inl ((a0,a1,a2,a3,a4,()),(b0,b1,br es r c,a7 es r c,bo es r c,()),()))
 |d,0,j,hn,_,_=>absurd hn (zA _)
 |0,n+1,j,hn,hd,hj=>by
  rw[ng];have h1: ¬(j:Int)<(c:Int):=O;have:j=c:=O;subst this;simp[bQ]
 |d+1,n+1,j,hn,hd,hj=>by
  rw[ng];have hjc:j<c:=O;have h1:(j:Int)<(c:Int):=O;have l1:=RP es r j;have l2:=JS es r j;have l3:j*r<=40000:=Hz (r:=j) (c:=r) O hr;have:=QU m hr hc hl a0 a1 a2 a3 a4 b0 b1 (br es r j) hp hq hjc r m 0 (a7 es r j) (bo es r j) O O O O O;simp only[nZ]at this;simp only[bQ,h1,if_true,this,bS];have h3: ∀x:Int,(br es r j).length+([x]:LI).length<=1073741824:=by intro x;simp[br];omega
  rw[iP (h3 _),show wI ((j:Int)+1)=((j+1:Nat):Int)from aB O]
  have e:=VG m hm hr hc hl a0 a1 a2 a3 a4 b0 b1 hp hq d n (j+1) O O O;rw[qka]at e;simp only[a7,bo]at e;exact e
def qt3 {m:Nat} (hE:bw r c es) (hr:r<=200) (hc:c<=200) (hl:es.length<=1000000) (hm:1000300<m):
 Pg m (r:Int) (c:Int) es=some (((r:Int),(c:Int),br es r c,a7 es r c,bo es r c,()),(),(),(),()):=by
 have ha:=Hz hr hc;have e:(r:Int)*(c:Int)=((r*c:Nat):Int):=(qZ r c).symm;rw[Pg];simp only[wI,e];rw[wi (n:=((r*c:Nat):Int)) O O,iP O,tN]
 obtain⟨pos,h1,h2,h3⟩:=VF m hE hr hc hl 0 0 [] [] [] (r:Int) (c:Int) [0] [] [] m 0 (List.replicate (r*c) 0) O O (by simp) (by
  intro i j hi hj;rw[Xk (cell hi hj)];rfl)
 simp only[nZ]at h1;rw[h1];simp only[bS];have:=VG m O hr hc hl 0 0 [] [] [] (r:Int) (c:Int) h2 h3 c m 0 O O O;simp only[nZ,a7,bo]at this;rw[show([0]:LI)=br es r 0 from rfl,this]
 rfl
end
section
variable {es:List aS} {r c:Nat}
def Zt {t:Nat} (h:t<=c):(br es r c).getD t 0=((a7 es r t).length:Int):=by
 have:t<c+1:=O;simp[br,List.getD,this]
def ON {t:Nat}: ∀d,∃zs,a7 es r (t+d)=a7 es r t++zs
 |0=>⟨[],by simp⟩
 |d+1=>by
  obtain⟨zs,h⟩:=ON (t:=t) d;exact⟨zs++d9 es (t+d) 0 r,by rw[<-Nat.add_assoc,a7,h,zu]⟩
def qk3 {t u:Nat} (h:t<=u):(a7 es r t).length<=(a7 es r u).length:=by
 obtain⟨zs,e⟩:=ON (es:=es) (r:=r) (t:=t) (u-t);rw[show t+(u-t)=u by omega]at e
 rw[e];simp
def qke {j:Nat} (hj:j<c):dD (br es r c) (a7 es r c) j=d9 es j 0 r:=by
 unfold dD;rw[Zt O,Zt O,tN,tN];obtain⟨zs,e⟩:=ON (es:=es) (r:=r) (t:=j+1) (c-(j+1));rw[show j+1+(c-(j+1))=c by omega]at e
 rw[e,a7,zu,List.drop_left,zJ,Nat.add_sub_cancel_left,List.take_left]
def ZY:bZ c (br es r c) (a7 es r c) where
 len:=by simp[br]
 s0:=by rw[Zt (l8 _)];rfl
 mono j hj:=by
  rw[Zt O,Zt O];have:=qk3 (es:=es) (r:=r) (show j<=j+1 by omega)
  omega
 last:=Zt (zF _)
def Wb {R:Int} {j:Nat}: ∀(d i:Nat) (l:Int),l<(i:Int)->((i+d:Nat):Int)<=R->jU R l (d9 es j i d)=true
 |0,i,l,h,hR=>by simp[d9,dR,jU]
 |d+1,i,l,h,hR=>by
  have ih:=Wb (R:=R) (j:=j) d (i+1);by_cases hx:0<Qc es i j es.length
  . have e1:d9 es j i (d+1)=(i:Int)::d9 es j (i+1) d:=by
     unfold d9 dR;rw[II,tR,iP (by simpa using hx),nV]
    have h2:(i:Int)<R:=O;rw[e1,jU,ih (i:Int) O O];simp[h,h2]
  . have e1:d9 es j i (d+1)=d9 es j (i+1) d:=by
     unfold d9 dR;rw[II,tR,ao (by simpa using hx)]
    rw[e1,ih l O O]
def Vh (hr:r<=200) (hc:c<=200) (ha:c*r<=10000):ck r c (br es r c) (a7 es r c) where
 st:=ZY
 ent j hj:=by
  rw[<-XF ZY hj,qke hj];exact Wb r 0 (-1) O O
 sz:=zf (RP es r c) ha
 cz:=hc
 rz:=hr
def qqz (hE:bw r c es) {j i d:Nat} {x:Int} (h:x∈jT es j i d):fS x=true:=by
 obtain⟨i',h1,h2⟩:=zV.1 h;have h3:=pH.1 h1;have h4:=of_decide_eq_true h3.2;have h5:=OH es i' j es.length;rw[<-h2];exact(hE _ O).2.2
def YJ (hE:bw r c es) {x:Int}: ∀j,x∈bo es r j->fS x=true
 |0,h=>by cases h
 |j+1,h=>by
  rcases zQ.1 h with h|h
  . exact YJ hE j h
  . exact qqz hE h
def qq9 (hE:bw r c es) (hr:r<=200) (hc:c<=200) (ha:c*r<=10000):chk (r:Int) (c:Int) (br es r c) (a7 es r c) (bo es r c)=0:=by
 have hM:=Vh (es:=es) hr hc ha;have hs:=hM.st;have hsz:=hM.sz
 have e1:jc (bo es r c)=true:=by
  unfold jc;refine Qb.2 λi _ h=> ?_
  exact YJ hE c (Qx h)
 have e2:me (r:Int) (c:Int) (br es r c) (a7 es r c) (bo es r c)=true:=by
  unfold me;simp only[zI,decide_eq_true_eq,tN];refine⟨⟨⟨⟨⟨by rw[hs.len];omega,hs.s0⟩,?_⟩,hs.last⟩,(JS es r c).symm⟩,?_⟩
  . exact Qb.2 λi _ h=>decide_eq_true (hs.mono i h)
  . exact Qb.2 λi _ h=>hM.ent i h
 have e0:(decide (0<=(r:Int))&&decide ((r:Int)<=200)&&decide (0<=(c:Int))&&decide ((c:Int)<=200)&&decide ((a7 es r c).length<=10000))=true:=by
  simp only[zI,decide_eq_true_eq];omega
 unfold chk;rw[e0,e1,e2];rfl
def bw.snoc (h:bw r c es) {a b v:Int} (h1:0<=a/\a<(r:Int)) (h2:0<=b/\b<(c:Int)) (h3:fS v=true):bw r c (es++[(a,(b,v))]):=by
 intro k hk;rw[zJ,ny]at hk;by_cases h':k<es.length
 . rw[q4s h'];exact h k h'
 . have:k-es.length=0:=O;rw[q3r O,this];exact⟨h1,h2,h3⟩
end
section
def Wi {S I V:LI} {R C:Nat} (hM:ck R C S I) {e:aS}: ∀(d k:Nat),C-k=d->k<=C->e∈ents S I V d k-> ∃t,t<I.length/\e.2.2=V.getD t 0
 |0,k,hd,hk,h=>by simp[ents]at h
 |d+1,k,hd,hk,h=>by
  rw[ents,zQ]at h;rcases h with h|h
  . obtain⟨t,h1,h2⟩:=zV.1 h;have h3:=HB.1 h1;have b:=hM.st.rng (j:=k+1) O;have a:=hM.st.rng (j:=k) O;exact⟨t,O,by rw[<-h2]⟩
  . exact Wi hM d (k+1) O O h
def qsy {S I V:LI} {R C:Nat} (hM:ck R C S I) (hV:V.length=I.length) (hf:jc V=true):bw R C (ents S I V C 0):=by
 intro k hk;have hm:(ents S I V C 0).getD k (0,(0,0))∈ents S I V C 0:=by simp[List.getD,hk]
 have h:=V9 (V:=V) (p:=λa b=>decide (0<=a)&&decide (a<(R:Int))&&decide (0<=b)&&decide (b<(C:Int))) hM C 0 O O
 have h4:Qe (λj'=>((Cq C S I).getD j' []).all (λa=>decide (0<=a)&&decide (a<(R:Int))&&decide (0<=(j':Int))&&decide ((j':Int)<(C:Int)))) 0 C=true:=by
  refine Qb.2 λj' _ hj'=>zx.2 λi hi=> ?_
  have:=hM.edge j' i hi;simp only[zI,decide_eq_true_eq];omega
 rw[h4]at h;have h5:=zx.1 h _ hm;simp only[zI,decide_eq_true_eq]at h5;obtain⟨t,ht,ev⟩:=Wi hM C 0 O O hm;refine⟨⟨h5.1.1.1,h5.1.1.2⟩,⟨h5.1.2,h5.2⟩,?_⟩;rw[ev];exact Qb.1 hf t (l8 _) O
end
section
abbrev zE:aS:=(0,(0,0))
def fw (x y:aS):Bool:=decide (x.2.1<y.2.1)||(decide (x.2.1=y.2.1)&&decide (x.1<y.1))
def Sc {m:Nat} (x y:Int):sW m x y=some (if x<y then-1 else if x>y then 1 else 0,(),(),()):=by
 simp only[sW,nG,bS,bne_self_eq_false,cond_false,bQ];by_cases h:x<y
 . simp[h]
 . by_cases h2:x>y
   . simp[h,h2]
   . simp[h,h2]
def M3 {m:Nat} (hm:2<m) (a b:Int):sV m [a,b]=some (if a=0 then b else a,(),()):=by
 obtain⟨n,rfl⟩: ∃n,m=n+3:=⟨m-3,O⟩;have e1:wI 1=1:=by decide
 have e2:wI 2=2:=by decide
 by_cases h:a=0
 . subst h;by_cases h2:b=0
   . subst h2;simp[sV,iJ,-wQ,e1,e2]
   . simp[sV,iJ,-wQ,e1,e2,h2]
 . simp[sV,iJ,h]
def O2 {m:Nat} (hm:2<m) (x y:aS): ∃c,oV m x.1 x.2.1 x.2.2 y.1 y.2.1 y.2.2=some (c,(),(),())/\decide (c<0)=fw x y:=by
 rw[oV,Sc,bS,Sc,bS,M3 hm];refine⟨_,rfl,?_⟩;unfold fw;rcases Int.lt_trichotomy x.2.1 y.2.1 with h|h|h
 . simp[h]
 . have h1: ¬x.2.1<y.2.1:=O;have h2: ¬x.2.1>y.2.1:=O;rcases Int.lt_trichotomy x.1 y.1 with g|g|g
   . simp[h,g]
   . simp[h,g]
   . have g1: ¬x.1<y.1:=O;simp[h,g,g1]
 . have h1: ¬x.2.1<y.2.1:=O;have h2: ¬x.2.1=y.2.1:=O;simp[h,h1,h2]
def c9 {α:Type} {P Q:List α} {x z:α} {k:Nat} (h:k=P.length):(P++x::Q).getD k z=x:=by
 subst h;simp[List.getD]
def Ch {α:Type} {P Q:List α} {x y:α} {k:Nat} (h:k=P.length):(P++x::Q).set k y=P++y::Q:=by
 subst h;simp
def gn (x y:aS):Prop:=fw y x=false
def Yz {x y z:aS} (h1:gn x y) (h2:gn y z):gn x z:=by
 unfold gn fw at*;simp only[Ip,decide_eq_false_iff_not,Nv]at*;omega
def JQ {x y:aS} (h:fw x y=true):gn x y:=by
 unfold gn fw at*;simp only[Ip,decide_eq_false_iff_not,Nv,tv,decide_eq_true_eq,zI]at*;omega
def qpy (x:aS):gn x x:=by
 unfold gn fw;simp
abbrev fV (l:List aS):Prop:=l.Pairwise gn
def J3 (x:aS):List aS->List aS
 |[]=>[x]
 |y::r=>if fw x y=true then y::J3 x r else x::y::r
def SN (x:aS): ∀r,List.Perm (J3 x r) (x::r)
 |[]=>List.Perm.refl _
 |y::r=>by
  unfold J3;split
  . exact((SN x r).cons y).trans (List.Perm.swap ..)
  . exact List.Perm.refl _
def ZO (x:aS): ∀r:List aS,r.Pairwise (λa b=>gn b a)->(J3 x r).Pairwise (λa b=>gn b a)
 |[],_=>by simp[J3]
 |y::r,h=>by
  rw[HF]at h;unfold J3;split
  . rename_i hlt;refine HF.2 ⟨λa ha=> ?_,ZO x r h.2⟩
    rcases mC ((SN x r).mem_iff.1 ha)with rfl|ha
    . exact JQ hlt
    . exact h.1 a ha
  . rename_i hlt;have hle:gn y x:=by simpa [gn]using hlt
    refine HF.2 ⟨λa ha=> ?_,HF.2 h⟩
    rcases mC ha with rfl|ha
    . exact hle
    . exact Yz (h.1 a ha) hle
def UP (m:Nat) (hm:2<m) (P:List aS) (x:aS) (b i:Int): ∀(r Q:List aS) (n:Nat),r.length<n->P.length+r.length+Q.length<1000000000->
 gI m n (P++r.reverse++x::Q) (P.length:Int) b i ((P.length+r.length:Nat):Int)=some (.inl (P++(J3 x r).reverse++Q,(P.length:Int),b,(),i,()))
 |r,Q,0,h,_=>absurd h (zA _)
 |[],Q,n+1,_,hb=>by
  simp only[gI,bQ];rw[ao (by simp)]
  simp[J3]
 |y::r,Q,n+1,h,hb=>by
  simp only[j8]at h hb;have hd:P++(y::r).reverse++x::Q=(P++r.reverse)++y::x::Q:=by simp
  have hd2:P++(y::r).reverse++x::Q=(P++(y::r).reverse)++x::Q:=rfl;have hl1:(P++r.reverse).length=P.length+r.length:=by simp
  have hl2:(P++(y::r).reverse).length=P.length+r.length+1:=by simp;omega
  have hlen:(P++(y::r).reverse++x::Q).length=P.length+r.length+2+Q.length:=by simp;omega
  have ej:((P.length+(y::r).length:Nat):Int)=((P.length+r.length+1:Nat):Int):=by simp;omega
  have ew:wI (((P.length+r.length+1:Nat):Int)-1)=((P.length+r.length:Nat):Int):=by rw[wQ,wi O O];omega
  have gx:(P++(y::r).reverse++x::Q).getD (0+((P.length+r.length+1:Nat):Int).toNat) zE=x:=c9 (by rw[hl2];omega)
  have gy:(P++(y::r).reverse++x::Q).getD (0+((P.length+r.length:Nat):Int).toNat) zE=y:=by rw[hd];exact c9 (by rw[hl1];omega)
  obtain⟨c,hc1,hc2⟩:=O2 hm x y;rw[ej];simp only[gI,ew,gx,gy,hc1,bS,zS];rw[hlen,hc2];simp only[bQ];rw[iP O,iP O,iP O];cases hlt:fw x y with
  |false=>
   simp only[cond_false,J3,hlt];simp
  |true=>
   simp only[cond_true];rw[iP O,iP O,iP O,iP O]
   have hs:((P++(y::r).reverse++x::Q).set (0+((P.length+r.length+1:Nat):Int).toNat) y).set (0+((P.length+r.length:Nat):Int).toNat) x=P++r.reverse++x::(y::Q):=by
    rw[Ch (by rw[hl2];omega)]
    rw[show P++(y::r).reverse++y::Q=(P++r.reverse)++y::y::Q by simp]
    rw[Ch (by rw[hl1];omega)]
   show gI m n (((P++(y::r).reverse++x::Q).set (0+((P.length+r.length+1:Nat):Int).toNat) y).set (0+((P.length+r.length:Nat):Int).toNat) x) _ _ _ _=_
   rw[hs,UP m hm P x b i r (y::Q) n O (by simp only[j8];omega)]
   simp[J3,hlt]
def Uh (m:Nat) (hm2:2<m) (P Q:List aS) (hb:P.length+Q.length<400000000): ∀(T S:List aS) (n:Nat),T.length<n->S.length+T.length<m->S.length+T.length<400000000->fV S->
 ∃S',gJ m n (P++S++T++Q) (P.length:Int) ((P.length+S.length+T.length:Nat):Int) ((P.length+S.length:Nat):Int)=some (.inl (P++S'++Q,()))/\fV S'/\List.Perm S' (S++T)
 |T,S,0,h,_,_,_=>absurd h (zA _)
 |[],S,n+1,_,_,_,hS=>by
  refine⟨S,?_,hS,by simp⟩
  simp only[gJ,bQ];rw[ao (by simp)]
  simp
 |x::T,S,n+1,h,hm,hl,hS=>by
  simp only[j8]at h hm hl;have hs:=ZO x S.reverse (List.pairwise_reverse.2 hS);have hp:=SN x S.reverse;have hlen:(J3 x S.reverse).length=S.length+1:=by rw[hp.length_eq];simp
  obtain⟨S',e1,e2,e3⟩:=Uh m hm2 P Q hb T (J3 x S.reverse).reverse n O (by simp[hlen];omega) (by simp[hlen];omega) (List.pairwise_reverse.2 hs)
  refine⟨S',?_,e2,e3.trans ?_⟩
  . simp only[gJ,bQ];rw[iP (by simp only[j8];omega)]
    have h1:=UP m hm2 P x ((P.length+S.length+(x::T).length:Nat):Int) ((P.length+S.length:Nat):Int) S.reverse (T++Q) m (by simp;omega) (by simp;omega)
    simp only[List.reverse_reverse,List.length_reverse]at h1;rw[show P++S++(x::T)++Q=P++S++x::(T++Q) by simp,h1]
    simp only[bS]
    rw[show wI (((P.length+S.length:Nat):Int)+1)=((P.length+(J3 x S.reverse).reverse.length:Nat):Int) by
     rw[wQ,wi O O];simp[hlen];omega]
    rw[show P++(J3 x S.reverse).reverse++(T++Q)=P++(J3 x S.reverse).reverse++T++Q by simp]
    rw[show((P.length+S.length+(x::T).length:Nat):Int)=((P.length+(J3 x S.reverse).reverse.length+T.length:Nat):Int) by simp[hlen];omega]
    exact e1
  . refine List.Perm.append ((List.reverse_perm _).trans hp) (List.Perm.refl T)|>.trans ?_
    simp only[qX];exact(IG.symm).trans (List.Perm.append (List.reverse_perm S) (List.Perm.refl _))|>.trans (List.Perm.refl _)
def qek {m:Nat} (P T Q:List aS) (hb:P.length+Q.length<400000000) (hm:T.length+1<m) (hl:T.length<400000000) (h0:T≠[]):
 ∃S',qk m (P++T++Q) (P.length:Int) ((P.length+T.length:Nat):Int)=some ((),(P++S'++Q,(),(),(),()))/\fV S'/\List.Perm S' T:=by
 cases T with
 |nil=>exact absurd rfl h0
 |cons x T=>
  simp only[j8]at hm hl;obtain⟨S',e1,e2,e3⟩:=Uh m O P Q hb T [x] m O (by simp;omega) (by simp;omega) (by simp)
  refine⟨S',?_,e2,e3⟩;rw[qk];rw[show wI ((P.length:Int)+1)=((P.length+[x].length:Nat):Int) by rw[wQ,wi O O];simp]
  rw[show P++(x::T)++Q=P++[x]++T++Q by simp]
  rw[show((P.length+(x::T).length:Nat):Int)=((P.length+[x].length+T.length:Nat):Int) by simp;omega,e1]
  rfl
end
section
def IQ {P M Q:List aS} {x y:aS} {i j:Nat} (hi:i=P.length) (hj:j=P.length+1+M.length):
 ((P++x::(M++y::Q)).set i y).set j x=P++y::(M++x::Q):=by
 rw[Ch hi,show P++y::(M++y::Q)=(P++y::M)++y::Q by simp,Ch (by simp;omega)]
 simp
def Te {P M Q:List aS} {x y:aS} {j:Nat} (hj:j=P.length+1+M.length):(P++x::(M++y::Q)).getD j zE=y:=by
 rw[show P++x::(M++y::Q)=(P++x::M)++y::Q by simp]
 exact c9 (by simp;omega)
def q53 (m:Nat) (P M Q:List aS): ∀(A2 B2 A1 B1:List aS) (n:Nat),A2.length<n->A1.length=B1.length->A2.length=B2.length->
 P.length+2*(A1.length+A2.length)+M.length+Q.length<1000000000->
 gF m n (P++B1++A2++M++A1++B2++Q) (P.length:Int) ((P.length+A1.length+A2.length+M.length:Nat):Int) ((A1.length+A2.length:Nat):Int) (A1.length:Int)=
  some (.inl (P++(B1++B2)++M++(A1++A2)++Q,()))
 |A2,B2,A1,B1,0,h,_,_,_=>absurd h (zA _)
 |[],B2,A1,B1,n+1,_,h1,h2,_=>by
  have:B2=[]:=pK.1 h2.symm;subst this;simp only[gF,bQ];rw[ao (by simp)]
  simp
 |x::A2,[],A1,B1,n+1,_,_,h2,_=>by simp at h2
 |x::A2,y::B2,A1,B1,n+1,h,h1,h2,hb=>by
  simp only[j8]at h h2 hb;have hd:P++B1++x::A2++M++A1++y::B2++Q=(P++B1)++x::((A2++M++A1)++y::(B2++Q)):=by simp
  have hlen:((P++B1)++x::((A2++M++A1)++y::(B2++Q))).length=P.length+2*(A1.length+(A2.length+1))+M.length+Q.length:=by simp;omega
  have ea:wI ((P.length:Int)+(A1.length:Int))=((P.length+A1.length:Nat):Int):=by rw[wQ,wi O O];omega
  have eb:wI (((P.length+A1.length+(x::A2).length+M.length:Nat):Int)+(A1.length:Int))=((P.length+A1.length+(A2.length+1)+M.length+A1.length:Nat):Int):=by
   rw[wQ,wi (by simp only[j8];omega) (by simp only[j8];omega)];simp only[j8];omega
  have ei:wI ((A1.length:Int)+1)=((A1++[x]).length:Int):=by rw[wQ,wi O O];simp
  have gx:((P++B1)++x::((A2++M++A1)++y::(B2++Q))).getD (0+((P.length+A1.length:Nat):Int).toNat) zE=x:=c9 (by simp;omega)
  have gy:((P++B1)++x::((A2++M++A1)++y::(B2++Q))).getD (0+((P.length+A1.length+(A2.length+1)+M.length+A1.length:Nat):Int).toNat) zE=y:=Te (by simp;omega)
  have hs:=IQ (P:=P++B1) (M:=A2++M++A1) (Q:=B2++Q) (x:=x) (y:=y) (i:=0+((P.length+A1.length:Nat):Int).toNat) (j:=0+((P.length+A1.length+(A2.length+1)+M.length+A1.length:Nat):Int).toNat) (by simp;omega) (by simp;omega)
  rw[hd];simp only[gF,bQ,ea,eb,ei,gx,gy,zS];rw[hlen,iP (by simp only[j8];omega),iP O,iP O,iP O,iP O]
  show gF m n ((((P++B1)++x::((A2++M++A1)++y::(B2++Q))).set (0+((P.length+A1.length:Nat):Int).toNat) y).set (0+((P.length+A1.length+(A2.length+1)+M.length+A1.length:Nat):Int).toNat) x) _ _ _ _=_
  rw[hs];have ih:=q53 m P M Q A2 B2 (A1++[x]) (B1++[y]) n O (by simp[h1]) O (by simp;omega)
  rw[show P++B1++y::(A2++M++A1++x::(B2++Q))=P++(B1++[y])++A2++M++(A1++[x])++B2++Q by simp]
  rw[show((P.length+A1.length+(x::A2).length+M.length:Nat):Int)=((P.length+(A1++[x]).length+A2.length+M.length:Nat):Int) by simp;omega]
  rw[show((A1.length+(x::A2).length:Nat):Int)=(((A1++[x]).length+A2.length:Nat):Int) by simp;omega]
  rw[ih];simp
def SV {m:Nat} (P A M B Q:List aS) (h:A.length=B.length) (hm:A.length<m) (hb:P.length+2*A.length+M.length+Q.length<1000000000) {a b n:Int}
 (ha:a=(P.length:Int)) (hbb:b=((P.length+A.length+M.length:Nat):Int)) (hn:n=(A.length:Int)):
 sQ m (P++A++M++B++Q) a b n=some ((),(P++B++M++A++Q,(),(),(),(),())):=by
 subst ha hbb hn;have:=q53 m P M Q A B [] [] m hm rfl h (by simpa using hb)
 simp only[jg,n5,xN,zU,zG]at this;rw[sQ,show((0:Int))=((0:Nat):Int)from rfl,this]
 rfl
def R7 (m:Nat): ∀(n:Nat) (P A B Q:List aS),A.length+B.length<n->A.length+B.length<m->0<A.length->0<B.length->P.length+A.length+B.length+Q.length<1000000000->
 ∃(P' A' B' Q':List aS),iD m n (P++A++B++Q) ((P.length+A.length:Nat):Int) (A.length:Int) (B.length:Int)=some (.inl (P'++A'++B'++Q',((P.length+A.length:Nat):Int),(),(A'.length:Int),()))/\
  A'.length=B'.length/\0<A'.length/\P'.length+A'.length=P.length+A.length/\P'++B'++A'++Q'=P++B++A++Q/\A'.length<=A.length
 |0,P,A,B,Q,h,_,_,_,_=>absurd h (zA _)
 |n+1,P,A,B,Q,h,hm,hA,hB,hb=>by
  simp only[iD,aE,bQ];by_cases e:(A.length:Int)=(B.length:Int)
  . rw[iP e];exact⟨P,A,B,Q,rfl,O,hA,rfl,rfl,zF _⟩
  . rw[ao e];by_cases hgt:(A.length:Int)>(B.length:Int)
    . rw[iP hgt];have hsp:A=A.take B.length++A.drop B.length:=(zn _ _).symm;have l1:(A.take B.length).length=B.length:=by simp;omega
      have l2:(A.drop B.length).length=A.length-B.length:=by simp
      generalize A.take B.length=A1 at*
      generalize A.drop B.length=A2 at*
      subst hsp;simp only[zJ]at*
      have hsw:=SV (m:=m) P A1 A2 B Q l1 O O (a:=wI (((P.length+(A1.length+A2.length):Nat):Int)-((A1.length+A2.length:Nat):Int))) (b:=((P.length+(A1.length+A2.length):Nat):Int)) (n:=(B.length:Int))
       (by rw[wQ,wi O O];omega) O O
      rw[show P++(A1++A2)++B++Q=P++A1++A2++B++Q by simp,hsw]
      simp only[bS];obtain⟨P',A',B',Q',e1,e2,e3,e4,e5,e6⟩:=R7 m n (P++B) A2 A1 Q O O O O (by simp;omega)
      refine⟨P',A',B',Q',?_,e2,e3,by simp at e4;omega,?_,O⟩
      . rw[show wI (((A1.length+A2.length:Nat):Int)-(B.length:Int))=(A2.length:Int) by rw[wQ,wi O O];omega]
        rw[show((P.length+(A1.length+A2.length):Nat):Int)=(((P++B).length+A2.length:Nat):Int) by simp;omega,show(B.length:Int)=(A1.length:Int) by omega]
        exact e1
      . rw[e5];simp
    . rw[ao hgt];have hsp:B=B.take (B.length-A.length)++B.drop (B.length-A.length):=(zn _ _).symm;have l1:(B.take (B.length-A.length)).length=B.length-A.length:=by simp
      have l2:(B.drop (B.length-A.length)).length=A.length:=by simp;omega
      generalize B.take (B.length-A.length)=B1 at*
      generalize B.drop (B.length-A.length)=B2 at*
      subst hsp;simp only[zJ]at*
      have hsw:=SV (m:=m) P A B1 B2 Q l2.symm O O (a:=wI (((P.length+A.length:Nat):Int)-(A.length:Int))) (b:=wI (wI (((P.length+A.length:Nat):Int)+((B1.length+B2.length:Nat):Int))-(A.length:Int))) (n:=(A.length:Int))
       (by rw[wQ,wi O O];omega) (by rw[wQ,wQ,wi (n:=((P.length+A.length:Nat):Int)+_) O O,wi O O];omega) rfl
      rw[show P++A++(B1++B2)++Q=P++A++B1++B2++Q by simp,hsw]
      simp only[bS];obtain⟨P',A',B',Q',e1,e2,e3,e4,e5,e6⟩:=R7 m n P B2 B1 (A++Q) O O O O (by simp;omega)
      refine⟨P',A',B',Q',?_,e2,e3,O,?_,O⟩
      . rw[show wI (((B1.length+B2.length:Nat):Int)-(A.length:Int))=(B1.length:Int) by rw[wQ,wi O O];omega]
        rw[show P++B2++B1++A++Q=P++B2++B1++(A++Q) by simp,show(A.length:Int)=(B2.length:Int) by omega,show((P.length+A.length:Nat):Int)=((P.length+B2.length:Nat):Int) by omega]
        exact e1
      . rw[e5];simp
def qn6 {m:Nat} (P A B Q:List aS) (hA:0<A.length) (hB:0<B.length) (hm:A.length+B.length<m) (hb:P.length+A.length+B.length+Q.length<400000000) {a c b:Int}
 (ha:a=(P.length:Int)) (hc:c=((P.length+A.length:Nat):Int)) (hbb:b=((P.length+A.length+B.length:Nat):Int)):
 qe m (P++A++B++Q) a c b=some ((),(P++B++A++Q,(),(),(),(),())):=by
 subst ha hc hbb;obtain⟨P',A',B',Q',e1,e2,e3,e4,e5,e6⟩:=R7 m m P A B Q hm hm hA hB O;rw[qe];rw[show wI (((P.length+A.length:Nat):Int)-(P.length:Int))=(A.length:Int) by rw[wQ,wi O O];omega]
 rw[show wI (((P.length+A.length+B.length:Nat):Int)-((P.length+A.length:Nat):Int))=(B.length:Int) by rw[wQ,wi O O];omega,e1]
 simp only[bS];have hl:=congrArg List.length e5;simp only[zJ]at hl
 have hsw:=SV (m:=m) P' A' [] B' Q' e2 O (by simp;omega) (a:=wI (((P.length+A.length:Nat):Int)-(A'.length:Int))) (b:=((P.length+A.length:Nat):Int)) (n:=(A'.length:Int))
  (by rw[wQ,wi O O];omega) (by simp;omega) rfl
 simp only[jg]at hsw;rw[hsw];simp only[bS];rw[e5]
end
section
def JD {i j:Nat} (h:i+j<4611686018427387904):wI (az .u64 (wJ (wI ((i:Int)+(j:Int)))) 1)=(((i+j)/2:Nat):Int):=by
 rw[wQ,wQ,wi (n:=(i:Int)+(j:Int)) O O];show IntKind.wrap .i64 (az .u64 (IntKind.wrap .u64 ((i:Int)+(j:Int))) 1)=_;rw[wu O O];unfold az
 rw[show((i:Int)+(j:Int)).fdiv (2^(min (1:Int).toNat IntKind.u64.bits))=(((i+j)/2:Nat):Int) by
  rw[show(2:Int)^(min (1:Int).toNat IntKind.u64.bits)=2 by decide,show((i:Int)+(j:Int))=((i+j:Nat):Int) by omega,Int.fdiv_eq_ediv_of_nonneg _ (by decide)];omega]
 rw[wi O O]
def BS (test:Nat->Bool) (lo hi r:Nat):Prop:=lo<=r/\r<=hi/\(r=lo\/test (r-1)=true)/\(r=hi\/test r=false)
def VZ {α:Type} {a b:Bool} {x y:α}:(bif a then(bif b then x else y)else y)=bif (a&&b)then x else y:=by cases a<;>cases b<;>rfl
def UY {α:Type} {p q:Prop} [Decidable p] [Decidable q] {x y:α}:(bif (decide p&&decide q)then x else y)=if p/\q then x else y:=by
 by_cases h1:p<;>by_cases h2:q<;>simp[h1,h2]
section
variable (self:(List (Int×Int×Int))->Int->Int->Int->Option (Unit×(List (Int×Int×Int))×Unit×Unit×Unit×Unit×Unit)) (m:Nat) (hm:2<m)
def uh (hm:2<m) (d:List aS) (hd:d.length<1000000000) {a lo hi:Nat} (ha:a<d.length) (hh:hi<=d.length): ∀(n i j:Nat),j-i<n->i<=j->lo<=i->j<=hi->
 (i=lo\/fw (d.getD (i-1) zE) (d.getD a zE)=true)->(j=hi\/fw (d.getD j zE) (d.getD a zE)=false)->
 ∃r:Nat,iF self m n d (a:Int) (i:Int) (j:Int)=some (.inl (d,(a:Int),(r:Int),()))/\BS (λk=>fw (d.getD k zE) (d.getD a zE)) lo hi r
 |0,i,j,h,_,_,_,_,_=>absurd h (zA _)
 |n+1,i,j,h,hij,hlo,hhi,h1,h2=>by
  simp only[iF,bQ];by_cases e:i<j
  . rw[iP O];simp only[JD (i:=i) (j:=j) O];have b1:i<=(i+j)/2:=O;have b2:(i+j)/2<j:=O;generalize (i+j)/2=c at*;rw[iP O,iP O];obtain⟨x,hx1,hx2⟩:=O2 hm (d.getD (0+(c:Int).toNat) zE) (d.getD (0+(a:Int).toNat) zE);rw[hx1];simp only[bS];by_cases g:x<0
    . rw[iP g]
      have g':fw (d.getD c zE) (d.getD a zE)=true:=by
       rw[show 0+(c:Int).toNat=c by omega,show 0+(a:Int).toNat=a by omega]at hx2
       rw[<-hx2];exact decide_eq_true g
      rw[show wI ((c:Int)+1)=((c+1:Nat):Int) by rw[wQ,wi O O];omega]
      exact uh hm d hd ha hh n (c+1) j O O O hhi (.inr (by simpa using g')) h2
    . rw[ao g]
      have g':fw (d.getD c zE) (d.getD a zE)=false:=by
       rw[show 0+(c:Int).toNat=c by omega,show 0+(a:Int).toNat=a by omega]at hx2
       rw[<-hx2];exact decide_eq_false g
      exact uh hm d hd ha hh n i c O O hlo O h1 (.inr g')
  . rw[ao O];have:i=j:=O;subst this;exact⟨i,rfl,hlo,hhi,h1,h2⟩
def ug (hm:2<m) (d:List aS) (hd:d.length<1000000000) {a lo hi:Nat} (ha:a<d.length) (hh:hi<=d.length): ∀(n i j:Nat),j-i<n->i<=j->lo<=i->j<=hi->
 (i=lo\/(!fw (d.getD a zE) (d.getD (i-1) zE))=true)->(j=hi\/(!fw (d.getD a zE) (d.getD j zE))=false)->
 ∃r:Nat,iE self m n d (a:Int) (i:Int) (j:Int)=some (.inl (d,(a:Int),(r:Int),()))/\BS (λk=> !fw (d.getD a zE) (d.getD k zE)) lo hi r
 |0,i,j,h,_,_,_,_,_=>absurd h (zA _)
 |n+1,i,j,h,hij,hlo,hhi,h1,h2=>by
  simp only[iE,bQ,j5];by_cases e:i<j
  . rw[iP O];simp only[JD (i:=i) (j:=j) O];have b1:i<=(i+j)/2:=O;have b2:(i+j)/2<j:=O;generalize (i+j)/2=c at*;rw[iP O,iP O];obtain⟨x,hx1,hx2⟩:=O2 hm (d.getD (0+(a:Int).toNat) zE) (d.getD (0+(c:Int).toNat) zE);rw[hx1];simp only[bS];by_cases g:x<0
    . rw[iP g]
      have g':fw (d.getD a zE) (d.getD c zE)=true:=by
       rw[show 0+(c:Int).toNat=c by omega,show 0+(a:Int).toNat=a by omega]at hx2
       rw[<-hx2];exact decide_eq_true g
      exact ug hm d hd ha hh n i c O O hlo O h1 (.inr (by rw[g'];rfl))
    . rw[ao g]
      have g':fw (d.getD a zE) (d.getD c zE)=false:=by
       rw[show 0+(c:Int).toNat=c by omega,show 0+(a:Int).toNat=a by omega]at hx2
       rw[<-hx2];exact decide_eq_false g
      rw[show wI ((c:Int)+1)=((c+1:Nat):Int) by rw[wQ,wi O O];omega]
      exact ug hm d hd ha hh n (c+1) j O O O hhi (.inr (by rw[HD,g'];rfl)) h2
  . rw[ao O];have:i=j:=O;subst this;exact⟨i,rfl,hlo,hhi,h1,h2⟩
def uf (hm:2<m) (d:List aS) (hd:d.length<1000000000) {p lo hi:Nat} (hh:hi<=d.length) (hp: ∀c,lo<=c->c<hi->c<=p/\p-c<d.length) (hpb:p<1000000000000) (t1 t2 t3 t18 t19:Int): ∀(n i j:Nat),j-i<n->i<=j->lo<=i->j<=hi->
 (i=lo\/(!fw (d.getD (p-(i-1)) zE) (d.getD (i-1) zE))=true)->(j=hi\/(!fw (d.getD (p-j) zE) (d.getD j zE))=false)->
 ∃r:Nat,fN self m n d t1 t2 t3 t18 t19 (i:Int) (j:Int) (p:Int)=some (.inl (d,t1,t2,t3,(),t18,t19,(r:Int),()))/\BS (λk=> !fw (d.getD (p-k) zE) (d.getD k zE)) lo hi r
 |0,i,j,h,_,_,_,_,_=>absurd h (zA _)
 |n+1,i,j,h,hij,hlo,hhi,h1,h2=>by
  simp only[fN,bQ,j5];by_cases e:i<j
  . rw[iP O];simp only[JD (i:=i) (j:=j) O];have b1:i<=(i+j)/2:=O;have b2:(i+j)/2<j:=O;generalize (i+j)/2=c at*;obtain⟨q1,q2⟩:=hp c O O;simp only[show wI ((p:Int)-(c:Int))=((p-c:Nat):Int) by rw[wQ,wi O O];omega]
    rw[iP O,iP O];obtain⟨x,hx1,hx2⟩:=O2 hm (d.getD (0+((p-c:Nat):Int).toNat) zE) (d.getD (0+(c:Int).toNat) zE);rw[hx1];simp only[bS];by_cases g:x<0
    . rw[iP g]
      have g':fw (d.getD (p-c) zE) (d.getD c zE)=true:=by
       rw[show 0+(c:Int).toNat=c by omega,show 0+((p-c:Nat):Int).toNat=p-c by omega]at hx2
       rw[<-hx2];exact decide_eq_true g
      exact uf hm d hd hh hp hpb t1 t2 t3 t18 t19 n i c O O hlo O h1 (.inr (by rw[g'];rfl))
    . rw[ao g]
      have g':fw (d.getD (p-c) zE) (d.getD c zE)=false:=by
       rw[show 0+(c:Int).toNat=c by omega,show 0+((p-c:Nat):Int).toNat=p-c by omega]at hx2
       rw[<-hx2];exact decide_eq_false g
      rw[show wI ((c:Int)+1)=((c+1:Nat):Int) by rw[wQ,wi O O];omega]
      exact uf hm d hd hh hp hpb t1 t2 t3 t18 t19 n (c+1) j O O O hhi (.inr (by rw[HD,g'];rfl)) h2
  . rw[ao O];have:i=j:=O;subst this;exact⟨i,rfl,hlo,hhi,h1,h2⟩
def Cf (x:aS) (R:List aS): ∀(B P:List aS) (n:Nat),B.length<n->P.length+B.length+R.length<1000000000->
 gH self m n (P++x::(B++R)) ((P.length+1+B.length:Nat):Int) (P.length:Int)=some (.inl (P++B++x::R,()))
 |B,P,0,h,_=>absurd h (zA _)
 |[],P,n+1,_,hb=>by
  simp only[gH,bQ];rw[ao (by rw[wQ,wi (by simp<;>omega) (by simp<;>omega)];simp)]
  simp
 |y::B,P,n+1,h,hb=>by
  simp only[j8]at h hb;have hlen:(P++x::(y::B++R)).length=P.length+2+B.length+R.length:=by simp<;>omega
  have e1:wI ((P.length:Int)+1)=((P.length+1:Nat):Int):=by rw[wQ,wi O O];omega
  have gx:(P++x::(y::B++R)).getD (0+(P.length:Int).toNat) zE=x:=c9 O
  have gy:(P++x::(y::B++R)).getD (0+((P.length+1:Nat):Int).toNat) zE=y:=by
   rw[show P++x::(y::B++R)=(P++[x])++y::(B++R) by simp];exact c9 (by simp<;>omega)
  have hs:((P++x::(y::B++R)).set (0+(P.length:Int).toNat) y).set (0+((P.length+1:Nat):Int).toNat) x=(P++[y])++x::(B++R):=by
   rw[Ch O,show P++y::(y::B++R)=(P++[y])++y::(B++R) by simp,Ch (by simp<;>omega)]
  simp only[gH,bQ,e1,gx,gy,zS];rw[iP (by rw[wQ,wi (by simp<;>omega) (by simp<;>omega)];simp;omega),hlen,iP O,iP O,iP O,iP O]
  show gH self m n (((P++x::(y::B++R)).set (0+(P.length:Int).toNat) y).set (0+((P.length+1:Nat):Int).toNat) x) _ _=_
  rw[hs];have ih:=Cf x R B (P++[y]) n O (by simp<;>omega)
  rw[show((P.length+1+(y::B).length:Nat):Int)=(((P++[y]).length+1+B.length:Nat):Int) by simp<;>omega,show((P.length+1:Nat):Int)=((P++[y]).length:Int) by simp,ih]
  simp
def Ce (y:aS) (P:List aS): ∀(r R:List aS) (n:Nat),r.length<n->P.length+r.length+R.length<1000000000->
 gG self m n (P++r.reverse++y::R) (P.length:Int) ((P.length+r.length:Nat):Int)=some (.inl (P++y::(r.reverse++R),()))
 |r,R,0,h,_=>absurd h (zA _)
 |[],R,n+1,_,hb=>by
  simp only[gG,bQ];rw[ao (by simp)]
  simp
 |x::r,R,n+1,h,hb=>by
  simp only[j8]at h hb;have hd:P++(x::r).reverse++y::R=(P++r.reverse)++x::y::R:=by simp
  have hlen:((P++r.reverse)++x::y::R).length=P.length+r.length+2+R.length:=by simp<;>omega
  have ej:((P.length+(x::r).length:Nat):Int)=((P.length+r.length+1:Nat):Int):=by simp<;>omega
  have ew:wI (((P.length+r.length+1:Nat):Int)-1)=((P.length+r.length:Nat):Int):=by rw[wQ,wi O O];omega
  have gx:((P++r.reverse)++x::y::R).getD (0+((P.length+r.length:Nat):Int).toNat) zE=x:=c9 (by simp<;>omega)
  have gy:((P++r.reverse)++x::y::R).getD (0+((P.length+r.length+1:Nat):Int).toNat) zE=y:=by
   rw[show(P++r.reverse)++x::y::R=(P++r.reverse++[x])++y::R by simp];exact c9 (by simp<;>omega)
  have hs:(((P++r.reverse)++x::y::R).set (0+((P.length+r.length+1:Nat):Int).toNat) x).set (0+((P.length+r.length:Nat):Int).toNat) y=P++r.reverse++y::(x::R):=by
   rw[show(P++r.reverse)++x::y::R=(P++r.reverse++[x])++y::R by simp,Ch (by simp<;>omega),show P++r.reverse++[x]++x::R=(P++r.reverse)++x::x::R by simp,Ch (by simp<;>omega)]
  rw[hd,ej];simp only[gG,bQ,ew,gx,gy,zS];rw[iP O,hlen,iP O,iP O,iP O,iP O];show gG self m n ((((P++r.reverse)++x::y::R).set (0+((P.length+r.length+1:Nat):Int).toNat) x).set (0+((P.length+r.length:Nat):Int).toNat) y) _ _=_;rw[hs,Ce y P r (x::R) n O (by simp<;>omega)]
  simp
end
def Cm {l:List aS} (h:fV l) {i j:Nat} (hij:i<=j) (hj:j<l.length):gn (l.getD i zE) (l.getD j zE):=by
 rcases Nat.eq_or_lt_of_le hij with rfl|hlt
 . exact qpy _
 . have:=BX.1 h i j O hj hlt;simpa [List.getD,hj,show i<l.length by omega]using this
def Yj {l:List aS} {x:aS} (h:x∈l): ∃i,i<l.length/\l.getD i zE=x:=by
 obtain⟨i,hi,rfl⟩:=l9 h;exact⟨i,hi,by simp[List.getD,hi]⟩
def Ja {l:List aS} {x:aS} {k:Nat} (h:x∈l.take k): ∃i,i<k/\i<l.length/\l.getD i zE=x:=by
 obtain⟨i,hi,rfl⟩:=l9 h;have h1:i<k/\i<l.length:=by simp at hi;omega
 exact⟨i,h1.1,h1.2,by simp[List.getD,h1.2]⟩
def J7 {l:List aS} {x:aS} {k:Nat} (h:x∈l.drop k): ∃i,k<=i/\i<l.length/\l.getD i zE=x:=by
 obtain⟨i,hi,rfl⟩:=l9 h;have h1:k+i<l.length:=by simp at hi;omega
 exact⟨k+i,O,h1,by simp[List.getD,h1]⟩
def Oy {P A R:List aS} {i k:Nat} (hi:i<A.length) (hk:k=P.length+i):(P++A++R).getD k zE=A.getD i zE:=by
 subst hk;simp[List.getD,List.getElem?_append_left,List.getElem?_append_right,hi]
end
section
def QE {l r:List aS} (h1:fV l) (h2:fV r) (h: ∀a∈l,∀b∈r,gn a b):fV (l++r):=Fx.2 ⟨h1,h2,h⟩
abbrev cM (d:List aS):Option (Unit×(List aS)×Unit×Unit×Unit×Unit×Unit):=some ((),(d,(),(),(),(),()))
def M1 (m:Nat):Prop:= ∀(P A B Q:List aS),P.length+A.length+B.length+Q.length+3+(A.length+B.length)<=m->0<A.length->0<B.length->fV A->fV B->P.length+A.length+B.length+Q.length<100000000->
 ∃C,bz m (P++A++B++Q) (P.length:Int) ((P.length+A.length:Nat):Int) ((P.length+A.length+B.length:Nat):Int)=cM (P++C++Q)/\fV C/\List.Perm C (A++B)
def qfj (m:Nat) (ih:M1 m) (P A B Q:List aS) (hm:P.length+A.length+B.length+Q.length+3+(A.length+B.length)<=m+1) (hA:2<=A.length) (hB:2<=B.length) (sA:fV A) (sB:fV B)
 (hb:P.length+A.length+B.length+Q.length<100000000) (s h:Nat) (hh:h=(A.length+B.length)/2) (hs1:s<=A.length) (hs2:s<=h) (hs3:h-s<=B.length)
 (c1:s=0\/h-s=B.length\/gn (A.getD (s-1) zE) (B.getD (h-s) zE)) (c2:s=A.length\/s=h\/gn (B.getD (h-s-1) zE) (A.getD s zE)):
 ∃C,(if((P.length+s:Nat):Int)<((P.length+A.length:Nat):Int)/\((P.length+A.length:Nat):Int)<((P.length+A.length+(h-s):Nat):Int)then
   (qe m (P++A++B++Q) ((P.length+s:Nat):Int) ((P.length+A.length:Nat):Int) ((P.length+A.length+(h-s):Nat):Int)).bind λy11=>
     if(P.length:Int)<((P.length+s:Nat):Int)/\((P.length+s:Nat):Int)<((P.length+h:Nat):Int)then
      (bz m y11.2.1 (P.length:Int) ((P.length+s:Nat):Int) ((P.length+h:Nat):Int)).bind λy12=>
        if((P.length+h:Nat):Int)<((P.length+A.length+(h-s):Nat):Int)/\((P.length+A.length+(h-s):Nat):Int)<((P.length+A.length+B.length:Nat):Int)then
         (bz m y12.2.1 ((P.length+h:Nat):Int) ((P.length+A.length+(h-s):Nat):Int) ((P.length+A.length+B.length:Nat):Int)).bind λy13=>cM y13.2.1
        else cM y12.2.1
     else
      if((P.length+h:Nat):Int)<((P.length+A.length+(h-s):Nat):Int)/\((P.length+A.length+(h-s):Nat):Int)<((P.length+A.length+B.length:Nat):Int)then
       (bz m y11.2.1 ((P.length+h:Nat):Int) ((P.length+A.length+(h-s):Nat):Int) ((P.length+A.length+B.length:Nat):Int)).bind λy13=>cM y13.2.1
      else cM y11.2.1
  else
   if(P.length:Int)<((P.length+s:Nat):Int)/\((P.length+s:Nat):Int)<((P.length+h:Nat):Int)then
      (bz m (P++A++B++Q) (P.length:Int) ((P.length+s:Nat):Int) ((P.length+h:Nat):Int)).bind λy12=>
        if((P.length+h:Nat):Int)<((P.length+A.length+(h-s):Nat):Int)/\((P.length+A.length+(h-s):Nat):Int)<((P.length+A.length+B.length:Nat):Int)then
         (bz m y12.2.1 ((P.length+h:Nat):Int) ((P.length+A.length+(h-s):Nat):Int) ((P.length+A.length+B.length:Nat):Int)).bind λy13=>cM y13.2.1
        else cM y12.2.1
    else
     if((P.length+h:Nat):Int)<((P.length+A.length+(h-s):Nat):Int)/\((P.length+A.length+(h-s):Nat):Int)<((P.length+A.length+B.length:Nat):Int)then
      (bz m (P++A++B++Q) ((P.length+h:Nat):Int) ((P.length+A.length+(h-s):Nat):Int) ((P.length+A.length+B.length:Nat):Int)).bind λy13=>cM y13.2.1
     else cM (P++A++B++Q))=cM (P++C++Q)/\fV C/\List.Perm C (A++B):=by
 have x1: ∀a∈A.take s,∀b∈B.drop (h-s),gn a b:=λa ha b hb=>by
  obtain⟨i,i1,i2,rfl⟩:=Ja ha;obtain⟨j,j1,j2,rfl⟩:=J7 hb;rcases c1 with c|c|c
  . omega
  . omega
  . exact Yz (Yz (Cm sA (show i<=s-1 by omega) O) c) (Cm sB j1 j2)
 have x2: ∀b∈B.take (h-s),∀a∈A.drop s,gn b a:=λb hb a ha=>by
  obtain⟨i,i1,i2,rfl⟩:=Ja hb;obtain⟨j,j1,j2,rfl⟩:=J7 ha;rcases c2 with c|c|c
  . omega
  . omega
  . exact Yz (Yz (Cm sB (show i<=h-s-1 by omega) O) c) (Cm sA j1 j2)
 have hAs:=(zn s A).symm;have hBs:=(zn (h-s) B).symm;have sA':fV (A.take s++A.drop s):=by rw[<-hAs];exact sA
 have sB':fV (B.take (h-s)++B.drop (h-s)):=by rw[<-hBs];exact sB
 have l1:(A.take s).length=s:=by simp;omega
 have l2:(A.drop s).length=A.length-s:=by simp
 have l3:(B.take (h-s)).length=h-s:=by simp;omega
 have l4:(B.drop (h-s)).length=B.length-(h-s):=by simp
 generalize A.take s=A1 at*
 generalize A.drop s=A2 at*
 generalize B.take (h-s)=B1 at*
 generalize B.drop (h-s)=B2 at*
 obtain⟨sA1,sA2,xA⟩:=Fx.1 sA';obtain⟨sB1,sB2,xB⟩:=Fx.1 sB';have eA:A.length=A1.length+A2.length:=by rw[hAs];simp
 have eB:B.length=B1.length+B2.length:=by rw[hBs];simp
 have right: ∀C1:List aS,C1.length=h-> ∃C2,(if((P.length+h:Nat):Int)<((P.length+A.length+(h-s):Nat):Int)/\((P.length+A.length+(h-s):Nat):Int)<((P.length+A.length+B.length:Nat):Int)then
       (bz m (P++C1++A2++B2++Q) ((P.length+h:Nat):Int) ((P.length+A.length+(h-s):Nat):Int) ((P.length+A.length+B.length:Nat):Int)).bind λy13=>cM y13.2.1
  else cM (P++C1++A2++B2++Q))=cM (P++C1++C2++Q)/\fV C2/\List.Perm C2 (A2++B2):=λC1 hC1=>by
  by_cases e:0<A2.length/\0<B2.length
  . obtain⟨C2,e1,e2,e3⟩:=ih (P++C1) A2 B2 Q (by simp;omega) e.1 e.2 sA2 sB2 (by simp;omega)
    refine⟨C2,?_,e2,e3⟩;rw[iP O]
    rw[show((P.length+h:Nat):Int)=((P++C1).length:Int) by simp;omega,show((P.length+A.length+(h-s):Nat):Int)=(((P++C1).length+A2.length:Nat):Int) by simp;omega,
     show((P.length+A.length+B.length:Nat):Int)=(((P++C1).length+A2.length+B2.length:Nat):Int) by simp;omega,e1]
    rfl
  . refine⟨A2++B2,?_,?_,List.Perm.refl _⟩
    . rw[ao O];simp
    . have:A2=[]\/B2=[]:=by
       rcases B5 A2.length with h0|h0
       . exact .inl (pK.1 h0)
       . exact .inr (pK.1 O)
      rcases this with rfl|rfl
      . simpa using sB2
      . simpa using sA2
 have join: ∀C1 C2:List aS,fV C1->List.Perm C1 (A1++B1)->fV C2->List.Perm C2 (A2++B2)->fV (C1++C2)/\List.Perm (C1++C2) (A++B):=λC1 C2 s1 p1 s2 p2=>by
  refine⟨QE s1 s2 λa ha b hb=> ?_,?_⟩
  . have ha:=p1.mem_iff.1 ha;have hb:=p2.mem_iff.1 hb;rcases zQ.1 ha with ha|ha<;>rcases zQ.1 hb with hb|hb
    . exact xA a ha b hb
    . exact x1 a ha b hb
    . exact x2 a ha b hb
    . exact xB a ha b hb
  . rw[hAs,hBs];refine(List.Perm.append p1 p2).trans ?_;rw[zu,zu];refine List.Perm.append_left _ ?_;rw[<-List.append_assoc,<-List.append_assoc];exact List.Perm.append_right _ List.perm_append_comm
 have fin: ∀d:List aS,d=P++A1++B1++A2++B2++Q-> ∃C,(if(P.length:Int)<((P.length+s:Nat):Int)/\((P.length+s:Nat):Int)<((P.length+h:Nat):Int)then
          (bz m d (P.length:Int) ((P.length+s:Nat):Int) ((P.length+h:Nat):Int)).bind λy12=>
            if((P.length+h:Nat):Int)<((P.length+A.length+(h-s):Nat):Int)/\((P.length+A.length+(h-s):Nat):Int)<((P.length+A.length+B.length:Nat):Int)then
             (bz m y12.2.1 ((P.length+h:Nat):Int) ((P.length+A.length+(h-s):Nat):Int) ((P.length+A.length+B.length:Nat):Int)).bind λy13=>cM y13.2.1
            else cM y12.2.1
       else
        if((P.length+h:Nat):Int)<((P.length+A.length+(h-s):Nat):Int)/\((P.length+A.length+(h-s):Nat):Int)<((P.length+A.length+B.length:Nat):Int)then
         (bz m d ((P.length+h:Nat):Int) ((P.length+A.length+(h-s):Nat):Int) ((P.length+A.length+B.length:Nat):Int)).bind λy13=>cM y13.2.1
        else cM d)=cM (P++C++Q)/\fV C/\List.Perm C (A++B):=λd hd=>by
  subst hd;by_cases e:0<s/\s<h
  . obtain⟨C1,e1,e2,e3⟩:=ih P A1 B1 (A2++B2++Q) (by simp;omega) O O sA1 sB1 (by simp;omega)
    have hl:=e3.length_eq;simp only[zJ]at hl;obtain⟨C2,f1,f2,f3⟩:=right C1 O;obtain⟨j1,j2⟩:=join C1 C2 e2 e3 f2 f3;refine⟨C1++C2,?_,j1,j2⟩;rw[iP O]
    rw[show P++A1++B1++A2++B2++Q=P++A1++B1++(A2++B2++Q) by simp,show((P.length+s:Nat):Int)=((P.length+A1.length:Nat):Int) by omega,show(bz m (P++A1++B1++(A2++B2++Q)) (P.length:Int) ((P.length+A1.length:Nat):Int) ((P.length+h:Nat):Int))=cM (P++C1++(A2++B2++Q)) by
     rw[<-e1];congr 1;omega]
    show(if((P.length+h:Nat):Int)<((P.length+A.length+(h-s):Nat):Int)/\((P.length+A.length+(h-s):Nat):Int)<((P.length+A.length+B.length:Nat):Int)then
            (bz m (P++C1++(A2++B2++Q)) ((P.length+h:Nat):Int) ((P.length+A.length+(h-s):Nat):Int) ((P.length+A.length+B.length:Nat):Int)).bind λy13=>cM y13.2.1
          else cM (P++C1++(A2++B2++Q)))=_
    rw[show P++C1++(A2++B2++Q)=P++C1++A2++B2++Q by simp,f1]
    simp
  . obtain⟨C2,f1,f2,f3⟩:=right (A1++B1) (by simp;omega)
    have hs:fV (A1++B1):=by
     have:A1=[]\/B1=[]:=by
      rcases B5 A1.length with h0|h0
      . exact .inl (pK.1 h0)
      . exact .inr (pK.1 O)
     rcases this with rfl|rfl
     . simpa using sB1
     . simpa using sA1
    obtain⟨j1,j2⟩:=join (A1++B1) C2 hs (List.Perm.refl _) f2 f3;refine⟨(A1++B1)++C2,?_,j1,j2⟩;rw[ao O,show P++A1++B1++A2++B2++Q=P++(A1++B1)++A2++B2++Q by simp,f1]
    simp
 have hd0:P++A++B++Q=(P++A1)++A2++B1++(B2++Q):=by rw[hAs,hBs];simp
 by_cases e:0<A2.length/\0<B1.length
 . rw[iP O,hd0,qn6 (m:=m) (P++A1) A2 B1 (B2++Q) e.1 e.2 O (by simp;omega) (by simp;omega) (by simp;omega) (by simp;omega)]
   exact fin _ (by simp)
 . rw[ao O];refine fin _ ?_
   have:A2=[]\/B1=[]:=by
    rcases B5 A2.length with h0|h0
    . exact .inl (pK.1 h0)
    . exact .inr (pK.1 O)
   rcases this with rfl|rfl
   . rw[hAs,hBs];simp
   . rw[hAs,hBs];simp
end
section
def SE: ∀m,M1 m
 |0=>λP A B Q h=>O
 |m+1=>λP A B Q hm hA hB sA sB hb=>by
  have ih:=SE m;have hlen:(P++A++B++Q).length=P.length+A.length+B.length+Q.length:=by simp;omega
  rw[bz];simp only[aF];by_cases h1:A.length=1
  ·
   obtain⟨x,rfl⟩:=List.length_eq_one_iff.1 h1;rw[iP (by rw[wQ,wi (by simp<;>omega) (by simp<;>omega)];simp<;>omega)]
   simp only[j8,xN,zG]at*;have gx:(P++[x]++B++Q).getD P.length zE=x:=by rw[show P++[x]++B++Q=P++x::(B++Q) by simp];exact c9 rfl
   have gb: ∀i,i<B.length->(P++[x]++B++Q).getD (P.length+1+i) zE=B.getD i zE:=λi hi=>Oy hi (by simp)
   obtain⟨r,e1,b1,b2,b3,b4⟩:=uh (λa0 a1 a2 a3=>bz m a0 a1 a2 a3) m O (P++[x]++B++Q) O (a:=P.length) (lo:=P.length+1) (hi:=P.length+1+B.length) O O m (P.length+1) (P.length+1+B.length) O O (zF _) (zF _) (.inl rfl) (.inl rfl)
   obtain⟨k,rfl⟩: ∃k,r=P.length+1+k:=⟨r-(P.length+1),O⟩;have hk:k<=B.length:=O;dsimp only at b3 b4;rw[gx]at b3 b4;have hBs:=(zn k B).symm;have l1:(B.take k).length=k:=by simp;omega
   have y1: ∀b∈B.take k,gn b x:=λb hb=>by
    obtain⟨i,i1,i2,rfl⟩:=Ja hb;rcases b3 with c|c
    . omega
    . rw[show P.length+1+k-1=P.length+1+(k-1) by omega,gb (k-1) O]at c
      exact Yz (Cm sB (show i<=k-1 by omega) O) (JQ c)
   have y2: ∀b∈B.drop k,gn x b:=λb hb=>by
    obtain⟨i,i1,i2,rfl⟩:=J7 hb;rcases b4 with c|c
    . omega
    . rw[gb k O]at c;exact Yz (show gn x (B.getD k zE)from c) (Cm sB i1 i2)
   have sB':fV (B.take k++B.drop k):=by rw[<-hBs];exact sB
   generalize B.take k=B1 at*
   generalize B.drop k=B2 at*
   obtain⟨s1,s2,s3⟩:=Fx.1 sB';refine⟨B1++x::B2,?_,QE s1 (HF.2 ⟨y2,s2⟩) (λa ha b hb=> ?_),?_⟩
   . rw[show((P.length:Nat):Int)=((P.length:Nat):Int)from rfl,e1]
     simp only[bS];have h3:=Cf (λa0 a1 a2 a3=>bz m a0 a1 a2 a3) m x (B2++Q) B1 P m O (by rw[hBs]at hb;simp at hb⊢;omega)
     rw[show P++[x]++B++Q=P++x::(B1++(B2++Q)) by rw[hBs];simp,show((P.length+1+k:Nat):Int)=((P.length+1+B1.length:Nat):Int) by omega,h3]
     simp
   . rcases mC hb with rfl|hb
     . exact y1 a ha
     . exact s3 a ha b hb
   . rw[hBs];exact(IG).trans (by simp)
  . rw[ao (by rw[wQ,wi O O];omega)]
    by_cases h2:B.length=1
    . obtain⟨y,rfl⟩:=List.length_eq_one_iff.1 h2;rw[iP (by rw[wQ,wi (by simp<;>omega) (by simp<;>omega)];simp<;>omega)]
      simp only[j8,xN,zG]at*;have gy:(P++A++[y]++Q).getD (P.length+A.length) zE=y:=by rw[show P++A++[y]++Q=(P++A)++y::Q by simp];exact c9 (by simp)
      have ga: ∀i,i<A.length->(P++A++[y]++Q).getD (P.length+i) zE=A.getD i zE:=λi hi=>by
       rw[show P++A++[y]++Q=P++A++([y]++Q) by simp];exact Oy hi rfl
      obtain⟨r,e1,b1,b2,b3,b4⟩:=ug (λa0 a1 a2 a3=>bz m a0 a1 a2 a3) m O (P++A++[y]++Q) O (a:=P.length+A.length) (lo:=P.length) (hi:=P.length+A.length) O O m P.length (P.length+A.length) O O (zF _) (zF _) (.inl rfl) (.inl rfl)
      obtain⟨k,rfl⟩: ∃k,r=P.length+k:=⟨r-P.length,O⟩;have hk:k<=A.length:=O;dsimp only at b3 b4;rw[gy]at b3 b4;have hAs:=(zn k A).symm;have l1:(A.take k).length=k:=by simp;omega
      have l2:(A.drop k).length=A.length-k:=by simp
      have y1: ∀a∈A.take k,gn a y:=λa ha=>by
       obtain⟨i,i1,i2,rfl⟩:=Ja ha;rcases b3 with c|c
       . omega
       . rw[show P.length+k-1=P.length+(k-1) by omega,ga (k-1) O]at c
         exact Yz (Cm sA (show i<=k-1 by omega) O) (by simpa [gn]using c)
      have y2: ∀a∈A.drop k,gn y a:=λa ha=>by
       obtain⟨i,i1,i2,rfl⟩:=J7 ha;rcases b4 with c|c
       . omega
       . rw[ga k O]at c;exact Yz (JQ (by simpa using c)) (Cm sA i1 i2)
      have sA':fV (A.take k++A.drop k):=by rw[<-hAs];exact sA
      generalize A.take k=A1 at*
      generalize A.drop k=A2 at*
      obtain⟨s1,s2,s3⟩:=Fx.1 sA';refine⟨A1++y::A2,?_,QE s1 (HF.2 ⟨y2,s2⟩) (λa ha b hb=> ?_),?_⟩
      . rw[e1];simp only[bS];have h3:=Ce (λa0 a1 a2 a3=>bz m a0 a1 a2 a3) m y (P++A1) A2.reverse Q m (by simp;omega) (by simp;omega)
        simp only[List.reverse_reverse,List.length_reverse]at h3;rw[show P++A++[y]++Q=P++A1++A2++y::Q by rw[hAs];simp,show((P.length+k:Nat):Int)=((P++A1).length:Int) by simp;omega,show((P.length+A.length:Nat):Int)=(((P++A1).length+A2.length:Nat):Int) by simp;omega,h3]
        simp
      . rcases mC hb with rfl|hb
        . exact y1 a ha
        . exact s3 a ha b hb
      . rw[hAs];refine(IG).trans ?_;exact(List.perm_append_singleton y (A1++A2)).symm
    . rw[ao (by rw[wQ,wi O O];omega)]
      obtain⟨h,hh⟩: ∃h,h=(A.length+B.length)/2:=⟨_,rfl⟩
      have emid:wI (az .u64 (wJ (wI ((P.length:Int)+((P.length+A.length+B.length:Nat):Int)))) 1)=((P.length+h:Nat):Int):=by
       rw[JD O];omega
      have en:wI (((P.length+h:Nat):Int)+((P.length+A.length:Nat):Int))=((2*P.length+h+A.length:Nat):Int):=by rw[wQ,wi O O];omega
      have ep:wI (((2*P.length+h+A.length:Nat):Int)-1)=((2*P.length+h+A.length-1:Nat):Int):=by rw[wQ,wi O O];omega
      have ga: ∀i,i<A.length->(P++A++B++Q).getD (P.length+i) zE=A.getD i zE:=λi hi=>by
       rw[show P++A++B++Q=P++A++(B++Q) by simp];exact Oy hi rfl
      have gb: ∀i,i<B.length->(P++A++B++Q).getD (P.length+A.length+i) zE=B.getD i zE:=λi hi=>Oy hi (by simp)
      have eend: ∀s,s<=h->wI (((2*P.length+h+A.length:Nat):Int)-((P.length+s:Nat):Int))=((P.length+A.length+(h-s):Nat):Int):=λs hs=>by rw[wQ,wi O O];omega
      have done: ∀lo hi,lo<=hi->hi<=h->hi<=A.length->h-lo<=B.length->(lo=0\/h-lo=B.length)->(hi=A.length\/hi=h)->
       ∃s,fN (λa0 a1 a2 a3=>bz m a0 a1 a2 a3) m m (P++A++B++Q) (P.length:Int) ((P.length+A.length:Nat):Int) ((P.length+A.length+B.length:Nat):Int) ((P.length+h:Nat):Int) ((2*P.length+h+A.length:Nat):Int) ((P.length+lo:Nat):Int) ((P.length+hi:Nat):Int) ((2*P.length+h+A.length-1:Nat):Int)=
         some (.inl (P++A++B++Q,(P.length:Int),((P.length+A.length:Nat):Int),((P.length+A.length+B.length:Nat):Int),(),((P.length+h:Nat):Int),((2*P.length+h+A.length:Nat):Int),((P.length+s:Nat):Int),()))/\s<=A.length/\s<=h/\h-s<=B.length/\
         (s=0\/h-s=B.length\/gn (A.getD (s-1) zE) (B.getD (h-s) zE))/\(s=A.length\/s=h\/gn (B.getD (h-s-1) zE) (A.getD s zE)):=λlo hi g1 g2 g3 g4 g5 g6=>by
       obtain⟨r,e1,b1,b2,b3,b4⟩:=uf (λa0 a1 a2 a3=>bz m a0 a1 a2 a3) m O (P++A++B++Q) O (p:=2*P.length+h+A.length-1) (lo:=P.length+lo) (hi:=P.length+hi) O (λc hc1 hc2=>O) O
        (P.length:Int) ((P.length+A.length:Nat):Int) ((P.length+A.length+B.length:Nat):Int) ((P.length+h:Nat):Int) ((2*P.length+h+A.length:Nat):Int) m (P.length+lo) (P.length+hi) O O (zF _) (zF _) (.inl rfl) (.inl rfl)
       obtain⟨s,rfl⟩: ∃s,r=P.length+s:=⟨r-P.length,O⟩;dsimp only at b3 b4;refine⟨s,e1,O,O,O,?_,?_⟩
       . rcases b3 with c|c
         . omega
         . by_cases q1:s=0
           . exact .inl q1
           . by_cases q2:h-s=B.length
             . exact .inr (.inl q2)
             . have e3:2*P.length+h+A.length-1-(P.length+s-1)=P.length+A.length+(h-s):=O;rw[e3,show P.length+s-1=P.length+(s-1) by omega,gb (h-s) O,ga (s-1) O]at c
               exact .inr (.inr (by simpa [gn]using c))
       . rcases b4 with c|c
         . omega
         . by_cases q1:s=A.length
           . exact .inl q1
           . by_cases q2:s=h
             . exact .inr (.inl q2)
             . have e3:2*P.length+h+A.length-1-(P.length+s)=P.length+A.length+(h-s-1):=O;rw[e3,gb (h-s-1) O,ga s O]at c;exact .inr (.inr (JQ (by simpa using c)))
      have fin: ∀s,s<=A.length->s<=h->h-s<=B.length->(s=0\/h-s=B.length\/gn (A.getD (s-1) zE) (B.getD (h-s) zE))->(s=A.length\/s=h\/gn (B.getD (h-s-1) zE) (A.getD s zE))->_:=
       λs q1 q2 q3 q4 q5=>qfj m ih P A B Q hm O O sA sB hb s h hh q1 q2 q3 q4 q5
      simp only[emid,en,ep,bQ];by_cases g:((P.length+A.length:Nat):Int)>((P.length+h:Nat):Int)
      . rw[iP g];obtain⟨s,e1,q1,q2,q3,q4,q5⟩:=done (h-B.length) h O (zF _) O O O (.inr rfl);obtain⟨C,f1,f2,f3⟩:=fin s q1 q2 q3 q4 q5;refine⟨C,?_,f2,f3⟩;rw[show wI (((2*P.length+h+A.length:Nat):Int)-((P.length+A.length+B.length:Nat):Int))=((P.length+(h-B.length):Nat):Int) by rw[wQ,wi O O];omega,e1]
        simp only[bS,<-bQ];simp only[VZ,UY,eend s q2];exact f1
      . rw[ao g];obtain⟨s,e1,q1,q2,q3,q4,q5⟩:=done 0 A.length O O (zF _) O (.inl rfl) (.inl rfl);obtain⟨C,f1,f2,f3⟩:=fin s q1 q2 q3 q4 q5;refine⟨C,?_,f2,f3⟩;rw[show(((P.length+0:Nat):Int))=(P.length:Int) by simp]at e1
        rw[e1];simp only[bS,<-bQ];simp only[VZ,UY,eend s q2];exact f1
end
section
inductive jf (k:Nat):List aS->Prop where
 |nil:jf k []
 |cons {A r:List aS}:A.length=k->fV A->jf k r->jf k (A++r)
inductive th (k:Nat):List aS->Prop where
 |last {l:List aS}:l.length<=k->fV l->th k l
 |cons {A r:List aS}:A.length=k->fV A->th k r->th k (A++r)
def jf.snoc {k:Nat} {X A:List aS} (h:jf k X) (h1:A.length=k) (h2:fV A):jf k (X++A):=by
 induction h with
 |nil=>have:=jf.cons h1 h2 .nil;simpa using this
 |cons a b _ ih=>rw[zu];exact .cons a b ih
def jf.blk {k:Nat} {X Y:List aS} (h:jf k X) (hY:th k Y):th k (X++Y):=by
 induction h with
 |nil=>simpa using hY
 |cons a b _ ih=>rw[zu];exact .cons a b ih
def th.split {k:Nat} {Y:List aS} (h:th k Y) (hl:k<=Y.length): ∃A r,Y=A++r/\A.length=k/\fV A/\th k r:=by
 cases h with
 |last h1 h2=>exact⟨Y,[],by simp,O,h2,.last (by simp) (by simp)⟩
 |cons h1 h2 h3=>exact⟨_,_,rfl,h1,h2,h3⟩
def th.short {k:Nat} {Y:List aS} (h:th k Y) (hl:Y.length<=k):fV Y:=by
 cases h with
 |last h1 h2=>exact h2
 |cons h1 h2 h3=>
  rename_i A r;have:r=[]:=pK.1 (by simp at hl;omega)
  subst this;simpa using h2
def q3u {m:Nat} (P T Q:List aS) (hb:P.length+Q.length<400000000) (hm:T.length+1<m) (hl:T.length<400000000):
 ∃S',qk m (P++T++Q) (P.length:Int) ((P.length+T.length:Nat):Int)=some ((),(P++S'++Q,(),(),(),()))/\fV S'/\List.Perm S' T:=by
 by_cases h:T=[]
 . subst h;refine⟨[],?_,by simp,List.Perm.refl _⟩
   obtain⟨n,rfl⟩: ∃n,m=n+1:=⟨m-1,O⟩;rw[qk,gJ];simp only[bQ];rw[ao (by rw[wQ,wi O O];simp<;>omega)]
   rfl
 . exact qek P T Q hb hm hl h
def XY (m N:Nat) (hm:N+30<=m) (hN:N<100000000): ∀(n:Nat) (Y X:List aS),Y.length<n->X.length+Y.length=N->jf 20 X->
 ∃X' Y':List aS,iG m n (X++Y) (N:Int) 20 (X.length:Int) ((X.length+20:Nat):Int)=some (.inl (X'++Y',(N:Int),(),20,(X'.length:Int),()))/\jf 20 X'/\Y'.length<20/\X'.length+Y'.length=N/\List.Perm (X'++Y') (X++Y)
 |0,Y,X,h,_,_=>absurd h (zA _)
 |n+1,Y,X,h,hl,hF=>by
  simp only[iG,bQ];by_cases e:X.length+20<=N
  . rw[iP O];have hY:=(zn 20 Y).symm;have l1:(Y.take 20).length=20:=by simp;omega
    have l2:(Y.drop 20).length=Y.length-20:=by simp
    generalize Y.take 20=A at*
    generalize Y.drop 20=Y1 at*
    obtain⟨S,e1,e2,e3⟩:=q3u (m:=m) X A Y1 O O O;have hSl:=e3.length_eq;obtain⟨X',Y',f1,f2,f3,f4,f5⟩:=XY m N hm hN n Y1 (X++S) O (by simp;omega) (hF.snoc O e2)
    refine⟨X',Y',?_,f2,f3,f4,f5.trans ?_⟩
    . rw[hY,show X++(A++Y1)=X++A++Y1 by simp,show((X.length+20:Nat):Int)=((X.length+A.length:Nat):Int) by omega,e1]
      simp only[bS];rw[show wI (((X.length+A.length:Nat):Int)+20)=(((X++S).length+20:Nat):Int) by rw[wQ,wi O O];simp;omega,show((X.length+A.length:Nat):Int)=((X++S).length:Int) by simp;omega]
      exact f1
    . rw[hY,zu];exact List.Perm.append_left _ (List.Perm.append_right _ e3)
  . rw[ao O];exact⟨X,Y,rfl,hF,O,hl,List.Perm.refl _⟩
def XO (m N k:Nat) (hk:0<k) (hm:2*N+10<=m) (hN:N<50000000) (hkN:k<N): ∀(n:Nat) (Y X:List aS),Y.length<n->X.length+Y.length=N->jf (2*k) X->th k Y->
 ∃X' Y':List aS,kV m n (X++Y) (N:Int) (k:Int) (X.length:Int) ((X.length+2*k:Nat):Int)=some (.inl (X'++Y',(N:Int),(),(k:Int),(X'.length:Int),()))/\jf (2*k) X'/\th k Y'/\Y'.length<2*k/\X'.length+Y'.length=N/\List.Perm (X'++Y') (X++Y)
 |0,Y,X,h,_,_,_=>absurd h (zA _)
 |n+1,Y,X,h,hl,hF,hB=>by
  simp only[kV,bQ];by_cases e:X.length+2*k<=N
  . rw[iP O];obtain⟨A,Y1,rfl,a1,a2,a3⟩:=hB.split O;simp only[zJ]at*;obtain⟨B,Y2,rfl,b1,b2,b3⟩:=a3.split O;simp only[zJ]at*;obtain⟨C,e1,e2,e3⟩:=SE m X A B Y2 O O O a2 b2 O;have hSl:=e3.length_eq;simp only[zJ]at hSl;obtain⟨X',Y',f1,f2,f3,f4,f5,f6⟩:=XO m N k hk hm hN hkN n Y2 (X++C) O (by simp;omega) (hF.snoc O e2) b3
    refine⟨X',Y',?_,f2,f3,f4,f5,f6.trans ?_⟩
    . rw[show X++(A++(B++Y2))=X++A++B++Y2 by simp,show wI ((X.length:Int)+(k:Int))=((X.length+A.length:Nat):Int) by rw[wQ,wi O O];omega,show((X.length+2*k:Nat):Int)=((X.length+A.length+B.length:Nat):Int) by omega,e1]
      simp only[bS]
      rw[show wI (((X.length+A.length+B.length:Nat):Int)+wI (2*(k:Int)))=(((X++C).length+2*k:Nat):Int) by
       rw[wQ,wQ,wi (n:=2*(k:Int)) O O,wi O O];simp;omega,show((X.length+A.length+B.length:Nat):Int)=((X++C).length:Int) by simp;omega]
      exact f1
    . rw[zu];refine List.Perm.append_left _ ?_;rw[<-List.append_assoc];exact List.Perm.append_right _ e3
  . rw[ao O];exact⟨X,Y,rfl,hF,hB,O,hl,List.Perm.refl _⟩
def R6 (m N:Nat) (hm:2*N+10<=m) (hN:N<50000000): ∀(n k:Nat) (D:List aS),N-k<n->0<k->k<100000000->D.length=N->th k D->
 ∃D',gK m n D (N:Int) (k:Int)=some (.inl (D',()))/\fV D'/\List.Perm D' D
 |0,k,D,h,_,_,_,_=>absurd h (zA _)
 |n+1,k,D,h,hk,hk2,hD,hB=>by
  simp only[gK,bQ];by_cases e:k<N
  . rw[iP O];obtain⟨X',Y',f1,f2,f3,f4,f5,f6⟩:=XO m N k hk hm hN e m D [] O (by simpa using hD) .nil hB
    simp only[n5,xN,zG]at f1 f6;rw[show wI (2*(k:Int))=((2*k:Nat):Int) by rw[wQ,wi O O];omega,show(0:Int)=((0:Nat):Int)from rfl,f1]
    simp only[bS];rw[show wI ((k:Int)*2)=((2*k:Nat):Int) by rw[wQ,wi O O];omega]
    rw[show wI ((X'.length:Int)+(k:Int))=((X'.length+k:Nat):Int) by rw[wQ,wi O O];omega]
    by_cases g:X'.length+k<N
    . rw[iP O];obtain⟨A,r,rfl,a1,a2,a3⟩:=f3.split O;simp only[zJ]at*;have hr:=a3.short O;obtain⟨C,e1,e2,e3⟩:=SE m X' A r [] (by simp;omega) O O a2 hr (by simp;omega)
      simp only[jg]at e1;have hSl:=e3.length_eq;simp only[zJ]at hSl;obtain⟨D',g1,g2,g3⟩:=R6 m N hm hN n (2*k) (X'++C) O O O (by simp;omega) (f2.blk (.last O e2))
      refine⟨D',?_,g2,g3.trans ?_⟩
      . rw[show X'++(A++r)=X'++A++r by simp,show((X'.length+k:Nat):Int)=((X'.length+A.length:Nat):Int) by omega,show(N:Int)=((X'.length+A.length+r.length:Nat):Int) by omega,e1]
        simp only[bS];rw[show((X'.length+A.length+r.length:Nat):Int)=(N:Int) by omega]
        exact g1
      . exact(List.Perm.append_left _ e3).trans f6
    . rw[ao O];have hs:=f3.short O;obtain⟨D',g1,g2,g3⟩:=R6 m N hm hN n (2*k) (X'++Y') O O O (by simp;omega) (f2.blk (.last O hs))
      exact⟨D',g1,g2,g3.trans f6⟩
  . rw[ao O];exact⟨D,rfl,hB.short O,List.Perm.refl _⟩
def qai {m:Nat} (D:List aS) (hm:2*D.length+60<=m) (hN:D.length<50000000): ∃D',zp m D=some ((),(D',(),()))/\fV D'/\List.Perm D' D:=by
 obtain⟨X,Y,f1,f2,f3,f4,f5⟩:=XY m D.length O O m D [] O (by simp) .nil
 simp only[n5,xN,zG]at f1 f5;obtain⟨S,e1,e2,e3⟩:=q3u (m:=m) X Y [] (by simp;omega) O O
 simp only[jg]at e1;have hSl:=e3.length_eq;obtain⟨D',g1,g2,g3⟩:=R6 m D.length O hN m 20 (X++S) O O O (by simp;omega) (f2.blk (.last O e2))
 refine⟨D',?_,g2,g3.trans ((List.Perm.append_left _ e3).trans f5)⟩;rw[zp,GT,show iG m m D (D.length:Int) 20 0 20=_ from f1]
 simp only[bS];rw[show(D.length:Int)=((X.length+Y.length:Nat):Int) by omega,e1]
 simp only[bS];rw[show((X.length+Y.length:Nat):Int)=(D.length:Int) by omega,show gK m m (X++S) (D.length:Int) 20=_ from g1]
 rfl
def Hh {m:Nat} (D:List aS) (hm:2*D.length+60<=m) (hN:D.length<50000000): ∃D',AN m D=some (D',(),())/\fV D'/\List.Perm D' D:=by
 obtain⟨D',h1,h2,h3⟩:=qai D hm hN;refine⟨D',?_,h2,h3⟩;rw[AN,G2,iP (by simp;omega)]
 simp only[bS];rw[h1];rfl
end
section
def gR (es:List aS) (r j:Nat):List aS:=(dR es j 0 r).map λi:Nat=>((i:Int),((j:Int),(es.getD (Qc es i j es.length-1) zE).2.2))
def can (es:List aS) (r:Nat):Nat->List aS
 |0=>[]
 |j+1=>can es r j++gR es r j
def cG (es:List aS):Prop:= ∀k k',k<es.length->k'<es.length->(es.getD k zE).1=(es.getD k' zE).1->(es.getD k zE).2.1=(es.getD k' zE).2.1->k=k'
section
variable {es:List aS} {r c:Nat}
def xf: ∀j,(can es r j).map (·.1)=a7 es r j
 |0=>rfl
 |j+1=>by simp only[can,a7,xp,xf j,gR,d9,Is];rfl
def xe: ∀j,(can es r j).map (·.2.2)=bo es r j
 |0=>rfl
 |j+1=>by simp only[can,bo,xp,xe j,gR,jT,Is];rfl
def bw.at (hE:bw r c es) {k:Nat} (hk:k<es.length):(0<=(es.getD k zE).1/\(es.getD k zE).1<(r:Int))/\(0<=(es.getD k zE).2.1/\(es.getD k zE).2.1<(c:Int))/\fS (es.getD k zE).2.2=true:=hE k hk
def JW {i j:Nat}: ∀{t:Nat},0<Qc es i j t->Qc es i j t-1<t/\(es.getD (Qc es i j t-1) zE).1=(i:Int)/\(es.getD (Qc es i j t-1) zE).2.1=(j:Int)
 |0,h=>by simp[Qc]at h
 |t+1,h=>by
  rw[Qc]at h⊢;by_cases e:(es.getD t (0,(0,0))).1=(i:Int)/\(es.getD t (0,(0,0))).2.1=(j:Int)
  . rw[iP e];exact⟨O,e⟩
  . rw[ao e]at h⊢;obtain⟨h1,h2⟩:=JW h;exact⟨O,h2⟩
def Sv {i j:Nat}: ∀{t k:Nat},k<t->(es.getD k zE).1=(i:Int)->(es.getD k zE).2.1=(j:Int)->0<Qc es i j t
 |0,k,h,_,_=>absurd h (zA _)
 |t+1,k,h,h1,h2=>by
  rw[Qc];by_cases e:(es.getD t (0,(0,0))).1=(i:Int)/\(es.getD t (0,(0,0))).2.1=(j:Int)
  . rw[iP e];omega
  . rw[ao e];rcases zq k t with hk|hk
    . exact Sv hk h1 h2
    . have:k=t:=O;subst this;exact absurd ⟨h1,h2⟩ e
def Ow {j:Nat} {x:aS}:x∈gR es r j↔ ∃i,i<r/\0<Qc es i j es.length/\x=((i:Int),((j:Int),(es.getD (Qc es i j es.length-1) zE).2.2)):=by
 unfold gR dR;simp only[zV,pH,HB,decide_eq_true_eq];constructor
 . rintro ⟨i,⟨h1,h2⟩,rfl⟩;exact⟨i,O,h2,rfl⟩
 . rintro ⟨i,h1,h2,rfl⟩;exact⟨i,⟨⟨O,O⟩,h2⟩,rfl⟩
def FR {x:aS}: ∀{c:Nat},x∈can es r c↔ ∃i j,i<r/\j<c/\0<Qc es i j es.length/\x=((i:Int),((j:Int),(es.getD (Qc es i j es.length-1) zE).2.2))
 |0=>by simp[can]
 |c+1=>by
  simp only[can,zQ,FR (c:=c),Ow];constructor
  . rintro (⟨i,j,h1,h2,h3,h4⟩|⟨i,h1,h3,h4⟩)
    . exact⟨i,j,h1,O,h3,h4⟩
    . exact⟨i,c,h1,O,h3,h4⟩
  . rintro ⟨i,j,h1,h2,h3,h4⟩
    by_cases e:j=c
    . subst e;exact .inr ⟨i,h1,h3,h4⟩
    . exact .inl ⟨i,j,h1,O,h3,h4⟩
def qok (j:Nat):(gR es r j).Pairwise (λa b=>a.2.1=b.2.1/\a.1<b.1):=by
 unfold gR;rw[List.pairwise_map]
 have:(dR es j 0 r).Pairwise (· < ·):=by
  unfold dR;exact List.Pairwise.filter _ (List.pairwise_lt_range' (s:=0) (n:=r) (step:=1) O)
 exact this.imp λh=>⟨rfl,by simpa using h⟩
def Rq: ∀c,(can es r c).Pairwise (λa b=>fw a b=true)
 |0=>by simp[can]
 |c+1=>by
  rw[can,Fx];refine⟨Rq c,(qok c).imp λh=> ?_,λa ha b hb=> ?_⟩
  . unfold fw;simp[h.1,h.2]
  . obtain⟨i,j,h1,h2,h3,rfl⟩:=FR.1 ha;obtain⟨i',g1,g3,rfl⟩:=Ow.1 hb;unfold fw;simp;omega
def qt9 (c:Nat):fV (can es r c):=(Rq c).imp λh=>JQ h
def quh {a b:aS} (h:fw a b=true):a≠b:=by rintro rfl;unfold fw at h;simp at h
def qon (c:Nat):(can es r c).Nodup:=(Rq c).imp λh=>quh h
def qll (hD:cG es):es.Nodup:=by
 rw[List.nodup_iff_pairwise_ne,BX];intro i j hi hj hij e;have:=hD i j hi hj (by simp[List.getD,hi,hj,e]) (by simp[List.getD,hi,hj,e])
 omega
def Rb (hE:bw r c es) (hD:cG es):List.Perm es (can es r c):=by
 rw[List.perm_ext_iff_of_nodup (qll hD) (qon c)];intro x;rw[FR];constructor
 . intro hx;obtain⟨k,hk,rfl⟩:=Yj hx;obtain⟨⟨a1,a2⟩,⟨b1,b2⟩,_⟩:=hE.at hk;have e1:((es.getD k zE).1.toNat:Int)=(es.getD k zE).1:=O;have e2:((es.getD k zE).2.1.toNat:Int)=(es.getD k zE).2.1:=O;have hp:=Sv (t:=es.length) hk e1.symm e2.symm;obtain⟨h1,h2,h3⟩:=JW hp;refine⟨_,_,O,O,hp,?_⟩;have:=hD k _ hk h1 (by rw[h2,e1]) (by rw[h3,e2])
   rw[<-this,e1,e2]
 . rintro ⟨i,j,h1,h2,h3,rfl⟩
   obtain⟨g1,g2,g3⟩:=JW h3;rw[show((i:Int),((j:Int),(es.getD (Qc es i j es.length-1) zE).2.2))=es.getD (Qc es i j es.length-1) zE by rw[<-g2,<-g3]]
   simp[List.getD,g1]
def qlm (hE:bw r c es) (hD:cG es) {L:List aS} (h1:fV L) (h2:List.Perm L es):L=can es r c:=by
 refine List.Perm.eq_of_pairwise (le:=gn) (λa b ha hb h3 h4=> ?_) h1 (qt9 c) (h2.trans (Rb hE hD))
 have ha:=h2.mem_iff.1 ha;have hb:=(Rb hE hD).mem_iff.2 hb;obtain⟨k,hk,rfl⟩:=Yj ha;obtain⟨k',hk',rfl⟩:=Yj hb;unfold gn fw at h3 h4;simp only[Ip,decide_eq_false_iff_not,Nv]at h3 h4;rw[hD k k' hk hk' O O]
def qQ (L:List aS) (j:Nat):Nat:=L.countP λx=>decide (x.2.1=(j:Int))
def xg (L:List aS) (j:Nat):Nat:=L.countP λx=>decide (x.2.1<(j:Int))
def qq1 {L:List aS} {x:aS} {j:Nat}:qQ (L++[x]) j=qQ L j+(if x.2.1=(j:Int)then 1 else 0):=by
 unfold qQ;rw[List.countP_append];simp[Nh]
def qqi {L:List aS} (hx: ∀x∈L,0<=x.2.1): ∀{j:Nat},xg L (j+1)=xg L j+qQ L j:=by
 intro j;unfold xg qQ;induction L with
 |nil=>rfl
 |cons x L ih=>
  have h0:=hx x mS;rw[Nh,Nh,Nh,ih λy hy=>hx y (mT hy)]
  rcases Int.lt_trichotomy x.2.1 (j:Int)with h|h|h
  . have a:x.2.1<((j+1:Nat):Int):=O;have b: ¬x.2.1=(j:Int):=O;simp only[a,h,b,decide_true,decide_false,if_true,tM,if_false];omega
  . have a:x.2.1<((j+1:Nat):Int):=O;have b: ¬x.2.1<(j:Int):=O;rw[iP (decide_eq_true a),ao (by simpa using b),iP (decide_eq_true h)];omega
  . have a: ¬x.2.1<((j+1:Nat):Int):=O;have b: ¬x.2.1=(j:Int):=O;have d: ¬x.2.1<(j:Int):=O;simp only[a,d,b,decide_false,tM,if_false];omega
def Wu (m:Nat) (t1 a0 a1:Int) (a2 a3 a4:LI) (b0 b1:Int) {L:List aS} (hc:c<=200) (hL:L.length<=1000000) (hx: ∀x∈L,0<=x.2.1/\x.2.1<(c:Int)): ∀(L2 L1:List aS) (n:Nat) (S I V:LI),L=L1++L2->L2.length<n->
 S.length=c+1->S.getD 0 0=0->(∀j,j<c->S.getD (j+1) 0=(qQ L1 j:Int))->I=L1.map (·.1)->V=L1.map (·.2.2)->
 ∃S',gP m n t1 a0 a1 a2 a3 a4 b0 b1 S I V L (L.length:Int) (L1.length:Int)=some (.inl (t1,(a0,a1,a2,a3,a4,()),(b0,b1,S',L.map (·.1),L.map (·.2.2),()),()))/\
  S'.length=c+1/\S'.getD 0 0=0/\ ∀j,j<c->S'.getD (j+1) 0=(qQ L j:Int)
 |L2,L1,0,S,I,V,_,h,_,_,_,_,_=>absurd h (zA _)
 |[],L1,n+1,S,I,V,hd,_,h1,h2,h3,h4,h5=>by
  have:L=L1:=by simpa using hd
  subst this;refine⟨S,?_,h1,h2,h3⟩;rw[gP,bQ,ao O,h4,h5]
 |x::L2,L1,n+1,S,I,V,hd,h,h1,h2,h3,h4,h5=>by
  have hlen:L.length=L1.length+1+L2.length:=by rw[hd];simp;omega
  have gx:L.getD (0+(L1.length:Int).toNat) zE=x:=by rw[hd];exact c9 O
  obtain⟨x1,x2⟩:=hx x (by rw[hd];simp)
  have ex:wI (x.2.1+1)=((x.2.1.toNat+1:Nat):Int):=by rw[wQ,wi O O];omega
  have il:I.length=L1.length:=by rw[h4];simp
  have vl:V.length=L1.length:=by rw[h5];simp
  have hcnt:=h3 x.2.1.toNat O;have hcb:qQ L1 x.2.1.toNat<=L1.length:=List.countP_le_length
  obtain⟨S',e1,e2,e3,e4⟩:=Wu m t1 a0 a1 a2 a3 a4 b0 b1 hc hL hx L2 (L1++[x]) n (S.set (x.2.1.toNat+1) ((qQ L1 x.2.1.toNat:Int)+1)) (I++[x.1]) (V++[x.2.2]) (by rw[hd];simp) (by simp at h;omega)
   (by simpa using h1) (by rw[List.getD_eq_getElem?_getD,List.getElem?_set_ne O,<-List.getD_eq_getElem?_getD];exact h2)
   (fun j hj=>by
     rw[qq1];by_cases e:x.2.1.toNat=j
     . subst e;rw[iP O,List.getD_eq_getElem?_getD,List.getElem?_set_self O];simp
     . rw[ao O,List.getD_eq_getElem?_getD,List.getElem?_set_ne O,<-List.getD_eq_getElem?_getD,h3 j hj];simp)
   (by rw[h4];simp) (by rw[h5];simp)
  refine⟨S',?_,e2,e3,e4⟩;rw[gP,bQ,iP O];simp only[gx,ex];rw[iP O,iP (by simp;omega),iP (by simp;omega),iP O,iP O]
  rw[show 0+((x.2.1.toNat+1:Nat):Int).toNat=x.2.1.toNat+1 by omega,hcnt,show wI ((qQ L1 x.2.1.toNat:Int)+1)=(qQ L1 x.2.1.toNat:Int)+1 by rw[wQ,wi O O]]
  rw[show wI ((L1.length:Int)+1)=((L1++[x]).length:Int) by rw[wQ,wi O O];simp]
  exact e1
def Wz (m:Nat) (a0 a1:Int) (a2 a3 a4:LI) (b0 b1:Int) (b3 b4:LI) {L:List aS} (hc:c<=200) (hL:L.length<=1000000) (hx: ∀x∈L,0<=x.2.1): ∀(n j:Nat) (S:LI),c-j<n->j<=c->S.length=c+1->
 (∀t,t<=j->S.getD t 0=(xg L t:Int))->(∀t,j<=t->t<c->S.getD (t+1) 0=(qQ L t:Int))->
 ∃S',i6 m n a0 a1 a2 a3 a4 b0 b1 S b3 b4 (c:Int) (j:Int)=some (.inl ((a0,a1,a2,a3,a4,()),(b0,b1,S',b3,b4,()),()))/\S'.length=c+1/\ ∀t,t<=c->S'.getD t 0=(xg L t:Int)
 |0,j,S,h,_,_,_,_=>absurd h (zA _)
 |n+1,j,S,h,hj,hS,h1,h2=>by
  rw[i6,bQ];by_cases e:j<c
  . have c1:xg L j<=L.length:=List.countP_le_length;have c2:qQ L j<=L.length:=List.countP_le_length;rw[iP O];simp only[show wI ((j:Int)+1)=((j+1:Nat):Int) by rw[wQ,wi O O];omega]
    rw[iP O,iP O,iP O];rw[show 0+((j+1:Nat):Int).toNat=j+1 by omega,show 0+(j:Int).toNat=j by omega,h1 j (zF _),h2 j (zF _) e]
    rw[show wI ((qQ L j:Int)+(xg L j:Int))=(xg L (j+1):Int) by rw[wQ,wi O O,qqi hx];omega]
    refine Wz m a0 a1 a2 a3 a4 b0 b1 b3 b4 hc hL hx n (j+1) _ O O (by simpa using hS) (λt ht=> ?_) (λt ht htc=> ?_)
    . by_cases g:t=j+1
      . subst g;rw[List.getD_eq_getElem?_getD,List.getElem?_set_self O];rfl
      . rw[List.getD_eq_getElem?_getD,List.getElem?_set_ne O,<-List.getD_eq_getElem?_getD];exact h1 t O
    . rw[List.getD_eq_getElem?_getD,List.getElem?_set_ne O,<-List.getD_eq_getElem?_getD];exact h2 t O htc
  . rw[ao O];exact⟨S,rfl,hS,λt ht=>h1 t O⟩
def Vr: ∀{c t:Nat},t<=c->xg (can es r c) t=(a7 es r t).length
 |0,t,h=>by
  have:t=0:=O;subst this;rfl
 |c+1,t,h=>by
  unfold xg;rw[can,List.countP_append];by_cases e:t=c+1
  . subst e
    have h1:(can es r c).countP (λx=>decide (x.2.1<((c+1:Nat):Int)))=(can es r c).length:=List.countP_eq_length.2 λx hx=>by
     obtain⟨i,j,_,h2,_,rfl⟩:=FR.1 hx;simp;omega
    have h2:(gR es r c).countP (λx=>decide (x.2.1<((c+1:Nat):Int)))=(gR es r c).length:=List.countP_eq_length.2 λx hx=>by
     obtain⟨i,_,_,rfl⟩:=Ow.1 hx;simp;omega
    rw[h1,h2,<-List.length_append,<-xf (c+1),can];simp
  . have h2:(gR es r c).countP (λx=>decide (x.2.1<(t:Int)))=0:=List.countP_eq_zero.2 λx hx=>by
     obtain⟨i,_,_,rfl⟩:=Ow.1 hx;simp;omega
    rw[h2,zU];exact Vr (c:=c) O
def WX {m:Nat} (hE:bw r c es) (hD:cG es) (hr:r<=200) (hc:c<=200) (hl:es.length<=1000000) (hm:2000300<m):
 wP m (r:Int) (c:Int) es=some (((r:Int),(c:Int),br es r c,a7 es r c,bo es r c,()),((),(),(),())):=by
 obtain⟨L,h1,h2,h3⟩:=Hh (m:=m) es O O;have hL:=qlm hE hD h2 h3;have hlen:=h3.length_eq
 have hmem: ∀x∈L,0<=x.2.1/\x.2.1<(c:Int):=λx hx=>by
  obtain⟨k,hk,rfl⟩:=Yj (h3.mem_iff.1 hx);exact(hE.at hk).2.1
 obtain⟨S1,e1,e2,e3,e4⟩:=Wu m (c:Int) 0 0 [] [] [] (r:Int) (c:Int) hc O hmem L [] m (List.replicate (c+1) 0) [] [] rfl O (by simp) (by simp) (λj hj=>by simp[qQ,List.getD,hj]) rfl rfl
 obtain⟨S2,f1,f2,f3⟩:=Wz m 0 0 [] [] [] (r:Int) (c:Int) (L.map (·.1)) (L.map (·.2.2)) hc O (λx hx=>(hmem x hx).1) m 0 S1 O O e2
  (fun t ht=>by
    have:t=0:=O;subst this;rw[e3];have:xg L 0=0:=List.countP_eq_zero.2 λx hx=>by have:=(hmem x hx).1;simp;omega
    rw[this];rfl) (λt _ ht=>e4 t ht)
 have hS:S2=br es r c:=by
  refine xv (by rw[f2];simp[br]) λt ht ht'=> ?_
  have htc:t<=c:=O;have:=f3 t htc;rw[List.getD_eq_getElem?_getD,List.getElem?_eq_getElem ht,pP]at this;rw[this,hL,Vr htc];simp[br]
 rw[wP,iP (by rw[wQ,wi O O];omega),h1]
 simp only[bS];rw[show(wI ((c:Int)+1)).toNat=c+1 by rw[wQ,wi O O];omega]
 have e1':gP m m (c:Int) 0 0 [] [] [] (r:Int) (c:Int) (List.replicate (c+1) 0) [] [] L (L.length:Int) 0=_:=e1;have f1':i6 m m 0 0 [] [] [] (r:Int) (c:Int) S1 (L.map (·.1)) (L.map (·.2.2)) (c:Int) 0=_:=f1
 rw[e1'];simp only[bS];rw[f1'];simp only[bS];rw[hS,hL,xf,xe]
end
end
section
section
variable {R C:Nat} {S I V:LI}
def q73 (m:Nat) (hM:ck R C S I) (hV:V.length=I.length) (t7 t8:Int) {j:Nat} (hj:j<C): ∀(n k:Nat) (out:List aS),(S.getD (j+1) 0).toNat-k<n->out.length<=k->
 oQ m n (R:Int) (C:Int) S I V out (j:Int) (k:Int) t7 t8=some (.inl (((R:Int),(C:Int),S,I,V,()),out++Y9 S I V j k (S.getD (j+1) 0).toNat,t7,t8,()))
 |0,k,out,h,_=>O
 |n+1,k,out,h,ho=>by
  have hl:=hM.st.len;have hcz:=hM.cz;have hiz:=hM.sz;have b:=hM.st.rng (j:=j+1) O;rw[oQ];simp only[wQ,aB (show j<4611686018427387904 by omega),tN,bQ]
  rw[iP O];by_cases hk:k<(S.getD (j+1) 0).toNat
  . rw[iP O,iP O,iP O,iP (by simp;omega),SI hk]
    simp only[aB (show k<4611686018427387904 by omega)]
    rw[q73 m hM hV t7 t8 hj n (k+1) _ O (by simp;omega)]
    simp
  . rw[ao O];rw[Y9,show(S.getD (j+1) 0).toNat-k=0 by omega];simp
def q7c (m:Nat) (hm:20000<m) (hM:ck R C S I) (hV:V.length=I.length): ∀(d n k:Nat) (out:List aS),C-k=d->k<=C->d<n->out.length=(S.getD k 0).toNat->
 nc m n (R:Int) (C:Int) S I V out (C:Int) (k:Int)=some (.inl (out++ents S I V d k,()))
 |0,n,k,out,hd,hk0,hn,ho=>by
  obtain⟨n,rfl⟩: ∃n',n=n'+1:=⟨n-1,O⟩;rw[nc,bQ,ao O];simp[ents]
 |d+1,n,k,out,hd,hk0,hn,ho=>by
  have hl:=hM.st.len;have hcz:=hM.cz;have hiz:=hM.sz;have hk:k<C:=O;have a:=hM.st.rng (j:=k) O;have b:=hM.st.rng (j:=k+1) O;have dd:=hM.st.mono k hk;obtain⟨n,rfl⟩: ∃n',n=n'+1:=⟨n-1,O⟩;have e:=q73 (V:=V) m hM hV (C:Int) (k:Int) hk m (S.getD k 0).toNat out O O;rw[show(((S.getD k 0).toNat:Nat):Int)=S.getD k 0 by omega]at e
  rw[nc,bQ,iP O,iP O];simp only[tN];rw[e];simp only[bS,wQ,aB (show k<4611686018427387904 by omega)]
  rw[q7c m hm hM hV d n (k+1) _ O O O (by rw[zJ,Sd];omega),ents]
  simp
def SB {m:Nat} (hm:20000<m) (hM:ck R C S I) (hV:V.length=I.length):Ii m (R:Int) (C:Int) S I V=some (ents S I V C 0,(),()):=by
 have hcz:=hM.cz;have h:=q7c (V:=V) m hm hM hV C m 0 [] O O O (by rw[hM.st.s0];rfl)
 rw[Ii,show(0:Int)=((0:Nat):Int)from rfl,h];rfl
def ck.asc (hM:ck R C S I) {j:Nat} (hj:j<C): ∀(d t:Nat),(S.getD j 0).toNat<=t->t+(d+1)<(S.getD (j+1) 0).toNat->I.getD t 0<I.getD (t+(d+1)) 0
 |0,t,h1,h2=>by
  have:=Qb.1 (hM.ent j hj) (t+1) O h2;simp only[lX,zI,tv,decide_eq_true_eq]at this;have h:=this.2;simp only[HD]at h;simp only[zG];rcases h with h|h
  . simp only[Bool.not_eq_true',decide_eq_false_iff_not]at h;omega
  . exact h
 |d+1,t,h1,h2=>by
  have h3:=hM.asc hj d t h1 O;have h4:=hM.asc hj 0 (t+(d+1)) O O;simp only[zG]at h4;rw[show t+(d+1+1)=t+(d+1)+1 by omega];omega
def qgv (hM:ck R C S I) {j:Nat} (hj:j<C):(Y9 S I V j (S.getD j 0).toNat (S.getD (j+1) 0).toNat).Pairwise (λa b=>fw a b=true):=by
 unfold Y9;rw[List.pairwise_map];refine List.Pairwise.imp_of_mem ?_ (List.pairwise_lt_range' (s:=(S.getD j 0).toNat) (n:=(S.getD (j+1) 0).toNat-(S.getD j 0).toNat) (step:=1) O);intro a b ha hb hab;rw[HB]at ha hb;have:=hM.asc hj (b-a-1) a ha.1 O;rw[show a+(b-a-1+1)=b by omega]at this
 unfold fw;simp[-List.getD_eq_getElem?_getD,this]
def WT {x:aS}: ∀{d k:Nat},x∈ents S I V d k-> ∃j t,k<=j/\j<k+d/\(S.getD j 0).toNat<=t/\t<(S.getD (j+1) 0).toNat/\x=(I.getD t 0,(j:Int),V.getD t 0)
 |0,k,h=>by simp[ents]at h
 |d+1,k,h=>by
  rw[ents,zQ]at h;rcases h with h|h
  . unfold Y9 at h;obtain⟨t,ht,rfl⟩:=zV.1 h;rw[HB]at ht;exact⟨k,t,zF _,O,ht.1,O,rfl⟩
  . obtain⟨j,t,h1,h2,h3⟩:=WT h;exact⟨j,t,O,O,h3⟩
def Sa (hM:ck R C S I): ∀(d k:Nat),k+d=C->(ents S I V d k).Pairwise (λa b=>fw a b=true)
 |0,k,h=>by simp[ents]
 |d+1,k,h=>by
  rw[ents,Fx];refine⟨qgv hM O,Sa hM d (k+1) O,λa ha b hb=> ?_⟩
  unfold Y9 at ha;obtain⟨t,ht,rfl⟩:=zV.1 ha;obtain⟨j,t',h1,h2,h3,h4,rfl⟩:=WT hb;unfold fw;simp[-List.getD_eq_getElem?_getD];omega
def q5l {es:List aS} (h:es.Pairwise (λa b=>fw a b=true)):cG es:=by
 intro k k' hk hk' h1 h2;rw[BX]at h;have hg: ∀i (hi:i<es.length),es.getD i zE=es[i]:=λi hi=>by simp[List.getD,hi]
 rcases IJ k k' with e|e|e
 . have:=h k k' hk hk' e;rw[<-hg k hk,<-hg k' hk']at this;unfold fw at this;simp[-List.getD_eq_getElem?_getD]at this;omega
 . exact e
 . have:=h k' k hk' hk e;rw[<-hg k hk,<-hg k' hk']at this;unfold fw at this;simp[-List.getD_eq_getElem?_getD]at this;omega
def qq4 {es:List aS} {f:aS->aS} (hD:cG es) (hf: ∀a∈es,∀b∈es,(f a).1=(f b).1->(f a).2.1=(f b).2.1->a.1=b.1/\a.2.1=b.2.1):cG (es.map f):=by
 intro k k' hk hk' h1 h2;simp only[zy]at hk hk';have hg: ∀i,i<es.length->(es.map f).getD i zE=f (es.getD i zE):=λi hi=>by simp[List.getD,hi]
 have hm: ∀i,i<es.length->es.getD i zE∈es:=λi hi=>by simp[List.getD,hi]
 rw[hg k hk,hg k' hk']at h1 h2;obtain⟨a,b⟩:=hf _ (hm k hk) _ (hm k' hk') h1 h2;exact hD k k' hk hk' a b
end
def FK (x:aS):aS:=(x.2.1,(x.1,x.2.2))
end
section
def YK (m:Nat) (l:LI) {N:Nat} (hN:N<1000000): ∀(n k:Nat) (out:LI),N-k<n->k<=N->out.length=N->(∀i,i<k->out.getD i 0= -1)->
 ∃out',oN m n l (N:Int) out (N:Int) (k:Int)=some (.inl (l,(N:Int),out',()))/\out'.length=N/\ ∀i,i<N->out'.getD i 0= -1
 |0,k,out,h,_,_,_=>absurd h (zA _)
 |n+1,k,out,h,hk,ho,hq=>by
  rw[oN,bQ];by_cases e:k<N
  . rw[iP O,iP O];rw[show wI ((k:Int)+1)=((k+1:Nat):Int)from aB O,show 0+(k:Int).toNat=k by omega]
    refine YK m l hN n (k+1) _ O O (by simpa using ho) (λi hi=> ?_)
    by_cases g:i=k
    . subst g;rw[List.getD_eq_getElem?_getD,List.getElem?_set_self O];rfl
    . rw[List.getD_eq_getElem?_getD,List.getElem?_set_ne O,<-List.getD_eq_getElem?_getD];exact hq i O
  . rw[ao O];exact⟨out,rfl,ho,λi hi=>hq i O⟩
def ux (row col:LI) (x:aS):aS:=(row.getD x.1.toNat 0,(col.getD x.2.1.toNat 0,x.2.2))
end
section
def Zy {α:Type} {L:List α} {i:Nat} {d:α} (h:L.length<=i):L.getD i d=d:=by
 rw[List.getD,List.getElem?_eq_none h];rfl
end
section
end
section
def X2 {α:Type} {L:List α} {k j:Nat} {x d:α} (h:k<L.length):(L.set k x).getD j d=if j=k then x else L.getD j d:=by
 by_cases e:k=j
 . subst e;rw[SD h,iP rfl]
 . rw[bP e,ao (Ne.symm e)]
end
section
variable {S I V:LI} {N:Nat}
end
section
variable {es es':List aS} {r c:Nat}
def cG.val (hD:cG es) {i j v v':Int} (h:((i,(j,v)):aS)∈es) (h':((i,(j,v')):aS)∈es):v=v':=by
 obtain⟨k,hk,e⟩:=Yj h;obtain⟨k',hk',e'⟩:=Yj h';have:=hD k k' hk hk' (by rw[e,e']) (by rw[e,e'])
 subst this;rw[e]at e';cases e';rfl
def Ss {i j:Nat} (h:0<Qc es i j es.length):(((i:Int),((j:Int),(es.getD (Qc es i j es.length-1) zE).2.2)):aS)∈es:=by
 obtain⟨g1,g2,g3⟩:=JW h;rw[show((i:Int),((j:Int),(es.getD (Qc es i j es.length-1) zE).2.2))=es.getD (Qc es i j es.length-1) zE by rw[<-g2,<-g3]]
 simp[List.getD,g1]
def YZ {i j:Nat}:0<Qc es i j es.length↔ ∃v,(((i:Int),((j:Int),v)):aS)∈es:=by
 constructor
 . intro h;exact⟨_,Ss h⟩
 . rintro ⟨v,h⟩
   obtain⟨k,hk,e⟩:=Yj h;exact Sv hk (by rw[e]) (by rw[e])
def ql1 (hD:cG es) (hp: ∀x,x∈es↔x∈es') (hD':cG es') (j:Nat):gR es r j=gR es' r j:=by
 have hx: ∀i:Nat,0<Qc es i j es.length↔0<Qc es' i j es'.length:=λi=>by
  rw[YZ,YZ];exact⟨λ⟨v,h⟩=>⟨v,(hp _).1 h⟩,λ⟨v,h⟩=>⟨v,(hp _).2 h⟩⟩
 have hc:dR es j 0 r=dR es' j 0 r:=List.filter_congr λi _=>by rw[decide_eq_decide];exact hx i
 unfold gR;rw[<-hc];refine tl λi hi=> ?_
 have h1:=of_decide_eq_true (pH.1 hi).2;have h2:=(hx i).1 h1;rw[hD.val (Ss h1) ((hp _).2 (Ss h2))]
def qp1 (hD:cG es) (hp: ∀x,x∈es↔x∈es') (hD':cG es'): ∀j,can es r j=can es' r j
 |0=>rfl
 |j+1=>by rw[can,can,qp1 hD hp hD' j,ql1 hD hp hD' j]
def q5h {α:Type} {A B D:List α} {k:Nat} {d:α} (hk:k<B.length):(A++B++D).getD (A.length+k) d=B.getD k d:=by
 have: ¬A.length+k<A.length:=O;simp[List.getD,List.getElem?_append,hk,this]
def qfx {j:Nat} (hj:j<c): ∃zs,a7 es r c=a7 es r j++d9 es j 0 r++zs:=by
 obtain⟨zs,e⟩:=ON (es:=es) (r:=r) (t:=j+1) (c-(j+1));rw[show j+1+(c-(j+1))=c by omega]at e
 exact⟨zs,by rw[e,a7]⟩
def XZ {t:Nat}: ∀d,∃zs,bo es r (t+d)=bo es r t++zs
 |0=>⟨[],by simp⟩
 |d+1=>by
  obtain⟨zs,h⟩:=XZ (t:=t) d;exact⟨zs++jT es (t+d) 0 r,by rw[<-Nat.add_assoc,bo,h,zu]⟩
def qho {j:Nat} (hj:j<c): ∃zs,bo es r c=bo es r j++jT es j 0 r++zs:=by
 obtain⟨zs,e⟩:=XZ (es:=es) (r:=r) (t:=j+1) (c-(j+1));rw[show j+1+(c-(j+1))=c by omega]at e
 exact⟨zs,by rw[e,bo]⟩
def qha {j:Nat} (hj:j<c):Y9 (br es r c) (a7 es r c) (bo es r c) j ((br es r c).getD j 0).toNat ((br es r c).getD (j+1) 0).toNat=gR es r j:=by
 rw[Zt O,Zt O,tN,tN]
 have hl:(a7 es r (j+1)).length-(a7 es r j).length=(dR es j 0 r).length:=by
  rw[a7,zJ];simp[d9]
 unfold Y9 gR;rw[hl];obtain⟨zs,e⟩:=qfx (es:=es) (r:=r) hj;obtain⟨ws,e'⟩:=qho (es:=es) (r:=r) hj;refine xv (by simp) λk h1 h2=> ?_
 simp only[zy,List.length_range']at h1;have hk:k<(dR es j 0 r).length:=h1;simp only[nw,List.getElem_range',xS]
 have eI:(a7 es r c).getD ((a7 es r j).length+k) 0=((dR es j 0 r)[k]:Int):=by
  rw[e,q5h (by simp[d9];exact hk)]
  simp[d9,List.getD,hk]
 have eV:(bo es r c).getD ((a7 es r j).length+k) 0=(es.getD (Qc es ((dR es j 0 r)[k]) j es.length-1) zE).2.2:=by
  rw[e',<-JS es r j,q5h (by simp[jT];exact hk)]
  simp[jT,List.getD,hk]
 rw[eI,eV]
def YN: ∀(d k:Nat),k+d=c->can es r k++ents (br es r c) (a7 es r c) (bo es r c) d k=can es r c
 |0,k,h=>by
  have:k=c:=O;subst this;simp[ents]
 |d+1,k,h=>by
  have ih:=YN d (k+1) O;rw[ents,qha O,<-List.append_assoc];exact ih
def q6b:ents (br es r c) (a7 es r c) (bo es r c) c 0=can es r c:=by
 have:=YN (es:=es) (r:=r) (c:=c) c 0 O;simpa [can]using this
end
section
variable {R C:Nat} {S I V:LI}
end
end Go.Vs.F
set_option maxRecDepth 100000
namespace Go.Vs.F
def OK {es:List aS} {k:Nat} (h:k<es.length):es.getD k zE∈es:=by simp[List.getD,h]
def ZA {r c:Nat} {es:List aS} (h: ∀e∈es,(0<=e.1/\e.1<(r:Int))/\(0<=e.2.1/\e.2.1<(c:Int))/\fS e.2.2=true):bw r c es:=λk hk=>h _ (OK hk)
def Y3 {r c:Nat} {es:List aS} (h:bw r c es): ∀e∈es,(0<=e.1/\e.1<(r:Int))/\(0<=e.2.1/\e.2.1<(c:Int))/\fS e.2.2=true:=λe he=>by
 obtain⟨k,hk,rfl⟩:=Yj he;exact h k hk
def Xs (m:Nat) (a:LI) (hb:a.length<4611686018427387904): ∀(n k:Nat),a.length-k<n->oY m n a a (k:Int)=some (.inr (.inl ()))
 |0,k,h=>O
 |n+1,k,h=>by
  rw[oY];by_cases hk:k<a.length
  . have h1:((k:Int)<(a.length:Int)):=O;have c1:(0:Int)<=(k:Int)/\(k:Int)<(a.length:Int):=O;simp only[bQ,h1,if_true,c1,and_self,aE,wQ,aB (show k<4611686018427387904 by omega)]
    exact Xs m a hb n (k+1) O
  . have h1: ¬((k:Int)<(a.length:Int)):=O;simp only[bQ,h1,if_false]
def qfp {m:Nat} {a:LI} (h:a.length<m) (hb:a.length<4611686018427387904):Pj m a a=some (true,(),(),()):=by
 have e:=Xs m a hb m 0 O;rw[nZ]at e;rw[Pj,aE,iP rfl,e];rfl
def Ys {m:Nat} {a:LI} (h:a.length<m) (hb:a.length<4611686018427387904):Ij m a a=some (true,(),(),()):=by rw[qt8 h hb];simp
structure MV (R C:Nat) (S I V:LI):Prop where
 ok:ck R C S I
 vl:V.length=I.length
 chk:chk (R:Int) (C:Int) S I V=0
section
variable {R C:Nat} {S I V:LI}
def MV.ents (h:MV R C S I V):bw R C (ents S I V C 0):=by
 obtain⟨_,_,_,_,_,_,hfin⟩:=PI h.chk;exact qsy h.ok h.vl hfin
def MV.dist (h:MV R C S I V):cG (Go.Vs.F.ents S I V C 0):=q5l (Sa h.ok C 0 O)
def MV.len (h:MV R C S I V):(Go.Vs.F.ents S I V C 0).length<=10000:=by
 rw[WH h.ok C 0 O O];have:=h.ok.st.rng (j:=C) (zF _);have:=h.ok.sz;omega
def MV.sl (h:MV R C S I V):S.length<=201:=by
 have:=h.ok.st.len;have:=h.ok.cz;omega
def fe (e:aS):Bool:=decide (e.1>=e.2.1)
def Ju {es:List aS} {k:Nat} (hk:k<es.length):es.take (k+1)=es.take k++[es.getD k zE]:=by
 rw[Nm];congr 1;rw[List.getElem?_eq_getElem hk,List.getD,List.getElem?_eq_getElem hk];rfl
def q6i {es:List aS} {p:aS->Bool} {k:Nat} (hk:k<es.length):(es.take (k+1)).filter p=(es.take k).filter p++(if p (es.getD k zE)then [es.getD k zE]else []):=by
 rw[Ju hk,List.filter_append,tR];split<;>rfl
def ZR {es:List aS} {p:aS->Bool} {k:Nat}:((es.take k).filter p).length<=k:=by
 have h:=Fz p (es.take k);rw[zk]at h;omega
def MV.filter (h:MV R C S I V) (p:aS->Bool):bw R C ((Go.Vs.F.ents S I V C 0).filter p)/\cG ((Go.Vs.F.ents S I V C 0).filter p)/\((Go.Vs.F.ents S I V C 0).filter p).length<=10000:=by
 refine⟨ZA λe he=>Y3 h.ents e (pH.1 he).1,q5l ((Sa h.ok C 0 O).filter _),zf (Fz ..) h.len⟩
end
def pE (l:LI) (N:Nat):Prop:= ∀k,k<l.length->0<=l.getD k 0/\l.getD k 0<(N:Int)
def Im (l:LI):Prop:= ∀j k,j<l.length->k<l.length->l.getD j 0=l.getD k 0->j=k
structure mr (l:LI) (N:Nat) (out:LI):Prop where
 len:out.length=N
 at_: ∀k,k<l.length->out.getD (l.getD k 0).toNat 0=(k:Int)
 no: ∀i:Nat,i<N->(∀k,k<l.length->l.getD k 0≠(i:Int))->out.getD i 0= -1
def YW (m:Nat) (l out:LI) {N:Nat} (hN:N<=1000) (hl:l.length<=1000): ∀(n k:Nat),l.length-k<n->
 (m8 m n l (N:Int) out l (l.length:Int) (k:Int)=some (.inr (.inl (l,out,())))/\ ∀j,k<=j->j<l.length->0<=l.getD j 0/\l.getD j 0<(N:Int))\/
 (m8 m n l (N:Int) out l (l.length:Int) (k:Int)=some (.inl ([],3,()))/\ ¬pE l N)
 |0,k,h=>absurd h (zA _)
 |n+1,k,h=>by
  rw[m8];by_cases e:k<l.length
  . have h1:((k:Int)<(l.length:Int)):=O;have c1:(0:Int)<=(k:Int)/\(k:Int)<(l.length:Int):=O;have ih:=YW m l out hN hl n (k+1) O;have w1:IntKind.wrap .i64 ((N:Int)-1)=(N:Int)-1:=wi O O;simp only[bQ,h1,if_true,c1,and_self,tN,RL,bS,wQ,w1,aB (show k<4611686018427387904 by omega)]
    by_cases hr:0<=l.getD k 0/\l.getD k 0<=(N:Int)-1
    . have:(decide (0<=l.getD k 0)&&decide (l.getD k 0<=(N:Int)-1))=true:=by simp only[hr,decide_true,Iv]
      rw[this];simp only[jM,cond_false];rcases ih with⟨i1,i2⟩|ih
      . refine .inl ⟨i1,λj a b=> ?_⟩
        by_cases ej:j=k
        . subst ej;omega
        . exact i2 j O b
      . exact .inr ih
    . have:(decide (0<=l.getD k 0)&&decide (l.getD k 0<=(N:Int)-1))=false:=by
       rw[Nv,decide_eq_false_iff_not,decide_eq_false_iff_not];omega
      rw[this];simp only[q9,cond_true];exact .inr ⟨by trivial,λhR=>by have:=hR k e;omega⟩
  . have h1: ¬((k:Int)<(l.length:Int)):=O;simp only[bQ,h1,if_false];exact .inl ⟨by trivial,λj a b=>O⟩
def q97 (m:Nat) (l:LI) {N:Nat} (hN:N<=1000) (hl:l.length<=1000) (hR:pE l N): ∀(n k:Nat) (out:LI),l.length-k<n->k<=l.length->out.length=N->
 (∀t,t<k->out.getD (l.getD t 0).toNat 0=(t:Int))->(∀i:Nat,i<N->(∀t,t<k->l.getD t 0≠(i:Int))->out.getD i 0= -1)->
 (∃out',mZ m n out l (l.length:Int) (k:Int)=some (.inr (.inl (out',())))/\mr l N out'/\Im l)\/(mZ m n out l (l.length:Int) (k:Int)=some (.inl ([],90,()))/\ ¬Im l)
 |0,k,out,h,_,_,_,_=>absurd h (zA _)
 |n+1,k,out,h,hk0,ho,h1,h2=>by
  rw[mZ];by_cases e:k<l.length
  . obtain⟨r1,r2⟩:=hR k e;have q1:((k:Int)<(l.length:Int)):=O;have c1:(0:Int)<=(k:Int)/\(k:Int)<(l.length:Int):=O;have c2:(0:Int)<=l.getD k 0/\l.getD k 0<(out.length:Int):=O;simp only[bQ,q1,if_true,c1,c2,and_self,tN,zG,wQ,aB (show k<4611686018427387904 by omega)]
    by_cases hd: ∃t,t<k/\l.getD t 0=l.getD k 0
    . obtain⟨t,ht,et⟩:=hd;have:=h1 t ht;rw[et]at this;rw[iP O];exact .inr ⟨by trivial,λhD=>by have:=hD t k O e et;omega⟩
    . have hn: ∀t,t<k->l.getD t 0≠((l.getD k 0).toNat:Int):=λt ht et=>hd ⟨t,ht,O⟩
      have:=h2 (l.getD k 0).toNat O hn;rw[ao O];refine q97 m l hN hl hR n (k+1) _ O O (by simp[ho]) (λt ht=> ?_) (λi hi hni=> ?_)
      . rw[X2 O];by_cases et:t=k
        . subst et;rw[iP rfl]
        . have:=hn t O;have rt:=hR t O;rw[ao O];exact h1 t O
      . have:=hni k O;rw[X2 O,ao O];exact h2 i hi λt ht=>hni t O
  . have q1: ¬((k:Int)<(l.length:Int)):=O;have hk:k=l.length:=O;simp only[bQ,q1,if_false];refine .inl ⟨out,rfl,⟨ho,λt ht=>h1 t O,λi hi hn=>h2 i hi λt ht=>hn t O⟩,λa b ha hb eab=> ?_⟩
    have g1:=h1 a O;have g2:=h1 b O;rw[eab,g2]at g1;omega
def qks {m:Nat} (hm:3000<m) (l:LI) {N:Nat} (hN:N<=1000) (hl:l.length<=1000):
 (∃out,Gv m l (N:Int)=some ((out,0,()),(),(),())/\mr l N out/\pE l N/\Im l)\/(Gv m l (N:Int)=some (([],3,()),(),(),())/\ ¬pE l N)\/
 (Gv m l (N:Int)=some (([],90,()),(),(),())/\pE l N/\ ¬Im l):=by
 obtain⟨o1,e1,e2,e3⟩:=YK m l (N:=N) O m 0 (List.replicate N 0) O O (by simp) (λi hi=>absurd hi (zA _))
 rw[nZ]at e1;rw[Gv,iP O];simp only[tN,nX,e1,bS];rcases YW m l o1 hN hl m 0 O with⟨f1,f2⟩|⟨f1,f2⟩
 . rw[nZ]at f1;have hR:pE l N:=λk hk=>f2 k (l8 _) hk
   rw[f1];simp only[bS];rcases q97 m l hN hl hR m 0 o1 O O e2 (λt ht=>absurd ht (zA _)) (λi hi _=>e3 i hi)with⟨out,g1,g2,g3⟩|⟨g1,g2⟩
   . rw[nZ]at g1;rw[g1];exact .inl ⟨out,rfl,g2,hR,g3⟩
   . rw[nZ]at g1;rw[g1];exact .inr (.inr ⟨rfl,hR,g2⟩)
 . rw[nZ]at f1;rw[f1];exact .inr (.inl ⟨rfl,f2⟩)
def mQ {α:Type} {l:List α} {j k:Nat} {d:α} (h:j<k):(l.take k).getD j d=l.getD j d:=by
 simp[List.getD,List.getElem?_take,h]
end Go.Vs.F
set_option maxRecDepth 100000
namespace Go.Vs.F
section
variable {R C:Nat} {S I V:LI}
def fc (row col:LI) (e:aS):Bool:=decide (0<=row.getD e.1.toNat 0)&&decide (0<=col.getD e.2.1.toNat 0)
def q5k (m:Nat) (rows cols row col:LI) (b0 b1:Int) (b2 b3 b4:LI) {es:List aS} (hl:es.length<=100000) (hx: ∀x∈es,(0<=x.1/\x.1<(row.length:Int))/\(0<=x.2.1/\x.2.1<(col.length:Int))):
 ∀(n k:Nat),es.length-k<n->k<=es.length->
 kM m n rows cols row col b0 b1 b2 b3 b4 (((es.take k).filter (fc row col)).map (ux row col)) es (es.length:Int) (k:Int)=some (.inl (rows,cols,(b0,b1,b2,b3,b4,()),(es.filter (fc row col)).map (ux row col),()))
 |0,k,h,_=>absurd h (zA _)
 |n+1,k,h,hk0=>by
  rw[kM];by_cases hk:k<es.length
  . have h1:((k:Int)<(es.length:Int)):=O;have c1:(0:Int)<=(k:Int)/\(k:Int)<(es.length:Int):=O;obtain⟨x1,x2⟩:=hx _ (OK hk);have hlen:=ZR (es:=es) (p:=fc row col) (k:=k);have c2: ∀y:aS,(((es.take k).filter (fc row col)).map (ux row col)).length+([y]:List aS).length<=1073741824:=λy=>by rw[zy];show _+1<=_;omega
    have ih:=q5k m rows cols row col b0 b1 b2 b3 b4 hl hx n (k+1) O O;rw[q6i hk]at ih;simp only[bQ,h1,if_true,c1,c2,and_self,tN,zG,wQ,aB (show k<4611686018427387904 by omega),x1,x2]
    by_cases p1:row.getD (es.getD k zE).1.toNat 0>=0
    . rw[iP p1];by_cases p2:col.getD (es.getD k zE).2.1.toNat 0>=0
      . rw[iP p2];have hp:fc row col (es.getD k zE)=true:=by unfold fc;rw[decide_eq_true p1,decide_eq_true p2];rfl
        rw[iP hp,xp]at ih;exact ih
      . rw[ao p2]
        have hp: ¬fc row col (es.getD k zE)=true:=λh=>by
         unfold fc at h;exact p2 (of_decide_eq_true (Io.1 h).2)
        rw[ao hp,jg]at ih;exact ih
    . rw[ao p1]
      have hp: ¬fc row col (es.getD k zE)=true:=λh=>by
       unfold fc at h;exact p1 (of_decide_eq_true (Io.1 h).1)
      rw[ao hp,jg]at ih;exact ih
  . have h1: ¬((k:Int)<(es.length:Int)):=O;simp only[bQ,h1,if_false];rw[sj O]
def Sel (es:List aS) (rows cols:LI) (x:aS):Prop:= ∃(i j:Nat) (v:Int),x=((i:Int),((j:Int),v))/\i<rows.length/\j<cols.length/\((rows.getD i 0,(cols.getD j 0,v)):aS)∈es
def mr.inv {l out:LI} {N:Nat} (h:mr l N out) (hR:pE l N) {i:Int} (h0:0<=i) (h1:i<(N:Int)):(0<=out.getD i.toNat 0/\ ∃k,k<l.length/\l.getD k 0=i/\out.getD i.toNat 0=(k:Int))\/(¬0<=out.getD i.toNat 0/\ ∀k,k<l.length->l.getD k 0≠i):=by
 by_cases hx: ∃k,k<l.length/\l.getD k 0=i
 . obtain⟨k,hk,e⟩:=hx;have:=h.at_ k hk;rw[e]at this;exact .inl ⟨O,k,hk,e,this⟩
 . have hn: ∀k,k<l.length->l.getD k 0≠i:=λk hk e=>hx ⟨k,hk,e⟩
   have:=h.no i.toNat O (λk hk e=>hn k hk O)
   exact .inr ⟨O,hn⟩
def VU (h:MV R C S I V) {rows cols row col:LI} (pr:mr rows R row) (pc:mr cols C col) (rr:pE rows R) (rc:pE cols C) (x:aS):
 x∈((ents S I V C 0).filter (fc row col)).map (ux row col)↔Sel (ents S I V C 0) rows cols x:=by
 rw[zV];constructor
 . rintro ⟨e,he,rfl⟩
   obtain⟨he,hp⟩:=pH.1 he;obtain⟨e1,e2,_⟩:=Y3 h.ents e he;unfold fc at hp;obtain⟨p1,p2⟩:=Io.1 hp;have p1:=of_decide_eq_true p1;have p2:=of_decide_eq_true p2;rcases pr.inv rr e1.1 e1.2 with⟨_,i,hi,i1,i2⟩|⟨q,_⟩
   . rcases pc.inv rc e2.1 e2.2 with⟨_,j,hj,j1,j2⟩|⟨q,_⟩
     . refine⟨i,j,e.2.2,by rw[ux,i2,j2],hi,hj,?_⟩
       rw[i1,j1];exact he
     . exact absurd p2 q
   . exact absurd p1 q
 . rintro ⟨i,j,v,rfl,hi,hj,hm⟩
   refine⟨_,pH.2 ⟨hm,?_⟩,?_⟩
   . unfold fc;simp only;rw[pr.at_ i hi,pc.at_ j hj];simp
   . simp only[ux];rw[pr.at_ i hi,pc.at_ j hj]
def Vc (h:MV R C S I V) {rows cols row col:LI} (pr:mr rows R row) (pc:mr cols C col) (rr:pE rows R) (rc:pE cols C):
 bw rows.length cols.length (((ents S I V C 0).filter (fc row col)).map (ux row col))/\cG (((ents S I V C 0).filter (fc row col)).map (ux row col))/\(((ents S I V C 0).filter (fc row col)).map (ux row col)).length<=10000:=by
 obtain⟨f1,f2,f3⟩:=h.filter (fc row col);refine⟨ZA λe he=> ?_,qq4 f2 λa ha b hb h1 h2=> ?_,by rw[zy];exact f3⟩
 . obtain⟨i,j,v,rfl,hi,hj,hm⟩:=(VU h pr pc rr rc e).1 he;exact⟨⟨by simp only;omega,by simp only;omega⟩,⟨by simp only;omega,by simp only;omega⟩,(Y3 h.ents _ hm).2.2⟩
 . obtain⟨ha,pa⟩:=pH.1 ha;obtain⟨hb,pb⟩:=pH.1 hb;unfold fc at pa pb;obtain⟨a1,a2⟩:=Io.1 pa;obtain⟨b1,b2⟩:=Io.1 pb;have a1:=of_decide_eq_true a1;have a2:=of_decide_eq_true a2;have b1:=of_decide_eq_true b1;have b2:=of_decide_eq_true b2;obtain⟨ea1,ea2,_⟩:=Y3 h.ents a ha;obtain⟨eb1,eb2,_⟩:=Y3 h.ents b hb;simp only[ux]at h1 h2;constructor
   . rcases pr.inv rr ea1.1 ea1.2 with⟨_,i,hi,i1,i2⟩|⟨q,_⟩
     . rcases pr.inv rr eb1.1 eb1.2 with⟨_,i',hi',i1',i2'⟩|⟨q,_⟩
       . have:i=i':=O;subst this;rw[<-i1,<-i1']
       . exact absurd b1 q
     . exact absurd a1 q
   . rcases pc.inv rc ea2.1 ea2.2 with⟨_,i,hi,i1,i2⟩|⟨q,_⟩
     . rcases pc.inv rc eb2.1 eb2.2 with⟨_,i',hi',i1',i2'⟩|⟨q,_⟩
       . have:i=i':=O;subst this;rw[<-i1,<-i1']
       . exact absurd b2 q
     . exact absurd a2 q
def RY {x:aS}: ∀{d k:Nat},x∈ents S I V d k↔ ∃j t,k<=j/\j<k+d/\(S.getD j 0).toNat<=t/\t<(S.getD (j+1) 0).toNat/\x=(I.getD t 0,(j:Int),V.getD t 0)
 |0,k=>by
  constructor
  . intro h;simp[ents]at h
  . rintro ⟨j,t,h1,h2,_⟩;omega
 |d+1,k=>by
  rw[ents,zQ,RY (d:=d) (k:=k+1)];constructor
  . rintro (h|⟨j,t,h1,h2,h3⟩)
    . unfold Y9 at h;obtain⟨t,ht,rfl⟩:=zV.1 h;rw[HB]at ht;exact⟨k,t,zF _,O,ht.1,O,rfl⟩
    . exact⟨j,t,O,O,h3⟩
  . rintro ⟨j,t,h1,h2,h3,h4,h5⟩
    by_cases e:j=k
    . subst e;left;unfold Y9;exact zV.2 ⟨t,HB.2 ⟨h3,O⟩,h5.symm⟩
    . right;exact⟨j,t,O,O,h3,h4,h5⟩
end
end Go.Vs.F
set_option maxRecDepth 100000
namespace Go.Vs.F
section
variable {R C:Nat} {S I V:LI}
end
end Go.Vs.F
