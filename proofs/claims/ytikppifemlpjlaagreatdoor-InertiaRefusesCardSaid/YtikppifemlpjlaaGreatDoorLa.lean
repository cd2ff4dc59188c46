import Derived.Test.YtikppifemlpjlaaGreatDoorVc
import Derived.Test.YtikppifemlpjlaaGreatDoorFn
set_option linter.unusedVariables false
set_option linter.unusedSimpArgs false
set_option maxRecDepth 100000
set_option linter.defProp false
namespace Go.Vs.F
section
def qny {x:Int}:0<=qp .u64 x 2047/\qp .u64 x 2047<2048:=by
 unfold qp
 have h:(BitVec.ofInt IntKind.u64.bits x&&&BitVec.ofInt IntKind.u64.bits 2047).toNat<2048:=by
  rw[BitVec.toNat_and];have:(BitVec.ofInt IntKind.u64.bits 2047).toNat=2047:=by decide
  rw[this];exact zA2 Nat.and_le_right (by decide)
 generalize (BitVec.ofInt IntKind.u64.bits x&&&BitVec.ofInt IntKind.u64.bits 2047).toNat=y at h
 rw[wu O O];omega
def finB (x:Int):Bool:=qp .u64 (shr_ .u64 x 52) 2047 !=2047
def q6r {m:Nat} {x:Int}:g61 m x=some (finB x,(),()):=by
 rw[g61,g103];have:=qny (x:=shr_ .u64 x 52);simp only[bS,wi (show(-9223372036854775808:Int)<=qp .u64 (shr_ .u64 x 52) 2047 by omega) O]
 rfl
def qbi (m:Nat) (a:LI) (hb:a.length<4611686018427387904): ∀(n k:Nat),a.length-k<n->
 g86L0 m n a (k:Int)=some (bif Qe (λi=>finB (a.getD i 0)) k a.length then .inr (.inl ())else .inl (false,()))
 |0,k,h=>O
 |n+1,k,h=>by
  rw[g86L0];by_cases hk:k<a.length
  . have h1:((k:Int)<(a.length:Int)):=O;simp only[bQ,h1,if_true,tN,zL2,and_self,wsucc (show k<4611686018427387904 by omega),g23,bS]
    rw[Xq hk,qbi m a hb n (k+1) O];show(bif !(finB (a.getD k 0))then _ else _)=_
    cases finB (a.getD k 0)<;>simp
  . have h1: ¬((k:Int)<(a.length:Int)):=O;simp only[bQ,h1,if_false];rw[Y7 hk];rfl
def finL (a:LI):Bool:=Qe (λi=>finB (a.getD i 0)) 0 a.length
def qlc {m:Nat} {a:LI} (h:a.length<m) (hb:a.length<4611686018427387904):g86 m a=some (finL a,(),()):=by
 rw[g86];have:=qbi m a hb m 0 O;simp only[zo2,nZ,zM3]at this;rw[this];unfold finL;cases Qe (λi=>finB (a.getD i 0)) 0 a.length<;>rfl
def q4t (m:Nat) (a:LI) (hb:a.length<4611686018427387904): ∀(n k:Nat),a.length-k<n->
 ∃j:Nat,g154L0 m n a (a.length:Int) (k:Int)=some (bif Qe (λi=>finB (a.getD i 0)) k a.length then .inr (.inl ())else .inl ((j:Int),()))
 |0,k,h=>O
 |n+1,k,h=>by
  rw[g154L0];by_cases hk:k<a.length
  . have h1:((k:Int)<(a.length:Int)):=O;obtain⟨j,hj⟩:=q4t m a hb n (k+1) O;simp only[bQ,h1,if_true,tN,zL2,and_self,wsucc (show k<4611686018427387904 by omega),g102,q6r,bS]
    rw[Xq hk,hj];cases finB (a.getD k 0)
    . exact⟨k,by simp⟩
    . exact⟨j,by simp⟩
  . have h1: ¬((k:Int)<(a.length:Int)):=O;simp only[bQ,h1,if_false];rw[Y7 hk];exact⟨0,rfl⟩
def q7k {m:Nat} {a:LI} (h:a.length<m) (hb:a.length<4611686018427387904):g101 m a=some (!finL a,(),(),()):=by
 rw[g101,g154];obtain⟨j,this⟩:=q4t m a hb m 0 O;simp only[zo2,nZ,zM3]at this;rw[this];unfold finL;cases Qe (λi=>finB (a.getD i 0)) 0 a.length
 . simp
 . simp
end
section
def le2 (S:LI) (i:Nat):Bool:=decide (S.getD i 0<=S.getD (i+1) 0)
def q65 (m:Nat) (S:LI) (hb:S.length<4611686018427387904): ∀(n k:Nat),k<n->k<S.length->
 g153L0 m n S (k:Int)=some (bif Qe (le2 S) 0 k then .inr (.inl ())else .inl (false,()))
 |0,k,h,_=>O
 |n+1,0,h,h0=>by
  rw[g153L0];simp[Qe]
 |n+1,k+1,h,h0=>by
  rw[g153L0];have h1:(((k+1:Nat):Int)>0):=O;have h2:(((k+1:Nat):Int)<(S.length:Int)):=O;have h3:((k:Int)<(S.length:Int)):=O;have hp:IntKind.wrap .i64 (((k+1:Nat):Int)-1)=(k:Int):=by rw[wi O O];omega
  have e1:S.getD (k+1) 0≠S.getD (k+1) 0↔False:=by simp
  simp only[bQ,h1,h2,h3,if_true,hp,tN,zL2,and_self,g186,g198,bS,bif_ne];rw[q65 m S hb n k O O]
  have e:Qe (le2 S) 0 (k+1)=(Qe (le2 S) 0 k&&le2 S k):=by
   rw[Bool.eq_iff_iff,zM,Qo,Qo];constructor
   . intro h;exact⟨λi a b=>h i a O,h k O O⟩
   . rintro ⟨g1,g2⟩ i a b
     rcases zE1 i k with h|h
     . exact g1 i a h
     . have:i=k:=O;rw[this];exact g2
  rw[e];unfold le2;by_cases hlt:S.getD (k+1) 0<S.getD k 0
  . have: ¬S.getD k 0<=S.getD (k+1) 0:=O;simp[-List.getD_eq_getElem?_getD,hlt,this]
  . have:S.getD k 0<=S.getD (k+1) 0:=O;simp[-List.getD_eq_getElem?_getD,hlt,this]
def qdh {m:Nat} {S:LI} (h:S.length<m) (h0:0<S.length) (hb:S.length<4611686018427387904):g153 m S=some (Qe (le2 S) 0 (S.length-1),(),()):=by
 rw[g153,show wI ((S.length:Int)-1)=((S.length-1:Nat):Int) by show IntKind.wrap .i64 _=_;rw[wi O O];omega,q65 m S hb m (S.length-1) O O]
 cases Qe (le2 S) 0 (S.length-1)<;>rfl
def ascB (R:Int):Int->LI->Bool
 |_,[]=>true
 |l,x::xs=>(decide (l<x)&&decide (x<R))&&ascB R x xs
def q8c (m:Nat) (R C:Int) (S I V xs:LI) (a b:Int) (hb:xs.length<4611686018427387904): ∀(n k:Nat) (l:Int),xs.length-k<n->
 g100L1 m n R C S I V l a b xs (xs.length:Int) (k:Int)=some (bif ascB R l (xs.drop k)then .inr (.inl ((R,C,S,I,V,()),a,b,()))else .inl (false,()))
 |0,k,_,h=>O
 |n+1,k,l,h=>by
  rw[g100L1];by_cases hk:k<xs.length
  . have h1:((k:Int)<(xs.length:Int)):=O;simp only[bQ,h1,if_true,tN,zL2,and_self,wsucc (show k<4611686018427387904 by omega)]
    rw[drop_cons (d:=0) hk,q8c m R C S I V xs a b hb n (k+1) _ O,ascB];by_cases e1:xs.getD k 0<=l
    . have e2: ¬l<xs.getD k 0:=O;simp[-List.getD_eq_getElem?_getD,e1,e2]
    . have e2:l<xs.getD k 0:=O;by_cases e3:xs.getD k 0>=R
      . have e4: ¬xs.getD k 0<R:=O;simp[-List.getD_eq_getElem?_getD,e1,e2,e3,e4]
      . have e4:xs.getD k 0<R:=O;simp[-List.getD_eq_getElem?_getD,e1,e2,e3,e4]
  . have h1: ¬((k:Int)<(xs.length:Int)):=O;simp only[bQ,h1,if_false];rw[drop_nil' hk];rfl
def colOf (S I:LI) (j:Nat):LI:=(I.drop (S.getD j 0).toNat).take ((S.getD (j+1) 0).toNat-(S.getD j 0).toNat)
structure StartOK (C:Nat) (S I:LI):Prop where
 len:S.length=C+1
 s0:S.getD 0 0=0
 mono: ∀j,j<C->S.getD j 0<=S.getD (j+1) 0
 last:S.getD C 0=(I.length:Int)
def StartOK.le {C:Nat} {S I:LI} (h:StartOK C S I): ∀{i j:Nat},i<=j->j<=C->S.getD i 0<=S.getD j 0
 |i,0,h1,h2=>by have:i=0:=O
                subst this;exact zL4 _
 |i,j+1,h1,h2=>by
  rcases zE1 i (j+1)with h3|h3
  . exact zy3 (h.le O O) (h.mono j O)
  . have:i=j+1:=O;subst this;exact zL4 _
def StartOK.rng {C:Nat} {S I:LI} (h:StartOK C S I) {j:Nat} (hj:j<=C):0<=S.getD j 0/\S.getD j 0<=(I.length:Int):=by
 have a:=h.le (zS2 j) hj;have b:=h.le hj (zH C);rw[h.s0]at a;rw[h.last]at b;exact⟨a,b⟩
def qie {C:Nat} {S I:LI} (h:StartOK C S I) {j:Nat} (hj:j<C):(colOf S I j).length=(S.getD (j+1) 0).toNat-(S.getD j 0).toNat:=by
 have a:=h.rng (j:=j) O;have b:=h.rng (j:=j+1) O;unfold colOf;rw[zf,zU1];omega
def q8h (m:Nat) (R C:Int) (c:Nat) (S I V:LI) (hC:C=(c:Int)) (hok:StartOK c S I) (hb:I.length<4611686018427387904) (hc:c<4611686018427387904) (hm:I.length<m): ∀(n k:Nat),c-k<n->k<=c->
 g100L0 m n R C S I V C (k:Int)=some (bif Qe (λj=>ascB R (-1) (colOf S I j)) k c then .inr (.inl ())else .inl (false,()))
 |0,k,h,_=>O
 |n+1,k,h,hk0=>by
  rw[g100L0];subst hC;by_cases hk:k<c
  . have h1:((k:Int)<(c:Int)):=O;have hl:=hok.len;have h2:((k:Int)<(S.length:Int)):=O;have h3:(((k+1:Nat):Int)<(S.length:Int)):=O;have a:=hok.rng (j:=k) O;have b:=hok.rng (j:=k+1) O;have d:=hok.mono k hk;have hlen:(colOf S I k).length<=I.length:=by rw[qie hok hk];omega
    simp only[bQ,h1,h2,h3,if_true,tN,zL2,and_self,wsucc (show k<4611686018427387904 by omega),a.1,b.2,d]
    have e:=q8c m R (c:Int) S I V (colOf S I k) (c:Int) (k:Int) O m 0 (-1) O;simp only[zo2,nZ,zM3,zT1]at e;unfold colOf at e⊢;rw[e,Xq hk];cases hA:ascB R (-1) ((I.drop (S.getD k 0).toNat).take ((S.getD (k+1) 0).toNat-(S.getD k 0).toNat))
    . simp
    . have:=q8h m R (c:Int) c S I V rfl hok hb hc hm n (k+1) O O;unfold colOf at this;simp only[cond_true,zH2,bS,wsucc (show k<4611686018427387904 by omega)]
      exact this
  . have h1: ¬((k:Int)<(c:Int)):=O;simp only[bQ,h1,if_false];rw[Y7 hk];rfl
def entOK (R:Int) (S I:LI) (j k:Nat):Bool:=
 decide (0<=I.getD k 0)&&decide (I.getD k 0<R)&&(!decide ((S.getD j 0).toNat<k)||decide (I.getD (k-1) 0<I.getD k 0))
def q0y (R:Int) (S I:LI) (j:Nat):Bool:=Qe (entOK R S I j) (S.getD j 0).toNat (S.getD (j+1) 0).toNat
def qfg (R:Int) (I:LI) (s e:Nat) (he:e<=I.length): ∀(d k:Nat) (l:Int),e-k=d->s<=k-> -1<=l->(k=s->l= -1)->(s<k->l=I.getD (k-1) 0)->
 ascB R l ((I.drop k).take (e-k))=Qe (λk=>decide (0<=I.getD k 0)&&decide (I.getD k 0<R)&&(!decide (s<k)||decide (I.getD (k-1) 0<I.getD k 0))) k e
 |0,k,l,hd,hk,hl,h1,h2=>by
  rw[hd,Y7 O];simp[ascB]
 |d+1,k,l,hd,hk,hl,h1,h2=>by
  have hke:k<e:=O;have hki:k<I.length:=O;rw[Xq hke,drop_cons (d:=0) hki,hd,List.take_succ_cons,ascB];by_cases hx:l<I.getD k 0
  . have ih:=qfg R I s e he d (k+1) (I.getD k 0) O O O O (λ_=>by simp)
    rw[show e-(k+1)=d by omega]at ih
    rw[ih];have h0:0<=I.getD k 0:=O;by_cases hs:s<k
    . have:=h2 hs;simp[-List.getD_eq_getElem?_getD,hx,h0,hs,<-this]
    . simp[-List.getD_eq_getElem?_getD,hx,h0,hs]
  . by_cases hs:s<k
    . have:=h2 hs;simp[-List.getD_eq_getElem?_getD,hx,hs,<-this]
    . have:l= -1:=h1 O;have h0: ¬0<=I.getD k 0:=O;simp[-List.getD_eq_getElem?_getD,hx,h0]
def qjb {R:Int} {C:Nat} {S I:LI} (h:StartOK C S I) {j:Nat} (hj:j<C):ascB R (-1) (colOf S I j)=q0y R S I j:=by
 have a:=h.rng (j:=j) O;have b:=h.rng (j:=j+1) O;exact qfg R I _ _ O _ _ _ rfl (zH _) O (λ_=>rfl) (λh=>absurd h (Nat.lt_irrefl _))
def strB (R C:Int) (S I V:LI):Bool:=
 decide ((S.length:Int)=C+1)&&decide (S.getD 0 0=0)&&Qe (le2 S) 0 C.toNat&&decide (S.getD C.toNat 0=(I.length:Int))&&decide (I.length=V.length)&&Qe (λj=>q0y R S I j) 0 C.toNat
def qgy {m:Nat} {R C:Int} {S I V:LI} (hC:0<=C) (hC2:C<=200) (hI:I.length<=10000) (hS:S.length<m) (hm:11000<m) (hb:S.length<4611686018427387904):
 g100 m R C S I V=some (strB R C S I V,(),()):=by
 obtain⟨c,rfl⟩: ∃c:Nat,C=(c:Int):=⟨C.toNat,O⟩;rw[g100,strB];simp only[bif_ne,wi (show(-9223372036854775808:Int)<=(c:Int)+1 by omega) O,tN]
 by_cases h1:(S.length:Int)=(c:Int)+1
 . have hl:S.length=c+1:=O;have h2:(0:Int)<=0/\(0:Int)<(S.length:Int):=O;simp only[h1,if_true,decide_true,zH2];rw[<-h1,iP h2];by_cases h3:S.getD 0 0=0
   . rw[qdh hS O hb];simp only[h3,if_true,decide_true,zH2,bS,show S.length-1=c by omega]
     cases h4:Qe (le2 S) 0 c
     . simp
     . have h5:(0:Int)<=(c:Int)/\(c:Int)<(S.length:Int):=O;simp only[bif_not,cond_true,zH2];rw[iP h5];by_cases h6:S.getD c 0=(I.length:Int)
       . by_cases h7:I.length=V.length
         . have h8:(I.length:Int)=(V.length:Int):=O
           have hok:StartOK c S I:=⟨hl,h3,λj hj=>by
            have:=Qo.1 h4 j O hj;simpa [-List.getD_eq_getElem?_getD,le2]using this,h6⟩
           have:=q8h m R (c:Int) c S I V rfl hok O O O m 0 O O;simp only[zo2,nZ,zM3]at this;rw[iP h6,iP h8,this,qaj (q:=λj=>q0y R S I j) (λj _ hj=>qjb hok hj)]
           simp only[h6,h7,decide_true,zH2];cases Qe (λj=>q0y R S I j) 0 c<;>rfl
         . have h8: ¬(I.length:Int)=(V.length:Int):=O;rw[iP h6,iN' h8];simp[h7]
       . rw[iN' h6];simp[-List.getD_eq_getElem?_getD,h6]
   . rw[iN' h3];simp[-List.getD_eq_getElem?_getD,h3]
 . rw[iN' h1];simp[h1]
def chk (R C:Int) (S I V:LI):Int:=
 if(decide (0<=R)&&decide (R<=200)&&decide (0<=C)&&decide (C<=200)&&decide (I.length<=10000))=false then 6 else if strB R C S I V=false then 1 else if finL V=false then 4 else 0
def qc7 {m:Nat} {n lo hi:Int}:g99 m n lo hi=some (decide (lo<=n)&&decide (n<=hi),(),(),(),()):=by
 rw[g99];by_cases h:n>=lo
 . have:lo<=n:=h;simp[h,this]
 . have: ¬lo<=n:=h;simp[h,this]
def g59eq {m:Nat} {R C:Int} {S I V:LI} (hS:S.length<m) (hV:V.length<m) (hm:11000<m) (hb:S.length<4611686018427387904) (hv:V.length<4611686018427387904):
 g59 m R C S I V=some (chk R C S I V,(),()):=by
 rw[g59,chk,qc7,qc7];by_cases h1:0<=R<;>by_cases h2:R<=200<;>by_cases h3:0<=C<;>by_cases h4:C<=200<;>simp[h1,h2,h3,h4];by_cases h5:I.length<=10000
 . have h6: ¬(10000:Int)<(I.length:Int):=O;have h7: ¬10000<I.length:=O;rw[qgy h3 h4 h5 hS hm hb,q7k hV hv];simp only[h6,h7,h5,if_false,bS];cases strB R C S I V
   . simp
   . cases finL V<;>simp
 . have h6:(10000:Int)<(I.length:Int):=O;have h7:10000<I.length:=O;simp[h5,h6,h7]
end
section
def q6l (m:Nat) (R C:Int) (c:Nat) (S I V:LI) (hC:C=(c:Int)) (hl:S.length=c+1) (hc:c<4611686018427387904): ∀(n k:Nat),c-k<n->k<=c->
 g50L0 m n R C S I V (k:Int)=some (bif Qe (le2 S) k c then .inr (.inl ((R,C,S,I,V,()),()))else .inl (1,()))
 |0,k,h,_=>O
 |n+1,k,h,h0=>by
  rw[g50L0];subst hC;by_cases hk:k<c
  . have h1:((k:Int)<(c:Int)):=O;have h2:((k:Int)<(S.length:Int)):=O;have h3:(((k+1:Nat):Int)<(S.length:Int)):=O;simp only[bQ,h1,h2,h3,if_true,tN,zL2,and_self,wsucc (show k<4611686018427387904 by omega)]
    rw[q6l m R (c:Int) c S I V rfl hl hc n (k+1) O O,Xq hk,le2];by_cases hx:S.getD k 0>S.getD (k+1) 0
    . have: ¬S.getD k 0<=S.getD (k+1) 0:=O;simp[-List.getD_eq_getElem?_getD,hx,this]
    . have:S.getD k 0<=S.getD (k+1) 0:=O;simp[-List.getD_eq_getElem?_getD,hx,this]
  . have h1: ¬((k:Int)<(c:Int)):=O;simp only[bQ,h1,if_false];rw[Y7 hk];rfl
def q7i (m:Nat) (R C:Int) (c j:Nat) (S I V:LI) (hC:C=(c:Int)) (hok:StartOK c S I) (hj:j<c) (hc:c<4611686018427387904) (hb:I.length<4611686018427387904): ∀(n k:Nat),(S.getD (j+1) 0).toNat-k<n->(S.getD j 0).toNat<=k->
 g50L2 m n R C S I V (j:Int) (k:Int)=some (bif Qe (entOK R S I j) k (S.getD (j+1) 0).toNat then .inr (.inl ((R,C,S,I,V,()),(j:Int),()))else .inl (1,()))
 |0,k,h,_=>O
 |n+1,k,h,h0=>by
  rw[g50L2];subst hC;have hl:=hok.len;have a:=hok.rng (j:=j) O;have b:=hok.rng (j:=j+1) O;have h2:((j:Int)<(S.length:Int)):=O;have h3:(((j+1:Nat):Int)<(S.length:Int)):=O;simp only[bQ,h2,h3,if_true,tN,zL2,and_self,wsucc (show j<4611686018427387904 by omega)]
  by_cases hk:k<(S.getD (j+1) 0).toNat
  . have h1:((k:Int)<S.getD (j+1) 0):=O;have h4:((k:Int)<(I.length:Int)):=O;simp only[h1,h4,if_true,and_self,wsucc (show k<4611686018427387904 by omega)]
    rw[q7i m R (c:Int) c j S I V rfl hok hj hc hb n (k+1) O O,Xq hk,entOK];by_cases e1:I.getD k 0<0
    . have e2: ¬0<=I.getD k 0:=O;simp only[e1,e2,if_true,decide_false,zB2,cond_false]
    . have e2:0<=I.getD k 0:=O;by_cases e3:I.getD k 0>=R
      . have e4: ¬I.getD k 0<R:=O;simp only[e1,e2,e3,e4,if_true,if_false,decide_false,decide_true,zB2,zH2,cond_false]
      . have e4:I.getD k 0<R:=O;simp only[e1,e2,e3,e4,if_false,decide_true,zH2];by_cases e5:(k:Int)>S.getD j 0
        . have e6:(S.getD j 0).toNat<k:=O;have e7:(0:Int)<=((k-1:Nat):Int)/\((k-1:Nat):Int)<(I.length:Int):=O;simp only[e5,e6,if_true,decide_true,zG1,Bool.false_or,wpred (show k<4611686018427387904 by omega) (show 0<k by omega),e7,and_self,tN]
          by_cases e8:I.getD k 0<=I.getD (k-1) 0
          . have e9: ¬I.getD (k-1) 0<I.getD k 0:=O;simp only[e8,e9,if_true,decide_false,zB2,cond_false]
          . have e9:I.getD (k-1) 0<I.getD k 0:=O;simp only[e8,e9,if_false,decide_true,zH2]
        . have e6: ¬(S.getD j 0).toNat<k:=O;simp only[e5,e6,if_false,decide_false,zf1,zz3,zH2]
  . have h1: ¬((k:Int)<S.getD (j+1) 0):=O;simp only[h1,if_false];rw[Y7 hk];rfl
def q61 (m:Nat) (R C:Int) (c:Nat) (S I V:LI) (hC:C=(c:Int)) (hok:StartOK c S I) (hc:c<4611686018427387904) (hb:I.length<4611686018427387904) (hm:I.length<m): ∀(n k:Nat),c-k<n->k<=c->
 g50L1 m n R C S I V (k:Int)=some (bif Qe (λj=>q0y R S I j) k c then .inr (.inl ((R,C,S,I,V,()),()))else .inl (1,()))
 |0,k,h,_=>O
 |n+1,k,h,h0=>by
  rw[g50L1];subst hC;have hl:=hok.len;by_cases hk:k<c
  . have h1:((k:Int)<(c:Int)):=O;have h2:((k:Int)<(S.length:Int)):=O;have a:=hok.rng (j:=k) O;have b:=hok.rng (j:=k+1) O;have e:=q7i m R (c:Int) c k S I V rfl hok hk hc hb m (S.getD k 0).toNat O (zH _);rw[show(((S.getD k 0).toNat:Nat):Int)=S.getD k 0 by omega]at e
    simp only[bQ,h1,h2,if_true,tN,zL2,and_self];rw[e,Xq hk];show _=some (bif (q0y R S I k&&_)then _ else _)
    rw[q0y];cases Qe (entOK R S I k) (S.getD k 0).toNat (S.getD (k+1) 0).toNat
    . rfl
    . simp only[cond_true,zH2,bS,wsucc (show k<4611686018427387904 by omega)]
      exact q61 m R (c:Int) c S I V rfl hok hc hb hm n (k+1) O O
  . have h1: ¬((k:Int)<(c:Int)):=O;simp only[bQ,h1,if_false];rw[Y7 hk];rfl
def q4o {m:Nat} {R C:Int} {S I V:LI} (hV:V.length<m) (hm:11000<m) (hv:V.length<4611686018427387904):
 g50 m R C S I V=some (chk R C S I V,(),()):=by
 rw[g50,chk];by_cases h1:0<=R
 . have h1': ¬R<0:=O;by_cases h2:R<=200
   . have h2': ¬R>200:=O;by_cases h3:0<=C
     . have h3': ¬C<0:=O;by_cases h4:C<=200
       . have h4': ¬C>200:=O;by_cases h5:I.length<=10000
         . have h5': ¬(I.length:Int)>10000:=O;obtain⟨c,rfl⟩: ∃c:Nat,C=(c:Int):=⟨C.toNat,O⟩;simp only[bQ,h1,h1',h2,h2',h3,h3',h4,h4',h5,h5',if_false,decide_true,zH4,Bool.true_eq_false,strB,bif_ne,wi (show(-9223372036854775808:Int)<=(c:Int)+1 by omega) O,tN]
           by_cases g1:I.length=V.length
           . have g1':(V.length:Int)=(I.length:Int):=O;simp only[g1',if_true];by_cases g2:(S.length:Int)=(c:Int)+1
             . have hl:S.length=c+1:=O;have g3:(0:Int)<=0/\(0:Int)<(S.length:Int):=O;simp only[g2,if_true];rw[<-g2,iP g3];by_cases g4:S.getD 0 0=0
               . have g5:(True/\(c:Int)<(S.length:Int)):=⟨trivial,O⟩;simp only[g4,if_true];rw[iP g5];by_cases g6:S.getD c 0=(I.length:Int)
                 . simp only[g6,if_true];have e0:=q6l m R (c:Int) c S I V rfl hl O m 0 O O;simp only[zo2,nZ,zM3]at e0;rw[e0];cases h7:Qe (le2 S) 0 c
                   . simp
                   . have hok:StartOK c S I:=⟨hl,g4,λj hj=>by
                      have:=Qo.1 h7 j O hj;simpa [-List.getD_eq_getElem?_getD,le2]using this,g6⟩
                     have e1:=q61 m R (c:Int) c S I V rfl hok O O O m 0 O O;simp only[zo2,nZ,zM3]at e1;simp only[cond_true,bS];rw[e1];cases h8:Qe (λj=>q0y R S I j) 0 c
                     . simp
                     . simp only[cond_true,bS,qlc hV hv,bif_not];cases finL V<;>simp[g1]
                 . simp[-List.getD_eq_getElem?_getD,g6]
               . simp[-List.getD_eq_getElem?_getD,g4]
             . simp[g2]
           . have g1': ¬(V.length:Int)=(I.length:Int):=O;simp[g1,g1']
         . have h5':(I.length:Int)>10000:=O;simp[h1',h2',h3',h4',h5,h5']
       . have h4':C>200:=O;simp[h1',h2',h3',h4,h4']
     . have h3':C<0:=O;simp[h1',h2',h3,h3']
   . have h2':R>200:=O;simp[h1',h2,h2']
 . have h1':R<0:=O;simp[h1,h1']
end
section
def big:Nat:=2305843009213693952
end
section
structure MatOK (R C:Nat) (S I:LI):Prop where
 st:StartOK C S I
 ent: ∀j,j<C->q0y (R:Int) S I j=true
 sz:I.length<=10000
 cz:C<=200
 rz:R<=200
def MatOK.row {R C:Nat} {S I:LI} (h:MatOK R C S I) {j:Nat} (hj:j<C) {k:Nat} (h1:(S.getD j 0).toNat<=k) (h2:k<(S.getD (j+1) 0).toNat):0<=I.getD k 0/\I.getD k 0<(R:Int):=by
 have:=Qo.1 (h.ent j hj) k h1 h2;simp only[entOK,zM,decide_eq_true_eq]at this;exact this.1
end
section
end
section
section
variable {E:List LI} {R C:Nat}
end
end
section
section
variable {R C:Nat} {S I V:LI}
end
end
section
def qjq (a:Int):0<=IntKind.wrap .u64 a/\IntKind.wrap .u64 a<18446744073709551616:=by
 have e:IntKind.wrap .u64 a=a%18446744073709551616:=by
  unfold IntKind.wrap;show(if(false&&decide (a%18446744073709551616>=9223372036854775808))=true then a%18446744073709551616-18446744073709551616 else a%18446744073709551616)=_
  simp only[zB2];rfl
 rw[e];omega
def qqq (a:Int): ∃x:Nat,IntKind.wrap .u64 a=(x:Int)/\x<18446744073709551616:=
 ⟨(IntKind.wrap .u64 a).toNat,by have:=qjq a;omega,by have:=qjq a;omega⟩
def tm (x n:Nat):Int.tmod (x:Int) (n:Int)=((x%n:Nat):Int):=by
 rw[Int.tmod_eq_emod_of_nonneg O];rfl
def td (x n:Nat):Int.tdiv (x:Int) (n:Int)=((x/n:Nat):Int):=by
 rw[Int.tdiv_eq_ediv_of_nonneg O];rfl
end
section
abbrev Ent:=Int×Int×Int
def cell {r c i j:Nat} (hi:i<r) (hj:j<c):j*r+i<r*c:=by
 have h1:(j+1)*r<=c*r:=zN r hj;have h2:=z03 j r;have h3:=zW r c;simp only[Nat.succ_eq_add_one]at h2;omega
def area {r c:Nat} (hr:r<=200) (hc:c<=200):r*c<=40000:=zt1 hr hc
def wcell {r c i j:Nat} (hr:r<=200) (hc:c<=200) (hi:i<r) (hj:j<c):IntKind.wrap .i64 ((IntKind.wrap .i64 ((j:Int)*(r:Int)))+(i:Int))=((j*r+i:Nat):Int):=by
 have h1:=cell hi hj;have h2:=area hr hc;have e:(j:Int)*(r:Int)=((j*r:Nat):Int):=(zR1 j r).symm;rw[e,wi (n:=((j*r:Nat):Int)) O O,wi O O];omega
variable {es:List Ent} {r c:Nat}
end
section
variable {es:List Ent} {r c:Nat}
end
section
end
section
abbrev zE:Ent:=(0,(0,0))
def ltE (x y:Ent):Bool:=decide (x.2.1<y.2.1)||(decide (x.2.1=y.2.1)&&decide (x.1<y.1))
def qhh {m:Nat} (x y:Int):g176 m x y=some (if x<y then-1 else if x>y then 1 else 0,(),(),()):=by
 simp only[g176,g198,bS,bne_self_eq_false,cond_false,bQ];by_cases h:x<y
 . simp[h]
 . by_cases h2:x>y
   . simp[h,h2]
   . simp[h,h2]
def leE (x y:Ent):Prop:=ltE y x=false
def qr9 {x y z:Ent} (h1:leE x y) (h2:leE y z):leE x z:=by
 unfold leE ltE at*;simp only[zN3,decide_eq_false_iff_not,Bool.and_eq_false_iff]at*;omega
end
section
end
section
section
variable (self:(List (Int×Int×Int))->Int->Int->Int->Option (Unit×(List (Int×Int×Int))×Unit×Unit×Unit×Unit×Unit)) (m:Nat) (hm:2<m)
end
def q9q {l:List Ent} {x:Ent} (h:x∈l): ∃i,i<l.length/\l.getD i zE=x:=by
 obtain⟨i,hi,rfl⟩:=zx h;exact⟨i,hi,by simp[List.getD,hi]⟩
end
section
end
section
end
section
end
section
def DistE (es:List Ent):Prop:= ∀k k',k<es.length->k'<es.length->(es.getD k zE).1=(es.getD k' zE).1->(es.getD k zE).2.1=(es.getD k' zE).2.1->k=k'
section
variable {es:List Ent} {r c:Nat}
end
end
section
section
variable {R C:Nat} {S I V:LI}
def MatOK.asc (hM:MatOK R C S I) {j:Nat} (hj:j<C): ∀(d t:Nat),(S.getD j 0).toNat<=t->t+(d+1)<(S.getD (j+1) 0).toNat->I.getD t 0<I.getD (t+(d+1)) 0
 |0,t,h1,h2=>by
  have:=Qo.1 (hM.ent j hj) (t+1) O h2;simp only[entOK,zM,zq2,decide_eq_true_eq]at this;have h:=this.2;simp only[zC3]at h;simp only[zF];rcases h with h|h
  . simp only[Bool.not_eq_true',decide_eq_false_iff_not]at h;omega
  . exact h
 |d+1,t,h1,h2=>by
  have h3:=hM.asc hj d t h1 O;have h4:=hM.asc hj 0 (t+(d+1)) O O;simp only[zF]at h4;rw[show t+(d+1+1)=t+(d+1)+1 by omega];omega
end
end
section
end
section
def Yn {α:Type} {L:List α} {i:Nat} {d:α} (h:L.length<=i):L.getD i d=d:=by
 rw[List.getD,List.getElem?_eq_none h];rfl
end
section
end
section
end
section
variable {S I V:LI} {N:Nat}
end
section
variable {es es':List Ent} {r c:Nat}
def DistE.val (hD:DistE es) {i j v v':Int} (h:((i,(j,v)):Ent)∈es) (h':((i,(j,v')):Ent)∈es):v=v':=by
 obtain⟨k,hk,e⟩:=q9q h;obtain⟨k',hk',e'⟩:=q9q h';have:=hD k k' hk hk' (by rw[e,e']) (by rw[e,e'])
 subst this;rw[e]at e';cases e';rfl
end
section
variable {R C:Nat} {S I V:LI}
end
end Go.Vs.F
set_option maxRecDepth 100000
namespace Go.Vs.F
structure MV (R C:Nat) (S I V:LI):Prop where
 ok:MatOK R C S I
 vl:V.length=I.length
 chk:chk (R:Int) (C:Int) S I V=0
section
variable {R C:Nat} {S I V:LI}
def MV.sl (h:MV R C S I V):S.length<=201:=by
 have:=h.ok.st.len;have:=h.ok.cz;omega
end
end Go.Vs.F
set_option maxRecDepth 100000
namespace Go.Vs.F
section
variable {R C:Nat} {S I V:LI}
end
end Go.Vs.F
