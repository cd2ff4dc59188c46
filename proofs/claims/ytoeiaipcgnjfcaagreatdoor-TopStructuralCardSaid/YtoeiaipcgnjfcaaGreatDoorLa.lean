import Derived.Test.YtoeiaipcgnjfcaaGreatDoorVc
import Derived.Test.YtoeiaipcgnjfcaaGreatDoorFn
set_option linter.unusedSectionVars false
set_option linter.unusedVariables false
set_option linter.unusedSimpArgs false
set_option maxRecDepth 100000
set_option linter.defProp false
namespace Go.Vs.F
section
def qnl {x:Int}:0<=qo .u64 x 2047/\qo .u64 x 2047<2048:=by
 unfold qo
 have h:(BitVec.ofInt IntKind.u64.bits x&&&BitVec.ofInt IntKind.u64.bits 2047).toNat<2048:=by
  rw[BitVec.toNat_and];have:(BitVec.ofInt IntKind.u64.bits 2047).toNat=2047:=by decide
  rw[this];exact z92 Nat.and_le_right (by decide)
 generalize (BitVec.ofInt IntKind.u64.bits x&&&BitVec.ofInt IntKind.u64.bits 2047).toNat=y at h
 rw[wu O O];omega
def finB (x:Int):Bool:=qo .u64 (shr_ .u64 x 52) 2047 !=2047
def q5y {m:Nat} {x:Int}:g82 m x=some (finB x,(),()):=by
 rw[g82,g110];have:=qnl (x:=shr_ .u64 x 52);simp only[bS,wi (show(-9223372036854775808:Int)<=qo .u64 (shr_ .u64 x 52) 2047 by omega) O]
 rfl
def finL (a:LI):Bool:=Qq (λi=>finB (a.getD i 0)) 0 a.length
def q3s (m:Nat) (a:LI) (hb:a.length<4611686018427387904): ∀(n k:Nat),a.length-k<n->
 ∃j:Nat,g190L0 m n a (a.length:Int) (k:Int)=some (bif Qq (λi=>finB (a.getD i 0)) k a.length then .inr (.inl ())else .inl ((j:Int),()))
 |0,k,h=>O
 |n+1,k,h=>by
  rw[g190L0];by_cases hk:k<a.length
  . have h1:((k:Int)<(a.length:Int)):=O;obtain⟨j,hj⟩:=q3s m a hb n (k+1) O;simp only[bQ,h1,if_true,tN,zG2,and_self,wsucc (show k<4611686018427387904 by omega),g109,q5y,bS]
    rw[Zz hk,hj];cases finB (a.getD k 0)
    . exact⟨k,by simp⟩
    . exact⟨j,by simp⟩
  . have h1: ¬((k:Int)<(a.length:Int)):=O;simp only[bQ,h1,if_false];rw[Jv hk];exact⟨0,rfl⟩
def q5u {m:Nat} {a:LI} (h:a.length<m) (hb:a.length<4611686018427387904):g108 m a=some (!finL a,(),(),()):=by
 rw[g108,g190];obtain⟨j,this⟩:=q3s m a hb m 0 O;simp only[za1,nZ,zw1]at this;rw[this];unfold finL;cases Qq (λi=>finB (a.getD i 0)) 0 a.length
 . simp
 . simp
end
section
def le2 (S:LI) (i:Nat):Bool:=decide (S.getD i 0<=S.getD (i+1) 0)
def q58 (m:Nat) (S:LI) (hb:S.length<4611686018427387904): ∀(n k:Nat),k<n->k<S.length->
 g189L0 m n S (k:Int)=some (bif Qq (le2 S) 0 k then .inr (.inl ())else .inl (false,()))
 |0,k,h,_=>O
 |n+1,0,h,h0=>by
  rw[g189L0];simp[Qq]
 |n+1,k+1,h,h0=>by
  rw[g189L0];have h1:(((k+1:Nat):Int)>0):=O;have h2:(((k+1:Nat):Int)<(S.length:Int)):=O;have h3:((k:Int)<(S.length:Int)):=O;have hp:IntKind.wrap .i64 (((k+1:Nat):Int)-1)=(k:Int):=by rw[wi O O];omega
  have e1:S.getD (k+1) 0≠S.getD (k+1) 0↔False:=by simp
  simp only[bQ,h1,h2,h3,if_true,hp,tN,zG2,and_self,g247,g308,bS,bif_ne];rw[q58 m S hb n k O O]
  have e:Qq (le2 S) 0 (k+1)=(Qq (le2 S) 0 k&&le2 S k):=by
   rw[zN3,zF,Qg,Qg];constructor
   . intro h;exact⟨λi a b=>h i a O,h k O O⟩
   . rintro ⟨g1,g2⟩ i a b
     rcases zE1 i k with h|h
     . exact g1 i a h
     . have:i=k:=O;rw[this];exact g2
  rw[e];unfold le2;by_cases hlt:S.getD (k+1) 0<S.getD k 0
  . have: ¬S.getD k 0<=S.getD (k+1) 0:=O;simp[-List.getD_eq_getElem?_getD,hlt,this]
  . have:S.getD k 0<=S.getD (k+1) 0:=O;simp[-List.getD_eq_getElem?_getD,hlt,this]
def qcl {m:Nat} {S:LI} (h:S.length<m) (h0:0<S.length) (hb:S.length<4611686018427387904):g189 m S=some (Qq (le2 S) 0 (S.length-1),(),()):=by
 rw[g189,show wI ((S.length:Int)-1)=((S.length-1:Nat):Int) by show IntKind.wrap .i64 _=_;rw[wi O O];omega,q58 m S hb m (S.length-1) O O]
 cases Qq (le2 S) 0 (S.length-1)<;>rfl
def ascB (R:Int):Int->LI->Bool
 |_,[]=>true
 |l,x::xs=>(decide (l<x)&&decide (x<R))&&ascB R x xs
def q7q (m:Nat) (R C:Int) (S I V xs:LI) (a b:Int) (hb:xs.length<4611686018427387904): ∀(n k:Nat) (l:Int),xs.length-k<n->
 g107L1 m n R C S I V l a b xs (xs.length:Int) (k:Int)=some (bif ascB R l (xs.drop k)then .inr (.inl ((R,C,S,I,V,()),a,b,()))else .inl (false,()))
 |0,k,_,h=>O
 |n+1,k,l,h=>by
  rw[g107L1];by_cases hk:k<xs.length
  . have h1:((k:Int)<(xs.length:Int)):=O;simp only[bQ,h1,if_true,tN,zG2,and_self,wsucc (show k<4611686018427387904 by omega)]
    rw[drop_cons (d:=0) hk,q7q m R C S I V xs a b hb n (k+1) _ O,ascB];by_cases e1:xs.getD k 0<=l
    . have e2: ¬l<xs.getD k 0:=O;simp[-List.getD_eq_getElem?_getD,e1,e2]
    . have e2:l<xs.getD k 0:=O;by_cases e3:xs.getD k 0>=R
      . have e4: ¬xs.getD k 0<R:=O;simp[-List.getD_eq_getElem?_getD,e1,e2,e3,e4]
      . have e4:xs.getD k 0<R:=O;simp[-List.getD_eq_getElem?_getD,e1,e2,e3,e4]
  . have h1: ¬((k:Int)<(xs.length:Int)):=O;simp only[bQ,h1,if_false];rw[drop_nil' hk];rfl
def colOf (S I:LI) (j:Nat):LI:=(I.drop (S.getD j 0).toNat).take ((S.getD (j+1) 0).toNat-(S.getD j 0).toNat)
structure StartOK (C:Nat) (S I:LI):Prop where
 len:S.length=C+1
 s0:S.getD 0 0=0
 mono: ∀j,j<C->S.getD j 0<=S.getD (j+1) 0
 last:S.getD C 0=(I.length:Int)
def StartOK.le {C:Nat} {S I:LI} (h:StartOK C S I): ∀{i j:Nat},i<=j->j<=C->S.getD i 0<=S.getD j 0
 |i,0,h1,h2=>by have:i=0:=O
                subst this;exact zX3 _
 |i,j+1,h1,h2=>by
  rcases zE1 i (j+1)with h3|h3
  . exact Int.le_trans (h.le O O) (h.mono j O)
  . have:i=j+1:=O;subst this;exact zX3 _
def StartOK.rng {C:Nat} {S I:LI} (h:StartOK C S I) {j:Nat} (hj:j<=C):0<=S.getD j 0/\S.getD j 0<=(I.length:Int):=by
 have a:=h.le (zU2 j) hj;have b:=h.le hj (zD C);rw[h.s0]at a;rw[h.last]at b;exact⟨a,b⟩
def Zv {C:Nat} {S I:LI} (h:StartOK C S I) {j:Nat} (hj:j<C):(colOf S I j).length=(S.getD (j+1) 0).toNat-(S.getD j 0).toNat:=by
 have a:=h.rng (j:=j) O;have b:=h.rng (j:=j+1) O;unfold colOf;rw[zA1,zl1];omega
def q9m {C:Nat} {S I:LI} (h:StartOK C S I) {j:Nat} (hj:j<C) {k:Nat} (hk:k<(colOf S I j).length):(colOf S I j).getD k 0=I.getD ((S.getD j 0).toNat+k) 0:=by
 rw[Zv h hj]at hk;unfold colOf;rw[getD_take hk,getD_drop]
def q76 (m:Nat) (R C:Int) (c:Nat) (S I V:LI) (hC:C=(c:Int)) (hok:StartOK c S I) (hb:I.length<4611686018427387904) (hc:c<4611686018427387904) (hm:I.length<m): ∀(n k:Nat),c-k<n->k<=c->
 g107L0 m n R C S I V C (k:Int)=some (bif Qq (λj=>ascB R (-1) (colOf S I j)) k c then .inr (.inl ())else .inl (false,()))
 |0,k,h,_=>O
 |n+1,k,h,hk0=>by
  rw[g107L0];subst hC;by_cases hk:k<c
  . have h1:((k:Int)<(c:Int)):=O;have hl:=hok.len;have h2:((k:Int)<(S.length:Int)):=O;have h3:(((k+1:Nat):Int)<(S.length:Int)):=O;have a:=hok.rng (j:=k) O;have b:=hok.rng (j:=k+1) O;have d:=hok.mono k hk;have hlen:(colOf S I k).length<=I.length:=by rw[Zv hok hk];omega
    simp only[bQ,h1,h2,h3,if_true,tN,zG2,and_self,wsucc (show k<4611686018427387904 by omega),a.1,b.2,d]
    have e:=q7q m R (c:Int) S I V (colOf S I k) (c:Int) (k:Int) O m 0 (-1) O;simp only[za1,nZ,zw1,zh1]at e;unfold colOf at e⊢;rw[e,Zz hk];cases hA:ascB R (-1) ((I.drop (S.getD k 0).toNat).take ((S.getD (k+1) 0).toNat-(S.getD k 0).toNat))
    . simp
    . have:=q76 m R (c:Int) c S I V rfl hok hb hc hm n (k+1) O O;unfold colOf at this;simp only[cond_true,zx2,bS,wsucc (show k<4611686018427387904 by omega)]
      exact this
  . have h1: ¬((k:Int)<(c:Int)):=O;simp only[bQ,h1,if_false];rw[Jv hk];rfl
def entOK (R:Int) (S I:LI) (j k:Nat):Bool:=
 decide (0<=I.getD k 0)&&decide (I.getD k 0<R)&&(!decide ((S.getD j 0).toNat<k)||decide (I.getD (k-1) 0<I.getD k 0))
def qah (R:Int) (S I:LI) (j:Nat):Bool:=Qq (entOK R S I j) (S.getD j 0).toNat (S.getD (j+1) 0).toNat
def qdm (R:Int) (I:LI) (s e:Nat) (he:e<=I.length): ∀(d k:Nat) (l:Int),e-k=d->s<=k-> -1<=l->(k=s->l= -1)->(s<k->l=I.getD (k-1) 0)->
 ascB R l ((I.drop k).take (e-k))=Qq (λk=>decide (0<=I.getD k 0)&&decide (I.getD k 0<R)&&(!decide (s<k)||decide (I.getD (k-1) 0<I.getD k 0))) k e
 |0,k,l,hd,hk,hl,h1,h2=>by
  rw[hd,Jv O];simp[ascB]
 |d+1,k,l,hd,hk,hl,h1,h2=>by
  have hke:k<e:=O;have hki:k<I.length:=O;rw[Zz hke,drop_cons (d:=0) hki,hd,List.take_succ_cons,ascB];by_cases hx:l<I.getD k 0
  . have ih:=qdm R I s e he d (k+1) (I.getD k 0) O O O O (λ_=>by simp)
    rw[show e-(k+1)=d by omega]at ih
    rw[ih];have h0:0<=I.getD k 0:=O;by_cases hs:s<k
    . have:=h2 hs;simp[-List.getD_eq_getElem?_getD,hx,h0,hs,<-this]
    . simp[-List.getD_eq_getElem?_getD,hx,h0,hs]
  . by_cases hs:s<k
    . have:=h2 hs;simp[-List.getD_eq_getElem?_getD,hx,hs,<-this]
    . have:l= -1:=h1 O;have h0: ¬0<=I.getD k 0:=O;simp[-List.getD_eq_getElem?_getD,hx,h0]
def q9o {R:Int} {C:Nat} {S I:LI} (h:StartOK C S I) {j:Nat} (hj:j<C):ascB R (-1) (colOf S I j)=qah R S I j:=by
 have a:=h.rng (j:=j) O;have b:=h.rng (j:=j+1) O;exact qdm R I _ _ O _ _ _ rfl (zD _) O (λ_=>rfl) (λh=>absurd h (zy2 _))
def strB (R C:Int) (S I V:LI):Bool:=
 decide ((S.length:Int)=C+1)&&decide (S.getD 0 0=0)&&Qq (le2 S) 0 C.toNat&&decide (S.getD C.toNat 0=(I.length:Int))&&decide (I.length=V.length)&&Qq (λj=>qah R S I j) 0 C.toNat
def qeu {m:Nat} {R C:Int} {S I V:LI} (hC:0<=C) (hC2:C<=200) (hI:I.length<=10000) (hS:S.length<m) (hm:11000<m) (hb:S.length<4611686018427387904):
 g107 m R C S I V=some (strB R C S I V,(),()):=by
 obtain⟨c,rfl⟩: ∃c:Nat,C=(c:Int):=⟨C.toNat,O⟩;rw[g107,strB];simp only[bif_ne,wi (show(-9223372036854775808:Int)<=(c:Int)+1 by omega) O,tN]
 by_cases h1:(S.length:Int)=(c:Int)+1
 . have hl:S.length=c+1:=O;have h2:(0:Int)<=0/\(0:Int)<(S.length:Int):=O;simp only[h1,if_true,decide_true,zx2];rw[<-h1,iP h2];by_cases h3:S.getD 0 0=0
   . rw[qcl hS O hb];simp only[h3,if_true,decide_true,zx2,bS,show S.length-1=c by omega]
     cases h4:Qq (le2 S) 0 c
     . simp
     . have h5:(0:Int)<=(c:Int)/\(c:Int)<(S.length:Int):=O;simp only[bif_not,cond_true,zx2];rw[iP h5];by_cases h6:S.getD c 0=(I.length:Int)
       . by_cases h7:I.length=V.length
         . have h8:(I.length:Int)=(V.length:Int):=O
           have hok:StartOK c S I:=⟨hl,h3,λj hj=>by
            have:=Qg.1 h4 j O hj;simpa [-List.getD_eq_getElem?_getD,le2]using this,h6⟩
           have:=q76 m R (c:Int) c S I V rfl hok O O O m 0 O O;simp only[za1,nZ,zw1]at this;rw[iP h6,iP h8,this,q8j (q:=λj=>qah R S I j) (λj _ hj=>q9o hok hj)]
           simp only[h6,h7,decide_true,zx2];cases Qq (λj=>qah R S I j) 0 c<;>rfl
         . have h8: ¬(I.length:Int)=(V.length:Int):=O;rw[iP h6,iN' h8];simp[h7]
       . rw[iN' h6];simp[-List.getD_eq_getElem?_getD,h6]
   . rw[iN' h3];simp[-List.getD_eq_getElem?_getD,h3]
 . rw[iN' h1];simp[h1]
def chk (R C:Int) (S I V:LI):Int:=
 if(decide (0<=R)&&decide (R<=200)&&decide (0<=C)&&decide (C<=200)&&decide (I.length<=10000))=false then 6 else if strB R C S I V=false then 1 else if finL V=false then 4 else 0
def qaz {m:Nat} {n lo hi:Int}:g88 m n lo hi=some (decide (lo<=n)&&decide (n<=hi),(),(),(),()):=by
 rw[g88];by_cases h:n>=lo
 . have:lo<=n:=h;simp[h,this]
 . have: ¬lo<=n:=h;simp[h,this]
def g40eq {m:Nat} {R C:Int} {S I V:LI} (hS:S.length<m) (hV:V.length<m) (hm:11000<m) (hb:S.length<4611686018427387904) (hv:V.length<4611686018427387904):
 g40 m R C S I V=some (chk R C S I V,(),()):=by
 rw[g40,chk,qaz,qaz];by_cases h1:0<=R<;>by_cases h2:R<=200<;>by_cases h3:0<=C<;>by_cases h4:C<=200<;>simp[h1,h2,h3,h4];by_cases h5:I.length<=10000
 . have h6: ¬(10000:Int)<(I.length:Int):=O;have h7: ¬10000<I.length:=O;rw[qeu h3 h4 h5 hS hm hb,q5u hV hv];simp only[h6,h7,h5,if_false,bS];cases strB R C S I V
   . simp
   . cases finL V<;>simp
 . have h6:(10000:Int)<(I.length:Int):=O;have h7:10000<I.length:=O;simp[h5,h6,h7]
end
section
end
section
def Ym (R:Nat) (E:List LI):Prop:= ∀j,∀i∈E.getD j [],0<=i/\i<(R:Int)
def big:Nat:=2305843009213693952
end
section
def qy (C:Nat) (S I:LI):List LI:=(List.range C).map (colOf S I)
def Zp {C:Nat} {S I:LI} {j:Nat} (hj:j<C):(qy C S I).getD j []=colOf S I j:=by
 simp[qy,List.getD,hj]
structure MatOK (R C:Nat) (S I:LI):Prop where
 st:StartOK C S I
 ent: ∀j,j<C->qah (R:Int) S I j=true
 sz:I.length<=10000
 cz:C<=200
 rz:R<=200
def MatOK.row {R C:Nat} {S I:LI} (h:MatOK R C S I) {j:Nat} (hj:j<C) {k:Nat} (h1:(S.getD j 0).toNat<=k) (h2:k<(S.getD (j+1) 0).toNat):0<=I.getD k 0/\I.getD k 0<(R:Int):=by
 have:=Qg.1 (h.ent j hj) k h1 h2;simp only[entOK,zF,decide_eq_true_eq]at this;exact this.1
def MatOK.edge {R C:Nat} {S I:LI} (h:MatOK R C S I):Ym R (qy C S I):=by
 intro j i hi;by_cases hj:j<C
 . rw[Zp hj]at hi;obtain⟨k,hk,e⟩:=Yq (d:=0) hi;rw[q9m h.st hj hk]at e;rw[Zv h.st hj]at hk;rw[<-e];exact h.row hj O O
 . simp[qy,List.getD,hj]at hi
def MatOK.len {R C:Nat} {S I:LI} (h:MatOK R C S I) (j:Nat):((qy C S I).getD j []).length<big:=by
 by_cases hj:j<C
 . rw[Zp hj,Zv h.st hj];have:=h.st.rng (j:=j+1) O;have:=h.sz;have hb:(2305843009213693952:Nat)=big:=rfl;omega
 . simp[qy,List.getD,hj,big]
end
section
def qiv {R C:Int} {S I V:LI} (h:chk R C S I V=0): ∃r c:Nat,R=(r:Int)/\C=(c:Int)/\MatOK r c S I/\V.length=I.length/\finL V=true:=by
 unfold chk at h;split at h
 . omega
 . rename_i h1;split at h
   . omega
   . rename_i h2;split at h
     . omega
     . rename_i h3;simp only[Bool.not_eq_false,zF,decide_eq_true_eq]at h1 h2 h3;obtain⟨⟨⟨⟨a1,a2⟩,a3⟩,a4⟩,a5⟩:=h1;simp only[strB,zF,decide_eq_true_eq]at h2;obtain⟨⟨⟨⟨⟨b1,b2⟩,b3⟩,b4⟩,b5⟩,b6⟩:=h2;refine⟨R.toNat,C.toNat,O,O,⟨⟨O,b2,λj hj=> ?_,b4⟩,λj hj=> ?_,a5,O,O⟩,b5.symm,h3⟩
       . have:=Qg.1 b3 j O hj;simpa [-List.getD_eq_getElem?_getD,le2]using this
       . have:=Qg.1 b6 j O hj;rw[show((R.toNat:Nat):Int)=R by omega];exact this
end
section
def q2s {xs:LI} {k:Nat} (h:k<xs.length):xs.getD k 0∈xs:=by simp[List.getD,h]
section
variable {E:List LI} {R C:Nat}
end
end
section
def qcv {R C:Nat} {S I:LI} (h:MatOK R C S I) {j:Nat} (hj:j<C):colOf S I j=(List.range' (S.getD j 0).toNat ((S.getD (j+1) 0).toNat-(S.getD j 0).toNat)).map λt=>I.getD t 0:=by
 refine q2r 0 (by rw[Zv h.st hj];simp) λk hk=> ?_
 rw[q9m h.st hj hk];rw[Zv h.st hj]at hk;have e: ∀s n,k<n->(List.range' s n)[k]? =some (s+k):=λs n h=>by rw[List.getElem?_range' h,zY3]
 have e2: ∀l:List Nat,(l.map λt=>I.getD t 0).getD k 0=((l[k]?).map λt=>I.getD t 0).getD 0:=λl=>by rw[List.getD,List.getElem?_map]
 rw[e2,e _ _ hk];rfl
section
variable {R C:Nat} {S I V:LI}
def Zo (S I V:LI) (j k e:Nat):List (Int×Int×Int):=(List.range' k (e-k)).map λt=>(I.getD t 0,(j:Int),V.getD t 0)
def ents (S I V:LI):Nat->Nat->List (Int×Int×Int)
 |0,_=>[]
 |d+1,k=>Zo S I V k (S.getD k 0).toNat (S.getD (k+1) 0).toNat++ents S I V d (k+1)
def q74 {j k e:Nat}:(Zo S I V j k e).length=e-k:=by simp[Zo]
def qd1 {j k e:Nat} (h:k<e):Zo S I V j k e=(I.getD k 0,(j:Int),V.getD k 0)::Zo S I V j (k+1) e:=by
 unfold Zo;rw[show e-k=(e-(k+1))+1 by omega,zr2];rfl
def qf9 {p:Int->Int->Bool} (hM:MatOK R C S I) {j:Nat} (hj:j<C):(Zo S I V j (S.getD j 0).toNat (S.getD (j+1) 0).toNat).all (λe=>p e.1 e.2.1)=(colOf S I j).all (λi=>p i (j:Int)):=by
 rw[qcv hM hj,Zo,List.all_map,List.all_map];rfl
def q8w {p:Int->Int->Bool} (hM:MatOK R C S I): ∀(d k:Nat),C-k=d->k<=C->(ents S I V d k).all (λe=>p e.1 e.2.1)=Qq (λj=>((qy C S I).getD j []).all (λi=>p i (j:Int))) k C
 |0,k,hd,hk=>by rw[Jv O];rfl
 |d+1,k,hd,hk=>by
  rw[ents,zO3,qf9 hM (by omega:k<C),q8w hM d (k+1) O O,Zz (by omega:k<C),Zp O]
def q93 (hM:MatOK R C S I): ∀(d k:Nat),C-k=d->k<=C->(ents S I V d k).length=(S.getD C 0).toNat-(S.getD k 0).toNat
 |0,k,hd,hk=>by
  have:k=C:=O;subst this;simp[ents]
 |d+1,k,hd,hk=>by
  have a:=hM.st.rng (j:=k) O;have b:=hM.st.rng (j:=k+1) O;have c:=hM.st.rng (j:=C) O;have dd:=hM.st.mono k O;have e:=hM.st.le (i:=k+1) (j:=C) O O;rw[ents,zL,q74,q93 hM d (k+1) O O];omega
end
end
section
def qks (a:Int):0<=IntKind.wrap .u64 a/\IntKind.wrap .u64 a<18446744073709551616:=by
 have e:IntKind.wrap .u64 a=a%18446744073709551616:=by
  unfold IntKind.wrap;show(if(false&&decide (a%18446744073709551616>=9223372036854775808))=true then a%18446744073709551616-18446744073709551616 else a%18446744073709551616)=_
  simp only[Bool.false_and];rfl
 rw[e];omega
def qko (a:Int): ∃x:Nat,IntKind.wrap .u64 a=(x:Int)/\x<18446744073709551616:=
 ⟨(IntKind.wrap .u64 a).toNat,by have:=qks a;omega,by have:=qks a;omega⟩
def tm (x n:Nat):Int.tmod (x:Int) (n:Int)=((x%n:Nat):Int):=by
 rw[Int.tmod_eq_emod_of_nonneg O];rfl
def td (x n:Nat):Int.tdiv (x:Int) (n:Int)=((x/n:Nat):Int):=by
 rw[Int.tdiv_eq_ediv_of_nonneg O];rfl
def q27 {a:Int} {n:Nat} (h0:0<n) (hn:n<4611686018427387904): ∃k:Nat,k<n/\ ∀m,g8 m a (n:Int)=some ((k:Int),(),(),()):=by
 obtain⟨x,hx,_⟩:=qko a;refine⟨x%n,zm1 _ h0,λm=> ?_⟩
 have hl:=zm1 x h0;rw[g8];simp only[wJ,wI,hx,wu (n:=(n:Int)) O O];rw[iP O,tm,wi O O]
end
section
abbrev Ent:=Int×Int×Int
def Qs (es:List Ent) (i j:Nat):Nat->Nat
 |0=>0
 |t+1=>if(es.getD t (0,(0,0))).1=(i:Int)/\(es.getD t (0,(0,0))).2.1=(j:Int)then t+1 else Qs es i j t
def q68 (es:List Ent) (i j:Nat): ∀t,Qs es i j t<=t
 |0=>zD _
 |t+1=>by
  rw[Qs];split
  . exact zD _
  . exact Nat.le_succ_of_le (q68 es i j t)
def EntsOK (r c:Nat) (es:List Ent):Prop:= ∀k,k<es.length->
 (0<=(es.getD k (0,(0,0))).1/\(es.getD k (0,(0,0))).1<(r:Int))/\(0<=(es.getD k (0,(0,0))).2.1/\(es.getD k (0,(0,0))).2.1<(c:Int))/\finB (es.getD k (0,(0,0))).2.2=true
def cell {r c i j:Nat} (hi:i<r) (hj:j<c):j*r+i<r*c:=by
 have h1:(j+1)*r<=c*r:=zK r hj;have h2:=zD3 j r;have h3:=zx r c;simp only[Nat.succ_eq_add_one]at h2;omega
def qjc {r i j i' j':Nat} (hi:i<r) (hi':i'<r) (h:j*r+i=j'*r+i'):i=i'/\j=j':=by
 rcases Nat.lt_trichotomy j j' with h1|h1|h1
 . have:=cell (c:=j') hi h1;have:=zx r j';omega
 . subst h1;exact⟨O,rfl⟩
 . have:=cell (c:=j) hi' h1;have:=zx r j;omega
def area {r c:Nat} (hr:r<=200) (hc:c<=200):r*c<=40000:=zL2 hr hc
def wcell {r c i j:Nat} (hr:r<=200) (hc:c<=200) (hi:i<r) (hj:j<c):IntKind.wrap .i64 ((IntKind.wrap .i64 ((j:Int)*(r:Int)))+(i:Int))=((j*r+i:Nat):Int):=by
 have h1:=cell hi hj;have h2:=area hr hc;have e:(j:Int)*(r:Int)=((j*r:Nat):Int):=(zp1 j r).symm;rw[e,wi (n:=((j*r:Nat):Int)) O O,wi O O];omega
variable {es:List Ent} {r c:Nat}
def qh0 (m:Nat) (hE:EntsOK r c es) (hr:r<=200) (hc:c<=200) (hl:es.length<=1000000) (a0 a1:Int) (a2 a3 a4:LI) (b0 b1:Int) (b2 b3 b4:LI): ∀(n k:Nat) (pos:LI),es.length-k<n->k<=es.length->pos.length=r*c->
 (∀i j,i<r->j<c->pos.getD (j*r+i) 0=(Qs es i j k:Int))->
 ∃pos',g39L0 m n (r:Int) (c:Int) es a0 a1 a2 a3 a4 b0 b1 b2 b3 b4 pos (k:Int)=some (.inl ((r:Int),(c:Int),es,(a0,a1,a2,a3,a4,()),(b0,b1,b2,b3,b4,()),pos',()))/\pos'.length=r*c/\ ∀i j,i<r->j<c->pos'.getD (j*r+i) 0=(Qs es i j es.length:Int)
 |0,k,pos,hn,_,_,_=>absurd hn (zW _)
 |n+1,k,pos,hn,hk,hp,hq=>by
  rw[g39L0];by_cases h:k<es.length
  . have h1:(k:Int)<(es.length:Int):=O;obtain⟨⟨g1,g2⟩,⟨g3,g4⟩,_⟩:=hE k h;obtain⟨i0,hi0⟩: ∃i0:Nat,(es.getD k (0,(0,0))).1=(i0:Int):=⟨_,(Int.toNat_of_nonneg g1).symm⟩;obtain⟨j0,hj0⟩: ∃j0:Nat,(es.getD k (0,(0,0))).2.1=(j0:Int):=⟨_,(Int.toNat_of_nonneg g3).symm⟩;have hi:i0<r:=O;have hj:j0<c:=O;have hce:=cell hi hj;rw[bQ,iP h1];simp only[tN,hi0,hj0,wI,wcell hr hc hi hj,wsucc (k:=k) O,zI];rw[iP (inr h),iP (inr h),iP O];refine qh0 m hE hr hc hl a0 a1 a2 a3 a4 b0 b1 b2 b3 b4 n (k+1) _ O O (by simp[hp]) ?_
    intro i j hi' hj';rw[Qs,hi0,hj0];by_cases he:j0*r+i0=j*r+i
    . obtain⟨e1,e2⟩:=qjc hi hi' he;subst e1;subst e2;rw[Qh O,iP ⟨rfl,rfl⟩]
    . rw[getD_set_ne he,iN',hq i j hi' hj']
      rintro ⟨e1,e2⟩
      exact he (by rw[show i0=i by omega,show j0=j by omega])
  . have h1: ¬(k:Int)<(es.length:Int):=O;have hke:k=es.length:=O;simp only[bQ,h1,if_false];exact⟨pos,rfl,hp,λi j hi hj=>by rw[hq i j hi hj,hke]⟩
def colR (es:List Ent) (j i d:Nat):List Nat:=(List.range' i d).filter λi=>decide (0<Qs es i j es.length)
def colI (es:List Ent) (j i d:Nat):LI:=(colR es j i d).map λi:Nat=>(i:Int)
def colV (es:List Ent) (j i d:Nat):LI:=(colR es j i d).map λi:Nat=>(es.getD (Qs es i j es.length-1) (0,(0,0))).2.2
def qk0 {j i d:Nat}:(colR es j i d).length<=d:=by
 have:=List.length_filter_le (λi=>decide (0<Qs es i j es.length)) (List.range' i d)
 simpa [colR]using this
def qcn (m:Nat) (hr:r<=200) (hc:c<=200) (hl:es.length<=1000000) (a0 a1:Int) (a2 a3 a4:LI) (b0 b1:Int) (S:LI) {pos:LI} (hp:pos.length=r*c)
 (hq: ∀i j,i<r->j<c->pos.getD (j*r+i) 0=(Qs es i j es.length:Int)) {j:Nat} (hj:j<c): ∀(d n i:Nat) (I V:LI),d<n->r-i=d->i<=r->I.length+d<=1000000->V.length+d<=1000000->
 g39L2 m n (r:Int) (c:Int) es a0 a1 a2 a3 a4 b0 b1 S I V pos (j:Int) (i:Int)=some (.inl ((r:Int),(c:Int),es,(a0,a1,a2,a3,a4,()),(b0,b1,S,I++colI es j i d,V++colV es j i d,()),pos,(j:Int),()))
 |d,0,i,I,V,hn,_,_,_,_=>absurd hn (zW _)
 |0,n+1,i,I,V,hn,hd,hi,hI,hV=>by
  rw[g39L2];have h1: ¬(i:Int)<(r:Int):=O;simp[bQ,h1,colI,colV,colR]
 |d+1,n+1,i,I,V,hn,hd,hi,hI,hV=>by
  rw[g39L2];have hir:i<r:=O;have h1:(i:Int)<(r:Int):=O;have hce:=cell hir hj;have hle:=q68 es i j es.length;rw[bQ,iP h1];simp only[bQ,tN,wI,wcell hr hc hir hj,wsucc (k:=i) O,zI,hq i j hir hj];rw[iP O];by_cases hx:0<Qs es i j es.length
  . have h2:(Qs es i j es.length:Int)>0:=O;have h3:I.length+([(i:Int)]:LI).length<=1073741824:=by simp;omega
    rw[iP h2,iP h3,wpred O hx,tN];have h4: ∀x:Int,V.length+([x]:LI).length<=1073741824:=by intro x;simp;omega
    rw[iP O,iP (h4 _)];rw[qcn m hr hc hl a0 a1 a2 a3 a4 b0 b1 S hp hq hj d n (i+1) _ _ O O O (by simp;omega) (by simp;omega)]
    have e1:colR es j i (d+1)=i::colR es j (i+1) d:=by
     unfold colR;rw[zr2,zH2,iP (by simpa using hx)]
    simp only[colI,colV,e1,zY1,zI1,zV1]
  . have h2: ¬(Qs es i j es.length:Int)>0:=O;rw[iN' h2];rw[qcn m hr hc hl a0 a1 a2 a3 a4 b0 b1 S hp hq hj d n (i+1) _ _ O O O O O]
    have e1:colR es j i (d+1)=colR es j (i+1) d:=by
     unfold colR;rw[zr2,zH2,iN' (by simpa using hx)]
    simp only[colI,colV,e1]
def packI (es:List Ent) (r:Nat):Nat->LI
 |0=>[]
 |j+1=>packI es r j++colI es j 0 r
def packV (es:List Ent) (r:Nat):Nat->LI
 |0=>[]
 |j+1=>packV es r j++colV es j 0 r
def packS (es:List Ent) (r j:Nat):LI:=(List.range (j+1)).map λt=>((packI es r t).length:Int)
def q2p (es:List Ent) (r:Nat): ∀j,(packV es r j).length=(packI es r j).length
 |0=>rfl
 |j+1=>by simp[packV,packI,q2p es r j,colI,colV]
def q6g (es:List Ent) (r:Nat): ∀j,(packI es r j).length<=j*r
 |0=>by simp[packI]
 |j+1=>by
  have:=q6g es r j;have h2:=qk0 (es:=es) (j:=j) (i:=0) (d:=r);rw[zD3];simp only[packI,zL,colI,zc1];omega
def qf6 (es:List Ent) (r j:Nat):packS es r (j+1)=packS es r j++[((packI es r (j+1)).length:Int)]:=by
 simp[packS,zP3]
def qhp (m:Nat) (hm:300<m) (hr:r<=200) (hc:c<=200) (hl:es.length<=1000000) (a0 a1:Int) (a2 a3 a4:LI) (b0 b1:Int) {pos:LI} (hp:pos.length=r*c)
 (hq: ∀i j,i<r->j<c->pos.getD (j*r+i) 0=(Qs es i j es.length:Int)): ∀(d n j:Nat),d<n->c-j=d->j<=c->
 g39L1 m n (r:Int) (c:Int) es a0 a1 a2 a3 a4 b0 b1 (packS es r j) (packI es r j) (packV es r j) pos (j:Int)=some (.inl ((a0,a1,a2,a3,a4,()),(b0,b1,packS es r c,packI es r c,packV es r c,()),()))
 |d,0,j,hn,_,_=>absurd hn (zW _)
 |0,n+1,j,hn,hd,hj=>by
  rw[g39L1];have h1: ¬(j:Int)<(c:Int):=O;have:j=c:=O;subst this;simp[bQ]
 |d+1,n+1,j,hn,hd,hj=>by
  rw[g39L1];have hjc:j<c:=O;have h1:(j:Int)<(c:Int):=O;have l1:=q6g es r j;have l2:=q2p es r j;have l3:j*r<=40000:=area (r:=j) (c:=r) O hr;have:=qcn m hr hc hl a0 a1 a2 a3 a4 b0 b1 (packS es r j) hp hq hjc r m 0 (packI es r j) (packV es r j) O O O O O;simp only[nZ]at this;simp only[bQ,h1,if_true,this,bS];have h3: ∀x:Int,(packS es r j).length+([x]:LI).length<=1073741824:=by intro x;simp[packS];omega
  rw[iP (h3 _),show wI ((j:Int)+1)=((j+1:Nat):Int)from wsucc O]
  have e:=qhp m hm hr hc hl a0 a1 a2 a3 a4 b0 b1 hp hq d n (j+1) O O O;rw[qf6]at e;simp only[packI,packV]at e;exact e
def qm1 {m:Nat} (hE:EntsOK r c es) (hr:r<=200) (hc:c<=200) (hl:es.length<=1000000) (hm:1000300<m):
 g39 m (r:Int) (c:Int) es=some (((r:Int),(c:Int),packS es r c,packI es r c,packV es r c,()),(),(),(),()):=by
 have ha:=area hr hc;have e:(r:Int)*(c:Int)=((r*c:Nat):Int):=(zp1 r c).symm;rw[g39];simp only[wI,e];rw[wi (n:=((r*c:Nat):Int)) O O,iP O,tN]
 obtain⟨pos,h1,h2,h3⟩:=qh0 m hE hr hc hl 0 0 [] [] [] (r:Int) (c:Int) [0] [] [] m 0 (List.replicate (r*c) 0) O O (by simp) (by
  intro i j hi hj;rw[qx (cell hi hj)];rfl)
 simp only[nZ]at h1;rw[h1];simp only[bS];have:=qhp m O hr hc hl 0 0 [] [] [] (r:Int) (c:Int) h2 h3 c m 0 O O O;simp only[nZ,packI,packV]at this;rw[show([0]:LI)=packS es r 0 from rfl,this]
 rfl
end
section
variable {es:List Ent} {r c:Nat}
def Jf {t:Nat} (h:t<=c):(packS es r c).getD t 0=((packI es r t).length:Int):=by
 have:t<c+1:=O;simp[packS,List.getD,this]
def q4u {t:Nat}: ∀d,∃zs,packI es r (t+d)=packI es r t++zs
 |0=>⟨[],by simp⟩
 |d+1=>by
  obtain⟨zs,h⟩:=q4u (t:=t) d;exact⟨zs++colI es (t+d) 0 r,by rw[<-Nat.add_assoc,packI,h,zI1]⟩
def qfs {t u:Nat} (h:t<=u):(packI es r t).length<=(packI es r u).length:=by
 obtain⟨zs,e⟩:=q4u (es:=es) (r:=r) (t:=t) (u-t);rw[show t+(u-t)=u by omega]at e
 rw[e];simp
def qfa {j:Nat} (hj:j<c):colOf (packS es r c) (packI es r c) j=colI es j 0 r:=by
 unfold colOf;rw[Jf O,Jf O,tN,tN];obtain⟨zs,e⟩:=q4u (es:=es) (r:=r) (t:=j+1) (c-(j+1));rw[show j+1+(c-(j+1))=c by omega]at e
 rw[e,packI,zI1,List.drop_left,zL,Nat.add_sub_cancel_left,List.take_left]
def q7g:StartOK c (packS es r c) (packI es r c) where
 len:=by simp[packS]
 s0:=by rw[Jf (zU2 _)];rfl
 mono j hj:=by
  rw[Jf O,Jf O];have:=qfs (es:=es) (r:=r) (show j<=j+1 by omega)
  omega
 last:=Jf (zD _)
def qdn {R:Int} {j:Nat}: ∀(d i:Nat) (l:Int),l<(i:Int)->((i+d:Nat):Int)<=R->ascB R l (colI es j i d)=true
 |0,i,l,h,hR=>by simp[colI,colR,ascB]
 |d+1,i,l,h,hR=>by
  have ih:=qdn (R:=R) (j:=j) d (i+1);by_cases hx:0<Qs es i j es.length
  . have e1:colI es j i (d+1)=(i:Int)::colI es j (i+1) d:=by
     unfold colI colR;rw[zr2,zH2,iP (by simpa using hx),zY1]
    have h2:(i:Int)<R:=O;rw[e1,ascB,ih (i:Int) O O];simp[h,h2]
  . have e1:colI es j i (d+1)=colI es j (i+1) d:=by
     unfold colI colR;rw[zr2,zH2,iN' (by simpa using hx)]
    rw[e1,ih l O O]
def qij (hr:r<=200) (hc:c<=200) (ha:c*r<=10000):MatOK r c (packS es r c) (packI es r c) where
 st:=q7g
 ent j hj:=by
  rw[<-q9o q7g hj,qfa hj];exact qdn r 0 (-1) O O
 sz:=zn (q6g es r c) ha
 cz:=hc
 rz:=hr
def qjp (hE:EntsOK r c es) {j i d:Nat} {x:Int} (h:x∈colV es j i d):finB x=true:=by
 obtain⟨i',h1,h2⟩:=zQ.1 h;have h3:=zd1.1 h1;have h4:=of_decide_eq_true h3.2;have h5:=q68 es i' j es.length;rw[<-h2];exact(hE _ O).2.2
def qai (hE:EntsOK r c es) {x:Int}: ∀j,x∈packV es r j->finB x=true
 |0,h=>by cases h
 |j+1,h=>by
  rcases zH.1 h with h|h
  . exact qai hE j h
  . exact qjp hE h
def qk3 (hE:EntsOK r c es) (hr:r<=200) (hc:c<=200) (ha:c*r<=10000):chk (r:Int) (c:Int) (packS es r c) (packI es r c) (packV es r c)=0:=by
 have hM:=qij (es:=es) hr hc ha;have hs:=hM.st;have hsz:=hM.sz
 have e1:finL (packV es r c)=true:=by
  unfold finL;refine Qg.2 λi _ h=> ?_
  exact qai hE c (q2s h)
 have e2:strB (r:Int) (c:Int) (packS es r c) (packI es r c) (packV es r c)=true:=by
  unfold strB;simp only[zF,decide_eq_true_eq,tN];refine⟨⟨⟨⟨⟨by rw[hs.len];omega,hs.s0⟩,?_⟩,hs.last⟩,(q2p es r c).symm⟩,?_⟩
  . exact Qg.2 λi _ h=>decide_eq_true (hs.mono i h)
  . exact Qg.2 λi _ h=>hM.ent i h
 have e0:(decide (0<=(r:Int))&&decide ((r:Int)<=200)&&decide (0<=(c:Int))&&decide ((c:Int)<=200)&&decide ((packI es r c).length<=10000))=true:=by
  simp only[zF,decide_eq_true_eq];omega
 unfold chk;rw[e0,e1,e2];rfl
def EntsOK.snoc (h:EntsOK r c es) {a b v:Int} (h1:0<=a/\a<(r:Int)) (h2:0<=b/\b<(c:Int)) (h3:finB v=true):EntsOK r c (es++[(a,(b,v))]):=by
 intro k hk;rw[zL,List.length_singleton]at hk;by_cases h':k<es.length
 . rw[q3a h'];exact h k h'
 . have:k-es.length=0:=O;rw[q2j O,this];exact⟨h1,h2,h3⟩
end
section
def qe1 {S I V:LI} {R C:Nat} (hM:MatOK R C S I) {e:Ent}: ∀(d k:Nat),C-k=d->k<=C->e∈ents S I V d k-> ∃t,t<I.length/\e.2.2=V.getD t 0
 |0,k,hd,hk,h=>by simp[ents]at h
 |d+1,k,hd,hk,h=>by
  rw[ents,zH]at h;rcases h with h|h
  . obtain⟨t,h1,h2⟩:=zQ.1 h;have h3:=zo2.1 h1;have b:=hM.st.rng (j:=k+1) O;have a:=hM.st.rng (j:=k) O;exact⟨t,O,by rw[<-h2]⟩
  . exact qe1 hM d (k+1) O O h
def qhd {S I V:LI} {R C:Nat} (hM:MatOK R C S I) (hV:V.length=I.length) (hf:finL V=true):EntsOK R C (ents S I V C 0):=by
 intro k hk;have hm:(ents S I V C 0).getD k (0,(0,0))∈ents S I V C 0:=by simp[List.getD,hk]
 have h:=q8w (V:=V) (p:=λa b=>decide (0<=a)&&decide (a<(R:Int))&&decide (0<=b)&&decide (b<(C:Int))) hM C 0 O O
 have h4:Qq (λj'=>((qy C S I).getD j' []).all (λa=>decide (0<=a)&&decide (a<(R:Int))&&decide (0<=(j':Int))&&decide ((j':Int)<(C:Int)))) 0 C=true:=by
  refine Qg.2 λj' _ hj'=>zX.2 λi hi=> ?_
  have:=hM.edge j' i hi;simp only[zF,decide_eq_true_eq];omega
 rw[h4]at h;have h5:=zX.1 h _ hm;simp only[zF,decide_eq_true_eq]at h5;obtain⟨t,ht,ev⟩:=qe1 hM C 0 O O hm;refine⟨⟨h5.1.1.1,h5.1.1.2⟩,⟨h5.1.2,h5.2⟩,?_⟩;rw[ev];exact Qg.1 hf t (zU2 _) O
end
section
abbrev zE:Ent:=(0,(0,0))
def ltE (x y:Ent):Bool:=decide (x.2.1<y.2.1)||(decide (x.2.1=y.2.1)&&decide (x.1<y.1))
def q3i {m:Nat} (x y:Int):g283 m x y=some (if x<y then-1 else if x>y then 1 else 0,(),(),()):=by
 simp only[g283,g308,bS,bne_self_eq_false,cond_false,bQ];by_cases h:x<y
 . simp[h]
 . by_cases h2:x>y
   . simp[h,h2]
   . simp[h,h2]
def Or_eq {m:Nat} (hm:2<m) (a b:Int):g288 m [a,b]=some (if a=0 then b else a,(),()):=by
 obtain⟨n,rfl⟩: ∃n,m=n+3:=⟨m-3,O⟩;have e1:wI 1=1:=by decide
 have e2:wI 2=2:=by decide
 by_cases h:a=0
 . subst h;by_cases h2:b=0
   . subst h2;simp[g288,g288L0,-wQ,e1,e2]
   . simp[g288,g288L0,-wQ,e1,e2,h2]
 . simp[g288,g288L0,h]
def Jy {m:Nat} (hm:2<m) (x y:Ent): ∃c,g287 m x.1 x.2.1 x.2.2 y.1 y.2.1 y.2.2=some (c,(),(),())/\decide (c<0)=ltE x y:=by
 rw[g287,q3i,bS,q3i,bS,Or_eq hm];refine⟨_,rfl,?_⟩;unfold ltE;rcases Int.lt_trichotomy x.2.1 y.2.1 with h|h|h
 . simp[h]
 . have h1: ¬x.2.1<y.2.1:=O;have h2: ¬x.2.1>y.2.1:=O;rcases Int.lt_trichotomy x.1 y.1 with g|g|g
   . simp[h,g]
   . simp[h,g]
   . have g1: ¬x.1<y.1:=O;simp[h,g,g1]
 . have h1: ¬x.2.1<y.2.1:=O;have h2: ¬x.2.1=y.2.1:=O;simp[h,h1,h2]
def getD_at {α:Type} {P Q:List α} {x z:α} {k:Nat} (h:k=P.length):(P++x::Q).getD k z=x:=by
 subst h;simp[List.getD]
def q1b {α:Type} {P Q:List α} {x y:α} {k:Nat} (h:k=P.length):(P++x::Q).set k y=P++y::Q:=by
 subst h;simp
def leE (x y:Ent):Prop:=ltE y x=false
def Ya {x y z:Ent} (h1:leE x y) (h2:leE y z):leE x z:=by
 unfold leE ltE at*;simp only[zb2,decide_eq_false_iff_not,Bool.and_eq_false_iff]at*;omega
def q06 {x y:Ent} (h:ltE x y=true):leE x y:=by
 unfold leE ltE at*;simp only[zb2,decide_eq_false_iff_not,Bool.and_eq_false_iff,zQ2,decide_eq_true_eq,zF]at*;omega
def qjb (x:Ent):leE x x:=by
 unfold leE ltE;simp
abbrev Srt (l:List Ent):Prop:=l.Pairwise leE
def Z5 (x:Ent):List Ent->List Ent
 |[]=>[x]
 |y::r=>if ltE x y=true then y::Z5 x r else x::y::r
def q1g (x:Ent): ∀r,List.Perm (Z5 x r) (x::r)
 |[]=>List.Perm.refl _
 |y::r=>by
  unfold Z5;split
  . exact((q1g x r).cons y).trans (List.Perm.swap ..)
  . exact List.Perm.refl _
def q7w (x:Ent): ∀r:List Ent,r.Pairwise (λa b=>leE b a)->(Z5 x r).Pairwise (λa b=>leE b a)
 |[],_=>by simp[Z5]
 |y::r,h=>by
  rw[zX2]at h;unfold Z5;split
  . rename_i hlt;refine zX2.2 ⟨λa ha=> ?_,q7w x r h.2⟩
    rcases mC ((q1g x r).mem_iff.1 ha)with rfl|ha
    . exact q06 hlt
    . exact h.1 a ha
  . rename_i hlt;have hle:leE y x:=by simpa [leE]using hlt
    refine zX2.2 ⟨λa ha=> ?_,zX2.2 h⟩
    rcases mC ha with rfl|ha
    . exact hle
    . exact Ya (h.1 a ha) hle
def ql5 (m:Nat) (hm:2<m) (P:List Ent) (x:Ent) (b i:Int): ∀(r Q:List Ent) (n:Nat),r.length<n->P.length+r.length+Q.length<1000000000->
 g348L1 m n (P++r.reverse++x::Q) (P.length:Int) b i ((P.length+r.length:Nat):Int)=some (.inl (P++(Z5 x r).reverse++Q,(P.length:Int),b,(),i,()))
 |r,Q,0,h,_=>absurd h (zW _)
 |[],Q,n+1,_,hb=>by
  simp only[g348L1,bQ];rw[iN' (by simp)]
  simp[Z5]
 |y::r,Q,n+1,h,hb=>by
  simp only[zq]at h hb;have hd:P++(y::r).reverse++x::Q=(P++r.reverse)++y::x::Q:=by simp
  have hd2:P++(y::r).reverse++x::Q=(P++(y::r).reverse)++x::Q:=rfl;have hl1:(P++r.reverse).length=P.length+r.length:=by simp
  have hl2:(P++(y::r).reverse).length=P.length+r.length+1:=by simp;omega
  have hlen:(P++(y::r).reverse++x::Q).length=P.length+r.length+2+Q.length:=by simp;omega
  have ej:((P.length+(y::r).length:Nat):Int)=((P.length+r.length+1:Nat):Int):=by simp;omega
  have ew:wI (((P.length+r.length+1:Nat):Int)-1)=((P.length+r.length:Nat):Int):=by rw[wQ,wi O O];omega
  have gx:(P++(y::r).reverse++x::Q).getD (0+((P.length+r.length+1:Nat):Int).toNat) zE=x:=getD_at (by rw[hl2];omega)
  have gy:(P++(y::r).reverse++x::Q).getD (0+((P.length+r.length:Nat):Int).toNat) zE=y:=by rw[hd];exact getD_at (by rw[hl1];omega)
  obtain⟨c,hc1,hc2⟩:=Jy hm x y;rw[ej];simp only[g348L1,ew,gx,gy,hc1,bS,zZ];rw[hlen,hc2];simp only[bQ];rw[iP O,iP O,iP O];cases hlt:ltE x y with
  |false=>
   simp only[cond_false,Z5,hlt];simp
  |true=>
   simp only[cond_true];rw[iP O,iP O,iP O,iP O]
   have hs:((P++(y::r).reverse++x::Q).set (0+((P.length+r.length+1:Nat):Int).toNat) y).set (0+((P.length+r.length:Nat):Int).toNat) x=P++r.reverse++x::(y::Q):=by
    rw[q1b (by rw[hl2];omega)]
    rw[show P++(y::r).reverse++y::Q=(P++r.reverse)++y::y::Q by simp]
    rw[q1b (by rw[hl1];omega)]
   show g348L1 m n (((P++(y::r).reverse++x::Q).set (0+((P.length+r.length+1:Nat):Int).toNat) y).set (0+((P.length+r.length:Nat):Int).toNat) x) _ _ _ _=_
   rw[hs,ql5 m hm P x b i r (y::Q) n O (by simp only[zq];omega)]
   simp[Z5,hlt]
def qkn (m:Nat) (hm2:2<m) (P Q:List Ent) (hb:P.length+Q.length<400000000): ∀(T S:List Ent) (n:Nat),T.length<n->S.length+T.length<m->S.length+T.length<400000000->Srt S->
 ∃S',g348L0 m n (P++S++T++Q) (P.length:Int) ((P.length+S.length+T.length:Nat):Int) ((P.length+S.length:Nat):Int)=some (.inl (P++S'++Q,()))/\Srt S'/\List.Perm S' (S++T)
 |T,S,0,h,_,_,_=>absurd h (zW _)
 |[],S,n+1,_,_,_,hS=>by
  refine⟨S,?_,hS,by simp⟩
  simp only[g348L0,bQ];rw[iN' (by simp)]
  simp
 |x::T,S,n+1,h,hm,hl,hS=>by
  simp only[zq]at h hm hl;have hs:=q7w x S.reverse (List.pairwise_reverse.2 hS);have hp:=q1g x S.reverse;have hlen:(Z5 x S.reverse).length=S.length+1:=by rw[hp.length_eq];simp
  obtain⟨S',e1,e2,e3⟩:=qkn m hm2 P Q hb T (Z5 x S.reverse).reverse n O (by simp[hlen];omega) (by simp[hlen];omega) (List.pairwise_reverse.2 hs)
  refine⟨S',?_,e2,e3.trans ?_⟩
  . simp only[g348L0,bQ];rw[iP (by simp only[zq];omega)]
    have h1:=ql5 m hm2 P x ((P.length+S.length+(x::T).length:Nat):Int) ((P.length+S.length:Nat):Int) S.reverse (T++Q) m (by simp;omega) (by simp;omega)
    simp only[List.reverse_reverse,List.length_reverse]at h1;rw[show P++S++(x::T)++Q=P++S++x::(T++Q) by simp,h1]
    simp only[bS]
    rw[show wI (((P.length+S.length:Nat):Int)+1)=((P.length+(Z5 x S.reverse).reverse.length:Nat):Int) by
     rw[wQ,wi O O];simp[hlen];omega]
    rw[show P++(Z5 x S.reverse).reverse++(T++Q)=P++(Z5 x S.reverse).reverse++T++Q by simp]
    rw[show((P.length+S.length+(x::T).length:Nat):Int)=((P.length+(Z5 x S.reverse).reverse.length+T.length:Nat):Int) by simp[hlen];omega]
    exact e1
  . refine List.Perm.append ((List.reverse_perm _).trans hp) (List.Perm.refl T)|>.trans ?_
    simp only[zI2];exact(zI3.symm).trans (List.Perm.append (List.reverse_perm S) (List.Perm.refl _))|>.trans (List.Perm.refl _)
def qaq {m:Nat} (P T Q:List Ent) (hb:P.length+Q.length<400000000) (hm:T.length+1<m) (hl:T.length<400000000) (h0:T≠[]):
 ∃S',g348 m (P++T++Q) (P.length:Int) ((P.length+T.length:Nat):Int)=some ((),(P++S'++Q,(),(),(),()))/\Srt S'/\List.Perm S' T:=by
 cases T with
 |nil=>exact absurd rfl h0
 |cons x T=>
  simp only[zq]at hm hl;obtain⟨S',e1,e2,e3⟩:=qkn m O P Q hb T [x] m O (by simp;omega) (by simp;omega) (by simp)
  refine⟨S',?_,e2,e3⟩;rw[g348];rw[show wI ((P.length:Int)+1)=((P.length+[x].length:Nat):Int) by rw[wQ,wi O O];simp]
  rw[show P++(x::T)++Q=P++[x]++T++Q by simp]
  rw[show((P.length+(x::T).length:Nat):Int)=((P.length+[x].length+T.length:Nat):Int) by simp;omega,e1]
  rfl
end
section
def swap2 {P M Q:List Ent} {x y:Ent} {i j:Nat} (hi:i=P.length) (hj:j=P.length+1+M.length):
 ((P++x::(M++y::Q)).set i y).set j x=P++y::(M++x::Q):=by
 rw[q1b hi,show P++y::(M++y::Q)=(P++y::M)++y::Q by simp,q1b (by simp;omega)]
 simp
def get2 {P M Q:List Ent} {x y:Ent} {j:Nat} (hj:j=P.length+1+M.length):(P++x::(M++y::Q)).getD j zE=y:=by
 rw[show P++x::(M++y::Q)=(P++x::M)++y::Q by simp]
 exact getD_at (by simp;omega)
def q3u (m:Nat) (P M Q:List Ent): ∀(A2 B2 A1 B1:List Ent) (n:Nat),A2.length<n->A1.length=B1.length->A2.length=B2.length->
 P.length+2*(A1.length+A2.length)+M.length+Q.length<1000000000->
 g366L0 m n (P++B1++A2++M++A1++B2++Q) (P.length:Int) ((P.length+A1.length+A2.length+M.length:Nat):Int) ((A1.length+A2.length:Nat):Int) (A1.length:Int)=
  some (.inl (P++(B1++B2)++M++(A1++A2)++Q,()))
 |A2,B2,A1,B1,0,h,_,_,_=>absurd h (zW _)
 |[],B2,A1,B1,n+1,_,h1,h2,_=>by
  have:B2=[]:=zH1.1 h2.symm;subst this;simp only[g366L0,bQ];rw[iN' (by simp)]
  simp
 |x::A2,[],A1,B1,n+1,_,_,h2,_=>by simp at h2
 |x::A2,y::B2,A1,B1,n+1,h,h1,h2,hb=>by
  simp only[zq]at h h2 hb;have hd:P++B1++x::A2++M++A1++y::B2++Q=(P++B1)++x::((A2++M++A1)++y::(B2++Q)):=by simp
  have hlen:((P++B1)++x::((A2++M++A1)++y::(B2++Q))).length=P.length+2*(A1.length+(A2.length+1))+M.length+Q.length:=by simp;omega
  have ea:wI ((P.length:Int)+(A1.length:Int))=((P.length+A1.length:Nat):Int):=by rw[wQ,wi O O];omega
  have eb:wI (((P.length+A1.length+(x::A2).length+M.length:Nat):Int)+(A1.length:Int))=((P.length+A1.length+(A2.length+1)+M.length+A1.length:Nat):Int):=by
   rw[wQ,wi (by simp only[zq];omega) (by simp only[zq];omega)];simp only[zq];omega
  have ei:wI ((A1.length:Int)+1)=((A1++[x]).length:Int):=by rw[wQ,wi O O];simp
  have gx:((P++B1)++x::((A2++M++A1)++y::(B2++Q))).getD (0+((P.length+A1.length:Nat):Int).toNat) zE=x:=getD_at (by simp;omega)
  have gy:((P++B1)++x::((A2++M++A1)++y::(B2++Q))).getD (0+((P.length+A1.length+(A2.length+1)+M.length+A1.length:Nat):Int).toNat) zE=y:=get2 (by simp;omega)
  have hs:=swap2 (P:=P++B1) (M:=A2++M++A1) (Q:=B2++Q) (x:=x) (y:=y) (i:=0+((P.length+A1.length:Nat):Int).toNat) (j:=0+((P.length+A1.length+(A2.length+1)+M.length+A1.length:Nat):Int).toNat) (by simp;omega) (by simp;omega)
  rw[hd];simp only[g366L0,bQ,ea,eb,ei,gx,gy,zZ];rw[hlen,iP (by simp only[zq];omega),iP O,iP O,iP O,iP O]
  show g366L0 m n ((((P++B1)++x::((A2++M++A1)++y::(B2++Q))).set (0+((P.length+A1.length:Nat):Int).toNat) y).set (0+((P.length+A1.length+(A2.length+1)+M.length+A1.length:Nat):Int).toNat) x) _ _ _ _=_
  rw[hs];have ih:=q3u m P M Q A2 B2 (A1++[x]) (B1++[y]) n O (by simp[h1]) O (by simp;omega)
  rw[show P++B1++y::(A2++M++A1++x::(B2++Q))=P++(B1++[y])++A2++M++(A1++[x])++B2++Q by simp]
  rw[show((P.length+A1.length+(x::A2).length+M.length:Nat):Int)=((P.length+(A1++[x]).length+A2.length+M.length:Nat):Int) by simp;omega]
  rw[show((A1.length+(x::A2).length:Nat):Int)=(((A1++[x]).length+A2.length:Nat):Int) by simp;omega]
  rw[ih];simp
def q0d {m:Nat} (P A M B Q:List Ent) (h:A.length=B.length) (hm:A.length<m) (hb:P.length+2*A.length+M.length+Q.length<1000000000) {a b n:Int}
 (ha:a=(P.length:Int)) (hbb:b=((P.length+A.length+M.length:Nat):Int)) (hn:n=(A.length:Int)):
 g366 m (P++A++M++B++Q) a b n=some ((),(P++B++M++A++Q,(),(),(),(),())):=by
 subst ha hbb hn;have:=q3u m P M Q A B [] [] m hm rfl h (by simpa using hb)
 simp only[zL1,zx1,zk2,zU,zI]at this;rw[g366,show((0:Int))=((0:Nat):Int)from rfl,this]
 rfl
def q5g (m:Nat): ∀(n:Nat) (P A B Q:List Ent),A.length+B.length<n->A.length+B.length<m->0<A.length->0<B.length->P.length+A.length+B.length+Q.length<1000000000->
 ∃(P' A' B' Q':List Ent),g361L0 m n (P++A++B++Q) ((P.length+A.length:Nat):Int) (A.length:Int) (B.length:Int)=some (.inl (P'++A'++B'++Q',((P.length+A.length:Nat):Int),(),(A'.length:Int),()))/\
  A'.length=B'.length/\0<A'.length/\P'.length+A'.length=P.length+A.length/\P'++B'++A'++Q'=P++B++A++Q/\A'.length<=A.length
 |0,P,A,B,Q,h,_,_,_,_=>absurd h (zW _)
 |n+1,P,A,B,Q,h,hm,hA,hB,hb=>by
  simp only[g361L0,bif_ne,bQ];by_cases e:(A.length:Int)=(B.length:Int)
  . rw[iP e];exact⟨P,A,B,Q,rfl,O,hA,rfl,rfl,zD _⟩
  . rw[iN' e];by_cases hgt:(A.length:Int)>(B.length:Int)
    . rw[iP hgt];have hsp:A=A.take B.length++A.drop B.length:=(zh _ _).symm;have l1:(A.take B.length).length=B.length:=by simp;omega
      have l2:(A.drop B.length).length=A.length-B.length:=by simp
      generalize A.take B.length=A1 at*
      generalize A.drop B.length=A2 at*
      subst hsp;simp only[zL]at*
      have hsw:=q0d (m:=m) P A1 A2 B Q l1 O O (a:=wI (((P.length+(A1.length+A2.length):Nat):Int)-((A1.length+A2.length:Nat):Int))) (b:=((P.length+(A1.length+A2.length):Nat):Int)) (n:=(B.length:Int))
       (by rw[wQ,wi O O];omega) O O
      rw[show P++(A1++A2)++B++Q=P++A1++A2++B++Q by simp,hsw]
      simp only[bS];obtain⟨P',A',B',Q',e1,e2,e3,e4,e5,e6⟩:=q5g m n (P++B) A2 A1 Q O O O O (by simp;omega)
      refine⟨P',A',B',Q',?_,e2,e3,by simp at e4;omega,?_,O⟩
      . rw[show wI (((A1.length+A2.length:Nat):Int)-(B.length:Int))=(A2.length:Int) by rw[wQ,wi O O];omega]
        rw[show((P.length+(A1.length+A2.length):Nat):Int)=(((P++B).length+A2.length:Nat):Int) by simp;omega,show(B.length:Int)=(A1.length:Int) by omega]
        exact e1
      . rw[e5];simp
    . rw[iN' hgt];have hsp:B=B.take (B.length-A.length)++B.drop (B.length-A.length):=(zh _ _).symm;have l1:(B.take (B.length-A.length)).length=B.length-A.length:=by simp
      have l2:(B.drop (B.length-A.length)).length=A.length:=by simp;omega
      generalize B.take (B.length-A.length)=B1 at*
      generalize B.drop (B.length-A.length)=B2 at*
      subst hsp;simp only[zL]at*
      have hsw:=q0d (m:=m) P A B1 B2 Q l2.symm O O (a:=wI (((P.length+A.length:Nat):Int)-(A.length:Int))) (b:=wI (wI (((P.length+A.length:Nat):Int)+((B1.length+B2.length:Nat):Int))-(A.length:Int))) (n:=(A.length:Int))
       (by rw[wQ,wi O O];omega) (by rw[wQ,wQ,wi (n:=((P.length+A.length:Nat):Int)+_) O O,wi O O];omega) rfl
      rw[show P++A++(B1++B2)++Q=P++A++B1++B2++Q by simp,hsw]
      simp only[bS];obtain⟨P',A',B',Q',e1,e2,e3,e4,e5,e6⟩:=q5g m n P B2 B1 (A++Q) O O O O (by simp;omega)
      refine⟨P',A',B',Q',?_,e2,e3,O,?_,O⟩
      . rw[show wI (((B1.length+B2.length:Nat):Int)-(A.length:Int))=(B1.length:Int) by rw[wQ,wi O O];omega]
        rw[show P++B2++B1++A++Q=P++B2++B1++(A++Q) by simp,show(A.length:Int)=(B2.length:Int) by omega,show((P.length+A.length:Nat):Int)=((P.length+B2.length:Nat):Int) by omega]
        exact e1
      . rw[e5];simp
def qhg {m:Nat} (P A B Q:List Ent) (hA:0<A.length) (hB:0<B.length) (hm:A.length+B.length<m) (hb:P.length+A.length+B.length+Q.length<400000000) {a c b:Int}
 (ha:a=(P.length:Int)) (hc:c=((P.length+A.length:Nat):Int)) (hbb:b=((P.length+A.length+B.length:Nat):Int)):
 g361 m (P++A++B++Q) a c b=some ((),(P++B++A++Q,(),(),(),(),())):=by
 subst ha hc hbb;obtain⟨P',A',B',Q',e1,e2,e3,e4,e5,e6⟩:=q5g m m P A B Q hm hm hA hB O;rw[g361];rw[show wI (((P.length+A.length:Nat):Int)-(P.length:Int))=(A.length:Int) by rw[wQ,wi O O];omega]
 rw[show wI (((P.length+A.length+B.length:Nat):Int)-((P.length+A.length:Nat):Int))=(B.length:Int) by rw[wQ,wi O O];omega,e1]
 simp only[bS];have hl:=congrArg List.length e5;simp only[zL]at hl
 have hsw:=q0d (m:=m) P' A' [] B' Q' e2 O (by simp;omega) (a:=wI (((P.length+A.length:Nat):Int)-(A'.length:Int))) (b:=((P.length+A.length:Nat):Int)) (n:=(A'.length:Int))
  (by rw[wQ,wi O O];omega) (by simp;omega) rfl
 simp only[zL1]at hsw;rw[hsw];simp only[bS];rw[e5]
end
section
def q8p {i j:Nat} (h:i+j<4611686018427387904):wI (shr_ .u64 (wJ (wI ((i:Int)+(j:Int)))) 1)=(((i+j)/2:Nat):Int):=by
 rw[wQ,wQ,wi (n:=(i:Int)+(j:Int)) O O];show IntKind.wrap .i64 (shr_ .u64 (IntKind.wrap .u64 ((i:Int)+(j:Int))) 1)=_;rw[wu O O];unfold shr_
 rw[show((i:Int)+(j:Int)).fdiv (2^(min (1:Int).toNat IntKind.u64.bits))=(((i+j)/2:Nat):Int) by
  rw[show(2:Int)^(min (1:Int).toNat IntKind.u64.bits)=2 by decide,show((i:Int)+(j:Int))=((i+j:Nat):Int) by omega,Int.fdiv_eq_ediv_of_nonneg _ (by decide)];omega]
 rw[wi O O]
def BS (test:Nat->Bool) (lo hi r:Nat):Prop:=lo<=r/\r<=hi/\(r=lo\/test (r-1)=true)/\(r=hi\/test r=false)
def qgc {α:Type} {a b:Bool} {x y:α}:(bif a then(bif b then x else y)else y)=bif (a&&b)then x else y:=by cases a<;>cases b<;>rfl
def qky {α:Type} {p q:Prop} [Decidable p] [Decidable q] {x y:α}:(bif (decide p&&decide q)then x else y)=if p/\q then x else y:=by
 by_cases h1:p<;>by_cases h2:q<;>simp[h1,h2]
section
variable (self:(List (Int×Int×Int))->Int->Int->Int->Option (Unit×(List (Int×Int×Int))×Unit×Unit×Unit×Unit×Unit)) (m:Nat) (hm:2<m)
def sm_L0 (hm:2<m) (d:List Ent) (hd:d.length<1000000000) {a lo hi:Nat} (ha:a<d.length) (hh:hi<=d.length): ∀(n i j:Nat),j-i<n->i<=j->lo<=i->j<=hi->
 (i=lo\/ltE (d.getD (i-1) zE) (d.getD a zE)=true)->(j=hi\/ltE (d.getD j zE) (d.getD a zE)=false)->
 ∃r:Nat,g349L0 self m n d (a:Int) (i:Int) (j:Int)=some (.inl (d,(a:Int),(r:Int),()))/\BS (λk=>ltE (d.getD k zE) (d.getD a zE)) lo hi r
 |0,i,j,h,_,_,_,_,_=>absurd h (zW _)
 |n+1,i,j,h,hij,hlo,hhi,h1,h2=>by
  simp only[g349L0,bQ];by_cases e:i<j
  . rw[iP O];simp only[q8p (i:=i) (j:=j) O];have b1:i<=(i+j)/2:=O;have b2:(i+j)/2<j:=O;generalize (i+j)/2=c at*;rw[iP O,iP O];obtain⟨x,hx1,hx2⟩:=Jy hm (d.getD (0+(c:Int).toNat) zE) (d.getD (0+(a:Int).toNat) zE);rw[hx1];simp only[bS];by_cases g:x<0
    . rw[iP g]
      have g':ltE (d.getD c zE) (d.getD a zE)=true:=by
       rw[show 0+(c:Int).toNat=c by omega,show 0+(a:Int).toNat=a by omega]at hx2
       rw[<-hx2];exact decide_eq_true g
      rw[show wI ((c:Int)+1)=((c+1:Nat):Int) by rw[wQ,wi O O];omega]
      exact sm_L0 hm d hd ha hh n (c+1) j O O O hhi (.inr (by simpa using g')) h2
    . rw[iN' g]
      have g':ltE (d.getD c zE) (d.getD a zE)=false:=by
       rw[show 0+(c:Int).toNat=c by omega,show 0+(a:Int).toNat=a by omega]at hx2
       rw[<-hx2];exact decide_eq_false g
      exact sm_L0 hm d hd ha hh n i c O O hlo O h1 (.inr g')
  . rw[iN' O];have:i=j:=O;subst this;exact⟨i,rfl,hlo,hhi,h1,h2⟩
def sm_L2 (hm:2<m) (d:List Ent) (hd:d.length<1000000000) {a lo hi:Nat} (ha:a<d.length) (hh:hi<=d.length): ∀(n i j:Nat),j-i<n->i<=j->lo<=i->j<=hi->
 (i=lo\/(!ltE (d.getD a zE) (d.getD (i-1) zE))=true)->(j=hi\/(!ltE (d.getD a zE) (d.getD j zE))=false)->
 ∃r:Nat,g349L2 self m n d (a:Int) (i:Int) (j:Int)=some (.inl (d,(a:Int),(r:Int),()))/\BS (λk=> !ltE (d.getD a zE) (d.getD k zE)) lo hi r
 |0,i,j,h,_,_,_,_,_=>absurd h (zW _)
 |n+1,i,j,h,hij,hlo,hhi,h1,h2=>by
  simp only[g349L2,bQ,bif_not];by_cases e:i<j
  . rw[iP O];simp only[q8p (i:=i) (j:=j) O];have b1:i<=(i+j)/2:=O;have b2:(i+j)/2<j:=O;generalize (i+j)/2=c at*;rw[iP O,iP O];obtain⟨x,hx1,hx2⟩:=Jy hm (d.getD (0+(a:Int).toNat) zE) (d.getD (0+(c:Int).toNat) zE);rw[hx1];simp only[bS];by_cases g:x<0
    . rw[iP g]
      have g':ltE (d.getD a zE) (d.getD c zE)=true:=by
       rw[show 0+(c:Int).toNat=c by omega,show 0+(a:Int).toNat=a by omega]at hx2
       rw[<-hx2];exact decide_eq_true g
      exact sm_L2 hm d hd ha hh n i c O O hlo O h1 (.inr (by rw[g'];rfl))
    . rw[iN' g]
      have g':ltE (d.getD a zE) (d.getD c zE)=false:=by
       rw[show 0+(c:Int).toNat=c by omega,show 0+(a:Int).toNat=a by omega]at hx2
       rw[<-hx2];exact decide_eq_false g
      rw[show wI ((c:Int)+1)=((c+1:Nat):Int) by rw[wQ,wi O O];omega]
      exact sm_L2 hm d hd ha hh n (c+1) j O O O hhi (.inr (by rw[ze2,g'];rfl)) h2
  . rw[iN' O];have:i=j:=O;subst this;exact⟨i,rfl,hlo,hhi,h1,h2⟩
def sm_L4 (hm:2<m) (d:List Ent) (hd:d.length<1000000000) {p lo hi:Nat} (hh:hi<=d.length) (hp: ∀c,lo<=c->c<hi->c<=p/\p-c<d.length) (hpb:p<1000000000000) (t1 t2 t3 t18 t19:Int): ∀(n i j:Nat),j-i<n->i<=j->lo<=i->j<=hi->
 (i=lo\/(!ltE (d.getD (p-(i-1)) zE) (d.getD (i-1) zE))=true)->(j=hi\/(!ltE (d.getD (p-j) zE) (d.getD j zE))=false)->
 ∃r:Nat,g349L4 self m n d t1 t2 t3 t18 t19 (i:Int) (j:Int) (p:Int)=some (.inl (d,t1,t2,t3,(),t18,t19,(r:Int),()))/\BS (λk=> !ltE (d.getD (p-k) zE) (d.getD k zE)) lo hi r
 |0,i,j,h,_,_,_,_,_=>absurd h (zW _)
 |n+1,i,j,h,hij,hlo,hhi,h1,h2=>by
  simp only[g349L4,bQ,bif_not];by_cases e:i<j
  . rw[iP O];simp only[q8p (i:=i) (j:=j) O];have b1:i<=(i+j)/2:=O;have b2:(i+j)/2<j:=O;generalize (i+j)/2=c at*;obtain⟨q1,q2⟩:=hp c O O;simp only[show wI ((p:Int)-(c:Int))=((p-c:Nat):Int) by rw[wQ,wi O O];omega]
    rw[iP O,iP O];obtain⟨x,hx1,hx2⟩:=Jy hm (d.getD (0+((p-c:Nat):Int).toNat) zE) (d.getD (0+(c:Int).toNat) zE);rw[hx1];simp only[bS];by_cases g:x<0
    . rw[iP g]
      have g':ltE (d.getD (p-c) zE) (d.getD c zE)=true:=by
       rw[show 0+(c:Int).toNat=c by omega,show 0+((p-c:Nat):Int).toNat=p-c by omega]at hx2
       rw[<-hx2];exact decide_eq_true g
      exact sm_L4 hm d hd hh hp hpb t1 t2 t3 t18 t19 n i c O O hlo O h1 (.inr (by rw[g'];rfl))
    . rw[iN' g]
      have g':ltE (d.getD (p-c) zE) (d.getD c zE)=false:=by
       rw[show 0+(c:Int).toNat=c by omega,show 0+((p-c:Nat):Int).toNat=p-c by omega]at hx2
       rw[<-hx2];exact decide_eq_false g
      rw[show wI ((c:Int)+1)=((c+1:Nat):Int) by rw[wQ,wi O O];omega]
      exact sm_L4 hm d hd hh hp hpb t1 t2 t3 t18 t19 n (c+1) j O O O hhi (.inr (by rw[ze2,g'];rfl)) h2
  . rw[iN' O];have:i=j:=O;subst this;exact⟨i,rfl,hlo,hhi,h1,h2⟩
def sm_L1 (x:Ent) (R:List Ent): ∀(B P:List Ent) (n:Nat),B.length<n->P.length+B.length+R.length<1000000000->
 g349L1 self m n (P++x::(B++R)) ((P.length+1+B.length:Nat):Int) (P.length:Int)=some (.inl (P++B++x::R,()))
 |B,P,0,h,_=>absurd h (zW _)
 |[],P,n+1,_,hb=>by
  simp only[g349L1,bQ];rw[iN' (by rw[wQ,wi (by simp<;>omega) (by simp<;>omega)];simp)]
  simp
 |y::B,P,n+1,h,hb=>by
  simp only[zq]at h hb;have hlen:(P++x::(y::B++R)).length=P.length+2+B.length+R.length:=by simp<;>omega
  have e1:wI ((P.length:Int)+1)=((P.length+1:Nat):Int):=by rw[wQ,wi O O];omega
  have gx:(P++x::(y::B++R)).getD (0+(P.length:Int).toNat) zE=x:=getD_at O
  have gy:(P++x::(y::B++R)).getD (0+((P.length+1:Nat):Int).toNat) zE=y:=by
   rw[show P++x::(y::B++R)=(P++[x])++y::(B++R) by simp];exact getD_at (by simp<;>omega)
  have hs:((P++x::(y::B++R)).set (0+(P.length:Int).toNat) y).set (0+((P.length+1:Nat):Int).toNat) x=(P++[y])++x::(B++R):=by
   rw[q1b O,show P++y::(y::B++R)=(P++[y])++y::(B++R) by simp,q1b (by simp<;>omega)]
  simp only[g349L1,bQ,e1,gx,gy,zZ];rw[iP (by rw[wQ,wi (by simp<;>omega) (by simp<;>omega)];simp;omega),hlen,iP O,iP O,iP O,iP O]
  show g349L1 self m n (((P++x::(y::B++R)).set (0+(P.length:Int).toNat) y).set (0+((P.length+1:Nat):Int).toNat) x) _ _=_
  rw[hs];have ih:=sm_L1 x R B (P++[y]) n O (by simp<;>omega)
  rw[show((P.length+1+(y::B).length:Nat):Int)=(((P++[y]).length+1+B.length:Nat):Int) by simp<;>omega,show((P.length+1:Nat):Int)=((P++[y]).length:Int) by simp,ih]
  simp
def sm_L3 (y:Ent) (P:List Ent): ∀(r R:List Ent) (n:Nat),r.length<n->P.length+r.length+R.length<1000000000->
 g349L3 self m n (P++r.reverse++y::R) (P.length:Int) ((P.length+r.length:Nat):Int)=some (.inl (P++y::(r.reverse++R),()))
 |r,R,0,h,_=>absurd h (zW _)
 |[],R,n+1,_,hb=>by
  simp only[g349L3,bQ];rw[iN' (by simp)]
  simp
 |x::r,R,n+1,h,hb=>by
  simp only[zq]at h hb;have hd:P++(x::r).reverse++y::R=(P++r.reverse)++x::y::R:=by simp
  have hlen:((P++r.reverse)++x::y::R).length=P.length+r.length+2+R.length:=by simp<;>omega
  have ej:((P.length+(x::r).length:Nat):Int)=((P.length+r.length+1:Nat):Int):=by simp<;>omega
  have ew:wI (((P.length+r.length+1:Nat):Int)-1)=((P.length+r.length:Nat):Int):=by rw[wQ,wi O O];omega
  have gx:((P++r.reverse)++x::y::R).getD (0+((P.length+r.length:Nat):Int).toNat) zE=x:=getD_at (by simp<;>omega)
  have gy:((P++r.reverse)++x::y::R).getD (0+((P.length+r.length+1:Nat):Int).toNat) zE=y:=by
   rw[show(P++r.reverse)++x::y::R=(P++r.reverse++[x])++y::R by simp];exact getD_at (by simp<;>omega)
  have hs:(((P++r.reverse)++x::y::R).set (0+((P.length+r.length+1:Nat):Int).toNat) x).set (0+((P.length+r.length:Nat):Int).toNat) y=P++r.reverse++y::(x::R):=by
   rw[show(P++r.reverse)++x::y::R=(P++r.reverse++[x])++y::R by simp,q1b (by simp<;>omega),show P++r.reverse++[x]++x::R=(P++r.reverse)++x::x::R by simp,q1b (by simp<;>omega)]
  rw[hd,ej];simp only[g349L3,bQ,ew,gx,gy,zZ];rw[iP O,hlen,iP O,iP O,iP O,iP O];show g349L3 self m n ((((P++r.reverse)++x::y::R).set (0+((P.length+r.length+1:Nat):Int).toNat) x).set (0+((P.length+r.length:Nat):Int).toNat) y) _ _=_;rw[hs,sm_L3 y P r (x::R) n O (by simp<;>omega)]
  simp
end
def q0a {l:List Ent} (h:Srt l) {i j:Nat} (hij:i<=j) (hj:j<l.length):leE (l.getD i zE) (l.getD j zE):=by
 rcases Nat.eq_or_lt_of_le hij with rfl|hlt
 . exact qjb _
 . have:=List.pairwise_iff_getElem.1 h i j O hj hlt;simpa [List.getD,hj,show i<l.length by omega]using this
def Yq {l:List Ent} {x:Ent} (h:x∈l): ∃i,i<l.length/\l.getD i zE=x:=by
 obtain⟨i,hi,rfl⟩:=zV h;exact⟨i,hi,by simp[List.getD,hi]⟩
def Z9 {l:List Ent} {x:Ent} {k:Nat} (h:x∈l.take k): ∃i,i<k/\i<l.length/\l.getD i zE=x:=by
 obtain⟨i,hi,rfl⟩:=zV h;have h1:i<k/\i<l.length:=by simp at hi;omega
 exact⟨i,h1.1,h1.2,by simp[List.getD,h1.2]⟩
def Zc {l:List Ent} {x:Ent} {k:Nat} (h:x∈l.drop k): ∃i,k<=i/\i<l.length/\l.getD i zE=x:=by
 obtain⟨i,hi,rfl⟩:=zV h;have h1:k+i<l.length:=by simp at hi;omega
 exact⟨k+i,O,h1,by simp[List.getD,h1]⟩
def q4f {P A R:List Ent} {i k:Nat} (hi:i<A.length) (hk:k=P.length+i):(P++A++R).getD k zE=A.getD i zE:=by
 subst hk;simp[List.getD,List.getElem?_append_left,List.getElem?_append_right,hi]
end
section
def qck {l r:List Ent} (h1:Srt l) (h2:Srt r) (h: ∀a∈l,∀b∈r,leE a b):Srt (l++r):=zA2.2 ⟨h1,h2,h⟩
abbrev smRes (d:List Ent):Option (Unit×(List Ent)×Unit×Unit×Unit×Unit×Unit):=some ((),(d,(),(),(),(),()))
def SmOK (m:Nat):Prop:= ∀(P A B Q:List Ent),P.length+A.length+B.length+Q.length+3+(A.length+B.length)<=m->0<A.length->0<B.length->Srt A->Srt B->P.length+A.length+B.length+Q.length<100000000->
 ∃C,g349 m (P++A++B++Q) (P.length:Int) ((P.length+A.length:Nat):Int) ((P.length+A.length+B.length:Nat):Int)=smRes (P++C++Q)/\Srt C/\List.Perm C (A++B)
def qaw (m:Nat) (ih:SmOK m) (P A B Q:List Ent) (hm:P.length+A.length+B.length+Q.length+3+(A.length+B.length)<=m+1) (hA:2<=A.length) (hB:2<=B.length) (sA:Srt A) (sB:Srt B)
 (hb:P.length+A.length+B.length+Q.length<100000000) (s h:Nat) (hh:h=(A.length+B.length)/2) (hs1:s<=A.length) (hs2:s<=h) (hs3:h-s<=B.length)
 (c1:s=0\/h-s=B.length\/leE (A.getD (s-1) zE) (B.getD (h-s) zE)) (c2:s=A.length\/s=h\/leE (B.getD (h-s-1) zE) (A.getD s zE)):
 ∃C,(if((P.length+s:Nat):Int)<((P.length+A.length:Nat):Int)/\((P.length+A.length:Nat):Int)<((P.length+A.length+(h-s):Nat):Int)then
   (g361 m (P++A++B++Q) ((P.length+s:Nat):Int) ((P.length+A.length:Nat):Int) ((P.length+A.length+(h-s):Nat):Int)).bind λy11=>
     if(P.length:Int)<((P.length+s:Nat):Int)/\((P.length+s:Nat):Int)<((P.length+h:Nat):Int)then
      (g349 m y11.2.1 (P.length:Int) ((P.length+s:Nat):Int) ((P.length+h:Nat):Int)).bind λy12=>
        if((P.length+h:Nat):Int)<((P.length+A.length+(h-s):Nat):Int)/\((P.length+A.length+(h-s):Nat):Int)<((P.length+A.length+B.length:Nat):Int)then
         (g349 m y12.2.1 ((P.length+h:Nat):Int) ((P.length+A.length+(h-s):Nat):Int) ((P.length+A.length+B.length:Nat):Int)).bind λy13=>smRes y13.2.1
        else smRes y12.2.1
     else
      if((P.length+h:Nat):Int)<((P.length+A.length+(h-s):Nat):Int)/\((P.length+A.length+(h-s):Nat):Int)<((P.length+A.length+B.length:Nat):Int)then
       (g349 m y11.2.1 ((P.length+h:Nat):Int) ((P.length+A.length+(h-s):Nat):Int) ((P.length+A.length+B.length:Nat):Int)).bind λy13=>smRes y13.2.1
      else smRes y11.2.1
  else
   if(P.length:Int)<((P.length+s:Nat):Int)/\((P.length+s:Nat):Int)<((P.length+h:Nat):Int)then
      (g349 m (P++A++B++Q) (P.length:Int) ((P.length+s:Nat):Int) ((P.length+h:Nat):Int)).bind λy12=>
        if((P.length+h:Nat):Int)<((P.length+A.length+(h-s):Nat):Int)/\((P.length+A.length+(h-s):Nat):Int)<((P.length+A.length+B.length:Nat):Int)then
         (g349 m y12.2.1 ((P.length+h:Nat):Int) ((P.length+A.length+(h-s):Nat):Int) ((P.length+A.length+B.length:Nat):Int)).bind λy13=>smRes y13.2.1
        else smRes y12.2.1
    else
     if((P.length+h:Nat):Int)<((P.length+A.length+(h-s):Nat):Int)/\((P.length+A.length+(h-s):Nat):Int)<((P.length+A.length+B.length:Nat):Int)then
      (g349 m (P++A++B++Q) ((P.length+h:Nat):Int) ((P.length+A.length+(h-s):Nat):Int) ((P.length+A.length+B.length:Nat):Int)).bind λy13=>smRes y13.2.1
     else smRes (P++A++B++Q))=smRes (P++C++Q)/\Srt C/\List.Perm C (A++B):=by
 have x1: ∀a∈A.take s,∀b∈B.drop (h-s),leE a b:=λa ha b hb=>by
  obtain⟨i,i1,i2,rfl⟩:=Z9 ha;obtain⟨j,j1,j2,rfl⟩:=Zc hb;rcases c1 with c|c|c
  . omega
  . omega
  . exact Ya (Ya (q0a sA (show i<=s-1 by omega) O) c) (q0a sB j1 j2)
 have x2: ∀b∈B.take (h-s),∀a∈A.drop s,leE b a:=λb hb a ha=>by
  obtain⟨i,i1,i2,rfl⟩:=Z9 hb;obtain⟨j,j1,j2,rfl⟩:=Zc ha;rcases c2 with c|c|c
  . omega
  . omega
  . exact Ya (Ya (q0a sB (show i<=h-s-1 by omega) O) c) (q0a sA j1 j2)
 have hAs:=(zh s A).symm;have hBs:=(zh (h-s) B).symm;have sA':Srt (A.take s++A.drop s):=by rw[<-hAs];exact sA
 have sB':Srt (B.take (h-s)++B.drop (h-s)):=by rw[<-hBs];exact sB
 have l1:(A.take s).length=s:=by simp;omega
 have l2:(A.drop s).length=A.length-s:=by simp
 have l3:(B.take (h-s)).length=h-s:=by simp;omega
 have l4:(B.drop (h-s)).length=B.length-(h-s):=by simp
 generalize A.take s=A1 at*
 generalize A.drop s=A2 at*
 generalize B.take (h-s)=B1 at*
 generalize B.drop (h-s)=B2 at*
 obtain⟨sA1,sA2,xA⟩:=zA2.1 sA';obtain⟨sB1,sB2,xB⟩:=zA2.1 sB';have eA:A.length=A1.length+A2.length:=by rw[hAs];simp
 have eB:B.length=B1.length+B2.length:=by rw[hBs];simp
 have right: ∀C1:List Ent,C1.length=h-> ∃C2,(if((P.length+h:Nat):Int)<((P.length+A.length+(h-s):Nat):Int)/\((P.length+A.length+(h-s):Nat):Int)<((P.length+A.length+B.length:Nat):Int)then
       (g349 m (P++C1++A2++B2++Q) ((P.length+h:Nat):Int) ((P.length+A.length+(h-s):Nat):Int) ((P.length+A.length+B.length:Nat):Int)).bind λy13=>smRes y13.2.1
  else smRes (P++C1++A2++B2++Q))=smRes (P++C1++C2++Q)/\Srt C2/\List.Perm C2 (A2++B2):=λC1 hC1=>by
  by_cases e:0<A2.length/\0<B2.length
  . obtain⟨C2,e1,e2,e3⟩:=ih (P++C1) A2 B2 Q (by simp;omega) e.1 e.2 sA2 sB2 (by simp;omega)
    refine⟨C2,?_,e2,e3⟩;rw[iP O]
    rw[show((P.length+h:Nat):Int)=((P++C1).length:Int) by simp;omega,show((P.length+A.length+(h-s):Nat):Int)=(((P++C1).length+A2.length:Nat):Int) by simp;omega,
     show((P.length+A.length+B.length:Nat):Int)=(((P++C1).length+A2.length+B2.length:Nat):Int) by simp;omega,e1]
    rfl
  . refine⟨A2++B2,?_,?_,List.Perm.refl _⟩
    . rw[iN' O];simp
    . have:A2=[]\/B2=[]:=by
       rcases z01 A2.length with h0|h0
       . exact .inl (zH1.1 h0)
       . exact .inr (zH1.1 O)
      rcases this with rfl|rfl
      . simpa using sB2
      . simpa using sA2
 have join: ∀C1 C2:List Ent,Srt C1->List.Perm C1 (A1++B1)->Srt C2->List.Perm C2 (A2++B2)->Srt (C1++C2)/\List.Perm (C1++C2) (A++B):=λC1 C2 s1 p1 s2 p2=>by
  refine⟨qck s1 s2 λa ha b hb=> ?_,?_⟩
  . have ha:=p1.mem_iff.1 ha;have hb:=p2.mem_iff.1 hb;rcases zH.1 ha with ha|ha<;>rcases zH.1 hb with hb|hb
    . exact xA a ha b hb
    . exact x1 a ha b hb
    . exact x2 a ha b hb
    . exact xB a ha b hb
  . rw[hAs,hBs];refine(List.Perm.append p1 p2).trans ?_;rw[zI1,zI1];refine List.Perm.append_left _ ?_;rw[<-List.append_assoc,<-List.append_assoc];exact List.Perm.append_right _ List.perm_append_comm
 have fin: ∀d:List Ent,d=P++A1++B1++A2++B2++Q-> ∃C,(if(P.length:Int)<((P.length+s:Nat):Int)/\((P.length+s:Nat):Int)<((P.length+h:Nat):Int)then
          (g349 m d (P.length:Int) ((P.length+s:Nat):Int) ((P.length+h:Nat):Int)).bind λy12=>
            if((P.length+h:Nat):Int)<((P.length+A.length+(h-s):Nat):Int)/\((P.length+A.length+(h-s):Nat):Int)<((P.length+A.length+B.length:Nat):Int)then
             (g349 m y12.2.1 ((P.length+h:Nat):Int) ((P.length+A.length+(h-s):Nat):Int) ((P.length+A.length+B.length:Nat):Int)).bind λy13=>smRes y13.2.1
            else smRes y12.2.1
       else
        if((P.length+h:Nat):Int)<((P.length+A.length+(h-s):Nat):Int)/\((P.length+A.length+(h-s):Nat):Int)<((P.length+A.length+B.length:Nat):Int)then
         (g349 m d ((P.length+h:Nat):Int) ((P.length+A.length+(h-s):Nat):Int) ((P.length+A.length+B.length:Nat):Int)).bind λy13=>smRes y13.2.1
        else smRes d)=smRes (P++C++Q)/\Srt C/\List.Perm C (A++B):=λd hd=>by
  subst hd;by_cases e:0<s/\s<h
  . obtain⟨C1,e1,e2,e3⟩:=ih P A1 B1 (A2++B2++Q) (by simp;omega) O O sA1 sB1 (by simp;omega)
    have hl:=e3.length_eq;simp only[zL]at hl;obtain⟨C2,f1,f2,f3⟩:=right C1 O;obtain⟨j1,j2⟩:=join C1 C2 e2 e3 f2 f3;refine⟨C1++C2,?_,j1,j2⟩;rw[iP O]
    rw[show P++A1++B1++A2++B2++Q=P++A1++B1++(A2++B2++Q) by simp,show((P.length+s:Nat):Int)=((P.length+A1.length:Nat):Int) by omega,show(g349 m (P++A1++B1++(A2++B2++Q)) (P.length:Int) ((P.length+A1.length:Nat):Int) ((P.length+h:Nat):Int))=smRes (P++C1++(A2++B2++Q)) by
     rw[<-e1];congr 1;omega]
    show(if((P.length+h:Nat):Int)<((P.length+A.length+(h-s):Nat):Int)/\((P.length+A.length+(h-s):Nat):Int)<((P.length+A.length+B.length:Nat):Int)then
            (g349 m (P++C1++(A2++B2++Q)) ((P.length+h:Nat):Int) ((P.length+A.length+(h-s):Nat):Int) ((P.length+A.length+B.length:Nat):Int)).bind λy13=>smRes y13.2.1
          else smRes (P++C1++(A2++B2++Q)))=_
    rw[show P++C1++(A2++B2++Q)=P++C1++A2++B2++Q by simp,f1]
    simp
  . obtain⟨C2,f1,f2,f3⟩:=right (A1++B1) (by simp;omega)
    have hs:Srt (A1++B1):=by
     have:A1=[]\/B1=[]:=by
      rcases z01 A1.length with h0|h0
      . exact .inl (zH1.1 h0)
      . exact .inr (zH1.1 O)
     rcases this with rfl|rfl
     . simpa using sB1
     . simpa using sA1
    obtain⟨j1,j2⟩:=join (A1++B1) C2 hs (List.Perm.refl _) f2 f3;refine⟨(A1++B1)++C2,?_,j1,j2⟩;rw[iN' O,show P++A1++B1++A2++B2++Q=P++(A1++B1)++A2++B2++Q by simp,f1]
    simp
 have hd0:P++A++B++Q=(P++A1)++A2++B1++(B2++Q):=by rw[hAs,hBs];simp
 by_cases e:0<A2.length/\0<B1.length
 . rw[iP O,hd0,qhg (m:=m) (P++A1) A2 B1 (B2++Q) e.1 e.2 O (by simp;omega) (by simp;omega) (by simp;omega) (by simp;omega)]
   exact fin _ (by simp)
 . rw[iN' O];refine fin _ ?_
   have:A2=[]\/B1=[]:=by
    rcases z01 A2.length with h0|h0
    . exact .inl (zH1.1 h0)
    . exact .inr (zH1.1 O)
   rcases this with rfl|rfl
   . rw[hAs,hBs];simp
   . rw[hAs,hBs];simp
end
section
def q1h: ∀m,SmOK m
 |0=>λP A B Q h=>O
 |m+1=>λP A B Q hm hA hB sA sB hb=>by
  have ih:=q1h m;have hlen:(P++A++B++Q).length=P.length+A.length+B.length+Q.length:=by simp;omega
  rw[g349];simp only[bif_eq];by_cases h1:A.length=1
  ·
   obtain⟨x,rfl⟩:=List.length_eq_one_iff.1 h1;rw[iP (by rw[wQ,wi (by simp<;>omega) (by simp<;>omega)];simp<;>omega)]
   simp only[zq,zk2,zI]at*;have gx:(P++[x]++B++Q).getD P.length zE=x:=by rw[show P++[x]++B++Q=P++x::(B++Q) by simp];exact getD_at rfl
   have gb: ∀i,i<B.length->(P++[x]++B++Q).getD (P.length+1+i) zE=B.getD i zE:=λi hi=>q4f hi (by simp)
   obtain⟨r,e1,b1,b2,b3,b4⟩:=sm_L0 (λa0 a1 a2 a3=>g349 m a0 a1 a2 a3) m O (P++[x]++B++Q) O (a:=P.length) (lo:=P.length+1) (hi:=P.length+1+B.length) O O m (P.length+1) (P.length+1+B.length) O O (zD _) (zD _) (.inl rfl) (.inl rfl)
   obtain⟨k,rfl⟩: ∃k,r=P.length+1+k:=⟨r-(P.length+1),O⟩;have hk:k<=B.length:=O;dsimp only at b3 b4;rw[gx]at b3 b4;have hBs:=(zh k B).symm;have l1:(B.take k).length=k:=by simp;omega
   have y1: ∀b∈B.take k,leE b x:=λb hb=>by
    obtain⟨i,i1,i2,rfl⟩:=Z9 hb;rcases b3 with c|c
    . omega
    . rw[show P.length+1+k-1=P.length+1+(k-1) by omega,gb (k-1) O]at c
      exact Ya (q0a sB (show i<=k-1 by omega) O) (q06 c)
   have y2: ∀b∈B.drop k,leE x b:=λb hb=>by
    obtain⟨i,i1,i2,rfl⟩:=Zc hb;rcases b4 with c|c
    . omega
    . rw[gb k O]at c;exact Ya (show leE x (B.getD k zE)from c) (q0a sB i1 i2)
   have sB':Srt (B.take k++B.drop k):=by rw[<-hBs];exact sB
   generalize B.take k=B1 at*
   generalize B.drop k=B2 at*
   obtain⟨s1,s2,s3⟩:=zA2.1 sB';refine⟨B1++x::B2,?_,qck s1 (zX2.2 ⟨y2,s2⟩) (λa ha b hb=> ?_),?_⟩
   . rw[show((P.length:Nat):Int)=((P.length:Nat):Int)from rfl,e1]
     simp only[bS];have h3:=sm_L1 (λa0 a1 a2 a3=>g349 m a0 a1 a2 a3) m x (B2++Q) B1 P m O (by rw[hBs]at hb;simp at hb⊢;omega)
     rw[show P++[x]++B++Q=P++x::(B1++(B2++Q)) by rw[hBs];simp,show((P.length+1+k:Nat):Int)=((P.length+1+B1.length:Nat):Int) by omega,h3]
     simp
   . rcases mC hb with rfl|hb
     . exact y1 a ha
     . exact s3 a ha b hb
   . rw[hBs];exact(zI3).trans (by simp)
  . rw[iN' (by rw[wQ,wi O O];omega)]
    by_cases h2:B.length=1
    . obtain⟨y,rfl⟩:=List.length_eq_one_iff.1 h2;rw[iP (by rw[wQ,wi (by simp<;>omega) (by simp<;>omega)];simp<;>omega)]
      simp only[zq,zk2,zI]at*;have gy:(P++A++[y]++Q).getD (P.length+A.length) zE=y:=by rw[show P++A++[y]++Q=(P++A)++y::Q by simp];exact getD_at (by simp)
      have ga: ∀i,i<A.length->(P++A++[y]++Q).getD (P.length+i) zE=A.getD i zE:=λi hi=>by
       rw[show P++A++[y]++Q=P++A++([y]++Q) by simp];exact q4f hi rfl
      obtain⟨r,e1,b1,b2,b3,b4⟩:=sm_L2 (λa0 a1 a2 a3=>g349 m a0 a1 a2 a3) m O (P++A++[y]++Q) O (a:=P.length+A.length) (lo:=P.length) (hi:=P.length+A.length) O O m P.length (P.length+A.length) O O (zD _) (zD _) (.inl rfl) (.inl rfl)
      obtain⟨k,rfl⟩: ∃k,r=P.length+k:=⟨r-P.length,O⟩;have hk:k<=A.length:=O;dsimp only at b3 b4;rw[gy]at b3 b4;have hAs:=(zh k A).symm;have l1:(A.take k).length=k:=by simp;omega
      have l2:(A.drop k).length=A.length-k:=by simp
      have y1: ∀a∈A.take k,leE a y:=λa ha=>by
       obtain⟨i,i1,i2,rfl⟩:=Z9 ha;rcases b3 with c|c
       . omega
       . rw[show P.length+k-1=P.length+(k-1) by omega,ga (k-1) O]at c
         exact Ya (q0a sA (show i<=k-1 by omega) O) (by simpa [leE]using c)
      have y2: ∀a∈A.drop k,leE y a:=λa ha=>by
       obtain⟨i,i1,i2,rfl⟩:=Zc ha;rcases b4 with c|c
       . omega
       . rw[ga k O]at c;exact Ya (q06 (by simpa using c)) (q0a sA i1 i2)
      have sA':Srt (A.take k++A.drop k):=by rw[<-hAs];exact sA
      generalize A.take k=A1 at*
      generalize A.drop k=A2 at*
      obtain⟨s1,s2,s3⟩:=zA2.1 sA';refine⟨A1++y::A2,?_,qck s1 (zX2.2 ⟨y2,s2⟩) (λa ha b hb=> ?_),?_⟩
      . rw[e1];simp only[bS];have h3:=sm_L3 (λa0 a1 a2 a3=>g349 m a0 a1 a2 a3) m y (P++A1) A2.reverse Q m (by simp;omega) (by simp;omega)
        simp only[List.reverse_reverse,List.length_reverse]at h3;rw[show P++A++[y]++Q=P++A1++A2++y::Q by rw[hAs];simp,show((P.length+k:Nat):Int)=((P++A1).length:Int) by simp;omega,show((P.length+A.length:Nat):Int)=(((P++A1).length+A2.length:Nat):Int) by simp;omega,h3]
        simp
      . rcases mC hb with rfl|hb
        . exact y1 a ha
        . exact s3 a ha b hb
      . rw[hAs];refine(zI3).trans ?_;exact(List.perm_append_singleton y (A1++A2)).symm
    . rw[iN' (by rw[wQ,wi O O];omega)]
      obtain⟨h,hh⟩: ∃h,h=(A.length+B.length)/2:=⟨_,rfl⟩
      have emid:wI (shr_ .u64 (wJ (wI ((P.length:Int)+((P.length+A.length+B.length:Nat):Int)))) 1)=((P.length+h:Nat):Int):=by
       rw[q8p O];omega
      have en:wI (((P.length+h:Nat):Int)+((P.length+A.length:Nat):Int))=((2*P.length+h+A.length:Nat):Int):=by rw[wQ,wi O O];omega
      have ep:wI (((2*P.length+h+A.length:Nat):Int)-1)=((2*P.length+h+A.length-1:Nat):Int):=by rw[wQ,wi O O];omega
      have ga: ∀i,i<A.length->(P++A++B++Q).getD (P.length+i) zE=A.getD i zE:=λi hi=>by
       rw[show P++A++B++Q=P++A++(B++Q) by simp];exact q4f hi rfl
      have gb: ∀i,i<B.length->(P++A++B++Q).getD (P.length+A.length+i) zE=B.getD i zE:=λi hi=>q4f hi (by simp)
      have eend: ∀s,s<=h->wI (((2*P.length+h+A.length:Nat):Int)-((P.length+s:Nat):Int))=((P.length+A.length+(h-s):Nat):Int):=λs hs=>by rw[wQ,wi O O];omega
      have done: ∀lo hi,lo<=hi->hi<=h->hi<=A.length->h-lo<=B.length->(lo=0\/h-lo=B.length)->(hi=A.length\/hi=h)->
       ∃s,g349L4 (λa0 a1 a2 a3=>g349 m a0 a1 a2 a3) m m (P++A++B++Q) (P.length:Int) ((P.length+A.length:Nat):Int) ((P.length+A.length+B.length:Nat):Int) ((P.length+h:Nat):Int) ((2*P.length+h+A.length:Nat):Int) ((P.length+lo:Nat):Int) ((P.length+hi:Nat):Int) ((2*P.length+h+A.length-1:Nat):Int)=
         some (.inl (P++A++B++Q,(P.length:Int),((P.length+A.length:Nat):Int),((P.length+A.length+B.length:Nat):Int),(),((P.length+h:Nat):Int),((2*P.length+h+A.length:Nat):Int),((P.length+s:Nat):Int),()))/\s<=A.length/\s<=h/\h-s<=B.length/\
         (s=0\/h-s=B.length\/leE (A.getD (s-1) zE) (B.getD (h-s) zE))/\(s=A.length\/s=h\/leE (B.getD (h-s-1) zE) (A.getD s zE)):=λlo hi g1 g2 g3 g4 g5 g6=>by
       obtain⟨r,e1,b1,b2,b3,b4⟩:=sm_L4 (λa0 a1 a2 a3=>g349 m a0 a1 a2 a3) m O (P++A++B++Q) O (p:=2*P.length+h+A.length-1) (lo:=P.length+lo) (hi:=P.length+hi) O (λc hc1 hc2=>O) O
        (P.length:Int) ((P.length+A.length:Nat):Int) ((P.length+A.length+B.length:Nat):Int) ((P.length+h:Nat):Int) ((2*P.length+h+A.length:Nat):Int) m (P.length+lo) (P.length+hi) O O (zD _) (zD _) (.inl rfl) (.inl rfl)
       obtain⟨s,rfl⟩: ∃s,r=P.length+s:=⟨r-P.length,O⟩;dsimp only at b3 b4;refine⟨s,e1,O,O,O,?_,?_⟩
       . rcases b3 with c|c
         . omega
         . by_cases q1:s=0
           . exact .inl q1
           . by_cases q2:h-s=B.length
             . exact .inr (.inl q2)
             . have e3:2*P.length+h+A.length-1-(P.length+s-1)=P.length+A.length+(h-s):=O;rw[e3,show P.length+s-1=P.length+(s-1) by omega,gb (h-s) O,ga (s-1) O]at c
               exact .inr (.inr (by simpa [leE]using c))
       . rcases b4 with c|c
         . omega
         . by_cases q1:s=A.length
           . exact .inl q1
           . by_cases q2:s=h
             . exact .inr (.inl q2)
             . have e3:2*P.length+h+A.length-1-(P.length+s)=P.length+A.length+(h-s-1):=O;rw[e3,gb (h-s-1) O,ga s O]at c;exact .inr (.inr (q06 (by simpa using c)))
      have fin: ∀s,s<=A.length->s<=h->h-s<=B.length->(s=0\/h-s=B.length\/leE (A.getD (s-1) zE) (B.getD (h-s) zE))->(s=A.length\/s=h\/leE (B.getD (h-s-1) zE) (A.getD s zE))->_:=
       λs q1 q2 q3 q4 q5=>qaw m ih P A B Q hm O O sA sB hb s h hh q1 q2 q3 q4 q5
      simp only[emid,en,ep,bQ];by_cases g:((P.length+A.length:Nat):Int)>((P.length+h:Nat):Int)
      . rw[iP g];obtain⟨s,e1,q1,q2,q3,q4,q5⟩:=done (h-B.length) h O (zD _) O O O (.inr rfl);obtain⟨C,f1,f2,f3⟩:=fin s q1 q2 q3 q4 q5;refine⟨C,?_,f2,f3⟩;rw[show wI (((2*P.length+h+A.length:Nat):Int)-((P.length+A.length+B.length:Nat):Int))=((P.length+(h-B.length):Nat):Int) by rw[wQ,wi O O];omega,e1]
        simp only[bS,<-bQ];simp only[qgc,qky,eend s q2];exact f1
      . rw[iN' g];obtain⟨s,e1,q1,q2,q3,q4,q5⟩:=done 0 A.length O O (zD _) O (.inl rfl) (.inl rfl);obtain⟨C,f1,f2,f3⟩:=fin s q1 q2 q3 q4 q5;refine⟨C,?_,f2,f3⟩;rw[show(((P.length+0:Nat):Int))=(P.length:Int) by simp]at e1
        rw[e1];simp only[bS,<-bQ];simp only[qgc,qky,eend s q2];exact f1
end
section
inductive Full (k:Nat):List Ent->Prop where
 |nil:Full k []
 |cons {A r:List Ent}:A.length=k->Srt A->Full k r->Full k (A++r)
inductive Blk (k:Nat):List Ent->Prop where
 |last {l:List Ent}:l.length<=k->Srt l->Blk k l
 |cons {A r:List Ent}:A.length=k->Srt A->Blk k r->Blk k (A++r)
def Full.snoc {k:Nat} {X A:List Ent} (h:Full k X) (h1:A.length=k) (h2:Srt A):Full k (X++A):=by
 induction h with
 |nil=>have:=Full.cons h1 h2 .nil;simpa using this
 |cons a b _ ih=>rw[zI1];exact .cons a b ih
def Full.blk {k:Nat} {X Y:List Ent} (h:Full k X) (hY:Blk k Y):Blk k (X++Y):=by
 induction h with
 |nil=>simpa using hY
 |cons a b _ ih=>rw[zI1];exact .cons a b ih
def Blk.split {k:Nat} {Y:List Ent} (h:Blk k Y) (hl:k<=Y.length): ∃A r,Y=A++r/\A.length=k/\Srt A/\Blk k r:=by
 cases h with
 |last h1 h2=>exact⟨Y,[],by simp,O,h2,.last (by simp) (by simp)⟩
 |cons h1 h2 h3=>exact⟨_,_,rfl,h1,h2,h3⟩
def Blk.short {k:Nat} {Y:List Ent} (h:Blk k Y) (hl:Y.length<=k):Srt Y:=by
 cases h with
 |last h1 h2=>exact h2
 |cons h1 h2 h3=>
  rename_i A r;have:r=[]:=zH1.1 (by simp at hl;omega)
  subst this;simpa using h2
def q2i {m:Nat} (P T Q:List Ent) (hb:P.length+Q.length<400000000) (hm:T.length+1<m) (hl:T.length<400000000):
 ∃S',g348 m (P++T++Q) (P.length:Int) ((P.length+T.length:Nat):Int)=some ((),(P++S'++Q,(),(),(),()))/\Srt S'/\List.Perm S' T:=by
 by_cases h:T=[]
 . subst h;refine⟨[],?_,by simp,List.Perm.refl _⟩
   obtain⟨n,rfl⟩: ∃n,m=n+1:=⟨m-1,O⟩;rw[g348,g348L0];simp only[bQ];rw[iN' (by rw[wQ,wi O O];simp<;>omega)]
   rfl
 . exact qaq P T Q hb hm hl h
def qbb (m N:Nat) (hm:N+30<=m) (hN:N<100000000): ∀(n:Nat) (Y X:List Ent),Y.length<n->X.length+Y.length=N->Full 20 X->
 ∃X' Y':List Ent,g332L0 m n (X++Y) (N:Int) 20 (X.length:Int) ((X.length+20:Nat):Int)=some (.inl (X'++Y',(N:Int),(),20,(X'.length:Int),()))/\Full 20 X'/\Y'.length<20/\X'.length+Y'.length=N/\List.Perm (X'++Y') (X++Y)
 |0,Y,X,h,_,_=>absurd h (zW _)
 |n+1,Y,X,h,hl,hF=>by
  simp only[g332L0,bQ];by_cases e:X.length+20<=N
  . rw[iP O];have hY:=(zh 20 Y).symm;have l1:(Y.take 20).length=20:=by simp;omega
    have l2:(Y.drop 20).length=Y.length-20:=by simp
    generalize Y.take 20=A at*
    generalize Y.drop 20=Y1 at*
    obtain⟨S,e1,e2,e3⟩:=q2i (m:=m) X A Y1 O O O;have hSl:=e3.length_eq;obtain⟨X',Y',f1,f2,f3,f4,f5⟩:=qbb m N hm hN n Y1 (X++S) O (by simp;omega) (hF.snoc O e2)
    refine⟨X',Y',?_,f2,f3,f4,f5.trans ?_⟩
    . rw[hY,show X++(A++Y1)=X++A++Y1 by simp,show((X.length+20:Nat):Int)=((X.length+A.length:Nat):Int) by omega,e1]
      simp only[bS];rw[show wI (((X.length+A.length:Nat):Int)+20)=(((X++S).length+20:Nat):Int) by rw[wQ,wi O O];simp;omega,show((X.length+A.length:Nat):Int)=((X++S).length:Int) by simp;omega]
      exact f1
    . rw[hY,zI1];exact List.Perm.append_left _ (List.Perm.append_right _ e3)
  . rw[iN' O];exact⟨X,Y,rfl,hF,O,hl,List.Perm.refl _⟩
def q9i (m N k:Nat) (hk:0<k) (hm:2*N+10<=m) (hN:N<50000000) (hkN:k<N): ∀(n:Nat) (Y X:List Ent),Y.length<n->X.length+Y.length=N->Full (2*k) X->Blk k Y->
 ∃X' Y':List Ent,g332L2 m n (X++Y) (N:Int) (k:Int) (X.length:Int) ((X.length+2*k:Nat):Int)=some (.inl (X'++Y',(N:Int),(),(k:Int),(X'.length:Int),()))/\Full (2*k) X'/\Blk k Y'/\Y'.length<2*k/\X'.length+Y'.length=N/\List.Perm (X'++Y') (X++Y)
 |0,Y,X,h,_,_,_=>absurd h (zW _)
 |n+1,Y,X,h,hl,hF,hB=>by
  simp only[g332L2,bQ];by_cases e:X.length+2*k<=N
  . rw[iP O];obtain⟨A,Y1,rfl,a1,a2,a3⟩:=hB.split O;simp only[zL]at*;obtain⟨B,Y2,rfl,b1,b2,b3⟩:=a3.split O;simp only[zL]at*;obtain⟨C,e1,e2,e3⟩:=q1h m X A B Y2 O O O a2 b2 O;have hSl:=e3.length_eq;simp only[zL]at hSl;obtain⟨X',Y',f1,f2,f3,f4,f5,f6⟩:=q9i m N k hk hm hN hkN n Y2 (X++C) O (by simp;omega) (hF.snoc O e2) b3
    refine⟨X',Y',?_,f2,f3,f4,f5,f6.trans ?_⟩
    . rw[show X++(A++(B++Y2))=X++A++B++Y2 by simp,show wI ((X.length:Int)+(k:Int))=((X.length+A.length:Nat):Int) by rw[wQ,wi O O];omega,show((X.length+2*k:Nat):Int)=((X.length+A.length+B.length:Nat):Int) by omega,e1]
      simp only[bS]
      rw[show wI (((X.length+A.length+B.length:Nat):Int)+wI (2*(k:Int)))=(((X++C).length+2*k:Nat):Int) by
       rw[wQ,wQ,wi (n:=2*(k:Int)) O O,wi O O];simp;omega,show((X.length+A.length+B.length:Nat):Int)=((X++C).length:Int) by simp;omega]
      exact f1
    . rw[zI1];refine List.Perm.append_left _ ?_;rw[<-List.append_assoc];exact List.Perm.append_right _ e3
  . rw[iN' O];exact⟨X,Y,rfl,hF,hB,O,hl,List.Perm.refl _⟩
def q5j (m N:Nat) (hm:2*N+10<=m) (hN:N<50000000): ∀(n k:Nat) (D:List Ent),N-k<n->0<k->k<100000000->D.length=N->Blk k D->
 ∃D',g332L1 m n D (N:Int) (k:Int)=some (.inl (D',()))/\Srt D'/\List.Perm D' D
 |0,k,D,h,_,_,_,_=>absurd h (zW _)
 |n+1,k,D,h,hk,hk2,hD,hB=>by
  simp only[g332L1,bQ];by_cases e:k<N
  . rw[iP O];obtain⟨X',Y',f1,f2,f3,f4,f5,f6⟩:=q9i m N k hk hm hN e m D [] O (by simpa using hD) .nil hB
    simp only[zx1,zk2,zI]at f1 f6;rw[show wI (2*(k:Int))=((2*k:Nat):Int) by rw[wQ,wi O O];omega,show(0:Int)=((0:Nat):Int)from rfl,f1]
    simp only[bS];rw[show wI ((k:Int)*2)=((2*k:Nat):Int) by rw[wQ,wi O O];omega]
    rw[show wI ((X'.length:Int)+(k:Int))=((X'.length+k:Nat):Int) by rw[wQ,wi O O];omega]
    by_cases g:X'.length+k<N
    . rw[iP O];obtain⟨A,r,rfl,a1,a2,a3⟩:=f3.split O;simp only[zL]at*;have hr:=a3.short O;obtain⟨C,e1,e2,e3⟩:=q1h m X' A r [] (by simp;omega) O O a2 hr (by simp;omega)
      simp only[zL1]at e1;have hSl:=e3.length_eq;simp only[zL]at hSl;obtain⟨D',g1,g2,g3⟩:=q5j m N hm hN n (2*k) (X'++C) O O O (by simp;omega) (f2.blk (.last O e2))
      refine⟨D',?_,g2,g3.trans ?_⟩
      . rw[show X'++(A++r)=X'++A++r by simp,show((X'.length+k:Nat):Int)=((X'.length+A.length:Nat):Int) by omega,show(N:Int)=((X'.length+A.length+r.length:Nat):Int) by omega,e1]
        simp only[bS];rw[show((X'.length+A.length+r.length:Nat):Int)=(N:Int) by omega]
        exact g1
      . exact(List.Perm.append_left _ e3).trans f6
    . rw[iN' O];have hs:=f3.short O;obtain⟨D',g1,g2,g3⟩:=q5j m N hm hN n (2*k) (X'++Y') O O O (by simp;omega) (f2.blk (.last O hs))
      exact⟨D',g1,g2,g3.trans f6⟩
  . rw[iN' O];exact⟨D,rfl,hB.short O,List.Perm.refl _⟩
def q81 {m:Nat} (D:List Ent) (hm:2*D.length+60<=m) (hN:D.length<50000000): ∃D',g286 m D=some ((),(D',(),()))/\Srt D'/\List.Perm D' D:=by
 obtain⟨X,Y,f1,f2,f3,f4,f5⟩:=qbb m D.length O O m D [] O (by simp) .nil
 simp only[zx1,zk2,zI]at f1 f5;obtain⟨S,e1,e2,e3⟩:=q2i (m:=m) X Y [] (by simp;omega) O O
 simp only[zL1]at e1;have hSl:=e3.length_eq;obtain⟨D',g1,g2,g3⟩:=q5j m D.length O hN m 20 (X++S) O O O (by simp;omega) (f2.blk (.last O e2))
 refine⟨D',?_,g2,g3.trans ((List.Perm.append_left _ e3).trans f5)⟩;rw[g286,g332,show g332L0 m m D (D.length:Int) 20 0 20=_ from f1]
 simp only[bS];rw[show(D.length:Int)=((X.length+Y.length:Nat):Int) by omega,e1]
 simp only[bS];rw[show((X.length+Y.length:Nat):Int)=(D.length:Int) by omega,show g332L1 m m (X++S) (D.length:Int) 20=_ from g1]
 rfl
def g204eq {m:Nat} (D:List Ent) (hm:2*D.length+60<=m) (hN:D.length<50000000): ∃D',g204 m D=some (D',(),())/\Srt D'/\List.Perm D' D:=by
 obtain⟨D',h1,h2,h3⟩:=q81 D hm hN;refine⟨D',?_,h2,h3⟩;rw[g204,g285,iP (by simp;omega)]
 simp only[bS];rw[h1];rfl
end
section
def canE (es:List Ent) (r j:Nat):List Ent:=(colR es j 0 r).map λi:Nat=>((i:Int),((j:Int),(es.getD (Qs es i j es.length-1) zE).2.2))
def can (es:List Ent) (r:Nat):Nat->List Ent
 |0=>[]
 |j+1=>can es r j++canE es r j
def DistE (es:List Ent):Prop:= ∀k k',k<es.length->k'<es.length->(es.getD k zE).1=(es.getD k' zE).1->(es.getD k zE).2.1=(es.getD k' zE).2.1->k=k'
section
variable {es:List Ent} {r c:Nat}
def can_I: ∀j,(can es r j).map (·.1)=packI es r j
 |0=>rfl
 |j+1=>by simp only[can,packI,zy1,can_I j,canE,colI,zV3];rfl
def can_V: ∀j,(can es r j).map (·.2.2)=packV es r j
 |0=>rfl
 |j+1=>by simp only[can,packV,zy1,can_V j,canE,colV,zV3];rfl
def EntsOK.at (hE:EntsOK r c es) {k:Nat} (hk:k<es.length):(0<=(es.getD k zE).1/\(es.getD k zE).1<(r:Int))/\(0<=(es.getD k zE).2.1/\(es.getD k zE).2.1<(c:Int))/\finB (es.getD k zE).2.2=true:=hE k hk
def q2q {i j:Nat}: ∀{t:Nat},0<Qs es i j t->Qs es i j t-1<t/\(es.getD (Qs es i j t-1) zE).1=(i:Int)/\(es.getD (Qs es i j t-1) zE).2.1=(j:Int)
 |0,h=>by simp[Qs]at h
 |t+1,h=>by
  rw[Qs]at h⊢;by_cases e:(es.getD t (0,(0,0))).1=(i:Int)/\(es.getD t (0,(0,0))).2.1=(j:Int)
  . rw[iP e];exact⟨O,e⟩
  . rw[iN' e]at h⊢;obtain⟨h1,h2⟩:=q2q h;exact⟨O,h2⟩
def q64 {i j:Nat}: ∀{t k:Nat},k<t->(es.getD k zE).1=(i:Int)->(es.getD k zE).2.1=(j:Int)->0<Qs es i j t
 |0,k,h,_,_=>absurd h (zW _)
 |t+1,k,h,h1,h2=>by
  rw[Qs];by_cases e:(es.getD t (0,(0,0))).1=(i:Int)/\(es.getD t (0,(0,0))).2.1=(j:Int)
  . rw[iP e];omega
  . rw[iN' e];rcases zE1 k t with hk|hk
    . exact q64 hk h1 h2
    . have:k=t:=O;subst this;exact absurd ⟨h1,h2⟩ e
def q4m {j:Nat} {x:Ent}:x∈canE es r j↔ ∃i,i<r/\0<Qs es i j es.length/\x=((i:Int),((j:Int),(es.getD (Qs es i j es.length-1) zE).2.2)):=by
 unfold canE colR;simp only[zQ,zd1,zo2,decide_eq_true_eq];constructor
 . rintro ⟨i,⟨h1,h2⟩,rfl⟩;exact⟨i,O,h2,rfl⟩
 . rintro ⟨i,h1,h2,rfl⟩;exact⟨i,⟨⟨O,O⟩,h2⟩,rfl⟩
def q5p {x:Ent}: ∀{c:Nat},x∈can es r c↔ ∃i j,i<r/\j<c/\0<Qs es i j es.length/\x=((i:Int),((j:Int),(es.getD (Qs es i j es.length-1) zE).2.2))
 |0=>by simp[can]
 |c+1=>by
  simp only[can,zH,q5p (c:=c),q4m];constructor
  . rintro (⟨i,j,h1,h2,h3,h4⟩|⟨i,h1,h3,h4⟩)
    . exact⟨i,j,h1,O,h3,h4⟩
    . exact⟨i,c,h1,O,h3,h4⟩
  . rintro ⟨i,j,h1,h2,h3,h4⟩
    by_cases e:j=c
    . subst e;exact .inr ⟨i,h1,h3,h4⟩
    . exact .inl ⟨i,j,h1,O,h3,h4⟩
def qin (j:Nat):(canE es r j).Pairwise (λa b=>a.2.1=b.2.1/\a.1<b.1):=by
 unfold canE;rw[List.pairwise_map]
 have:(colR es j 0 r).Pairwise (· < ·):=by
  unfold colR;exact List.Pairwise.filter _ (List.pairwise_lt_range' (s:=0) (n:=r) (step:=1) O)
 exact this.imp λh=>⟨rfl,by simpa using h⟩
def q88: ∀c,(can es r c).Pairwise (λa b=>ltE a b=true)
 |0=>by simp[can]
 |c+1=>by
  rw[can,zA2];refine⟨q88 c,(qin c).imp λh=> ?_,λa ha b hb=> ?_⟩
  . unfold ltE;simp[h.1,h.2]
  . obtain⟨i,j,h1,h2,h3,rfl⟩:=q5p.1 ha;obtain⟨i',g1,g3,rfl⟩:=q4m.1 hb;unfold ltE;simp;omega
def qm9 (c:Nat):Srt (can es r c):=(q88 c).imp λh=>q06 h
def qn1 {a b:Ent} (h:ltE a b=true):a≠b:=by rintro rfl;unfold ltE at h;simp at h
def qio (c:Nat):(can es r c).Nodup:=(q88 c).imp λh=>qn1 h
def qf7 (hD:DistE es):es.Nodup:=by
 rw[List.nodup_iff_pairwise_ne,List.pairwise_iff_getElem];intro i j hi hj hij e;have:=hD i j hi hj (by simp[List.getD,hi,hj,e]) (by simp[List.getD,hi,hj,e])
 omega
def qeo (hE:EntsOK r c es) (hD:DistE es):List.Perm es (can es r c):=by
 rw[List.perm_ext_iff_of_nodup (qf7 hD) (qio c)];intro x;rw[q5p];constructor
 . intro hx;obtain⟨k,hk,rfl⟩:=Yq hx;obtain⟨⟨a1,a2⟩,⟨b1,b2⟩,_⟩:=hE.at hk;have e1:((es.getD k zE).1.toNat:Int)=(es.getD k zE).1:=O;have e2:((es.getD k zE).2.1.toNat:Int)=(es.getD k zE).2.1:=O;have hp:=q64 (t:=es.length) hk e1.symm e2.symm;obtain⟨h1,h2,h3⟩:=q2q hp;refine⟨_,_,O,O,hp,?_⟩;have:=hD k _ hk h1 (by rw[h2,e1]) (by rw[h3,e2])
   rw[<-this,e1,e2]
 . rintro ⟨i,j,h1,h2,h3,rfl⟩
   obtain⟨g1,g2,g3⟩:=q2q h3;rw[show((i:Int),((j:Int),(es.getD (Qs es i j es.length-1) zE).2.2))=es.getD (Qs es i j es.length-1) zE by rw[<-g2,<-g3]]
   simp[List.getD,g1]
def qf3 (hE:EntsOK r c es) (hD:DistE es) {L:List Ent} (h1:Srt L) (h2:List.Perm L es):L=can es r c:=by
 refine List.Perm.eq_of_pairwise (le:=leE) (λa b ha hb h3 h4=> ?_) h1 (qm9 c) (h2.trans (qeo hE hD))
 have ha:=h2.mem_iff.1 ha;have hb:=(qeo hE hD).mem_iff.2 hb;obtain⟨k,hk,rfl⟩:=Yq ha;obtain⟨k',hk',rfl⟩:=Yq hb;unfold leE ltE at h3 h4;simp only[zb2,decide_eq_false_iff_not,Bool.and_eq_false_iff]at h3 h4;rw[hD k k' hk hk' O O]
def cEq (L:List Ent) (j:Nat):Nat:=L.countP λx=>decide (x.2.1=(j:Int))
def cLt (L:List Ent) (j:Nat):Nat:=L.countP λx=>decide (x.2.1<(j:Int))
def qju {L:List Ent} {x:Ent} {j:Nat}:cEq (L++[x]) j=cEq L j+(if x.2.1=(j:Int)then 1 else 0):=by
 unfold cEq;rw[List.countP_append];simp[zJ3]
def qkc {L:List Ent} (hx: ∀x∈L,0<=x.2.1): ∀{j:Nat},cLt L (j+1)=cLt L j+cEq L j:=by
 intro j;unfold cLt cEq;induction L with
 |nil=>rfl
 |cons x L ih=>
  have h0:=hx x mS;rw[zJ3,zJ3,zJ3,ih λy hy=>hx y (mT hy)]
  rcases Int.lt_trichotomy x.2.1 (j:Int)with h|h|h
  . have a:x.2.1<((j+1:Nat):Int):=O;have b: ¬x.2.1=(j:Int):=O;simp only[a,h,b,decide_true,decide_false,if_true,zo1,if_false];omega
  . have a:x.2.1<((j+1:Nat):Int):=O;have b: ¬x.2.1<(j:Int):=O;rw[iP (decide_eq_true a),iN' (by simpa using b),iP (decide_eq_true h)];omega
  . have a: ¬x.2.1<((j+1:Nat):Int):=O;have b: ¬x.2.1=(j:Int):=O;have d: ¬x.2.1<(j:Int):=O;simp only[a,d,b,decide_false,zo1,if_false];omega
def qek (m:Nat) (t1 a0 a1:Int) (a2 a3 a4:LI) (b0 b1:Int) {L:List Ent} (hc:c<=200) (hL:L.length<=1000000) (hx: ∀x∈L,0<=x.2.1/\x.2.1<(c:Int)): ∀(L2 L1:List Ent) (n:Nat) (S I V:LI),L=L1++L2->L2.length<n->
 S.length=c+1->S.getD 0 0=0->(∀j,j<c->S.getD (j+1) 0=(cEq L1 j:Int))->I=L1.map (·.1)->V=L1.map (·.2.2)->
 ∃S',g131L0 m n t1 a0 a1 a2 a3 a4 b0 b1 S I V L (L.length:Int) (L1.length:Int)=some (.inl (t1,(a0,a1,a2,a3,a4,()),(b0,b1,S',L.map (·.1),L.map (·.2.2),()),()))/\
  S'.length=c+1/\S'.getD 0 0=0/\ ∀j,j<c->S'.getD (j+1) 0=(cEq L j:Int)
 |L2,L1,0,S,I,V,_,h,_,_,_,_,_=>absurd h (zW _)
 |[],L1,n+1,S,I,V,hd,_,h1,h2,h3,h4,h5=>by
  have:L=L1:=by simpa using hd
  subst this;refine⟨S,?_,h1,h2,h3⟩;rw[g131L0,bQ,iN' O,h4,h5]
 |x::L2,L1,n+1,S,I,V,hd,h,h1,h2,h3,h4,h5=>by
  have hlen:L.length=L1.length+1+L2.length:=by rw[hd];simp;omega
  have gx:L.getD (0+(L1.length:Int).toNat) zE=x:=by rw[hd];exact getD_at O
  obtain⟨x1,x2⟩:=hx x (by rw[hd];simp)
  have ex:wI (x.2.1+1)=((x.2.1.toNat+1:Nat):Int):=by rw[wQ,wi O O];omega
  have il:I.length=L1.length:=by rw[h4];simp
  have vl:V.length=L1.length:=by rw[h5];simp
  have hcnt:=h3 x.2.1.toNat O;have hcb:cEq L1 x.2.1.toNat<=L1.length:=List.countP_le_length
  obtain⟨S',e1,e2,e3,e4⟩:=qek m t1 a0 a1 a2 a3 a4 b0 b1 hc hL hx L2 (L1++[x]) n (S.set (x.2.1.toNat+1) ((cEq L1 x.2.1.toNat:Int)+1)) (I++[x.1]) (V++[x.2.2]) (by rw[hd];simp) (by simp at h;omega)
   (by simpa using h1) (by rw[List.getD_eq_getElem?_getD,List.getElem?_set_ne O,<-List.getD_eq_getElem?_getD];exact h2)
   (fun j hj=>by
     rw[qju];by_cases e:x.2.1.toNat=j
     . subst e;rw[iP O,List.getD_eq_getElem?_getD,List.getElem?_set_self O];simp
     . rw[iN' O,List.getD_eq_getElem?_getD,List.getElem?_set_ne O,<-List.getD_eq_getElem?_getD,h3 j hj];simp)
   (by rw[h4];simp) (by rw[h5];simp)
  refine⟨S',?_,e2,e3,e4⟩;rw[g131L0,bQ,iP O];simp only[gx,ex];rw[iP O,iP (by simp;omega),iP (by simp;omega),iP O,iP O]
  rw[show 0+((x.2.1.toNat+1:Nat):Int).toNat=x.2.1.toNat+1 by omega,hcnt,show wI ((cEq L1 x.2.1.toNat:Int)+1)=(cEq L1 x.2.1.toNat:Int)+1 by rw[wQ,wi O O]]
  rw[show wI ((L1.length:Int)+1)=((L1++[x]).length:Int) by rw[wQ,wi O O];simp]
  exact e1
def qeg (m:Nat) (a0 a1:Int) (a2 a3 a4:LI) (b0 b1:Int) (b3 b4:LI) {L:List Ent} (hc:c<=200) (hL:L.length<=1000000) (hx: ∀x∈L,0<=x.2.1): ∀(n j:Nat) (S:LI),c-j<n->j<=c->S.length=c+1->
 (∀t,t<=j->S.getD t 0=(cLt L t:Int))->(∀t,j<=t->t<c->S.getD (t+1) 0=(cEq L t:Int))->
 ∃S',g131L1 m n a0 a1 a2 a3 a4 b0 b1 S b3 b4 (c:Int) (j:Int)=some (.inl ((a0,a1,a2,a3,a4,()),(b0,b1,S',b3,b4,()),()))/\S'.length=c+1/\ ∀t,t<=c->S'.getD t 0=(cLt L t:Int)
 |0,j,S,h,_,_,_,_=>absurd h (zW _)
 |n+1,j,S,h,hj,hS,h1,h2=>by
  rw[g131L1,bQ];by_cases e:j<c
  . have c1:cLt L j<=L.length:=List.countP_le_length;have c2:cEq L j<=L.length:=List.countP_le_length;rw[iP O];simp only[show wI ((j:Int)+1)=((j+1:Nat):Int) by rw[wQ,wi O O];omega]
    rw[iP O,iP O,iP O];rw[show 0+((j+1:Nat):Int).toNat=j+1 by omega,show 0+(j:Int).toNat=j by omega,h1 j (zD _),h2 j (zD _) e]
    rw[show wI ((cEq L j:Int)+(cLt L j:Int))=(cLt L (j+1):Int) by rw[wQ,wi O O,qkc hx];omega]
    refine qeg m a0 a1 a2 a3 a4 b0 b1 b3 b4 hc hL hx n (j+1) _ O O (by simpa using hS) (λt ht=> ?_) (λt ht htc=> ?_)
    . by_cases g:t=j+1
      . subst g;rw[List.getD_eq_getElem?_getD,List.getElem?_set_self O];rfl
      . rw[List.getD_eq_getElem?_getD,List.getElem?_set_ne O,<-List.getD_eq_getElem?_getD];exact h1 t O
    . rw[List.getD_eq_getElem?_getD,List.getElem?_set_ne O,<-List.getD_eq_getElem?_getD];exact h2 t O htc
  . rw[iN' O];exact⟨S,rfl,hS,λt ht=>h1 t O⟩
def qiz: ∀{c t:Nat},t<=c->cLt (can es r c) t=(packI es r t).length
 |0,t,h=>by
  have:t=0:=O;subst this;rfl
 |c+1,t,h=>by
  unfold cLt;rw[can,List.countP_append];by_cases e:t=c+1
  . subst e
    have h1:(can es r c).countP (λx=>decide (x.2.1<((c+1:Nat):Int)))=(can es r c).length:=List.countP_eq_length.2 λx hx=>by
     obtain⟨i,j,_,h2,_,rfl⟩:=q5p.1 hx;simp;omega
    have h2:(canE es r c).countP (λx=>decide (x.2.1<((c+1:Nat):Int)))=(canE es r c).length:=List.countP_eq_length.2 λx hx=>by
     obtain⟨i,_,_,rfl⟩:=q4m.1 hx;simp;omega
    rw[h1,h2,<-List.length_append,<-can_I (c+1),can];simp
  . have h2:(canE es r c).countP (λx=>decide (x.2.1<(t:Int)))=0:=List.countP_eq_zero.2 λx hx=>by
     obtain⟨i,_,_,rfl⟩:=q4m.1 hx;simp;omega
    rw[h2,zU];exact qiz (c:=c) O
def qjm {m:Nat} (hE:EntsOK r c es) (hD:DistE es) (hr:r<=200) (hc:c<=200) (hl:es.length<=1000000) (hm:2000300<m):
 g131 m (r:Int) (c:Int) es=some (((r:Int),(c:Int),packS es r c,packI es r c,packV es r c,()),((),(),(),())):=by
 obtain⟨L,h1,h2,h3⟩:=g204eq (m:=m) es O O;have hL:=qf3 hE hD h2 h3;have hlen:=h3.length_eq
 have hmem: ∀x∈L,0<=x.2.1/\x.2.1<(c:Int):=λx hx=>by
  obtain⟨k,hk,rfl⟩:=Yq (h3.mem_iff.1 hx);exact(hE.at hk).2.1
 obtain⟨S1,e1,e2,e3,e4⟩:=qek m (c:Int) 0 0 [] [] [] (r:Int) (c:Int) hc O hmem L [] m (List.replicate (c+1) 0) [] [] rfl O (by simp) (by simp) (λj hj=>by simp[cEq,List.getD,hj]) rfl rfl
 obtain⟨S2,f1,f2,f3⟩:=qeg m 0 0 [] [] [] (r:Int) (c:Int) (L.map (·.1)) (L.map (·.2.2)) hc O (λx hx=>(hmem x hx).1) m 0 S1 O O e2
  (fun t ht=>by
    have:t=0:=O;subst this;rw[e3];have:cLt L 0=0:=List.countP_eq_zero.2 λx hx=>by have:=(hmem x hx).1;simp;omega
    rw[this];rfl) (λt _ ht=>e4 t ht)
 have hS:S2=packS es r c:=by
  refine zc2 (by rw[f2];simp[packS]) λt ht ht'=> ?_
  have htc:t<=c:=O;have:=f3 t htc;rw[List.getD_eq_getElem?_getD,List.getElem?_eq_getElem ht,zq1]at this;rw[this,hL,qiz htc];simp[packS]
 rw[g131,iP (by rw[wQ,wi O O];omega),h1]
 simp only[bS];rw[show(wI ((c:Int)+1)).toNat=c+1 by rw[wQ,wi O O];omega]
 have e1':g131L0 m m (c:Int) 0 0 [] [] [] (r:Int) (c:Int) (List.replicate (c+1) 0) [] [] L (L.length:Int) 0=_:=e1;have f1':g131L1 m m 0 0 [] [] [] (r:Int) (c:Int) S1 (L.map (·.1)) (L.map (·.2.2)) (c:Int) 0=_:=f1
 rw[e1'];simp only[bS];rw[f1'];simp only[bS];rw[hS,hL,can_I,can_V]
end
end
section
section
variable {R C:Nat} {S I V:LI}
def q55 (m:Nat) (hM:MatOK R C S I) (hV:V.length=I.length) (t7 t8:Int) {j:Nat} (hj:j<C): ∀(n k:Nat) (out:List Ent),(S.getD (j+1) 0).toNat-k<n->out.length<=k->
 g43L1 m n (R:Int) (C:Int) S I V out (j:Int) (k:Int) t7 t8=some (.inl (((R:Int),(C:Int),S,I,V,()),out++Zo S I V j k (S.getD (j+1) 0).toNat,t7,t8,()))
 |0,k,out,h,_=>O
 |n+1,k,out,h,ho=>by
  have hl:=hM.st.len;have hcz:=hM.cz;have hiz:=hM.sz;have b:=hM.st.rng (j:=j+1) O;rw[g43L1];simp only[wQ,wsucc (show j<4611686018427387904 by omega),tN,bQ]
  rw[iP O];by_cases hk:k<(S.getD (j+1) 0).toNat
  . rw[iP O,iP O,iP O,iP (by simp;omega),qd1 hk]
    simp only[wsucc (show k<4611686018427387904 by omega)]
    rw[q55 m hM hV t7 t8 hj n (k+1) _ O (by simp;omega)]
    simp
  . rw[iN' O];rw[Zo,show(S.getD (j+1) 0).toNat-k=0 by omega];simp
def q51 (m:Nat) (hm:20000<m) (hM:MatOK R C S I) (hV:V.length=I.length): ∀(d n k:Nat) (out:List Ent),C-k=d->k<=C->d<n->out.length=(S.getD k 0).toNat->
 g43L0 m n (R:Int) (C:Int) S I V out (C:Int) (k:Int)=some (.inl (out++ents S I V d k,()))
 |0,n,k,out,hd,hk0,hn,ho=>by
  obtain⟨n,rfl⟩: ∃n',n=n'+1:=⟨n-1,O⟩;rw[g43L0,bQ,iN' O];simp[ents]
 |d+1,n,k,out,hd,hk0,hn,ho=>by
  have hl:=hM.st.len;have hcz:=hM.cz;have hiz:=hM.sz;have hk:k<C:=O;have a:=hM.st.rng (j:=k) O;have b:=hM.st.rng (j:=k+1) O;have dd:=hM.st.mono k hk;obtain⟨n,rfl⟩: ∃n',n=n'+1:=⟨n-1,O⟩;have e:=q55 (V:=V) m hM hV (C:Int) (k:Int) hk m (S.getD k 0).toNat out O O;rw[show(((S.getD k 0).toNat:Nat):Int)=S.getD k 0 by omega]at e
  rw[g43L0,bQ,iP O,iP O];simp only[tN];rw[e];simp only[bS,wQ,wsucc (show k<4611686018427387904 by omega)]
  rw[q51 m hm hM hV d n (k+1) _ O O O (by rw[zL,q74];omega),ents]
  simp
def q6b {m:Nat} (hm:20000<m) (hM:MatOK R C S I) (hV:V.length=I.length):g43 m (R:Int) (C:Int) S I V=some (ents S I V C 0,(),()):=by
 have hcz:=hM.cz;have h:=q51 (V:=V) m hm hM hV C m 0 [] O O O (by rw[hM.st.s0];rfl)
 rw[g43,show(0:Int)=((0:Nat):Int)from rfl,h];rfl
def MatOK.asc (hM:MatOK R C S I) {j:Nat} (hj:j<C): ∀(d t:Nat),(S.getD j 0).toNat<=t->t+(d+1)<(S.getD (j+1) 0).toNat->I.getD t 0<I.getD (t+(d+1)) 0
 |0,t,h1,h2=>by
  have:=Qg.1 (hM.ent j hj) (t+1) O h2;simp only[entOK,zF,zQ2,decide_eq_true_eq]at this;have h:=this.2;simp only[ze2]at h;simp only[zI];rcases h with h|h
  . simp only[Bool.not_eq_true',decide_eq_false_iff_not]at h;omega
  . exact h
 |d+1,t,h1,h2=>by
  have h3:=hM.asc hj d t h1 O;have h4:=hM.asc hj 0 (t+(d+1)) O O;simp only[zI]at h4;rw[show t+(d+1+1)=t+(d+1)+1 by omega];omega
def qbu (hM:MatOK R C S I) {j:Nat} (hj:j<C):(Zo S I V j (S.getD j 0).toNat (S.getD (j+1) 0).toNat).Pairwise (λa b=>ltE a b=true):=by
 unfold Zo;rw[List.pairwise_map];refine List.Pairwise.imp_of_mem ?_ (List.pairwise_lt_range' (s:=(S.getD j 0).toNat) (n:=(S.getD (j+1) 0).toNat-(S.getD j 0).toNat) (step:=1) O);intro a b ha hb hab;rw[zo2]at ha hb;have:=hM.asc hj (b-a-1) a ha.1 O;rw[show a+(b-a-1+1)=b by omega]at this
 unfold ltE;simp[-List.getD_eq_getElem?_getD,this]
def qdq {x:Ent}: ∀{d k:Nat},x∈ents S I V d k-> ∃j t,k<=j/\j<k+d/\(S.getD j 0).toNat<=t/\t<(S.getD (j+1) 0).toNat/\x=(I.getD t 0,(j:Int),V.getD t 0)
 |0,k,h=>by simp[ents]at h
 |d+1,k,h=>by
  rw[ents,zH]at h;rcases h with h|h
  . unfold Zo at h;obtain⟨t,ht,rfl⟩:=zQ.1 h;rw[zo2]at ht;exact⟨k,t,zD _,O,ht.1,O,rfl⟩
  . obtain⟨j,t,h1,h2,h3⟩:=qdq h;exact⟨j,t,O,O,h3⟩
def q4r (hM:MatOK R C S I): ∀(d k:Nat),k+d=C->(ents S I V d k).Pairwise (λa b=>ltE a b=true)
 |0,k,h=>by simp[ents]
 |d+1,k,h=>by
  rw[ents,zA2];refine⟨qbu hM O,q4r hM d (k+1) O,λa ha b hb=> ?_⟩
  unfold Zo at ha;obtain⟨t,ht,rfl⟩:=zQ.1 ha;obtain⟨j,t',h1,h2,h3,h4,rfl⟩:=qdq hb;unfold ltE;simp[-List.getD_eq_getElem?_getD];omega
def q3p {es:List Ent} (h:es.Pairwise (λa b=>ltE a b=true)):DistE es:=by
 intro k k' hk hk' h1 h2;rw[List.pairwise_iff_getElem]at h;have hg: ∀i (hi:i<es.length),es.getD i zE=es[i]:=λi hi=>by simp[List.getD,hi]
 rcases Nat.lt_trichotomy k k' with e|e|e
 . have:=h k k' hk hk' e;rw[<-hg k hk,<-hg k' hk']at this;unfold ltE at this;simp[-List.getD_eq_getElem?_getD]at this;omega
 . exact e
 . have:=h k' k hk' hk e;rw[<-hg k hk,<-hg k' hk']at this;unfold ltE at this;simp[-List.getD_eq_getElem?_getD]at this;omega
def qjf {es:List Ent} {f:Ent->Ent} (hD:DistE es) (hf: ∀a∈es,∀b∈es,(f a).1=(f b).1->(f a).2.1=(f b).2.1->a.1=b.1/\a.2.1=b.2.1):DistE (es.map f):=by
 intro k k' hk hk' h1 h2;simp only[zc1]at hk hk';have hg: ∀i,i<es.length->(es.map f).getD i zE=f (es.getD i zE):=λi hi=>by simp[List.getD,hi]
 have hm: ∀i,i<es.length->es.getD i zE∈es:=λi hi=>by simp[List.getD,hi]
 rw[hg k hk,hg k' hk']at h1 h2;obtain⟨a,b⟩:=hf _ (hm k hk) _ (hm k' hk') h1 h2;exact hD k k' hk hk' a b
end
def swE (x:Ent):Ent:=(x.2.1,(x.1,x.2.2))
def q47 (m:Nat) (r c:Int) (S I V:LI) (b0 b1:Int) (b2 b3 b4:LI): ∀(L2 L1:List Ent) (n:Nat),L2.length<n->L1.length+L2.length<1000000000->
 g55L0 m n r c S I V b0 b1 b2 b3 b4 (L1.map swE++L2) ((L1.length+L2.length:Nat):Int) (L1.length:Int)=some (.inl ((r,c,S,I,V,()),(b0,b1,b2,b3,b4,()),(L1++L2).map swE,()))
 |L2,L1,0,h,_=>absurd h (zW _)
 |[],L1,n+1,_,hb=>by
  rw[g55L0,bQ,iN' (by simp)]
  simp
 |x::L2,L1,n+1,h,hb=>by
  simp only[zq]at h hb;have hlen:(L1.map swE++x::L2).length=L1.length+1+L2.length:=by simp;omega
  have gx:(L1.map swE++x::L2).getD (0+(L1.length:Int).toNat) zE=x:=getD_at (by simp)
  have hs: ∀y:Ent,(L1.map swE++x::L2).set (0+(L1.length:Int).toNat) y=L1.map swE++y::L2:=λy=>q1b (by simp)
  have hs2: ∀y z:Ent,(L1.map swE++y::L2).set (0+(L1.length:Int).toNat) z=L1.map swE++z::L2:=λy z=>q1b (by simp)
  have gy: ∀y:Ent,(L1.map swE++y::L2).getD (0+(L1.length:Int).toNat) zE=y:=λy=>getD_at (by simp)
  rw[g55L0,bQ,iP (by simp only[zq];omega)]
  simp only[gx,hs,gy,hs2];rw[iP O,iP O,iP (by simp;omega)]
  have ih:=q47 m r c S I V b0 b1 b2 b3 b4 L2 (L1++[x]) n O (by simp;omega)
  rw[show wI ((L1.length:Int)+1)=((L1++[x]).length:Int) by rw[wQ,wi O O];simp,
   show((L1.length+(x::L2).length:Nat):Int)=(((L1++[x]).length+L2.length:Nat):Int) by simp;omega,
   show L1.map swE++(x.2.1,(x.1,x.2.2))::L2=(L1++[x]).map swE++L2 by simp[swE],ih]
  simp
def map_ok {r c r' c':Nat} {es:List Ent} {f:Ent->Ent} (hf: ∀x∈es,(0<=(f x).1/\(f x).1<(r':Int))/\(0<=(f x).2.1/\(f x).2.1<(c':Int))/\finB (f x).2.2=true):EntsOK r' c' (es.map f):=by
 intro k hk;simp only[zc1]at hk;have hg:(es.map f).getD k zE=f (es.getD k zE):=by simp[List.getD,hk]
 show(0<=((es.map f).getD k zE).1/\_)/\_
 rw[show(es.map f).getD k (0,(0,0))=f (es.getD k zE)from hg]
 exact hf _ (by simp[List.getD,hk])
def q44 {R C:Nat} {S I V:LI} {m:Nat} (hm:2000300<m) (hM:MatOK R C S I) (hV:V.length=I.length) (hS:S.length<=1000000) (hc:chk (R:Int) (C:Int) S I V=0):
 EntsOK C R ((ents S I V C 0).map swE)/\g55 m (R:Int) (C:Int) S I V=some ((((C:Int),(R:Int),packS ((ents S I V C 0).map swE) C R,packI ((ents S I V C 0).map swE) C R,packV ((ents S I V C 0).map swE) C R,()),0,()),(),()):=by
 have hsz:=hM.sz;obtain⟨_,_,_,_,_,_,hfin⟩:=qiv hc;have hE:=qhd hM hV hfin;have hD:DistE (ents S I V C 0):=q3p (q4r hM C 0 O);have hl:=q93 (V:=V) hM C 0 O O;have hr:=hM.st.rng (j:=C) (zD _)
 have hE2:EntsOK C R ((ents S I V C 0).map swE):=map_ok (r:=R) (c:=C) λx hx=>by
  obtain⟨k,hk,rfl⟩:=Yq hx;obtain⟨a,b,d⟩:=hE.at hk;exact⟨b,a,d⟩
 have hD2:DistE ((ents S I V C 0).map swE):=qjf hD λa _ b _ h1 h2=>⟨h2,h1⟩
 refine⟨hE2,?_⟩;rw[g55,g40eq O O O O O,hc];simp only[bS,bif_ne,if_true];rw[q6b O hM hV];simp only[bS];have h0:=q47 m (R:Int) (C:Int) S I V 0 0 [] [] [] (ents S I V C 0) [] m O (by simp;omega)
 simp only[List.map_nil,zx1,zk2,zI]at h0;rw[show g55L0 m m (R:Int) (C:Int) S I V 0 0 [] [] [] (ents S I V C 0) ((ents S I V C 0).length:Int) 0=_ from h0]
 simp only[bS];rw[qjm hE2 hD2 hM.cz hM.rz (by simp;omega) hm]
 simp only[bS]
end
section
end
section
def q4q {α:Type} {L:List α} {i:Nat} {d:α} (h:L.length<=i):L.getD i d=d:=by
 rw[List.getD,List.getElem?_eq_none h];rfl
end
section
end
section
def Jp {α:Type} {L:List α} {k j:Nat} {x d:α} (h:k<L.length):(L.set k x).getD j d=if j=k then x else L.getD j d:=by
 by_cases e:k=j
 . subst e;rw[Qh h,iP rfl]
 . rw[getD_set_ne e,iN' (Ne.symm e)]
end
section
variable {S I V:LI} {N:Nat}
end
section
variable {es es':List Ent} {r c:Nat}
def DistE.val (hD:DistE es) {i j v v':Int} (h:((i,(j,v)):Ent)∈es) (h':((i,(j,v')):Ent)∈es):v=v':=by
 obtain⟨k,hk,e⟩:=Yq h;obtain⟨k',hk',e'⟩:=Yq h';have:=hD k k' hk hk' (by rw[e,e']) (by rw[e,e'])
 subst this;rw[e]at e';cases e';rfl
def qew {i j:Nat} (h:0<Qs es i j es.length):(((i:Int),((j:Int),(es.getD (Qs es i j es.length-1) zE).2.2)):Ent)∈es:=by
 obtain⟨g1,g2,g3⟩:=q2q h;rw[show((i:Int),((j:Int),(es.getD (Qs es i j es.length-1) zE).2.2))=es.getD (Qs es i j es.length-1) zE by rw[<-g2,<-g3]]
 simp[List.getD,g1]
end
section
variable {R C:Nat} {S I V:LI}
end
end Go.Vs.F
set_option maxRecDepth 100000
namespace Go.Vs.F
def qho {es:List Ent} {k:Nat} (h:k<es.length):es.getD k zE∈es:=by simp[List.getD,h]
def q75 {r c:Nat} {es:List Ent} (h:EntsOK r c es): ∀e∈es,(0<=e.1/\e.1<(r:Int))/\(0<=e.2.1/\e.2.1<(c:Int))/\finB e.2.2=true:=λe he=>by
 obtain⟨k,hk,rfl⟩:=Yq he;exact h k hk
structure MV (R C:Nat) (S I V:LI):Prop where
 ok:MatOK R C S I
 vl:V.length=I.length
 chk:chk (R:Int) (C:Int) S I V=0
section
variable {R C:Nat} {S I V:LI}
def MV.ents (h:MV R C S I V):EntsOK R C (ents S I V C 0):=by
 obtain⟨_,_,_,_,_,_,hfin⟩:=qiv h.chk;exact qhd h.ok h.vl hfin
def MV.dist (h:MV R C S I V):DistE (Go.Vs.F.ents S I V C 0):=q3p (q4r h.ok C 0 O)
def MV.len (h:MV R C S I V):(Go.Vs.F.ents S I V C 0).length<=10000:=by
 rw[q93 h.ok C 0 O O];have:=h.ok.st.rng (j:=C) (zD _);have:=h.ok.sz;omega
def MV.sl (h:MV R C S I V):S.length<=201:=by
 have:=h.ok.st.len;have:=h.ok.cz;omega
def q1d {es:List Ent} {k:Nat} (hk:k<es.length):es.take (k+1)=es.take k++[es.getD k zE]:=by
 rw[List.take_add_one];congr 1;rw[List.getElem?_eq_getElem hk,List.getD,List.getElem?_eq_getElem hk];rfl
end
def getD_take {α:Type} {l:List α} {j k:Nat} {d:α} (h:j<k):(l.take k).getD j d=l.getD j d:=by
 simp[List.getD,List.getElem?_take,h]
end Go.Vs.F
set_option maxRecDepth 100000
namespace Go.Vs.F
section
variable {R C:Nat} {S I V:LI}
end
end Go.Vs.F
