import Derived.Test.YtoeiaipcgnjfcaaGreatDoorLa
set_option linter.unusedVariables false
set_option linter.unusedSimpArgs false
set_option linter.unusedSectionVars false
set_option linter.defProp false
namespace Go.Vs.F
def vl:LI->Nat
 |[]=>0
 |x::xs=>x.toNat+4294967296*vl xs
def Lm (l:LI):Prop:= ∀x∈l,0<=x/\x<4294967296
def lim (n:Nat):LI:=if h:n=0 then []else((n%4294967296:Nat):Int)::lim (n/4294967296)
termination_by n
decreasing_by exact Nd (B4 h) O
def Qj:lim 0=[]:=by rw[lim];simp
def Ck {n:Nat} (h:n≠0):lim n=((n%4294967296:Nat):Int)::lim (n/4294967296):=by rw[lim,dif_neg h]
def qx (n:Nat):vl (lim n)=n:=by
 induction n using Nat.strongRecOn with
 |ind n ih=>
  by_cases h:n=0
  . subst h;rw[Qj];rfl
  . rw[Ck h,vl,ih _ (Nd (B4 h) O),tN];omega
def Q9 (n:Nat):Lm (lim n):=by
 induction n using Nat.strongRecOn with
 |ind n ih=>
  by_cases h:n=0
  . subst h;rw[Qj];intro x hx;cases hx
  . rw[Ck h];intro x hx;rcases mC hx with rfl|hx
    . omega
    . exact ih _ (Nd (B4 h) O) x hx
def Lm.tail {x:Int} {l:LI} (h:Lm (x::l)):Lm l:=λy hy=>h y (mT hy)
def Lm.head {x:Int} {l:LI} (h:Lm (x::l)):0<=x/\x<4294967296:=h x mS
def xH: ∀{a b:LI},vl (a++b)=vl a+4294967296^a.length*vl b
 |[],b=>by simp[vl]
 |x::a,b=>by
  rw[qX,vl,vl,xH (a:=a),j8,gV,zL]
  have:4294967296*(4294967296^a.length*vl b)=4294967296^a.length*4294967296*vl b:=by
   rw[<-Nat.mul_assoc,zh 4294967296]
  omega
def cd: ∀{l:LI},Lm l->vl l<4294967296^l.length
 |[],_=>by simp[vl]
 |x::l,h=>by
  have h1:=h.head;have h2:=cd h.tail;rw[vl,j8,gV];omega
def OC: ∀{l:LI},(∀x∈l,x=0)->vl l=0
 |[],_=>rfl
 |x::l,h=>by
  rw[vl,OC λy hy=>h y (mT hy),h x mS];rfl
def Tr (l:LI):Prop:= ∀h:l≠[],l.getLast h≠0
def U8: ∀{l:LI},Lm l->Tr l->l≠[]->0<vl l
 |[],_,_,h=>absurd rfl h
 |[x],hl,ht,_=>by
  have:=ht (by simp)
  simp only[List.getLast_singleton]at this;have:=hl.head;rw[vl];omega
 |x::y::l,hl,ht,_=>by
  have:=U8 (l:=y::l) hl.tail (λh=>by have:=ht (by simp);rwa [List.getLast_cons (by simp)]at this) (by simp)
  rw[vl];omega
def PL: ∀{l:LI},Lm l->Tr l->l=lim (vl l)
 |[],_,_=>by rw[vl,Qj]
 |x::l,hl,ht=>by
  have hx:=hl.head;have hpos:=U8 hl ht (by simp)
  rw[Ck O];have h1:vl (x::l)%4294967296=x.toNat:=by rw[vl];omega
  have h2:vl (x::l)/4294967296=vl l:=by rw[vl];omega
  rw[h1,h2,Int.toNat_of_nonneg hx.1];congr 1;cases l with
  |nil=>rw[vl,Qj]
  |cons y l=>exact PL hl.tail (λh=>by have:=ht (by simp);rwa [List.getLast_cons (by simp)]at this)
def quv (n:Nat):Tr (lim n):=by
 induction n using Nat.strongRecOn with
 |ind n ih=>
  by_cases h:n=0
  . subst h;rw[Qj];intro h;exact absurd rfl h
  . rw[Ck h];by_cases h2:n/4294967296=0
    . rw[show lim (n/4294967296)=[] by rw[h2,Qj]]
      intro _;simp only[List.getLast_singleton];omega
    . intro hne;have hne2:lim (n/4294967296)≠[]:=by rw[Ck h2];simp
      rw[List.getLast_cons hne2];exact ih _ (Nd (B4 h) O) hne2
def Xl {n k:Nat} (h:n<4294967296^k):(lim n).length<=k:=by
 induction k generalizing n with
 |zero=>
  have:n=0:=by simpa using h
  subst this;rw[Qj];simp
 |succ k ih=>
  by_cases h0:n=0
  . subst h0;rw[Qj];simp
  . rw[Ck h0,j8]
    have:n/4294967296<4294967296^k:=by
     rw[B7 O];rwa [gV]at h
    have:=ih this;omega
def Y7 {l:LI} (h:Lm l):(lim (vl l)).length<=l.length:=Xl (cd h)
def Jt {n:Nat}:lim n=[]↔n=0:=by
 constructor
 . intro h;have:=qx n;rw[h]at this;exact this.symm
 . rintro rfl;exact Qj
def pq {a:Nat} {k:Nat}:Int.fdiv (a:Int) (2^k)=((a/2^k:Nat):Int):=by
 rw[Int.fdiv_eq_ediv_of_nonneg _ (by exact Int.le_of_lt (Int.pow_pos O))]
 rw[IF];congr 1
def cV {a k:Nat} (hk:k<=64):az .u64 (a:Int) (k:Int)=((a/2^k:Nat):Int):=by
 unfold az;rw[show min (k:Int).toNat (IntKind.u64.bits)=k by show min _ 64=k;omega]
 exact pq
def jZ {a:Nat} (h:a<18446744073709551616):(BitVec.ofInt 64 (a:Int)).toNat=a:=by
 rw[BitVec.toNat_ofInt];have:((a:Int)%((2^64:Nat):Int)).toNat=a:=O;exact this
def iq {a b:Nat} (ha:a<18446744073709551616) (hb:b<18446744073709551616):qp .u64 (a:Int) (b:Int)=((a&&&b:Nat):Int):=by
 unfold qp;show IntKind.wrap .u64 ((BitVec.ofInt 64 (a:Int)&&&BitVec.ofInt 64 (b:Int)).toNat:Int)=_;rw[BitVec.toNat_and,jZ ha,jZ hb];have:a&&&b<18446744073709551616:=xP Nat.and_le_left ha;rw[wu O O]
def jq {a:Nat} (ha:a<18446744073709551616):qp .u64 (a:Int) 4294967295=((a%4294967296:Nat):Int):=by
 have h:=iq ha (b:=4294967295) O;rw[show((4294967295:Nat):Int)=4294967295 from rfl]at h
 rw[h,show(4294967295:Nat)=2^32-1 by decide,B3]
def fA {a:Nat}:wK (a:Int)=((a%4294967296:Nat):Int):=by
 show(a:Int)%4294967296=_
 omega
def bA {a:Nat} (h:a<18446744073709551616):wJ (a:Int)=(a:Int):=wu O O
def hZ {l:LI} {k:Nat} (h:k<l.length) (hne:l.take (k+1)≠[]):(l.take (k+1)).getLast hne=l.getD k 0:=by
 rw[List.getLast_eq_getElem];simp only[zk,show min (k+1) l.length-1=k by omega,HA]
 simp[List.getD,h]
def Vl (m:Nat) {l:LI} (hl:l.length<=1000000000): ∀(k n:Nat),k<n->k<=l.length->
 ∃j:Nat,i9 m n l (k:Int)=some (.inl (l,(j:Int),()))/\j<=k/\(∀i,j<=i->i<k->l.getD i 0=0)/\(j=0\/l.getD (j-1) 0≠0)
 |0,n,h,_=>by
  obtain⟨n,rfl⟩: ∃n',n=n'+1:=⟨n-1,O⟩;rw[i9,bQ,ao O];exact⟨0,rfl,zF _,λi a b=>O,.inl rfl⟩
 |k+1,n,h,hk=>by
  obtain⟨n,rfl⟩: ∃n',n=n'+1:=⟨n-1,O⟩;have w1:wI (((k+1:Nat):Int)-1)=(k:Int):=by rw[wQ,wi O O];omega
  rw[i9,bQ,iP O,w1,iP O,tN,aF];by_cases e:l.getD k 0=0
  . rw[iP e];obtain⟨j,g1,g2,g3,g4⟩:=Vl m hl k n O O;refine⟨j,g1,O,λi a b=> ?_,g4⟩
    by_cases ei:i=k
    . subst ei;exact e
    . exact g3 i a O
  . rw[ao e];exact⟨k+1,rfl,zF _,λi a b=>O,.inr (by simpa using e)⟩
def Qz {m:Nat} {l:LI} (h:Lm l) (hm:l.length<m) (hl:l.length<=1000000000):cZ m l=some (lim (vl l),(),()):=by
 obtain⟨j,e,h1,h2,h3⟩:=Vl m hl l.length m hm (zF _);rw[cZ,e,bS];dsimp only;rw[iP O,tN]
 have hv:vl (l.take j)=vl l:=by
  conv=>rhs;rw[<-List.take_append_drop j l,xH]
  rw[OC (l:=l.drop j)]
  . omega
  . intro x hx;obtain⟨i,hi,rfl⟩:=l9 hx;simp only[pI]at hi;have:=h2 (j+i) O O;rw[Nl];rw[List.getD,List.getElem?_eq_getElem O]at this;exact this
 rw[<-hv];congr 2;refine PL (λx hx=>h x (pJ hx)) λhne=> ?_
 rcases h3 with h3|h3
 . subst h3;exact absurd (sk ..) hne
 . obtain⟨j,rfl⟩: ∃j',j=j'+1:=⟨j-1,by
    have:j≠0:=by rintro rfl;exact hne (sk ..)
    omega⟩
   rw[hZ O];simpa using h3
def Lm.get {l:LI} (h:Lm l) {k:Nat} (hk:k<l.length): ∃x:Nat,l.getD k 0=(x:Int)/\x<4294967296:=by
 have:=h (l.getD k 0) (by rw[List.getD,List.getElem?_eq_getElem hk];simp)
 exact⟨(l.getD k 0).toNat,O,O⟩
def Xd {l:LI} {k:Nat} (hk:k<l.length):vl (l.drop k)=(l.getD k 0).toNat+4294967296*vl (l.drop (k+1)):=by
 rw[eY (d:=(0:Int)) hk,vl]
def qw {l:LI} {k:Nat} (hk:l.length<=k):vl (l.drop k)=0:=by rw[List.drop_eq_nil_of_le hk,vl]
def x7 {l:LI} (h:Lm l) {x:Nat} (hx:x<4294967296):Lm (l++[(x:Int)]):=λy hy=>by
 rcases zQ.1 hy with hy|hy
 . exact h y hy
 . rw[zC]at hy;subst hy;omega
def Jz {l:LI} {x:Nat}:vl (l++[(x:Int)])=vl l+4294967296^l.length*x:=by
 rw[xH];simp[vl]
def QQ (m:Nat) {a b:LI} (ha:Lm a) (hb:Lm b) (hl:a.length<=1000000): ∀(n k:Nat) (out:LI) (c:Nat),a.length-k<n->k<=a.length->Lm out->out.length=k->c<2->
 ∃out' c',fR m n b out (c:Int) a (a.length:Int) (k:Int)=some (.inl (out',((c':Nat):Int),()))/\Lm out'/\out'.length=a.length/\c'<2/\
  vl out'+4294967296^a.length*(c'+vl (b.drop a.length))=vl out+4294967296^k*(c+vl (a.drop k)+vl (b.drop k))
 |0,k,out,c,h,_,_,_,_=>O
 |n+1,k,out,c,h,hk0,ho,hol,hc=>by
  rw[fR];by_cases hk:k<a.length
  . have h1:((k:Int)<(a.length:Int)):=O;have c1:(0:Int)<=(k:Int)/\(k:Int)<(a.length:Int):=O;obtain⟨x,ex,hx⟩:=ha.get hk;have c2: ∀y:Int,out.length+([y]:LI).length<=1073741824:=λy=>by show out.length+1<=_;omega
    have w1:wJ (x:Int)=(x:Int):=bA O;have w2:wJ ((x:Int)+(c:Int))=((x+c:Nat):Int):=by rw[show(x:Int)+(c:Int)=((x+c:Nat):Int) by omega,bA O]
    have step: ∀(t:Nat) (y:Nat),t=x+c+y->y<4294967296->vl (b.drop k)=y+4294967296*vl (b.drop (k+1))->
     vl (out++[((t%4294967296:Nat):Int)])+4294967296^(k+1)*(t/4294967296+vl (a.drop (k+1))+vl (b.drop (k+1)))=vl out+4294967296^k*(c+vl (a.drop k)+vl (b.drop k)):=by
     intro t y ht hy hb2
     have hp:4294967296^(k+1)*(t/4294967296+vl (a.drop (k+1))+vl (b.drop (k+1)))=4294967296^k*(4294967296*(t/4294967296+vl (a.drop (k+1))+vl (b.drop (k+1)))):=by
      rw[gV,zX]
     rw[Jz,hol,hp,tn,<-Nat.mul_add,hb2,Xd hk,ex,tN];congr 2;omega
    by_cases hkb:k<b.length
    . have h2:((k:Int)<(b.length:Int)):=O;have c3:(0:Int)<=(k:Int)/\(k:Int)<(b.length:Int):=O;obtain⟨y,ey,hy⟩:=hb.get hkb;have w3:wJ (y:Int)=(y:Int):=bA O;have w4:wJ (((x+c:Nat):Int)+(y:Int))=((x+c+y:Nat):Int):=by rw[show((x+c:Nat):Int)+(y:Int)=((x+c+y:Nat):Int) by omega,bA O]
      have e1:wK (qp .u64 ((x+c+y:Nat):Int) 4294967295)=(((x+c+y)%4294967296:Nat):Int):=by rw[jq O,fA,xR]
      have e2:az .u64 ((x+c+y:Nat):Int) 32=(((x+c+y)/4294967296:Nat):Int):=cV (a:=x+c+y) (k:=32) O;rw[bQ,iP h1,iP c1,bQ,iP h2,iP c3,tN,ex,ey,w1,w2,w3,w4,e1,e2,iP (c2 _),show wI ((k:Int)+1)=((k+1:Nat):Int)from aB O]
      obtain⟨out',c',g1,g2,g3,g4,g5⟩:=QQ m ha hb hl n (k+1) (out++[(((x+c+y)%4294967296:Nat):Int)]) ((x+c+y)/4294967296) O O (x7 ho O) (by simp[hol]) O
      refine⟨out',c',g1,g2,g3,g4,?_⟩;rw[g5];exact step (x+c+y) y rfl hy (by rw[Xd hkb,ey,tN])
    . have h2: ¬((k:Int)<(b.length:Int)):=O;have e1:wK (qp .u64 ((x+c:Nat):Int) 4294967295)=(((x+c)%4294967296:Nat):Int):=by rw[jq O,fA,xR]
      have e2:az .u64 ((x+c:Nat):Int) 32=(((x+c)/4294967296:Nat):Int):=cV (a:=x+c) (k:=32) O;rw[bQ,iP h1,iP c1,bQ,ao h2,tN,ex,w1,w2,e1,e2,iP (c2 _),show wI ((k:Int)+1)=((k+1:Nat):Int)from aB O]
      obtain⟨out',c',g1,g2,g3,g4,g5⟩:=QQ m ha hb hl n (k+1) (out++[(((x+c)%4294967296:Nat):Int)]) ((x+c)/4294967296) O O (x7 ho O) (by simp[hol]) O
      refine⟨out',c',g1,g2,g3,g4,?_⟩;rw[g5];exact step (x+c) 0 rfl O (by rw[qw O,qw O])
  . rw[bQ,ao O];have:k=a.length:=O;subst this;refine⟨out,c,rfl,ho,hol,hc,?_⟩;rw[qw (l:=a) (zF _)];congr 1
def QK {m:Nat} (hm:2000000<m) {a b:LI} (ha:Lm a) (hb:Lm b) (hla:a.length<=1000000) (hlb:b.length<=1000000):qM m a b=some (lim (vl a+vl b),(),(),()):=by
 have main: ∀a b:LI,Lm a->Lm b->a.length<=1000000->b.length<=a.length->((fR m m b (List.replicate 0 (0:Int)) 0 a (a.length:Int) 0).bind λy1=>match y1 with
  | .inl z2=>if z2.1.length+([wK z2.2.1]:LI).length<=1073741824 then(cZ m (z2.1++([wK z2.2.1]:LI))).bind λy3=>some (y3.1,((),(),()))else none
  | .inr e=>e.elim)=some (lim (vl a+vl b),(),(),()):=by
  intro a b ha hb hla hab;obtain⟨out,c,e,h1,h2,h3,h4⟩:=QQ m ha hb hla m 0 [] 0 O O (λx hx=>by cases hx) rfl O
  rw[nZ]at e;rw[show List.replicate 0 (0:Int)=[]from rfl,e,bS]
  dsimp only;have w:wK (c:Int)=(c:Int):=by rw[fA];congr 1;omega
  rw[iP (by rw[h2];show a.length+1<=_;omega),w,Qz (x7 h1 O) (by rw[zJ,h2];show a.length+1<m;omega) (by rw[zJ,h2];show a.length+1<=_;omega),bS]
  dsimp only
  have:vl (out++[(c:Int)])=vl a+vl b:=by
   rw[Jz,h2];rw[qw hab]at h4;simp only[nW,xU,xS,vl,zG,zU]at h4;exact h4
  rw[this]
 rw[qM,bQ];by_cases h:(a.length:Int)<(b.length:Int)
 . have w:wI ((b.length:Int)+1)=((b.length+1:Nat):Int):=aB O;rw[iP h,w,iP O,xr (vl a)];exact main b a hb ha hlb O
 . have w:wI ((a.length:Int)+1)=((a.length+1:Nat):Int):=aB O;rw[ao h,w,iP O];exact main a b ha hb hla O
def qR (neg:Bool) (n:Nat):Bool×LI:=(neg&&n !=0,lim n)
def qv9 {m:Nat} {l:LI} (h:Lm l) (hm:l.length<m) (hl:l.length<=1000000000) (neg:Bool):dA m neg l=some (((qR neg (vl l)).1,(qR neg (vl l)).2,()),(),(),()):=by
 rw[dA,Qz h hm hl,bS,aF];dsimp only[qR];by_cases e:vl l=0
 . rw[e,Qj,iP (show((([]:LI).length:Nat):Int)=0 from rfl)];simp
 . have: ¬((lim (vl l)).length:Int)=0:=λh=>e (Jt.1 (pK.1 O))
   rw[ao this];have:(vl l !=0)=true:=by simpa using e
   rw[this,HJ]
def tD: ∀{l:LI} {p:Nat} {y:Int},p<l.length->vl (l.set p y)+4294967296^p*(l.getD p 0).toNat=vl l+4294967296^p*y.toNat
 |[],p,y,h=>by simp at h
 |x::l,0,y,h=>by simp[vl];omega
 |x::l,p+1,y,h=>by
  have ih:=tD (l:=l) (p:=p) (y:=y) (by simpa using h)
  rw[List.set_cons_succ,vl,vl,show(x::l).getD (p+1) 0=l.getD p 0 by simp[List.getD],gV,zh (4294967296^p),zX,zX]
  omega
def sF {l:LI} (h:Lm l) {p x:Nat} (hx:x<4294967296):Lm (l.set p (x:Int)):=λy hy=>by
 rcases List.mem_or_eq_of_mem_set hy with hy|rfl
 . exact h y hy
 . omega
def Xe {n:Nat}:Lm (List.replicate n 0):=λx hx=>by
 obtain⟨_,rfl⟩:=Np.1 hx;omega
def Xq {n:Nat}:vl (List.replicate n 0)=0:=OC λx hx=>(Np.1 hx).2
def qv1 {x y:Nat} (hx:x<4294967296) (hy:y<4294967296):x*y<=18446744065119617025:=
 zf (pN (show x<=4294967295 by omega) (show y<=4294967295 by omega)) (by decide)
def Wr (m:Nat) {b:LI} (hb:Lm b) (hl:b.length<=1000000) {i x:Nat} (hx:x<4294967296) (hi:i<=1000000) (a1:LI) (z1 z2:Int): ∀(n j:Nat) (out:LI) (c:Nat),b.length-j<n->j<=b.length->Lm out->i+b.length<out.length->c<4294967296->
 ∃out' c',kW m n b out (i:Int) (x:Int) (c:Int) a1 z1 z2 b (b.length:Int) (j:Int)=some (.inl (b,out',(i:Int),((c':Nat):Int),a1,z1,z2,()))/\Lm out'/\out'.length=out.length/\c'<4294967296/\
  (∀p,i+b.length<=p->out'.getD p 0=out.getD p 0)/\vl out'+4294967296^(i+b.length)*c'=vl out+4294967296^(i+j)*(c+x*vl (b.drop j))
 |0,j,out,c,h,_,_,_,_=>O
 |n+1,j,out,c,h,hj0,ho,hol,hc=>by
  rw[kW];by_cases hj:j<b.length
  . have h1:((j:Int)<(b.length:Int)):=O;have c1:(0:Int)<=(j:Int)/\(j:Int)<(b.length:Int):=O;obtain⟨y,ey,hy⟩:=hb.get hj
    have w0:wI ((i:Int)+(j:Int))=((i+j:Nat):Int):=by
     rw[wQ,wi O O];omega
    have c2:(0:Int)<=((i+j:Nat):Int)/\((i+j:Nat):Int)<(out.length:Int):=O;obtain⟨z,ez,hz⟩:=ho.get (show i+j<out.length by omega)
    have hm:=qv1 hx hy;have w1:wJ (x:Int)=(x:Int):=bA O;have w2:wJ (y:Int)=(y:Int):=bA O;have w3:wJ (z:Int)=(z:Int):=bA O;have w4:wJ ((x:Int)*(y:Int))=((x*y:Nat):Int):=by rw[show(x:Int)*(y:Int)=((x*y:Nat):Int) by rw[qZ],bA O]
    have w5:wJ (((x*y:Nat):Int)+(z:Int))=((x*y+z:Nat):Int):=by rw[show((x*y:Nat):Int)+(z:Int)=((x*y+z:Nat):Int) by rw[FC],bA O]
    have w6:wJ (((x*y+z:Nat):Int)+(c:Int))=((x*y+z+c:Nat):Int):=by rw[show((x*y+z:Nat):Int)+(c:Int)=((x*y+z+c:Nat):Int) by rw[FC (x*y+z)],bA O]
    have e1:wK (qp .u64 ((x*y+z+c:Nat):Int) 4294967295)=(((x*y+z+c)%4294967296:Nat):Int):=by rw[jq O,fA,xR]
    have e2:az .u64 ((x*y+z+c:Nat):Int) 32=(((x*y+z+c)/4294967296:Nat):Int):=cV (a:=x*y+z+c) (k:=32) O;rw[bQ,iP h1,iP c1,w0,iP c2,iP c2,tN,tN,zG,ey,ez,w1,w2,w3,w4,w5,w6,e1,e2,show wI ((j:Int)+1)=((j+1:Nat):Int)from aB O]
    have hlen:(out.set (i+j) (((x*y+z+c)%4294967296:Nat):Int)).length=out.length:=zS ..;obtain⟨out',c',g1,g2,g3,g4,g5,g6⟩:=Wr m hb hl hx hi a1 z1 z2 n (j+1) (out.set (i+j) (((x*y+z+c)%4294967296:Nat):Int)) ((x*y+z+c)/4294967296) O O (sF ho O) O O;refine⟨out',c',g1,g2,O,g4,λp hp=> ?_,?_⟩
    . rw[g5 p hp,bP O]
    . rw[g6];have hs:=tD (l:=out) (p:=i+j) (y:=(((x*y+z+c)%4294967296:Nat):Int)) O;rw[ez,tN,tN]at hs;have hd:vl (b.drop j)=y+4294967296*vl (b.drop (j+1)):=by rw[Xd hj,ey,tN]
      rw[hd,show i+(j+1)=i+j+1 by omega,gV]
      generalize 4294967296^(i+j)=P at*
      generalize vl (b.drop (j+1))=D at*
      generalize vl (out.set (i+j) (((x*y+z+c)%4294967296:Nat):Int))=A at*
      have ht:x*y+z+c=(x*y+z+c)%4294967296+4294967296*((x*y+z+c)/4294967296):=(IB _ _).symm;have k1:P*(x*y+z+c)=P*((x*y+z+c)%4294967296)+P*(4294967296*((x*y+z+c)/4294967296)):=by rw[<-Nat.mul_add,<-ht]
      have k2:P*(x*y+z+c)=P*(x*y)+P*z+P*c:=by rw[zL,zL]
      have k3:P*4294967296*((x*y+z+c)/4294967296+x*D)=P*(4294967296*((x*y+z+c)/4294967296))+P*(4294967296*(x*D)):=by rw[zL,zX,zX]
      have k4:P*(c+x*(y+4294967296*D))=P*c+(P*(x*y)+P*(4294967296*(x*D))):=by rw[zL,zL x,zL P (x*y),xw x 4294967296 D]
      rw[k3,k4];omega
  . rw[bQ,ao O];have:j=b.length:=O;subst this;refine⟨out,c,rfl,ho,rfl,hc,λ_ _=>rfl,?_⟩
    rw[qw (zF _),gd,zU]
def Wv (m:Nat) {a b:LI} (hm:2000000<m) (ha:Lm a) (hb:Lm b) (hla:a.length<=1000000) (hlb:b.length<=1000000): ∀(n i:Nat) (out:LI),a.length-i<n->i<=a.length->Lm out->out.length=a.length+b.length->(∀p,i+b.length<=p->out.getD p 0=0)->
 ∃out',kX m n b out a (a.length:Int) (i:Int)=some (.inl (out',()))/\Lm out'/\out'.length=a.length+b.length/\vl out'=vl out+4294967296^i*(vl (a.drop i)*vl b)
 |0,i,out,h,_,_,_,_=>O
 |n+1,i,out,h,hi0,ho,hol,hz=>by
  rw[kX];by_cases hi:i<a.length
  . have h1:((i:Int)<(a.length:Int)):=O;have c1:(0:Int)<=(i:Int)/\(i:Int)<(a.length:Int):=O;obtain⟨x,ex,hx⟩:=ha.get hi;obtain⟨o1,c,g1,g2,g3,g4,g5,g6⟩:=Wr m hb hlb (i:=i) hx O a (a.length:Int) (i:Int) m 0 out 0 O O ho O O;rw[nZ]at g1
    have w0:wI ((i:Int)+(b.length:Int))=((i+b.length:Nat):Int):=by
     rw[wQ,wi O O];omega
    have c2:(0:Int)<=((i+b.length:Nat):Int)/\((i+b.length:Nat):Int)<(o1.length:Int):=O;have w1:wK (c:Int)=(c:Int):=by rw[fA];congr 1;omega
    rw[bQ,iP h1,iP c1,tN,ex,g1,bS];dsimp only;rw[w0,iP c2,tN,zG,w1,show wI ((i:Int)+1)=((i+1:Nat):Int)from aB O]
    have hs:=tD (l:=o1) (p:=i+b.length) (y:=(c:Int)) O;rw[g5 _ (zF _),hz _ (zF _),tN]at hs
    obtain⟨out',q1,q2,q3,q4⟩:=Wv m hm ha hb hla hlb n (i+1) (o1.set (i+b.length) (c:Int)) O O (sF g2 g4) (by rw[zS];omega) (λp hp=>by
     rw[bP O,g5 p O];exact hz p O)
    refine⟨out',q1,q2,q3,?_⟩;rw[q4,Xd hi,ex,tN,gV];simp only[Int.toNat_zero,gd,zU,zG,nW]at hs g6;rw[ir,zL];have k:4294967296^i*4294967296*(vl (a.drop (i+1))*vl b)=4294967296^i*(4294967296*vl (a.drop (i+1))*vl b):=by rw[zX,zX]
    rw[k];omega
  . rw[bQ,ao O];refine⟨out,rfl,ho,hol,?_⟩;rw[qw O,ND,gd,zU]
def qqq {m:Nat} (hm:4000000<=m) {a b:LI} (ha:Lm a) (hb:Lm b) (hla:a.length<=1000000) (hlb:b.length<=1000000):yP m a b=some (lim (vl a*vl b),(),(),()):=by
 rw[yP,aF];by_cases h1:(a.length:Int)=0
 . have:a=[]:=pK.1 O;subst this;rw[iP h1,vl,ND,Qj]
 . rw[ao h1,aF];by_cases h2:(b.length:Int)=0
   . have:b=[]:=pK.1 O;subst this;rw[iP h2,vl,gd,Qj]
   . have w:wI ((a.length:Int)+(b.length:Int))=((a.length+b.length:Nat):Int):=by rw[wQ,wi O O];omega
     obtain⟨out,e,q1,q2,q3⟩:=Wv m O ha hb hla hlb m 0 (List.replicate (a.length+b.length) 0) O O Xe (by simp) (λp hp=>by
      by_cases h:p<a.length+b.length
      . rw[Xk h]
      . rw[Zy (by simpa using h)])
     rw[nZ]at e;rw[ao h2,w,iP O,tN,e,bS];dsimp only;rw[Qz q1 O O,bS];dsimp only;rw[q3,Xq];simp
def dO {n:Int}:wJ n=n%18446744073709551616:=by
 show IntKind.wrap .u64 n=_
 unfold IntKind.wrap;show(if(false&&decide (n%18446744073709551616>=9223372036854775808))=true then n%18446744073709551616-18446744073709551616 else n%18446744073709551616)=n%18446744073709551616
 simp only[FD];rw[ao (by simp)]
def Z0 {x y c:Nat} (hx:x<4294967296) (hy:y<4294967296) (hc:c<2): ∃d e:Nat,d<4294967296/\e<2/\d+y+c=x+4294967296*e/\
 wK (qp .u64 (wJ ((wJ ((x:Int)-(c:Int)))-(y:Int))) 4294967295)=(d:Int)/\qp .u64 (az .u64 (wJ ((wJ ((x:Int)-(c:Int)))-(y:Int))) 32) 1=(e:Int):=by
 have key: ∀t:Nat,t<18446744073709551616->wJ ((wJ ((x:Int)-(c:Int)))-(y:Int))=(t:Int)->
  wK (qp .u64 (wJ ((wJ ((x:Int)-(c:Int)))-(y:Int))) 4294967295)=((t%4294967296:Nat):Int)/\qp .u64 (az .u64 (wJ ((wJ ((x:Int)-(c:Int)))-(y:Int))) 32) 1=((t/4294967296%2:Nat):Int):=by
  intro t ht e;rw[e,jq ht,fA,xR];refine⟨rfl,?_⟩;have e2:az .u64 ((t:Nat):Int) 32=((t/4294967296:Nat):Int):=cV (a:=t) (k:=32) O;have e3:=iq (a:=t/4294967296) (b:=1) O O;rw[show((1:Nat):Int)=1 from rfl]at e3
  rw[e2,e3,show(1:Nat)=2^1-1 by decide,B3]
 by_cases h:y+c<=x
 . have e:wJ ((wJ ((x:Int)-(c:Int)))-(y:Int))=((x-c-y:Nat):Int):=by
    rw[dO,dO];omega
   obtain⟨k1,k2⟩:=key (x-c-y) O e;exact⟨_,_,O,O,O,k1,k2⟩
 . have e:wJ ((wJ ((x:Int)-(c:Int)))-(y:Int))=((18446744073709551616+x-c-y:Nat):Int):=by
    rw[dO,dO];omega
   obtain⟨k1,k2⟩:=key (18446744073709551616+x-c-y) O e;exact⟨_,_,O,O,O,k1,k2⟩
def WN (m:Nat) {a b:LI} (ha:Lm a) (hb:Lm b) (hl:a.length<=1000000) (hba:b.length<=a.length): ∀(n k:Nat) (out:LI) (c:Nat),a.length-k<n->k<=a.length->Lm out->out.length=a.length->(∀p,k<=p->out.getD p 0=0)->c<2->
 ∃out' c',gN m n b out (c:Int) a (a.length:Int) (k:Int)=some (.inl (out',()))/\Lm out'/\out'.length=a.length/\c'<2/\
  vl out'+4294967296^k*(c+vl (b.drop k))=vl out+4294967296^k*vl (a.drop k)+4294967296^a.length*c'
 |0,k,out,c,h,_,_,_,_,_=>O
 |n+1,k,out,c,h,hk0,ho,hol,hz,hc=>by
  rw[gN];by_cases hk:k<a.length
  . have h1:((k:Int)<(a.length:Int)):=O;have c1:(0:Int)<=(k:Int)/\(k:Int)<(a.length:Int):=O;have c2:(0:Int)<=(k:Int)/\(k:Int)<(out.length:Int):=O;obtain⟨x,ex,hx⟩:=ha.get hk;have w1:wJ (x:Int)=(x:Int):=bA O
    have step: ∀y d e:Nat,y<4294967296->d<4294967296->e<2->d+y+c=x+4294967296*e->vl (b.drop k)=y+4294967296*vl (b.drop (k+1))->
     ∃out' c',gN m n b (out.set (0+k) (d:Int)) (e:Int) a (a.length:Int) ((k+1:Nat):Int)=some (.inl (out',()))/\Lm out'/\out'.length=a.length/\c'<2/\
      vl out'+4294967296^k*(c+vl (b.drop k))=vl out+4294967296^k*vl (a.drop k)+4294967296^a.length*c':=by
     intro y d e hy hd he hde hbk;rw[zG];obtain⟨out',c',g1,g2,g3,g4,g5⟩:=WN m ha hb hl hba n (k+1) (out.set k (d:Int)) e O O (sF ho hd) (by rw[zS];exact hol) (λp hp=>by rw[bP O];exact hz p O) he
     refine⟨out',c',g1,g2,g3,g4,?_⟩;have hs:=tD (l:=out) (p:=k) (y:=(d:Int)) O;rw[hz k (zF _),tN]at hs;simp only[Int.toNat_zero,gd,zU]at hs;rw[hs,gV]at g5;rw[hbk,Xd hk,ex,tN];generalize 4294967296^k=P at*;generalize 4294967296^a.length*c'=Q at*;generalize vl (a.drop (k+1))=A at*;generalize vl (b.drop (k+1))=B at*;have k0:P*(d+y+c)=P*(x+4294967296*e):=by rw[hde]
     have k1:P*(d+y+c)=P*d+P*y+P*c:=by rw[zL,zL]
     have k2:P*(x+4294967296*e)=P*x+P*4294967296*e:=by rw[zL,zX]
     have k3:P*4294967296*(e+B)=P*4294967296*e+P*(4294967296*B):=by rw[zL,zX P 4294967296 B]
     have k4:P*(c+(y+4294967296*B))=P*c+(P*y+P*(4294967296*B)):=by rw[zL,zL]
     have k5:P*(x+4294967296*A)=P*x+P*(4294967296*A):=by rw[zL]
     have k6:P*4294967296*A=P*(4294967296*A):=zX ..;rw[k3,k6]at g5;rw[k4,k5];omega
    by_cases hkb:k<b.length
    . have h2:((k:Int)<(b.length:Int)):=O;have c3:(0:Int)<=(k:Int)/\(k:Int)<(b.length:Int):=O;obtain⟨y,ey,hy⟩:=hb.get hkb;have w3:wJ (y:Int)=(y:Int):=bA O;obtain⟨d,e,hd,he,hde,q1,q2⟩:=Z0 hx hy hc;rw[bQ,iP h1,iP c1,bQ,iP h2,iP c3,iP c2,tN,ex,ey,w1,w3,q1,q2,show wI ((k:Int)+1)=((k+1:Nat):Int)from aB O]
      exact step y d e hy hd he hde (by rw[Xd hkb,ey,tN])
    . have h2: ¬((k:Int)<(b.length:Int)):=O;obtain⟨d,e,hd,he,hde,q1,q2⟩:=Z0 hx (y:=0) O hc
      have w4:wJ (wJ ((x:Int)-(c:Int))-((0:Nat):Int))=wJ ((x:Int)-(c:Int)):=by
       rw[dO,dO];omega
      rw[w4]at q1 q2;rw[bQ,iP h1,iP c1,bQ,ao h2,iP c2,tN,ex,w1,q1,q2,show wI ((k:Int)+1)=((k+1:Nat):Int)from aB O]
      exact step 0 d e O hd he hde (by rw[qw O,qw O])
  . rw[bQ,ao O];have:k=a.length:=O;subst this;refine⟨out,c,rfl,ho,hol,hc,?_⟩;rw[qw (l:=a) (zF _),qw (l:=b) hba];simp
def Wq {m:Nat} (hm:2000000<m) {a b:LI} (ha:Lm a) (hb:Lm b) (hla:a.length<=1000000) (hba:b.length<=a.length) (hv:vl b<=vl a):sZ m a b=some (lim (vl a-vl b),(),(),()):=by
 obtain⟨out,c,e,h1,h2,h3,h4⟩:=WN m ha hb hla hba m 0 (List.replicate a.length 0) 0 O O Xe (by simp) (λp hp=>by
  by_cases h:p<a.length
  . rw[Xk h]
  . rw[Zy (by simpa using h)]) O
 rw[nZ]at e;rw[sZ,iP O,tN,e,bS];dsimp only;rw[Qz h1 O O,bS];dsimp only;have hlt:=cd h1;rw[h2]at hlt;rw[Xq]at h4;simp only[nW,xU,xS,zG]at h4
 have hc:c=0:=by
  rcases zq c 1 with h|h
  . omega
  . have:c=1:=O;subst this;omega
 subst hc;rw[show vl a-vl b=vl out by omega]
def Qd {x y:Nat} (h:x<=y):(lim x).length<=(lim y).length:=by
 have:=cd (Q9 y);rw[qx]at this;exact Xl O
def Zl {l:LI} {k:Nat} (h:k<=l.length):vl l=vl (l.take k)+4294967296^k*vl (l.drop k):=by
 conv=>lhs;rw[<-List.take_append_drop k l,xH]
 rw[zk,show min k l.length=k by omega]
def J8 {a b:LI} (ha:Lm a) {k:Nat} (hka:k<=a.length) (hkb:k<=b.length) (h:vl (a.drop k)<vl (b.drop k)):vl a<vl b:=by
 rw[Zl hka,Zl hkb];have h1:=cd (l:=a.take k) λx hx=>ha x (pJ hx)
 rw[zk,show min k a.length=k by omega]at h1
 have h2:4294967296^k*(vl (a.drop k)+1)<=4294967296^k*vl (b.drop k):=zi _ h;rw[zL,iw]at h2;omega
def qh3 {m:Nat} (x y:Int):zr m x y=some (if x<y then-1 else if x>y then 1 else 0,(),(),()):=by
 simp only[zr,yM,bS,bne_self_eq_false,cond_false,bQ];by_cases h1:x<y
 . simp[h1]
 . by_cases h2:x>y
   . simp[h1,h2]
   . simp[h1,h2]
def dm (x y:Nat):Int:=if x<y then-1 else if y<x then 1 else 0
def ZV (m:Nat) {a b:LI} (ha:Lm a) (hb:Lm b) (hl:a.length<=1000000) (hlen:a.length=b.length): ∀(k n:Nat),k<n->k<=a.length->vl (a.drop k)=vl (b.drop k)->
 ∃r,iV m n a b ((k:Int)-1)=some r/\(r= .inl (dm (vl a) (vl b),())\/r= .inr (.inl ())/\vl a=vl b)
 |0,n,h,_,hd=>by
  obtain⟨n,rfl⟩: ∃n',n=n'+1:=⟨n-1,O⟩;rw[iV,bQ,ao O];exact⟨_,rfl,.inr ⟨rfl,hd⟩⟩
 |k+1,n,h,hk,hd=>by
  obtain⟨n,rfl⟩: ∃n',n=n'+1:=⟨n-1,O⟩;have e0:((k+1:Nat):Int)-1=(k:Int):=O;have c1:(0:Int)<=(k:Int)/\(k:Int)<(a.length:Int):=O;have c2:(0:Int)<=(k:Int)/\(k:Int)<(b.length:Int):=O;have w:wI ((k:Int)-1)=(k:Int)-1:=by rw[wQ,wi O O]
  obtain⟨x,ex,hx⟩:=ha.get (show k<a.length by omega)
  obtain⟨y,ey,hy⟩:=hb.get (show k<b.length by omega)
  have d1:=Xd (l:=a) (k:=k) O;have d2:=Xd (l:=b) (k:=k) O;rw[ex,tN]at d1;rw[ey,tN,<-hd]at d2;rw[e0,iV,bQ,iP O,iP c1,iP c2,tN,ex,ey,aE,qh3];by_cases e:(x:Int)=(y:Int)
  . rw[iP e,w];have:x=y:=O;subst this;exact ZV m ha hb hl hlen k n O O O
  . rw[ao e,iP c1,iP c2,bS];refine⟨_,rfl,.inl ?_⟩;dsimp only;unfold dm;by_cases hxy:x<y
    . have:=J8 (a:=a) (b:=b) ha (k:=k) O O O;rw[iP O,iP this]
    . have:=J8 (a:=b) (b:=a) hb (k:=k) O O O;rw[ao O,iP O,ao O,iP this]
def Jb {m:Nat} (hm:2000000<m) {x y:Nat} (hx:(lim x).length<=1000000) (hy:(lim y).length<=1000000):qF m (lim x) (lim y)=some (dm x y,(),(),()):=by
 rw[qF,aE];by_cases e:((lim x).length:Int)=((lim y).length:Int)
 . rw[iP e];have w:wI (((lim x).length:Int)-1)=((lim x).length:Int)-1:=by rw[wQ,wi O O]
   obtain⟨r,g,hr⟩:=ZV m (Q9 x) (Q9 y) hx O (lim x).length m O (zF _) (by rw[qw (zF _),qw O])
   rw[w,g,bS];rw[qx,qx]at hr;rcases hr with rfl|⟨rfl,h⟩
   . rfl
   . subst h;simp[dm]
 . rw[ao e,Sc,bS];dsimp only;unfold dm;by_cases h:x<y
   . have:=Qd (tp h);rw[iP O,iP h]
   . have:=Qd (xu h)
     have hne:y<x:=by
      rcases zq y x with h2|h2
      . exact h2
      . have:x=y:=O;subst this;exact absurd rfl e
     rw[ao O,iP O,ao h,iP hne]
def zv (neg:Bool) (l:LI):Int:=if neg then-(vl l:Int)else(vl l:Int)
def zB (z:Int):Bool×LI×Unit:=(decide (z<0),lim z.natAbs,())
def Sz (l:LI):Prop:=Lm l/\l.length<=1000000
def iv (z:Int):Nat:=(lim z.natAbs).length
def Zv {neg:Bool} {l:LI}:(zv neg l).natAbs=vl l:=by
 unfold zv;cases neg<;>simp
def ba (z:Int):zv (zB z).1 (zB z).2.1=z:=by
 unfold zv zB;rw[qx];by_cases h:z<0
 . rw[iP (by simpa using h)];omega
 . rw[ao (by simpa using h)];omega
def Fl {z:Int} (h:iv z<=1000000):Sz (zB z).2.1:=⟨Q9 _,h⟩
def qr0 {a b:Int} {k:Nat} (ha:iv a<=k) (hb:iv b<=k):iv (a+b)<=k+1:=by
 refine Xl ?_;have h1:=cd (Q9 a.natAbs);have h2:=cd (Q9 b.natAbs);rw[qx]at h1 h2;have h3:4294967296^(lim a.natAbs).length<=4294967296^k:=zW O ha;have h4:4294967296^(lim b.natAbs).length<=4294967296^k:=zW O hb;rw[gV];omega
def qqy {a b:Int}:iv (a*b)<=iv a+iv b:=by
 refine Xl ?_;have h1:=cd (Q9 a.natAbs);have h2:=cd (Q9 b.natAbs);rw[qx]at h1 h2;rw[Na,xt];exact Nat.mul_lt_mul_of_lt_of_le h1 (tp h2) (f9 O)
def Vd {neg:Bool} {n:Nat}:zB (if neg then-(n:Int)else(n:Int))=((qR neg n).1,(qR neg n).2,()):=by
 unfold zB qR;cases neg with
 |false=>
  show(decide ((n:Int)<0),lim (n:Int).natAbs,())=_
  rw[show decide ((n:Int)<0)=false by simp,nx];rfl
 |true=>
  show(decide (-(n:Int)<0),lim (-(n:Int)).natAbs,())=_
  rw[BW,nx];by_cases h:n=0
  . subst h;rfl
  . rw[show decide (-(n:Int)<0)=true by rw[decide_eq_true_eq];omega,show(n !=0)=true by simpa using h];rfl
def I5 {m:Nat} (hm:2000000<m) {l:LI} (h:Lm l) (hl:l.length<=1000001) (neg:Bool):dA m neg l=some (zB (zv neg l),(),(),()):=by
 rw[qv9 h O O,zv,Vd]
def lY {m:Nat} (hm:2000000<m) {n:Nat} (hl:(lim n).length<=1000001) (neg:Bool):dA m neg (lim n)=some (zB (if neg then-(n:Int)else(n:Int)),(),(),()):=by
 rw[I5 hm (Q9 n) hl,zv,qx]
def I6 {m:Nat} {l:LI} (h:l.length<=1000001):qL m l=some (l,(),()):=by
 rw[qL,iP (by simp;omega)]
def PF {neg:Bool} {l:LI}:zv (!neg) l= -zv neg l:=by
 unfold zv;cases neg<;>simp
def qt2 {m:Nat} (hm:2000000<m) {neg:Bool} {l:LI} (h:Sz l):BE m neg l=some (zB (zv neg l),(),()):=by
 rw[BE,I6 (by have:=h.2;omega),bS,I5 hm h.1 (by have:=h.2;omega)];rfl
def IU {m:Nat} (hm:2000000<m) {neg:Bool} {l:LI} (h:Sz l):kN m neg l=some (zB (-zv neg l),(),()):=by
 rw[kN,I6 (by have:=h.2;omega),bS,I5 hm h.1 (by have:=h.2;omega),PF];rfl
def P6 {m:Nat} (hm:2000000<m) {neg:Bool} {l:LI} (h:Sz l):Ih m neg l=some (zB ((zv neg l).natAbs:Int),(),()):=by
 rw[Ih,I6 (by have:=h.2;omega),bS,I5 hm h.1 (by have:=h.2;omega),Zv];rfl
def x6 {n:Nat}:((lim n).length:Int)=0↔n=0:=by
 rw[<-Jt,<-List.length_eq_zero_iff];omega
def sgn (z:Int):Int:=if z<0 then-1 else if 0<z then 1 else 0
def Cl {m:Nat} (hm:2000000<m) {neg:Bool} {l:LI} (h:Sz l):ja m neg l=some (sgn (zv neg l),(),()):=by
 rw[ja,Qz h.1 (by have:=h.2;omega) (by have:=h.2;omega),bS,aF]
 dsimp only;unfold sgn zv;by_cases e:vl l=0
 . rw[iP (x6.2 e)];cases neg<;>simp[e]
 . rw[ao (λh=>e (x6.1 h))]
   cases neg
   . simp only[cond_false,ao (show¬(false=true) by simp)]
     rw[ao O,iP O]
   . simp only[cond_true,iP];rw[iP O]
def St {m:Nat} (hm:2000000<m) {n:Int} (h1: -9223372036854775808<=n) (h2:n<9223372036854775808):jS m n=some (zB n,(),()):=by
 have lo: ∀u:Nat,u<18446744073709551616-> ∀neg:Bool,dA m neg [wK (qp .u64 (u:Int) 4294967295),wK (az .u64 (u:Int) 32)]=some (zB (if neg then-(u:Int)else(u:Int)),(),(),()):=by
  intro u hu neg;have e2:az .u64 (u:Int) 32=((u/4294967296:Nat):Int):=cV (a:=u) (k:=32) O;rw[jq hu,fA,e2,fA,xR,j7 (show u/4294967296<4294967296 by omega),I5 hm,zv]
  . have:vl [((u%4294967296:Nat):Int),((u/4294967296:Nat):Int)]=u:=by
     simp only[vl,tN];omega
    rw[this]
  . intro x hx;simp only[zT,zZ,or_false]at hx;omega
  . simp
 rw[jS,bQ];by_cases h:n<0
 . have w:wJ (0-wJ n)=((n.natAbs:Nat):Int):=by rw[dO,dO];omega
   rw[iP h,w,lo _ O,bS,show decide (n<0)=true by simpa using h,iP rfl,show-(n.natAbs:Int)=n by omega]
 . have w:wJ n=((n.natAbs:Nat):Int):=by rw[dO];omega
   rw[ao h,w,lo _ O,bS,show decide (n<0)=false by simpa using h,ao (by simp),show(n.natAbs:Int)=n by omega]
def Sz.lim {l:LI} (h:Sz l):(lim (vl l)).length<=1000000:=zf (Y7 h.1) h.2
def VR {x y:Nat} (hx:(lim x).length<=1000000) (hy:(lim y).length<=1000000):(lim (x+y)).length<=1000001:=by
 have:=qr0 (a:=(x:Int)) (b:=(y:Int)) (k:=1000000) hx hy;unfold iv at this
 rwa [show((x:Int)+(y:Int)).natAbs=x+y by omega]at this
def NU {m:Nat} (hm:2000000<m) {n1 n2:Bool} {l1 l2:LI} (h1:Sz l1) (h2:Sz l2):jQ m n1 l1 n2 l2=some (zB (zv n1 l1+zv n2 l2),(),(),()):=by
 have b1:=h1.lim;have b2:=h2.lim;rw[jQ,Qz h1.1 (by have:=h1.2;omega) (by have:=h1.2;omega),bS,Qz h2.1 (by have:=h2.2;omega) (by have:=h2.2;omega),bS]
 dsimp only;by_cases hn:n1=n2
 . subst hn;rw[show(n1==n1)=true by simp,cond_true,QK hm (Q9 _) (Q9 _) b1 b2,bS]
   dsimp only;rw[qx,qx,lY hm (VR b1 b2),bS]
   have:(if n1=true then-((vl l1+vl l2:Nat):Int)else((vl l1+vl l2:Nat):Int))=zv n1 l1+zv n1 l2:=by
    unfold zv;cases n1<;>simp<;>omega
   rw[this]
 . rw[show(n1==n2)=false by simpa using hn,cond_false,Jb hm b1 b2,bS,bQ]
   dsimp only;unfold dm
   have ev:zv n1 l1+zv n2 l2=if n1 then(vl l2:Int)-vl l1 else(vl l1:Int)-vl l2:=by
    unfold zv;cases n1<;>cases n2<;>simp at hn⊢ <;>omega
   by_cases hlt:vl l1<vl l2
   . have k:(if vl l1<vl l2 then(-1:Int)else if vl l2<vl l1 then 1 else 0)= -1:=iP hlt
     rw[k,ao O,Wq hm (Q9 _) (Q9 _) b2 (Qd (tp hlt)) (by rw[qx,qx];exact tp hlt),bS]
     dsimp only;rw[qx,qx,lY hm (by have:=Qd (Nat.sub_le (vl l2) (vl l1));omega),bS]
     have:(if n2=true then-((vl l2-vl l1:Nat):Int)else((vl l2-vl l1:Nat):Int))=zv n1 l1+zv n2 l2:=by
      rw[ev];cases n1<;>cases n2<;>simp at hn⊢ <;>omega
     rw[this]
   . have k:(if vl l1<vl l2 then(-1:Int)else if vl l2<vl l1 then 1 else 0)>=0:=by
      rw[ao hlt];split<;>omega
     rw[iP k,Wq hm (Q9 _) (Q9 _) b1 (Qd (xu hlt)) (by rw[qx,qx];exact xu hlt),bS]
     dsimp only;rw[qx,qx,lY hm (by have:=Qd (Nat.sub_le (vl l1) (vl l2));omega),bS]
     have:(if n1=true then-((vl l1-vl l2:Nat):Int)else((vl l1-vl l2:Nat):Int))=zv n1 l1+zv n2 l2:=by
      rw[ev];cases n1<;>cases n2<;>simp at hn⊢ <;>omega
     rw[this]
def qv8 {m:Nat} (hm:2000000<m) {n1 n2:Bool} {l1 l2:LI} (h1:Sz l1) (h2:Sz l2):zt m n1 l1 n2 l2=some (zB (zv n1 l1-zv n2 l2),(),(),()):=by
 rw[zt,NU hm h1 h2,PF,<-Int.sub_eq_add_neg];rfl
def mn (x y:Int):Int:=if x<y then-1 else if y<x then 1 else 0
def Ut {m:Nat} (hm:2000000<m) {n1 n2:Bool} {l1 l2:LI} (h1:Sz l1) (h2:Sz l2):qt m n1 l1 n2 l2=some (mn (zv n1 l1) (zv n2 l2),(),(),()):=by
 have b1:=h1.lim;have b2:=h2.lim;rw[qt,Cl hm h1,bS,Cl hm h2,bS,bQ,bQ];dsimp only;by_cases c1:sgn (zv n1 l1)<sgn (zv n2 l2)
 . rw[iP c1]
   have:mn (zv n1 l1) (zv n2 l2)= -1:=by
    unfold sgn at c1;unfold mn;rw[iP];split at c1<;>(try split at c1)<;>(try split at c1)<;>omega
   rw[this]
 . rw[ao c1];by_cases c2:sgn (zv n1 l1)>sgn (zv n2 l2)
   . rw[iP c2]
     have:mn (zv n1 l1) (zv n2 l2)=1:=by
      unfold sgn at c2;unfold mn
      have:zv n2 l2<zv n1 l1:=by
       split at c2<;>(try split at c2)<;>(try split at c2)<;>omega
      rw[ao O,iP this]
     rw[this]
   . rw[ao c2,Qz h1.1 (by have:=h1.2;omega) (by have:=h1.2;omega),bS,Qz h2.1 (by have:=h2.2;omega) (by have:=h2.2;omega),bS]
     dsimp only;rw[Jb hm b1 b2,bS];dsimp only;have e:sgn (zv n1 l1)=sgn (zv n2 l2):=O
     have:wI (sgn (zv n1 l1)*dm (vl l1) (vl l2))=mn (zv n1 l1) (zv n2 l2):=by
      have a1:=Zv (neg:=n1) (l:=l1);have a2:=Zv (neg:=n2) (l:=l2);generalize zv n1 l1=x at*;generalize zv n2 l2=y at*;rw[<-a1,<-a2];unfold sgn at e⊢;unfold mn dm;by_cases x1:x<0
      . rw[iP x1]at e⊢
        have y1:y<0:=by
         by_cases h:y<0
         . exact h
         . rw[ao h]at e;split at e<;>omega
        by_cases q1:x<y
        . rw[ao O,iP O,iP q1,wQ,wi O O];rfl
        . by_cases q2:y<x
          . rw[iP O,ao q1,iP q2,wQ,wi O O];rfl
          . rw[ao O,ao O,ao q1,ao q2,wQ,wi O O];rfl
      . rw[ao x1]at e⊢;by_cases x2:0<x
        . rw[iP x2]at e⊢
          have y1:0<y:=by
           by_cases h:y<0
           . rw[iP h]at e;omega
           . rw[ao h]at e;split at e<;>omega
          by_cases q1:x<y
          . rw[iP O,iP q1,wQ,wi O O];rfl
          . by_cases q2:y<x
            . rw[ao O,iP O,ao q1,iP q2,wQ,wi O O];rfl
            . rw[ao O,ao O,ao q1,ao q2,wQ,wi O O];rfl
        . rw[ao x2]at e⊢;have x0:x=0:=O
          have y0:y=0:=by
           by_cases h:y<0
           . rw[iP h]at e;omega
           . rw[ao h]at e;split at e<;>omega
          subst x0 y0;rfl
     rw[this]
def UD {m:Nat} (hm:4000000<=m) {n1 n2:Bool} {l1 l2:LI} (h1:Lm l1) (h2:Lm l2) (hl:l1.length+l2.length<=1000000):qs m n1 l1 n2 l2=some (zB (zv n1 l1*zv n2 l2),(),(),()):=by
 have b1:=Y7 h1;have b2:=Y7 h2;rw[qs,Qz h1 O O,bS,Qz h2 O O,bS];dsimp only;rw[qqq hm (Q9 _) (Q9 _) O O,bS];dsimp only
 have hlen:(lim (vl l1*vl l2)).length<=1000001:=by
  have:=qqy (a:=(vl l1:Int)) (b:=(vl l2:Int));unfold iv at this;rw[Na,nx,nx]at this;omega
 rw[qx,qx,lY O hlen,bS]
 have:(if(!(n1==n2))=true then-((vl l1*vl l2:Nat):Int)else((vl l1*vl l2:Nat):Int))=zv n1 l1*zv n2 l2:=by
  unfold zv;cases n1<;>cases n2<;>simp[M8,Int.mul_neg]
 rw[this]
def j3 {a:Nat} (h:a<4294967296):(BitVec.ofInt 32 (a:Int)).toNat=a:=by
 rw[BitVec.toNat_ofInt];have:((a:Int)%((2^32:Nat):Int)).toNat=a:=O;exact this
def pT {a:Nat} (h:a<4294967296):IntKind.wrap .u32 (a:Int)=(a:Int):=by
 show wK (a:Int)=_
 rw[fA,j7 h]
def S8 {a b:Nat} (ha:a<4294967296) (hb:b<4294967296):bc .u32 (a:Int) (b:Int)=((a|||b:Nat):Int):=by
 unfold bc;show IntKind.wrap .u32 ((BitVec.ofInt 32 (a:Int)|||BitVec.ofInt 32 (b:Int)).toNat:Int)=_
 rw[BitVec.toNat_or,j3 ha,j3 hb];have:a|||b<2^32:=Nat.or_lt_two_pow ha hb
 rw[pT O]
def Fh {a b:Nat} (ha:a<4294967296) (hb:b<4294967296):qp .u32 (a:Int) (b:Int)=((a&&&b:Nat):Int):=by
 unfold qp;show IntKind.wrap .u32 ((BitVec.ofInt 32 (a:Int)&&&BitVec.ofInt 32 (b:Int)).toNat:Int)=_;rw[BitVec.toNat_and,j3 ha,j3 hb];have:a&&&b<=a:=Nat.and_le_left;rw[pT O]
def kj {a b:Nat} (ha:a<18446744073709551616) (hb:b<18446744073709551616):bc .u64 (a:Int) (b:Int)=((a|||b:Nat):Int):=by
 unfold bc;show IntKind.wrap .u64 ((BitVec.ofInt 64 (a:Int)|||BitVec.ofInt 64 (b:Int)).toNat:Int)=_
 rw[BitVec.toNat_or,jZ ha,jZ hb];have:a|||b<2^64:=Nat.or_lt_two_pow ha hb
 rw[wu O O]
def fD {a k:Nat} (hk:k<=64) (h:a*2^k<18446744073709551616):bu .u64 (a:Int) (k:Int)=((a*2^k:Nat):Int):=by
 unfold bu;rw[show min (k:Int).toNat (IntKind.u64.bits)=k by show min _ 64=k;omega]
 have:(a:Int)*2^k=((a*2^k:Nat):Int):=by
  rw[qZ,nY];rfl
 rw[this];exact bA h
def NX {n:Nat}:Int.tdiv (n:Int) 32=((n/32:Nat):Int):=(Int.ofNat_tdiv n 32).symm
def N8 {n:Nat}:Int.tmod (n:Int) 32=((n%32:Nat):Int):=(Int.ofNat_tmod n 32).symm
def qts {x p o:Nat} (hx:x<4294967296) (hp:p<32) (ho:o<2^p): ∃d e:Nat,d<4294967296/\e<2^p/\d+4294967296*e=o+x*2^p/\
 bc .u32 (o:Int) (wK (qp .u64 (bu .u64 (x:Int) (p:Int)) 4294967295))=(d:Int)/\wK (az .u64 (bu .u64 (x:Int) (p:Int)) 32)=(e:Int):=by
 have hpp:2^p*2^(32-p)=4294967296:=by rw[<-Nat.pow_add,show p+(32-p)=32 by omega]
 have hP:0<2^p:=f9 O;have hQ:0<2^(32-p):=f9 O;have hple:2^p<=2^31:=zW O O;have h1:x*2^p<=4294967295*2^p:=zO _ O;have h2:4294967295*2^p<=4294967295*2^31:=zi _ hple
 have hx2:x*2^p<18446744073709551616:=by
  have:(4294967295:Nat)*2^31<18446744073709551616:=by decide
  omega
 have e2:az .u64 ((x*2^p:Nat):Int) 32=((x*2^p/4294967296:Nat):Int):=cV (a:=x*2^p) (k:=32) O
 have hlo:x*2^p%4294967296=2^p*(x%2^(32-p)):=by
  rw[<-hpp,zh x,Nat.mul_mod_mul_left]
 have hhi:x*2^p/4294967296<2^p:=by
  rw[B7 O,zh];exact Nat.mul_lt_mul_of_pos_left hx hP
 have hor:o|||x*2^p%4294967296=o+x*2^p%4294967296:=by
  rw[hlo,Fw,<-Nat.two_pow_add_eq_or_of_lt ho,xr]
 have hlt:o+x*2^p%4294967296<4294967296:=by
  rw[<-hor];have:o|||x*2^p%4294967296<2^32:=Nat.or_lt_two_pow O O
  omega
 refine⟨o+x*2^p%4294967296,x*2^p/4294967296,hlt,hhi,O,?_,?_⟩
 . rw[fD O hx2,jq hx2,fA,xR,S8 O O,hor]
 . rw[fD O hx2,e2,fA,j7 O]
def quz {B P T V0 V1 V2 x d e o D:Nat} (hs1:V1+P*o=V0+P*d) (hs2:V2+P*B*(0:Int).toNat=V1+P*B*e) (hde:d+B*e=o+x*T):V2+P*B*(T*D)=V0+P*(T*(x+B*D)):=by
 rw[show(0:Int).toNat=0 from rfl,gd,zU]at hs2
 have k1:P*(d+B*e)=P*(o+x*T):=by rw[hde]
 have k2:P*(d+B*e)=P*d+P*B*e:=by rw[zL,zX]
 have k3:P*(o+x*T)=P*o+P*(T*x):=by rw[zL,zh x]
 have k4:P*(T*(x+B*D))=P*(T*x)+P*B*(T*D):=by
  rw[zL,zL,xw T B D,zX P B]
 rw[k4];omega
def IN (m:Nat) {a:LI} {w p:Nat} (ha:Lm a) (hl:a.length<=1000000) (hw:w<=1000000) (hp:p<32): ∀(n k:Nat) (out:LI) (o:Nat),a.length-k<n->k<=a.length->Lm out->out.length=w+a.length+1->(∀q,w+k<q->out.getD q 0=0)->out.getD (w+k) 0=(o:Int)->o<2^p->
 ∃out',lR m n (w:Int) (p:Int) out a (a.length:Int) (k:Int)=some (.inl (out',()))/\Lm out'/\out'.length=out.length/\vl out'=vl out+4294967296^(w+k)*(2^p*vl (a.drop k)):=by
 intro n;induction n with
 |zero=>intro k out o h;omega
 |succ n ih=>
  intro k out o h hk0 ho hol hz eo hop;rw[lR];by_cases hk:k<a.length
  . have h1:((k:Int)<(a.length:Int)):=O;have c1:(0:Int)<=(k:Int)/\(k:Int)<(a.length:Int):=O;obtain⟨x,ex,hx⟩:=ha.get hk;have w0:wI ((w:Int)+(k:Int))=((w+k:Nat):Int):=by rw[wQ,wi O O];omega
    have w1:wI (((w+k:Nat):Int)+1)=((w+k+1:Nat):Int):=aB O;have w2:wJ (x:Int)=(x:Int):=bA O;have c2:(0:Int)<=((w+k:Nat):Int)/\((w+k:Nat):Int)<(out.length:Int):=O;obtain⟨d,e,hd,he,hde,q1,q2⟩:=qts hx hp hop
    have he2:e<4294967296:=by
     have hple:2^p<=2^31:=zW O O;omega
    have c3:(0:Int)<=((w+k+1:Nat):Int)/\((w+k+1:Nat):Int)<(((out.set (w+k) (d:Int)).length:Nat):Int):=by rw[zS];omega
    rw[bQ,iP h1,iP c1,iP O,w0,w1,iP c2,iP c2,tN,tN,tN,zG,zG,ex,eo,w2,q1,q2,iP c3,show wI ((k:Int)+1)=((k+1:Nat):Int)from aB O]
    have hs1:=tD (l:=out) (p:=w+k) (y:=(d:Int)) O;have hs2:=tD (l:=out.set (w+k) (d:Int)) (p:=w+k+1) (y:=(e:Int)) (by rw[zS];omega)
    rw[bP O,hz _ O]at hs2;rw[eo]at hs1
    obtain⟨out',g1,g2,g3,g4⟩:=ih (k+1) ((out.set (w+k) (d:Int)).set (w+k+1) (e:Int)) e O O (sF (sF ho hd) he2) (by rw[zS,zS];exact hol) (λq hq=>by
     rw[bP O,bP O];exact hz q O) (by rw[show w+(k+1)=w+k+1 by omega,SD (by rw[zS];omega)]) he
    refine⟨out',g1,g2,by rw[g3,zS,zS],?_⟩
    have hpw:4294967296^(w+k+1)=4294967296^(w+k)*4294967296:=gV ..;rw[hpw,tN]at hs2;rw[tN,tN]at hs1;rw[g4,Xd hk,ex,tN,<-Nat.add_assoc w k 1,hpw];exact quz hs1 hs2 hde
  . rw[bQ,ao O];refine⟨out,rfl,ho,rfl,?_⟩;rw[qw O];simp
def rj {w p:Nat}:4294967296^w*2^p=2^(32*w+p):=by
 rw[show(4294967296:Nat)=2^32 by decide,<-Nat.pow_mul,<-Nat.pow_add]
def ra {m:Nat} (hm:3000000<m) {a:LI} (ha:Lm a) (hl:a.length<=500000) {n:Nat} (hn:n<=10000000):qN m a (n:Int)=some (lim (vl a*2^n),(),(),()):=by
 rw[qN,aF];by_cases h:(a.length:Int)=0
 . have:a=[]:=pK.1 O;subst this;rw[iP h,vl,ND,Qj]
 . have w0:wI (Int.tdiv (n:Int) 32)=((n/32:Nat):Int):=by rw[NX,wQ,wi O O]
   have w1:wJ (Int.tmod (n:Int) 32)=((n%32:Nat):Int):=by rw[N8,bA O]
   have w2:wI (((n/32:Nat):Int)+(a.length:Int))=((n/32+a.length:Nat):Int):=by rw[wQ,wi O O];omega
   have w3:wI (((n/32+a.length:Nat):Int)+1)=((n/32+a.length+1:Nat):Int):=aB O
   obtain⟨out,e,h1,h2,h3⟩:=IN m (w:=n/32) (p:=n%32) ha O O O m 0 (List.replicate (n/32+a.length+1) 0) 0 O O Xe (by simp) (λp hp=>by
    by_cases h:p<n/32+a.length+1
    . rw[Xk h]
    . rw[Zy (by simpa using h)]) (by rw[Xk O];rfl) (f9 O)
   rw[nZ]at e;rw[ao h,w0,w1,w2,w3,iP O,tN,e,bS];dsimp only;rw[nX]at h2;rw[Qz h1 O O,bS];dsimp only;rw[h3,Xq,nW,zG,zU,<-Nat.mul_assoc,rj,show 32*(n/32)+n%32=n by omega,zh]
def au (n:Nat):Nat:=if n=0 then 0 else n.log2+1
def Z7:au 0=0:=rfl
def X8 {n:Nat} (h:n≠0):au n=n.log2+1:=ao h
def VM {n k:Nat} (h1:2^k<=n) (h2:n<2^(k+1)):au n=k+1:=by
 have hn:n≠0:=by
  have:0<2^k:=f9 O;omega
 rw[X8 hn];have a:n.log2<k+1:=(xQ hn).2 h2;have b: ¬n.log2<k:=λh=>by have:=(xQ hn).1 h;omega
 omega
def Zc (n:Nat):n<2^au n:=by
 by_cases h:n=0
 . subst h;exact f9 O
 . rw[X8 h];exact Nat.lt_log2_self
def JB {n:Nat} (h:n≠0):2^(au n-1)<=n:=by
 rw[X8 h];exact Nat.log2_self_le h
def OT {x k y:Nat} (hx:x≠0) (hy:y<2^k):au (2^k*x+y)=k+au x:=by
 have h1:=Zc x;have h2:=JB hx;have h3:au x=au x-1+1:=by rw[X8 hx];omega
 rw[h3,<-Nat.add_assoc];refine VM ?_ ?_
 . rw[xt];have:=zi (2^k) h2;omega
 . rw[show k+(au x-1)+1=k+au x by omega,xt]
   have:2^k*(x+1)<=2^k*2^au x:=zi _ h1;rw[zL,iw]at this;omega
def quc: ∀x:Fin 256,Qi.getD x.val 0=((au x.val:Nat):Int):=by decide+kernel
def qkr:Qi.length=256:=by decide+kernel
def uj {a k:Nat} (hk:k<=32):az .u32 (a:Int) (k:Int)=((a/2^k:Nat):Int):=by
 unfold az;rw[show min (k:Int).toNat (IntKind.u32.bits)=k by show min _ 32=k;omega]
 exact pq
def w8n {a:Nat} (h:a<256):b9 (a:Int)=(a:Int):=by
 show(a:Int)%256=_
 omega
def Rm {m x:Nat} (hx:x<4294967296):sX m (x:Int)=some (((au x:Nat):Int),(),()):=by
 have look: ∀y:Nat,y<256->(0:Int)<=b9 (y:Int)/\b9 (y:Int)<(Qi.length:Int)/\wI (Qi.getD (b9 (y:Int)).toNat 0)=((au y:Nat):Int)/\au y<=8:=by
  intro y hy
  have b8:au y<=8:=by
   by_cases h:y=0
   . subst h;exact l8 _
   . have:y.log2<8:=(xQ h).2 hy;rw[X8 h];omega
  rw[w8n hy,qkr,tN];refine⟨O,O,?_,b8⟩;rw[show Qi.getD y 0=((au y:Nat):Int)from quc ⟨y,hy⟩,wQ,wi O O]
 have sh: ∀k:Nat,k<=31->2^k<=x->au x=k+au (x/2^k):=by
  intro k hk hle;have hp:0<2^k:=f9 O;have:=OT (x:=x/2^k) (k:=k) (y:=x%2^k) (by have:=Nat.div_pos hle hp;omega) (l6 _ hp)
  rwa [xM]at this
 have s16:az .u32 (x:Int) 16=((x/65536:Nat):Int):=uj (k:=16) O;have s8:az .u32 (x:Int) 8=((x/256:Nat):Int):=uj (k:=8) O;have s168:az .u32 ((x/65536:Nat):Int) 8=((x/65536/256:Nat):Int):=uj (k:=8) O;rw[sX,bQ,bQ,bQ,s16,s8,s168];by_cases h1:(x:Int)>=65536
 . rw[iP h1];by_cases h2:((x/65536:Nat):Int)>=256
   . obtain⟨l1,l2,l3,l4⟩:=look (x/65536/256) O;have e:=sh 24 O O;rw[show x/2^24=x/65536/256 by omega]at e
     rw[iP h2,iP ⟨l1,l2⟩,l3,wQ,wi O O,e,FC];rfl
   . obtain⟨l1,l2,l3,l4⟩:=look (x/65536) O;have e:=sh 16 O O;rw[show x/2^16=x/65536 by omega]at e
     rw[ao h2,iP ⟨l1,l2⟩,l3,wQ,wi O O,e,FC];rfl
 . rw[ao h1];by_cases h2:(x:Int)>=256
   . obtain⟨l1,l2,l3,l4⟩:=look (x/256) O;have e:=sh 8 O O;rw[show x/2^8=x/256 by omega]at e
     rw[iP h2,iP ⟨l1,l2⟩,l3,wQ,wi O O,e,FC];rfl
   . obtain⟨l1,l2,l3,l4⟩:=look x O;rw[ao h2,iP ⟨l1,l2⟩,l3,wQ,wi O O,Int.zero_add]
def Wm {n:Nat} (h:n≠0): ∃k x y:Nat,(lim n).length=k+1/\(lim n).getD k 0=(x:Int)/\x<4294967296/\x≠0/\y<2^(32*k)/\n=2^(32*k)*x+y:=by
 have hne:lim n≠[]:=λe=>h (Jt.1 e)
 have hl:0<(lim n).length:=List.length_pos_iff.2 hne;obtain⟨k,hk⟩: ∃k,(lim n).length=k+1:=⟨(lim n).length-1,O⟩;obtain⟨x,ex,hx⟩:=(Q9 n).get (show k<(lim n).length by omega)
 have hlast:=quv n hne;rw[List.getLast_eq_getElem]at hlast
 have hx0:x≠0:=by
  rintro rfl
  apply hlast;rw[List.getD,List.getElem?_eq_getElem O]at ex;simp only[hk,HD];exact ex
 have hb:(4294967296:Nat)^k=2^(32*k):=by rw[show(4294967296:Nat)=2^32 by decide,<-Nat.pow_mul]
 have hv:=Zl (l:=lim n) (k:=k) O;have hlt:=cd (l:=(lim n).take k) λx hx=>Q9 n x (pJ hx)
 rw[zk,show min k (lim n).length=k by omega,hb]at hlt
 rw[Xd O,ex,qw O,qx,tN,gd,zU,hb]at hv;exact⟨k,x,vl ((lim n).take k),hk,ex,hx,hx0,hlt,O⟩
def length_eq {m n:Nat} (h:(lim n).length<=1000000):vy m (lim n)=some (((au n:Nat):Int),(),()):=by
 rw[vy,aF];by_cases e:n=0
 . subst e;rw[iP (x6.2 rfl)];rfl
 . obtain⟨k,x,y,h1,h2,h3,h4,h5,h6⟩:=Wm e;have w1:wI (((lim n).length:Int)-1)=(k:Int):=by rw[wQ,wi O O];omega
   have w2:wI ((k:Int)*32)=((32*k:Nat):Int):=by rw[wQ,wi O O];omega
   have hb:au x<=32:=by
    have:x.log2<32:=(xQ h4).2 h3;rw[X8 h4];omega
   have w3:wI (((32*k:Nat):Int)+((au x:Nat):Int))=((32*k+au x:Nat):Int):=by rw[wQ,wi O O];omega
   rw[ao (λh=>e (x6.1 h)),w1,iP O,tN,h2,Rm h3,bS]
   dsimp only;rw[w2,w3,<-OT h4 h5,<-h6]
def H9 {m:Nat} (hm:2000000<m) {neg:Bool} {l:LI} (h:Sz l):nO m neg l=some (((au (vl l):Nat):Int),(),()):=by
 rw[nO,Qz h.1 (by have:=h.2;omega) (by have:=h.2;omega),bS]
 dsimp only;rw[length_eq h.lim,bS]
def tz (n:Nat):Nat:=if h:n=0 then 0 else if n%2=1 then 0 else tz (n/2)+1
termination_by n
decreasing_by omega
def QG:tz 0=0:=by rw[tz];simp
def N3 {n:Nat} (h:n%2=1):tz n=0:=by
 rw[tz,dif_neg O,iP h]
def Ul {n:Nat} (h:n≠0):tz (2*n)=tz n+1:=by
 rw[tz,dif_neg O,ao O,show 2*n/2=n by omega]
def PU {k q:Nat} (h:q%2=1):tz (2^k*q)=k:=by
 induction k with
 |zero=>rw[xU,xS,N3 h]
 |succ k ih=>
  have:0<2^k*q:=Nx (f9 O) O;rw[gV,zh (2^k) 2,zX,Ul O,ih]
def I8 {n:Nat} (h:n≠0): ∃q,n=2^tz n*q/\q%2=1:=by
 induction n using Nat.strongRecOn with
 |ind n ih=>
  by_cases e:n%2=1
  . exact⟨n,by rw[N3 e];omega,e⟩
  . obtain⟨q,h1,h2⟩:=ih (n/2) O O;refine⟨q,?_,h2⟩;have e2:n=2*(n/2):=O
    have e3:tz n=tz (n/2)+1:=by
     have:=Ul (n:=n/2) O
     rwa [<-e2]at this
    rw[e3,gV,zh (2^_) 2,zX,<-h1];exact e2
def qm7 {j q:Nat} (h:q<2^j):q&&&(2^j-(q+1))=0:=by
 apply Nat.eq_of_testBit_eq;intro i;rw[IA,Nat.testBit_two_pow_sub_succ h,Nat.zero_testBit];cases Nat.testBit q i<;>simp
def Ob {x:Nat} (h0:x≠0) (hx:x<4294967296):x&&&(4294967296-x)=2^tz x/\tz x<32:=by
 obtain⟨q,h1,h2⟩:=I8 h0;generalize tz x=k at*
 have hk:k<32:=by
  rcases zq k 32 with h|h
  . exact h
  . have a:=zW (n:=2) O h;have b:2^k*1<=2^k*q:=zi _ O;have:(2:Nat)^32=4294967296:=by decide
    omega
 refine⟨?_,hk⟩;obtain⟨r,rfl⟩: ∃r,q=2*r+1:=⟨q/2,O⟩
 have hp:2^k*(2*2^(31-k))=4294967296:=by
  rw[show 2*2^(31-k)=2^(31-k+1) by rw[gV,zh],<-Nat.pow_add,show k+(31-k+1)=32 by omega]
 have hr:r<2^(31-k):=by
  have:2^k*(2*r+1)<2^k*(2*2^(31-k)):=O;have:=Iz this;omega
 have e:4294967296-x=2^k*(2*(2^(31-k)-(r+1))+1):=by
  rw[h1,<-hp,<-Nat.mul_sub];congr 1;omega
 rw[e,h1];apply Nat.eq_of_testBit_eq;intro i;rw[IA,Nat.testBit_two_pow_mul,Nat.testBit_two_pow_mul,HH];by_cases hi:i<k
 . simp[show¬k<=i by omega,show¬k=i by omega]
 . by_cases hik:k=i
   . subst hik;simp[Nat.testBit_zero,Ir]
   . obtain⟨t,ht⟩: ∃t,i-k=t+1:=⟨i-k-1,O⟩
     have hb: ∀y,(2*y+1).testBit (t+1)=y.testBit t:=λy=>by
      rw[Nat.testBit_succ,show(2*y+1)/2=y by omega]
     rw[ht,hb,hb];have:=congrArg (λz=>Nat.testBit z t) (qm7 hr)
     simp only[IA,Nat.zero_testBit]at this;simp[hik];intro _ h3;rw[h3]at this;intro _;simpa using this
def quu: ∀k:Fin 32,(az .u32 (wK (((2^k.val:Nat):Int)*125613361)) 27)=(((2^k.val*125613361)%4294967296/134217728:Nat):Int)/\(2^k.val*125613361)%4294967296/134217728<32/\HY.getD ((2^k.val*125613361)%4294967296/134217728) 0=(k.val:Int):=by decide+kernel
def qpd:HY.length=32:=by decide+kernel
def Vo {m x:Nat} (h0:x≠0) (hx:x<4294967296):vz m (x:Int)=some (((tz x:Nat):Int),(),()):=by
 obtain⟨h1,h2⟩:=Ob h0 hx;obtain⟨t1,t2,t3⟩:=quu ⟨tz x,h2⟩
 have w1:wK (0-(x:Int))=((4294967296-x:Nat):Int):=by
  show(0-(x:Int))%4294967296=_
  omega
 have w2:qp .u32 (x:Int) ((4294967296-x:Nat):Int)=((2^tz x:Nat):Int):=by
  rw[Fh hx O,h1]
 dsimp only at t1 t2 t3;rw[vz,aF,ao O,iP O,w1,w2,t1,qpd,iP O,tN,t3,wQ,wi O O]
def Rt {k n:Nat} (h:n≠0):tz (2^k*n)=k+tz n:=by
 obtain⟨q,h1,h2⟩:=I8 h;rw[h1,<-Nat.mul_assoc,<-Nat.pow_add,PU h2,PU h2]
def Vm {x r:Nat} (h0:x≠0) (hx:x<4294967296):tz (x+4294967296*r)=tz x:=by
 obtain⟨h1,h2⟩:=Ob h0 hx;obtain⟨q,h3,h4⟩:=I8 h0
 have hp:(4294967296:Nat)=2^tz x*(2*2^(31-tz x)):=by
  rw[show 2*2^(31-tz x)=2^(31-tz x+1) by rw[gV,zh],<-Nat.pow_add,show tz x+(31-tz x+1)=32 by omega]
 have e:x+4294967296*r=2^tz x*(q+2*(2^(31-tz x)*r)):=by
  rw[zL,<-h3,<-Nat.mul_assoc 2,<-Nat.mul_assoc (2^tz x),<-hp]
 rw[e,PU O]
def Fi (m:Nat) {l:LI} (hl:Lm l) (hlen:l.length<=1000000): ∀(n k:Nat),l.length-k<n->k<=l.length->vl (l.drop k)≠0->
 lF m n l (l.length:Int) (k:Int)=some (.inl (((32*k+tz (vl (l.drop k)):Nat):Int),()))
 |0,k,h,_,_=>O
 |n+1,k,h,hk0,hv=>by
  rw[lF];by_cases hk:k<l.length
  . obtain⟨x,ex,hx⟩:=hl.get hk;have hd:=Xd hk;rw[ex,tN]at hd;rw[bQ,iP O,iP O,tN,ex,aE];by_cases e:x=0
    . subst e;rw[iP (by rfl),show wI ((k:Int)+1)=((k+1:Nat):Int)from aB O,Fi m hl hlen n (k+1) O O O]
      have hb:(4294967296:Nat)=2^32:=by decide
      have:tz (vl (l.drop k))=32+tz (vl (l.drop (k+1))):=by
       rw[hd,zG,hb,Rt O]
      rw[this];congr 4;omega
    . have h2:=(Ob e hx).2;have w2:wI ((k:Int)*32)=((32*k:Nat):Int):=by rw[wQ,wi O O];omega
      have w3:wI (((32*k:Nat):Int)+((tz x:Nat):Int))=((32*k+tz x:Nat):Int):=by rw[wQ,wi O O];omega
      rw[ao O,Vo e hx,bS];dsimp only;rw[w2,w3,hd,Vm e hx]
  . exact absurd (qw O) hv
def q0x {m:Nat} (hm:2000000<m) {neg:Bool} {l:LI} (h:Sz l) (h0:vl l≠0):v9 m neg l=some (((tz (vl l):Nat):Int),(),()):=by
 have:=Fi m h.1 h.2 m 0 (by have:=h.2;omega) O (by rw[nW];exact h0)
 rw[nZ,nW,gd,zG]at this;rw[v9,this,bS]
def qpe {x y p:Nat} (hx:x<4294967296) (hy:y<4294967296) (hp:p<32):wK (qp .u64 (az .u64 (bc .u64 (x:Int) (bu .u64 (y:Int) 32)) (p:Int)) 4294967295)=(((x+4294967296*y)/2^p%4294967296:Nat):Int):=by
 have e1:bu .u64 (y:Int) 32=((y*4294967296:Nat):Int):=fD (a:=y) (k:=32) O O
 have e2:x|||y*4294967296=x+4294967296*y:=by
  rw[Fw,zh,show(4294967296:Nat)=2^32 by decide,<-Nat.two_pow_add_eq_or_of_lt O,xr]
 have hle:(x+4294967296*y)/2^p<=x+4294967296*y:=tQ ..;rw[e1,kj O O,e2,cV O,jq O,fA,xR]
def qlj {x p:Nat} (hx:x<4294967296) (hp:p<32):wK (qp .u64 (az .u64 (x:Int) (p:Int)) 4294967295)=((x/2^p:Nat):Int):=by
 have hle:x/2^p<=x:=tQ ..;rw[cV O,jq O,fA,xR,j7 O]
def WS {B T x E:Nat} (hT:0<T) (hx:x<B):(x+B*E)/T=(x+B*(E%T))/T+B*(E/T)/\(x+B*(E%T))/T<B:=by
 have h1:x+B*E=x+B*(E%T)+T*(B*(E/T)):=by
  have:B*E=B*(E%T)+T*(B*(E/T)):=by
   rw[xw T B,<-Nat.mul_add,IB]
  omega
 constructor
 . rw[h1,Nat.add_mul_div_left _ _ hT]
 . rw[B7 hT];have h2:B*(E%T+1)<=B*T:=zi _ (l6 _ hT);rw[zL,iw]at h2;omega
def VE {p x y R:Nat} (hp:p<32) (hx:x<4294967296):(x+4294967296*y)/2^p%4294967296+4294967296*((y+4294967296*R)/2^p)=(x+4294967296*(y+4294967296*R))/2^p:=by
 have hT:0<2^p:=f9 O;have hB:(4294967296:Nat)=2^p*2^(32-p):=by rw[<-Nat.pow_add,show p+(32-p)=32 by omega]
 have hm:(y+4294967296*R)%2^p=y%2^p:=by
  rw[hB,zX,Iy]
 obtain⟨a1,a2⟩:=WS (E:=y+4294967296*R) hT hx;obtain⟨b1,b2⟩:=WS (E:=y) hT hx;rw[a1,b1,hm,Iy,j7 b2]
def qq8 {P B V0 V1 d E X:Nat} (hs:V1+P*(0:Int).toNat=V0+P*d) (he:d+B*E=X):V1+P*B*E=V0+P*X:=by
 rw[show(0:Int).toNat=0 from rfl,gd,zU]at hs
 rw[<-he,hs,zL,zX,tn]
def qu6 (m:Nat) {a:LI} {w p:Nat} (ha:Lm a) (hl:a.length<=1000000) (hw:w<a.length) (hp:p<32) (lost:Bool): ∀(n k:Nat) (out:LI),a.length-w-k<n->k<=a.length-w->Lm out->out.length=a.length-w->(∀q,k<=q->out.getD q 0=0)->
 ∃out',fh m n a (w:Int) (p:Int) lost out ((a.length-w:Nat):Int) (k:Int)=some (.inl (lost,out',()))/\Lm out'/\out'.length=a.length-w/\vl out'=vl out+4294967296^k*(vl (a.drop (w+k))/2^p):=by
 intro n;induction n with
 |zero=>intro k out h;omega
 |succ n ih=>
  intro k out h hk0 ho hol hz;rw[fh];by_cases hk:k<a.length-w
  . have h1:((k:Int)<((a.length-w:Nat):Int)):=O;have w0:wI ((w:Int)+(k:Int))=((w+k:Nat):Int):=by rw[wQ,wi O O];omega
    have w1:wI (((w+k:Nat):Int)+1)=((w+k+1:Nat):Int):=aB O;have w3:wI ((k:Int)+1)=((k+1:Nat):Int):=aB O;have c1:(0:Int)<=((w+k:Nat):Int)/\((w+k:Nat):Int)<(a.length:Int):=O;have c2:(0:Int)<=(p:Int):=O;have c3:(0:Int)<=(k:Int)/\(k:Int)<(out.length:Int):=O;obtain⟨x,ex,hx⟩:=ha.get (show w+k<a.length by omega)
    have wx:wJ (x:Int)=(x:Int):=bA O
    have step: ∀d:Nat,d<4294967296->d+4294967296*(vl (a.drop (w+(k+1)))/2^p)=vl (a.drop (w+k))/2^p->
     ∃out',fh m n a (w:Int) (p:Int) lost (out.set k (d:Int)) ((a.length-w:Nat):Int) ((k+1:Nat):Int)=some (.inl (lost,out',()))/\Lm out'/\out'.length=a.length-w/\vl out'=vl out+4294967296^k*(vl (a.drop (w+k))/2^p):=by
     intro d hd he;obtain⟨out',g1,g2,g3,g4⟩:=ih (k+1) (out.set k (d:Int)) O O (sF ho hd) (by rw[zS];exact hol) (λq hq=>by rw[bP O];exact hz q O)
     refine⟨out',g1,g2,g3,?_⟩;have hs:=tD (l:=out) (p:=k) (y:=(d:Int)) O;rw[hz k (zF _),tN]at hs;have hpw:4294967296^(k+1)=4294967296^k*4294967296:=gV ..;rw[g4,hpw];exact qq8 hs he
    rw[bQ,iP h1,w0,iP c1,w1,bQ];simp only[tN,zG];rw[ex,wx];have hd:=Xd (l:=a) (k:=w+k) O;rw[ex,tN]at hd;by_cases hn:w+k+1<a.length
    . obtain⟨y,ey,hy⟩:=ha.get hn;have wy:wJ (y:Int)=(y:Int):=bA O;have c4:(0:Int)<=((w+k+1:Nat):Int)/\((w+k+1:Nat):Int)<(a.length:Int):=O;have hd2:=Xd hn;rw[ey,tN]at hd2;rw[iP c4.2,iP c4,iP c2,iP c3,ey,wy,qpe hx hy hp,w3];refine step _ (l6 _ O) ?_;rw[<-Nat.add_assoc w k 1,hd,hd2];exact VE hp hx
    . have c4: ¬((w+k+1:Nat):Int)<(a.length:Int):=O;rw[ao c4,iP c2,iP c3,qlj hx hp,w3];refine step _ (xP (tQ ..) hx) ?_;rw[<-Nat.add_assoc w k 1,hd,qw (l:=a) (k:=w+k+1) O,gd,zU,NB,gd,zU]
  . rw[bQ,ao O];refine⟨out,rfl,ho,hol,?_⟩;rw[qw O,NB,gd,zU]
def qq0 (m:Nat) {s:LI} (hs:Lm s) (hl:s.length<=1000000): ∀(n k:Nat),s.length-k<n->k<=s.length->
 ∃r,lf m n s (s.length:Int) (k:Int)=some r/\((∃j:Nat,r= .inl ((j:Int),())/\vl (s.drop k)≠0)\/(r= .inr (.inl ())/\vl (s.drop k)=0)):=by
 intro n;induction n with
 |zero=>intro k h;omega
 |succ n ih=>
  intro k h hk0;rw[lf];by_cases hk:k<s.length
  . obtain⟨x,ex,hx⟩:=hs.get hk;have hd:=Xd hk;rw[ex,tN]at hd;rw[bQ,iP O,iP O,tN,ex,Hj,bS];dsimp only;rw[aE];by_cases e:x=0
    . subst e;rw[iP (by rfl),show wI ((k:Int)+1)=((k+1:Nat):Int)from aB O]
      obtain⟨r,g1,g2⟩:=ih (k+1) O O;refine⟨r,g1,?_⟩;rcases g2 with⟨j,g2,g3⟩|⟨g2,g3⟩
      . exact .inl ⟨j,g2,O⟩
      . exact .inr ⟨g2,O⟩
    . rw[ao O];exact⟨_,rfl,.inl ⟨k,rfl,O⟩⟩
  . rw[bQ,ao O];exact⟨_,rfl,.inr ⟨rfl,qw O⟩⟩
def q6j {m:Nat} (hm:2000000<m) {s:LI} (hs:Lm s) (hl:s.length<=1000000):AX m s=some (decide (vl s≠0),(),(),()):=by
 obtain⟨r,g1,g2⟩:=qq0 m hs hl m 0 O O;rw[nZ]at g1;rw[nW]at g2;rw[AX,G3,g1,bS];rcases g2 with⟨j,rfl,h⟩|⟨rfl,h⟩
 . rw[show decide (vl s≠0)=true by simpa using h]
   show some (decide ((j:Int)>=0),_)=_
   rw[show decide ((j:Int)>=0)=true by rw[decide_eq_true_eq];omega]
 . rw[show decide (vl s≠0)=false by simpa using h]
   rfl
def uO {x p:Nat} (hx:x<4294967296) (hp:p<32):qp .u32 (x:Int) (wK ((bu .u32 1 (p:Int))-1))=((x%2^p:Nat):Int):=by
 have hple:2^p<=2^31:=zW O O;have hpos:0<2^p:=f9 O
 have e1:bu .u32 1 (p:Int)=((2^p:Nat):Int):=by
  unfold bu;rw[show min (p:Int).toNat (IntKind.u32.bits)=p by show min _ 32=p;omega,Int.one_mul]
  have:(2:Int)^p=((2^p:Nat):Int):=by rw[nY];rfl
  rw[this,pT O]
 have e2:wK (((2^p:Nat):Int)-1)=((2^p-1:Nat):Int):=by
  show(((2^p:Nat):Int)-1)%4294967296=_
  omega
 rw[e1,e2,Fh hx O,B3]
def W5 {P T L D:Nat} (hL:L<P) (hT:0<T):(L+P*D)%(P*T)=L+P*(D%T):=by
 have h1:L+P*D=L+P*(D%T)+P*T*(D/T):=by
  have:P*D=P*(D%T)+P*T*(D/T):=by rw[zX,<-Nat.mul_add,IB]
  omega
 rw[h1,Iy,j7];have h2:P*(D%T+1)<=P*T:=zi _ (l6 _ hT);rw[zL,iw]at h2;omega
def YM {P T L D:Nat} (hL:L<P):(L+P*D)/(P*T)=D/T:=by
 rw[<-Nat.div_div_eq_div_mul,Nat.add_mul_div_left _ _ O,B0 hL,zG]
def QO {m:Nat} (hm:3000000<m) {v:Nat} (hl:(lim v).length<=1000000) {n:Nat} (hn:n<=10000000):s7 m (lim v) (n:Int)=some ((lim (v/2^n),decide (v%2^n≠0),()),(),(),()):=by
 have w0:wI (Int.tdiv (n:Int) 32)=((n/32:Nat):Int):=by rw[NX,wQ,wi O O]
 have w1:wJ (Int.tmod (n:Int) 32)=((n%32:Nat):Int):=by rw[N8,bA O]
 have hpw:2^n=4294967296^(n/32)*2^(n%32):=by rw[rj,show 32*(n/32)+n%32=n by omega]
 have hT:0<2^(n%32):=f9 O;have hLm:=Q9 v;rw[s7,w0,w1,bQ];by_cases h:((n/32:Nat):Int)>=((lim v).length:Int)
 . have hlt:=cd hLm;rw[qx]at hlt;have h2:4294967296^(lim v).length<=4294967296^(n/32):=zW O O;have h3:4294967296^(n/32)*1<=4294967296^(n/32)*2^(n%32):=zi _ hT;have hv:v<2^n:=by rw[hpw];omega
   rw[iP h,B0 hv,j7 hv,Qj]
   have:decide (((lim v).length:Int)>0)=decide (v≠0):=by
    by_cases e:v=0
    . subst e;rw[Qj];rfl
    . have:=mt x6.1 e;rw[show decide (v≠0)=true by simpa using e,decide_eq_true_eq];omega
   rw[this]
 . have hw:n/32<(lim v).length:=O;obtain⟨x,ex,hx⟩:=hLm.get hw;have c1:(0:Int)<=0/\(0:Int)<=((n/32:Nat):Int)/\((n/32:Nat):Int)<=((lim v).length:Int):=O;have w2:wI (((lim v).length:Int)-((n/32:Nat):Int))=(((lim v).length-n/32:Nat):Int):=by rw[wQ,wi O O];omega
   have hlen:(List.replicate ((lim v).length-n/32) (0:Int)).length=(lim v).length-n/32:=nX ..;have hT1:Lm ((lim v).take (n/32)):=λy hy=>hLm y (pJ hy)
   have hL:=cd hT1;rw[zk,show min (n/32) (lim v).length=n/32 by omega]at hL
   have hv:=Zl (l:=lim v) (k:=n/32) O;rw[qx]at hv;have hd:=Xd hw;rw[ex,tN]at hd
   have hdiv:v/2^n=vl ((lim v).drop (n/32))/2^(n%32):=by
    conv=>lhs;rw[hv,hpw]
    exact YM hL
   have hmod:v%2^n=vl ((lim v).take (n/32))+4294967296^(n/32)*(x%2^(n%32)):=by
    conv=>lhs;rw[hv,hpw]
    rw[W5 hL hT,hd];have hB:(4294967296:Nat)=2^(n%32)*2^(32-n%32):=by rw[<-Nat.pow_add,show n%32+(32-n%32)=32 by omega]
    have:(x+4294967296*vl ((lim v).drop (n/32+1)))%2^(n%32)=x%2^(n%32):=by
     conv=>lhs;rw[hB,zX,Iy]
    rw[this]
   have run: ∀lost:Bool,∃out,fh m m (lim v) ((n/32:Nat):Int) ((n%32:Nat):Int) lost (List.replicate ((lim v).length-n/32) (0:Int)) (((lim v).length-n/32:Nat):Int) 0=some (.inl (lost,out,()))/\cZ m out=some (lim (v/2^n),(),()):=by
    intro lost
    obtain⟨out,e,h1,h2,h3⟩:=qu6 m (w:=n/32) (p:=n%32) hLm hl hw O lost m 0 (List.replicate ((lim v).length-n/32) 0) O O Xe hlen (λp hp=>by
     by_cases h:p<(lim v).length-n/32
     . rw[Xk h]
     . rw[Zy (by rw[hlen];omega)])
    rw[nZ]at e;refine⟨out,e,?_⟩;rw[Qz h1 O O,h3,Xq,zG,xU,xS,zU,hdiv]
   rw[ao h,iP c1,tN,q6j O hT1 (by rw[zk];omega),bS]
   dsimp only;rw[w2,tN,hlen,ex,uO hx O,hmod];obtain⟨o1,r1,r2⟩:=run true;obtain⟨o2,r3,r4⟩:=run (((x%2^(n%32):Nat):Int) !=0);have hP:0<4294967296^(n/32):=f9 O;by_cases e:vl ((lim v).take (n/32))=0
   . have:decide (vl ((lim v).take (n/32))+4294967296^(n/32)*(x%2^(n%32))≠0)=(((x%2^(n%32):Nat):Int) !=0):=by
      rw[e,zG];by_cases e2:x%2^(n%32)=0
      . rw[e2];simp
      . have:=Nx hP (B4 e2);rw[show decide (4294967296^(n/32)*(x%2^(n%32))≠0)=true by rw[decide_eq_true_eq];omega]
        symm
        rw[bne_iff_ne];omega
     rw[this,show decide (vl ((lim v).take (n/32))≠0)=false by simpa using e,cond_false,iP O,iP O,iP O,r3,bS]
     dsimp only;rw[r4,bS]
   . rw[show decide (vl ((lim v).take (n/32))≠0)=true by simpa using e,cond_true,iP O,r1,bS]
     dsimp only;rw[r2,bS,show decide (vl ((lim v).take (n/32))+4294967296^(n/32)*(x%2^(n%32))≠0)=true by rw[decide_eq_true_eq];omega]
def qgp {v n:Nat} (hv:(lim v).length<=500000) (hn:n<=10000000):(lim (v*2^n)).length<=1000000:=by
 have hl:(lim v).length+(n/32+1)<=1000000:=O;refine zf (Xl (k:=(lim v).length+(n/32+1)) ?_) hl;have h1:=cd (Q9 v);rw[qx]at h1
 have h2:2^n<=4294967296^(n/32+1):=by
  have:(4294967296:Nat)^(n/32+1)=2^(32*(n/32+1)):=by rw[show(4294967296:Nat)=2^32 by decide,<-Nat.pow_mul]
  rw[this];exact zW O O
 rw[xt];exact Nat.mul_lt_mul_of_lt_of_le h1 h2 (f9 O)
def Ww {m:Nat} (hm:3000000<m) {neg:Bool} {l:LI} (h:Lm l) (hl:l.length<=500000) {n:Nat} (hn:n<=1048576):C4 m neg l (n:Int)=some ((zB (zv neg l*2^n),0,()),(),(),()):=by
 have b:=Y7 h;rw[C4,bQ,ao O,bQ,ao O,Qz h O O,bS,bQ,iP O];dsimp only;rw[ra hm (Q9 _) O O,qx,bS];dsimp only;rw[lY O (by have:=qgp (v:=vl l) (n:=n) O O;omega),bS]
 have:(if neg=true then-((vl l*2^n:Nat):Int)else((vl l*2^n:Nat):Int))=zv neg l*2^n:=by
  unfold zv;rw[qZ,nY];cases neg
  . rfl
  . show-((vl l:Int)*_)= -(vl l:Int)*_
    rw[M8];rfl
 rw[this]
def q6o {v T:Nat}:(lim (v/T)).length<=(lim v).length:=Qd (tQ ..)
def YB {v T:Nat} (hT:0<T): -(v:Int)/(T:Int)=if v%T≠0 then-((v/T+1:Nat):Int)else-((v/T:Nat):Int):=by
 have h:=IB v T;by_cases e:v%T=0
 . rw[ao O]
   have: -(v:Int)=(T:Int)* -((v/T:Nat):Int):=by
    rw[Int.mul_neg,<-Int.natCast_mul];congr 2;omega
   rw[this,Int.mul_ediv_cancel_left _ O]
 . rw[iP e];have hm:=l6 v hT
   have: -(v:Int)=((T-v%T:Nat):Int)+(T:Int)* -((v/T+1:Nat):Int):=by
    rw[Int.mul_neg,<-Int.natCast_mul,zL,iw];omega
   rw[this,Int.add_mul_ediv_left _ _ O,Int.ediv_eq_zero_of_lt O O,Int.zero_add]
def ql4 {m:Nat} (hm:3000000<m) {neg:Bool} {l:LI} (h:Lm l) (hl:l.length<=500000) {n:Nat} (h0:0<n) (hn:n<=1048576):C4 m neg l (-(n:Int))=some ((zB (zv neg l/((2^n:Nat):Int)),0,()),(),(),()):=by
 have b:=Y7 h;have hT:0<2^n:=f9 O;have bd:(lim (vl l/2^n)).length<=500000:=zf q6o O;have w:wI (0- -(n:Int))=(n:Int):=by rw[wQ,wi O O];omega
 have h1:Lm [1]:=λx hx=>by rw[zC]at hx;subst hx;omega
 rw[C4,bQ,ao O,bQ,ao O,Qz h O O,bS,bQ,ao O,w];dsimp only;rw[QO hm O O,bS];dsimp only;generalize 2^n=T at*;cases neg with
 |false=>
  rw[cond_false,lY O O,bS]
  have:(if false=true then-((vl l/T:Nat):Int)else((vl l/T:Nat):Int))=zv false l/(T:Int):=by
   show _=(vl l:Int)/_
   rw[ao (by simp),IF]
  rw[this]
 |true=>
  have e:=YB (v:=vl l) hT;rw[cond_true];by_cases hd:vl l%T=0
  . rw[ao O]at e;rw[show decide (vl l%T≠0)=false by simpa using hd,cond_false,lY O O,bS,iP rfl,<-e]
    rfl
  . rw[iP hd]at e;have a1:(lim (vl l/T+1)).length<=1000001:=VR (x:=vl l/T) (y:=1) O (by rw[Ck O];show(lim 0).length+1<=_;rw[Qj];simp)
    rw[show decide (vl l%T≠0)=true by simpa using hd,cond_true,QK O (Q9 _) h1 O (by simp),bS,qx]
    dsimp only;rw[show vl [1]=1 from rfl,lY O a1,bS,iP rfl,<-e]
    rfl
end Go.Vs.F
