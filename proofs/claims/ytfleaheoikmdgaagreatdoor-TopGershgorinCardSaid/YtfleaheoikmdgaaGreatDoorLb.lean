import Derived.Test.YtfleaheoikmdgaaGreatDoorLa
set_option linter.unusedVariables false
set_option linter.unusedSimpArgs false
set_option linter.unusedSectionVars false
set_option linter.defProp false
namespace Go.Vs.F
def vl:LI->Nat
 |[]=>0
 |x::xs=>x.toNat+4294967296*vl xs
def Lm (l:LI):Prop:= ∀x∈l,0<=x/\x<4294967296
def lim (n:Nat):LI:=if h:n=0 then []else((n%4294967296:Nat):Int)::lim (n/4294967296)
termination_by n
decreasing_by exact zV3 (zg2 h) O
def Q8:lim 0=[]:=by rw[lim];simp
def q0g {n:Nat} (h:n≠0):lim n=((n%4294967296:Nat):Int)::lim (n/4294967296):=by rw[lim,dif_neg h]
def Qn (n:Nat):vl (lim n)=n:=by
 induction n using Nat.strongRecOn with
 |ind n ih=>
  by_cases h:n=0
  . subst h;rw[Q8];rfl
  . rw[q0g h,vl,ih _ (zV3 (zg2 h) O),tN];omega
def Qu (n:Nat):Lm (lim n):=by
 induction n using Nat.strongRecOn with
 |ind n ih=>
  by_cases h:n=0
  . subst h;rw[Q8];intro x hx;cases hx
  . rw[q0g h];intro x hx;rcases mC hx with rfl|hx
    . omega
    . exact ih _ (zV3 (zg2 h) O) x hx
def Lm.tail {x:Int} {l:LI} (h:Lm (x::l)):Lm l:=λy hy=>h y (mT hy)
def Lm.head {x:Int} {l:LI} (h:Lm (x::l)):0<=x/\x<4294967296:=h x mS
def qgp: ∀{a b:LI},vl (a++b)=vl a+4294967296^a.length*vl b
 |[],b=>by simp[vl]
 |x::a,b=>by
  rw[zB2,vl,vl,qgp (a:=a),za1,zD1,zu]
  have:4294967296*(4294967296^a.length*vl b)=4294967296^a.length*4294967296*vl b:=by
   rw[<-Nat.mul_assoc,zh 4294967296]
  omega
def vl_lt: ∀{l:LI},Lm l->vl l<4294967296^l.length
 |[],_=>by simp[vl]
 |x::l,h=>by
  have h1:=h.head;have h2:=vl_lt h.tail;rw[vl,za1,zD1];omega
def q9t: ∀{l:LI},(∀x∈l,x=0)->vl l=0
 |[],_=>rfl
 |x::l,h=>by
  rw[vl,q9t λy hy=>h y (mT hy),h x mS];rfl
def Tr (l:LI):Prop:= ∀h:l≠[],l.getLast h≠0
def qnv: ∀{l:LI},Lm l->Tr l->l≠[]->0<vl l
 |[],_,_,h=>absurd rfl h
 |[x],hl,ht,_=>by
  have:=ht (by simp)
  simp only[List.getLast_singleton]at this;have:=hl.head;rw[vl];omega
 |x::y::l,hl,ht,_=>by
  have:=qnv (l:=y::l) hl.tail (λh=>by have:=ht (by simp);rwa [List.getLast_cons (by simp)]at this) (by simp)
  rw[vl];omega
def qnx: ∀{l:LI},Lm l->Tr l->l=lim (vl l)
 |[],_,_=>by rw[vl,Q8]
 |x::l,hl,ht=>by
  have hx:=hl.head;have hpos:=qnv hl ht (by simp)
  rw[q0g O];have h1:vl (x::l)%4294967296=x.toNat:=by rw[vl];omega
  have h2:vl (x::l)/4294967296=vl l:=by rw[vl];omega
  rw[h1,h2,Int.toNat_of_nonneg hx.1];congr 1;cases l with
  |nil=>rw[vl,Q8]
  |cons y l=>exact qnx hl.tail (λh=>by have:=ht (by simp);rwa [List.getLast_cons (by simp)]at this)
def qr6 (n:Nat):Tr (lim n):=by
 induction n using Nat.strongRecOn with
 |ind n ih=>
  by_cases h:n=0
  . subst h;rw[Q8];intro h;exact absurd rfl h
  . rw[q0g h];by_cases h2:n/4294967296=0
    . rw[show lim (n/4294967296)=[] by rw[h2,Q8]]
      intro _;simp only[List.getLast_singleton];omega
    . intro hne;have hne2:lim (n/4294967296)≠[]:=by rw[q0g h2];simp
      rw[List.getLast_cons hne2];exact ih _ (zV3 (zg2 h) O) hne2
def Y7 {n k:Nat} (h:n<4294967296^k):(lim n).length<=k:=by
 induction k generalizing n with
 |zero=>
  have:n=0:=by simpa using h
  subst this;rw[Q8];simp
 |succ k ih=>
  by_cases h0:n=0
  . subst h0;rw[Q8];simp
  . rw[q0g h0,za1]
    have:n/4294967296<4294967296^k:=by
     rw[zF2 O];rwa [zD1]at h
    have:=ih this;omega
def Jf {l:LI} (h:Lm l):(lim (vl l)).length<=l.length:=Y7 (vl_lt h)
def q44 {n:Nat}:lim n=[]↔n=0:=by
 constructor
 . intro h;have:=Qn n;rw[h]at this;exact this.symm
 . rintro rfl;exact Q8
def fdiv_pow {a:Nat} {k:Nat}:Int.fdiv (a:Int) (2^k)=((a/2^k:Nat):Int):=by
 rw[Int.fdiv_eq_ediv_of_nonneg _ (by exact zk3 (Int.pow_pos O))]
 rw[Int.natCast_ediv];congr 1
def shr64 {a k:Nat} (hk:k<=64):shr_ .u64 (a:Int) (k:Int)=((a/2^k:Nat):Int):=by
 unfold shr_;rw[show min (k:Int).toNat (IntKind.u64.bits)=k by show min _ 64=k;omega]
 exact fdiv_pow
def ofInt64 {a:Nat} (h:a<18446744073709551616):(BitVec.ofInt 64 (a:Int)).toNat=a:=by
 rw[BitVec.toNat_ofInt];have:((a:Int)%((2^64:Nat):Int)).toNat=a:=O;exact this
def and64 {a b:Nat} (ha:a<18446744073709551616) (hb:b<18446744073709551616):qo .u64 (a:Int) (b:Int)=((a&&&b:Nat):Int):=by
 unfold qo;show IntKind.wrap .u64 ((BitVec.ofInt 64 (a:Int)&&&BitVec.ofInt 64 (b:Int)).toNat:Int)=_;rw[BitVec.toNat_and,ofInt64 ha,ofInt64 hb];have:a&&&b<18446744073709551616:=zn1 zW3 ha;rw[wu O O]
def low32 {a:Nat} (ha:a<18446744073709551616):qo .u64 (a:Int) 4294967295=((a%4294967296:Nat):Int):=by
 have h:=and64 ha (b:=4294967295) O;rw[show((4294967295:Nat):Int)=4294967295 from rfl]at h
 rw[h,show(4294967295:Nat)=2^32-1 by decide,zJ1]
def w32 {a:Nat}:wK (a:Int)=((a%4294967296:Nat):Int):=by
 show(a:Int)%4294967296=_
 omega
def w64n {a:Nat} (h:a<18446744073709551616):wJ (a:Int)=(a:Int):=wu O O
def getLast_take {l:LI} {k:Nat} (h:k<l.length) (hne:l.take (k+1)≠[]):(l.take (k+1)).getLast hne=l.getD k 0:=by
 rw[List.getLast_eq_getElem];simp only[zH1,show min (k+1) l.length-1=k by omega,zX2]
 simp[List.getD,h]
def ql0 (m:Nat) {l:LI} (hl:l.length<=1000000000): ∀(k n:Nat),k<n->k<=l.length->
 ∃j:Nat,g132L0 m n l (k:Int)=some (.inl (l,(j:Int),()))/\j<=k/\(∀i,j<=i->i<k->l.getD i 0=0)/\(j=0\/l.getD (j-1) 0≠0)
 |0,n,h,_=>by
  obtain⟨n,rfl⟩: ∃n',n=n'+1:=⟨n-1,O⟩;rw[g132L0,bQ,iN' O];exact⟨0,rfl,zD _,λi a b=>O,.inl rfl⟩
 |k+1,n,h,hk=>by
  obtain⟨n,rfl⟩: ∃n',n=n'+1:=⟨n-1,O⟩;have w1:wI (((k+1:Nat):Int)-1)=(k:Int):=by rw[wQ,wi O O];omega
  rw[g132L0,bQ,iP O,w1,iP O,tN,bif_eq];by_cases e:l.getD k 0=0
  . rw[iP e];obtain⟨j,g1,g2,g3,g4⟩:=ql0 m hl k n O O;refine⟨j,g1,O,λi a b=> ?_,g4⟩
    by_cases ei:i=k
    . subst ei;exact e
    . exact g3 i a O
  . rw[iN' e];exact⟨k+1,rfl,zD _,λi a b=>O,.inr (by simpa using e)⟩
def X3 {m:Nat} {l:LI} (h:Lm l) (hm:l.length<m) (hl:l.length<=1000000000):g132 m l=some (lim (vl l),(),()):=by
 obtain⟨j,e,h1,h2,h3⟩:=ql0 m hl l.length m hm (zD _);rw[g132,e,bS];dsimp only;rw[iP O,tN]
 have hv:vl (l.take j)=vl l:=by
  conv=>rhs;rw[<-List.take_append_drop j l,qgp]
  rw[q9t (l:=l.drop j)]
  . omega
  . intro x hx;obtain⟨i,hi,rfl⟩:=zi hx;simp only[zq2]at hi;have:=h2 (j+i) O O;rw[List.getElem_drop];rw[List.getD,List.getElem?_eq_getElem O]at this;exact this
 rw[<-hv];congr 2;refine qnx (λx hx=>h x (zE1 hx)) λhne=> ?_
 rcases h3 with h3|h3
 . subst h3;exact absurd (List.take_zero ..) hne
 . obtain⟨j,rfl⟩: ∃j',j=j'+1:=⟨j-1,by
    have:j≠0:=by rintro rfl;exact hne (List.take_zero ..)
    omega⟩
   rw[getLast_take O];simpa using h3
def Lm.get {l:LI} (h:Lm l) {k:Nat} (hk:k<l.length): ∃x:Nat,l.getD k 0=(x:Int)/\x<4294967296:=by
 have:=h (l.getD k 0) (by rw[List.getD,List.getElem?_eq_getElem hk];simp)
 exact⟨(l.getD k 0).toNat,O,O⟩
def Xr {l:LI} {k:Nat} (hk:k<l.length):vl (l.drop k)=(l.getD k 0).toNat+4294967296*vl (l.drop (k+1)):=by
 rw[drop_cons (d:=(0:Int)) hk,vl]
def Qh {l:LI} {k:Nat} (hk:l.length<=k):vl (l.drop k)=0:=by rw[List.drop_eq_nil_of_le hk,vl]
def qe3 {l:LI} (h:Lm l) {x:Nat} (hx:x<4294967296):Lm (l++[(x:Int)]):=λy hy=>by
 rcases zL.1 hy with hy|hy
 . exact h y hy
 . rw[zA]at hy;subst hy;omega
def qe9 {l:LI} {x:Nat}:vl (l++[(x:Int)])=vl l+4294967296^l.length*x:=by
 rw[qgp];simp[vl]
def qef (m:Nat) {a b:LI} (ha:Lm a) (hb:Lm b) (hl:a.length<=1000000): ∀(n k:Nat) (out:LI) (c:Nat),a.length-k<n->k<=a.length->Lm out->out.length=k->c<2->
 ∃out' c',g134L0 m n b out (c:Int) a (a.length:Int) (k:Int)=some (.inl (out',((c':Nat):Int),()))/\Lm out'/\out'.length=a.length/\c'<2/\
  vl out'+4294967296^a.length*(c'+vl (b.drop a.length))=vl out+4294967296^k*(c+vl (a.drop k)+vl (b.drop k))
 |0,k,out,c,h,_,_,_,_=>O
 |n+1,k,out,c,h,hk0,ho,hol,hc=>by
  rw[g134L0];by_cases hk:k<a.length
  . have h1:((k:Int)<(a.length:Int)):=O;have c1:(0:Int)<=(k:Int)/\(k:Int)<(a.length:Int):=O;obtain⟨x,ex,hx⟩:=ha.get hk;have c2: ∀y:Int,out.length+([y]:LI).length<=1073741824:=λy=>by show out.length+1<=_;omega
    have w1:wJ (x:Int)=(x:Int):=w64n O;have w2:wJ ((x:Int)+(c:Int))=((x+c:Nat):Int):=by rw[show(x:Int)+(c:Int)=((x+c:Nat):Int) by omega,w64n O]
    have step: ∀(t:Nat) (y:Nat),t=x+c+y->y<4294967296->vl (b.drop k)=y+4294967296*vl (b.drop (k+1))->
     vl (out++[((t%4294967296:Nat):Int)])+4294967296^(k+1)*(t/4294967296+vl (a.drop (k+1))+vl (b.drop (k+1)))=vl out+4294967296^k*(c+vl (a.drop k)+vl (b.drop k)):=by
     intro t y ht hy hb2
     have hp:4294967296^(k+1)*(t/4294967296+vl (a.drop (k+1))+vl (b.drop (k+1)))=4294967296^k*(4294967296*(t/4294967296+vl (a.drop (k+1))+vl (b.drop (k+1)))):=by
      rw[zD1,zk]
     rw[qe9,hol,hp,zM1,<-Nat.mul_add,hb2,Xr hk,ex,tN];congr 2;omega
    by_cases hkb:k<b.length
    . have h2:((k:Int)<(b.length:Int)):=O;have c3:(0:Int)<=(k:Int)/\(k:Int)<(b.length:Int):=O;obtain⟨y,ey,hy⟩:=hb.get hkb;have w3:wJ (y:Int)=(y:Int):=w64n O;have w4:wJ (((x+c:Nat):Int)+(y:Int))=((x+c+y:Nat):Int):=by rw[show((x+c:Nat):Int)+(y:Int)=((x+c+y:Nat):Int) by omega,w64n O]
      have e1:wK (qo .u64 ((x+c+y:Nat):Int) 4294967295)=(((x+c+y)%4294967296:Nat):Int):=by rw[low32 O,w32,ze2]
      have e2:shr_ .u64 ((x+c+y:Nat):Int) 32=(((x+c+y)/4294967296:Nat):Int):=shr64 (a:=x+c+y) (k:=32) O;rw[bQ,iP h1,iP c1,bQ,iP h2,iP c3,tN,ex,ey,w1,w2,w3,w4,e1,e2,iP (c2 _),show wI ((k:Int)+1)=((k+1:Nat):Int)from wsucc O]
      obtain⟨out',c',g1,g2,g3,g4,g5⟩:=qef m ha hb hl n (k+1) (out++[(((x+c+y)%4294967296:Nat):Int)]) ((x+c+y)/4294967296) O O (qe3 ho O) (by simp[hol]) O
      refine⟨out',c',g1,g2,g3,g4,?_⟩;rw[g5];exact step (x+c+y) y rfl hy (by rw[Xr hkb,ey,tN])
    . have h2: ¬((k:Int)<(b.length:Int)):=O;have e1:wK (qo .u64 ((x+c:Nat):Int) 4294967295)=(((x+c)%4294967296:Nat):Int):=by rw[low32 O,w32,ze2]
      have e2:shr_ .u64 ((x+c:Nat):Int) 32=(((x+c)/4294967296:Nat):Int):=shr64 (a:=x+c) (k:=32) O;rw[bQ,iP h1,iP c1,bQ,iN' h2,tN,ex,w1,w2,e1,e2,iP (c2 _),show wI ((k:Int)+1)=((k+1:Nat):Int)from wsucc O]
      obtain⟨out',c',g1,g2,g3,g4,g5⟩:=qef m ha hb hl n (k+1) (out++[(((x+c)%4294967296:Nat):Int)]) ((x+c)/4294967296) O O (qe3 ho O) (by simp[hol]) O
      refine⟨out',c',g1,g2,g3,g4,?_⟩;rw[g5];exact step (x+c) 0 rfl O (by rw[Qh O,Qh O])
  . rw[bQ,iN' O];have:k=a.length:=O;subst this;refine⟨out,c,rfl,ho,hol,hc,?_⟩;rw[Qh (l:=a) (zD _)];congr 1
def qlr {m:Nat} (hm:2000000<m) {a b:LI} (ha:Lm a) (hb:Lm b) (hla:a.length<=1000000) (hlb:b.length<=1000000):g134 m a b=some (lim (vl a+vl b),(),(),()):=by
 have main: ∀a b:LI,Lm a->Lm b->a.length<=1000000->b.length<=a.length->((g134L0 m m b (List.replicate 0 (0:Int)) 0 a (a.length:Int) 0).bind λy1=>match y1 with
  | .inl z2=>if z2.1.length+([wK z2.2.1]:LI).length<=1073741824 then(g132 m (z2.1++([wK z2.2.1]:LI))).bind λy3=>some (y3.1,((),(),()))else none
  | .inr e=>e.elim)=some (lim (vl a+vl b),(),(),()):=by
  intro a b ha hb hla hab;obtain⟨out,c,e,h1,h2,h3,h4⟩:=qef m ha hb hla m 0 [] 0 O O (λx hx=>by cases hx) rfl O
  rw[nZ]at e;rw[show List.replicate 0 (0:Int)=[]from rfl,e,bS]
  dsimp only;have w:wK (c:Int)=(c:Int):=by rw[w32];congr 1;omega
  rw[iP (by rw[h2];show a.length+1<=_;omega),w,X3 (qe3 h1 O) (by rw[zO,h2];show a.length+1<m;omega) (by rw[zO,h2];show a.length+1<=_;omega),bS]
  dsimp only
  have:vl (out++[(c:Int)])=vl a+vl b:=by
   rw[qe9,h2];rw[Qh hab]at h4;simp only[zI2,zt2,zo2,vl,zK,zV]at h4;exact h4
  rw[this]
 rw[g134,bQ];by_cases h:(a.length:Int)<(b.length:Int)
 . have w:wI ((b.length:Int)+1)=((b.length+1:Nat):Int):=wsucc O;rw[iP h,w,iP O,zN3 (vl a)];exact main b a hb ha hlb O
 . have w:wI ((a.length:Int)+1)=((a.length+1:Nat):Int):=wsucc O;rw[iN' h,w,iP O];exact main a b ha hb hla O
def bigM (neg:Bool) (n:Nat):Bool×LI:=(neg&&n !=0,lim n)
def qqz {m:Nat} {l:LI} (h:Lm l) (hm:l.length<m) (hl:l.length<=1000000000) (neg:Bool):g133 m neg l=some (((bigM neg (vl l)).1,(bigM neg (vl l)).2,()),(),(),()):=by
 rw[g133,X3 h hm hl,bS,bif_eq];dsimp only[bigM];by_cases e:vl l=0
 . rw[e,Q8,iP (show((([]:LI).length:Nat):Int)=0 from rfl)];simp
 . have: ¬((lim (vl l)).length:Int)=0:=λh=>e (q44.1 (zL2.1 O))
   rw[iN' this];have:(vl l !=0)=true:=by simpa using e
   rw[this,zA3]
def q6m: ∀{l:LI} {p:Nat} {y:Int},p<l.length->vl (l.set p y)+4294967296^p*(l.getD p 0).toNat=vl l+4294967296^p*y.toNat
 |[],p,y,h=>by simp at h
 |x::l,0,y,h=>by simp[vl];omega
 |x::l,p+1,y,h=>by
  have ih:=q6m (l:=l) (p:=p) (y:=y) (by simpa using h)
  rw[List.set_cons_succ,vl,vl,show(x::l).getD (p+1) 0=l.getD p 0 by simp[List.getD],zD1,zh (4294967296^p),zk,zk]
  omega
def q50 {l:LI} (h:Lm l) {p x:Nat} (hx:x<4294967296):Lm (l.set p (x:Int)):=λy hy=>by
 rcases List.mem_or_eq_of_mem_set hy with hy|rfl
 . exact h y hy
 . omega
def Z5 {n:Nat}:Lm (List.replicate n 0):=λx hx=>by
 obtain⟨_,rfl⟩:=zF3.1 hx;omega
def Zy {n:Nat}:vl (List.replicate n 0)=0:=q9t λx hx=>(zF3.1 hx).2
def qqw {x y:Nat} (hx:x<4294967296) (hy:y<4294967296):x*y<=18446744065119617025:=
 zT (zD2 (show x<=4294967295 by omega) (show y<=4294967295 by omega)) (by decide)
def qfn (m:Nat) {b:LI} (hb:Lm b) (hl:b.length<=1000000) {i x:Nat} (hx:x<4294967296) (hi:i<=1000000) (a1:LI) (z1 z2:Int): ∀(n j:Nat) (out:LI) (c:Nat),b.length-j<n->j<=b.length->Lm out->i+b.length<out.length->c<4294967296->
 ∃out' c',g204L1 m n b out (i:Int) (x:Int) (c:Int) a1 z1 z2 b (b.length:Int) (j:Int)=some (.inl (b,out',(i:Int),((c':Nat):Int),a1,z1,z2,()))/\Lm out'/\out'.length=out.length/\c'<4294967296/\
  (∀p,i+b.length<=p->out'.getD p 0=out.getD p 0)/\vl out'+4294967296^(i+b.length)*c'=vl out+4294967296^(i+j)*(c+x*vl (b.drop j))
 |0,j,out,c,h,_,_,_,_=>O
 |n+1,j,out,c,h,hj0,ho,hol,hc=>by
  rw[g204L1];by_cases hj:j<b.length
  . have h1:((j:Int)<(b.length:Int)):=O;have c1:(0:Int)<=(j:Int)/\(j:Int)<(b.length:Int):=O;obtain⟨y,ey,hy⟩:=hb.get hj
    have w0:wI ((i:Int)+(j:Int))=((i+j:Nat):Int):=by
     rw[wQ,wi O O];omega
    have c2:(0:Int)<=((i+j:Nat):Int)/\((i+j:Nat):Int)<(out.length:Int):=O;obtain⟨z,ez,hz⟩:=ho.get (show i+j<out.length by omega)
    have hm:=qqw hx hy;have w1:wJ (x:Int)=(x:Int):=w64n O;have w2:wJ (y:Int)=(y:Int):=w64n O;have w3:wJ (z:Int)=(z:Int):=w64n O;have w4:wJ ((x:Int)*(y:Int))=((x*y:Nat):Int):=by rw[show(x:Int)*(y:Int)=((x*y:Nat):Int) by rw[zi1],w64n O]
    have w5:wJ (((x*y:Nat):Int)+(z:Int))=((x*y+z:Nat):Int):=by rw[show((x*y:Nat):Int)+(z:Int)=((x*y+z:Nat):Int) by rw[zU2],w64n O]
    have w6:wJ (((x*y+z:Nat):Int)+(c:Int))=((x*y+z+c:Nat):Int):=by rw[show((x*y+z:Nat):Int)+(c:Int)=((x*y+z+c:Nat):Int) by rw[zU2 (x*y+z)],w64n O]
    have e1:wK (qo .u64 ((x*y+z+c:Nat):Int) 4294967295)=(((x*y+z+c)%4294967296:Nat):Int):=by rw[low32 O,w32,ze2]
    have e2:shr_ .u64 ((x*y+z+c:Nat):Int) 32=(((x*y+z+c)/4294967296:Nat):Int):=shr64 (a:=x*y+z+c) (k:=32) O;rw[bQ,iP h1,iP c1,w0,iP c2,iP c2,tN,tN,zK,ey,ez,w1,w2,w3,w4,w5,w6,e1,e2,show wI ((j:Int)+1)=((j+1:Nat):Int)from wsucc O]
    have hlen:(out.set (i+j) (((x*y+z+c)%4294967296:Nat):Int)).length=out.length:=zY ..;obtain⟨out',c',g1,g2,g3,g4,g5,g6⟩:=qfn m hb hl hx hi a1 z1 z2 n (j+1) (out.set (i+j) (((x*y+z+c)%4294967296:Nat):Int)) ((x*y+z+c)/4294967296) O O (q50 ho O) O O;refine⟨out',c',g1,g2,O,g4,λp hp=> ?_,?_⟩
    . rw[g5 p hp,getD_set_ne O]
    . rw[g6];have hs:=q6m (l:=out) (p:=i+j) (y:=(((x*y+z+c)%4294967296:Nat):Int)) O;rw[ez,tN,tN]at hs;have hd:vl (b.drop j)=y+4294967296*vl (b.drop (j+1)):=by rw[Xr hj,ey,tN]
      rw[hd,show i+(j+1)=i+j+1 by omega,zD1]
      generalize 4294967296^(i+j)=P at*
      generalize vl (b.drop (j+1))=D at*
      generalize vl (out.set (i+j) (((x*y+z+c)%4294967296:Nat):Int))=A at*
      have ht:x*y+z+c=(x*y+z+c)%4294967296+4294967296*((x*y+z+c)/4294967296):=(zE3 _ _).symm;have k1:P*(x*y+z+c)=P*((x*y+z+c)%4294967296)+P*(4294967296*((x*y+z+c)/4294967296)):=by rw[<-Nat.mul_add,<-ht]
      have k2:P*(x*y+z+c)=P*(x*y)+P*z+P*c:=by rw[zu,zu]
      have k3:P*4294967296*((x*y+z+c)/4294967296+x*D)=P*(4294967296*((x*y+z+c)/4294967296))+P*(4294967296*(x*D)):=by rw[zu,zk,zk]
      have k4:P*(c+x*(y+4294967296*D))=P*c+(P*(x*y)+P*(4294967296*(x*D))):=by rw[zu,zu x,zu P (x*y),Nat.mul_left_comm x 4294967296 D]
      rw[k3,k4];omega
  . rw[bQ,iN' O];have:j=b.length:=O;subst this;refine⟨out,c,rfl,ho,rfl,hc,λ_ _=>rfl,?_⟩
    rw[Qh (zD _),zt1,zV]
def qfr (m:Nat) {a b:LI} (hm:2000000<m) (ha:Lm a) (hb:Lm b) (hla:a.length<=1000000) (hlb:b.length<=1000000): ∀(n i:Nat) (out:LI),a.length-i<n->i<=a.length->Lm out->out.length=a.length+b.length->(∀p,i+b.length<=p->out.getD p 0=0)->
 ∃out',g204L0 m n b out a (a.length:Int) (i:Int)=some (.inl (out',()))/\Lm out'/\out'.length=a.length+b.length/\vl out'=vl out+4294967296^i*(vl (a.drop i)*vl b)
 |0,i,out,h,_,_,_,_=>O
 |n+1,i,out,h,hi0,ho,hol,hz=>by
  rw[g204L0];by_cases hi:i<a.length
  . have h1:((i:Int)<(a.length:Int)):=O;have c1:(0:Int)<=(i:Int)/\(i:Int)<(a.length:Int):=O;obtain⟨x,ex,hx⟩:=ha.get hi;obtain⟨o1,c,g1,g2,g3,g4,g5,g6⟩:=qfn m hb hlb (i:=i) hx O a (a.length:Int) (i:Int) m 0 out 0 O O ho O O;rw[nZ]at g1
    have w0:wI ((i:Int)+(b.length:Int))=((i+b.length:Nat):Int):=by
     rw[wQ,wi O O];omega
    have c2:(0:Int)<=((i+b.length:Nat):Int)/\((i+b.length:Nat):Int)<(o1.length:Int):=O;have w1:wK (c:Int)=(c:Int):=by rw[w32];congr 1;omega
    rw[bQ,iP h1,iP c1,tN,ex,g1,bS];dsimp only;rw[w0,iP c2,tN,zK,w1,show wI ((i:Int)+1)=((i+1:Nat):Int)from wsucc O]
    have hs:=q6m (l:=o1) (p:=i+b.length) (y:=(c:Int)) O;rw[g5 _ (zD _),hz _ (zD _),tN]at hs
    obtain⟨out',q1,q2,q3,q4⟩:=qfr m hm ha hb hla hlb n (i+1) (o1.set (i+b.length) (c:Int)) O O (q50 g2 g4) (by rw[zY];omega) (λp hp=>by
     rw[getD_set_ne O,g5 p O];exact hz p O)
    refine⟨out',q1,q2,q3,?_⟩;rw[q4,Xr hi,ex,tN,zD1];simp only[Int.toNat_zero,zt1,zV,zK,zI2]at hs g6;rw[zP1,zu];have k:4294967296^i*4294967296*(vl (a.drop (i+1))*vl b)=4294967296^i*(4294967296*vl (a.drop (i+1))*vl b):=by rw[zk,zk]
    rw[k];omega
  . rw[bQ,iN' O];refine⟨out,rfl,ho,hol,?_⟩;rw[Qh O,zO3,zt1,zV]
def qn9 {m:Nat} (hm:4000000<=m) {a b:LI} (ha:Lm a) (hb:Lm b) (hla:a.length<=1000000) (hlb:b.length<=1000000):g204 m a b=some (lim (vl a*vl b),(),(),()):=by
 rw[g204,bif_eq];by_cases h1:(a.length:Int)=0
 . have:a=[]:=zL2.1 O;subst this;rw[iP h1,vl,zO3,Q8]
 . rw[iN' h1,bif_eq];by_cases h2:(b.length:Int)=0
   . have:b=[]:=zL2.1 O;subst this;rw[iP h2,vl,zt1,Q8]
   . have w:wI ((a.length:Int)+(b.length:Int))=((a.length+b.length:Nat):Int):=by rw[wQ,wi O O];omega
     obtain⟨out,e,q1,q2,q3⟩:=qfr m O ha hb hla hlb m 0 (List.replicate (a.length+b.length) 0) O O Z5 (by simp) (λp hp=>by
      by_cases h:p<a.length+b.length
      . rw[Xh h]
      . rw[q7b (by simpa using h)])
     rw[nZ]at e;rw[iN' h2,w,iP O,tN,e,bS];dsimp only;rw[X3 q1 O O,bS];dsimp only;rw[q3,Zy];simp
def w64m {n:Int}:wJ n=n%18446744073709551616:=by
 show IntKind.wrap .u64 n=_
 unfold IntKind.wrap;show(if(false&&decide (n%18446744073709551616>=9223372036854775808))=true then n%18446744073709551616-18446744073709551616 else n%18446744073709551616)=n%18446744073709551616
 simp only[zn2];rw[iN' (by simp)]
def q82 {x y c:Nat} (hx:x<4294967296) (hy:y<4294967296) (hc:c<2): ∃d e:Nat,d<4294967296/\e<2/\d+y+c=x+4294967296*e/\
 wK (qo .u64 (wJ ((wJ ((x:Int)-(c:Int)))-(y:Int))) 4294967295)=(d:Int)/\qo .u64 (shr_ .u64 (wJ ((wJ ((x:Int)-(c:Int)))-(y:Int))) 32) 1=(e:Int):=by
 have key: ∀t:Nat,t<18446744073709551616->wJ ((wJ ((x:Int)-(c:Int)))-(y:Int))=(t:Int)->
  wK (qo .u64 (wJ ((wJ ((x:Int)-(c:Int)))-(y:Int))) 4294967295)=((t%4294967296:Nat):Int)/\qo .u64 (shr_ .u64 (wJ ((wJ ((x:Int)-(c:Int)))-(y:Int))) 32) 1=((t/4294967296%2:Nat):Int):=by
  intro t ht e;rw[e,low32 ht,w32,ze2];refine⟨rfl,?_⟩;have e2:shr_ .u64 ((t:Nat):Int) 32=((t/4294967296:Nat):Int):=shr64 (a:=t) (k:=32) O;have e3:=and64 (a:=t/4294967296) (b:=1) O O;rw[show((1:Nat):Int)=1 from rfl]at e3
  rw[e2,e3,show(1:Nat)=2^1-1 by decide,zJ1]
 by_cases h:y+c<=x
 . have e:wJ ((wJ ((x:Int)-(c:Int)))-(y:Int))=((x-c-y:Nat):Int):=by
    rw[w64m,w64m];omega
   obtain⟨k1,k2⟩:=key (x-c-y) O e;exact⟨_,_,O,O,O,k1,k2⟩
 . have e:wJ ((wJ ((x:Int)-(c:Int)))-(y:Int))=((18446744073709551616+x-c-y:Nat):Int):=by
    rw[w64m,w64m];omega
   obtain⟨k1,k2⟩:=key (18446744073709551616+x-c-y) O e;exact⟨_,_,O,O,O,k1,k2⟩
def qgs (m:Nat) {a b:LI} (ha:Lm a) (hb:Lm b) (hl:a.length<=1000000) (hba:b.length<=a.length): ∀(n k:Nat) (out:LI) (c:Nat),a.length-k<n->k<=a.length->Lm out->out.length=a.length->(∀p,k<=p->out.getD p 0=0)->c<2->
 ∃out' c',g136L0 m n b out (c:Int) a (a.length:Int) (k:Int)=some (.inl (out',()))/\Lm out'/\out'.length=a.length/\c'<2/\
  vl out'+4294967296^k*(c+vl (b.drop k))=vl out+4294967296^k*vl (a.drop k)+4294967296^a.length*c'
 |0,k,out,c,h,_,_,_,_,_=>O
 |n+1,k,out,c,h,hk0,ho,hol,hz,hc=>by
  rw[g136L0];by_cases hk:k<a.length
  . have h1:((k:Int)<(a.length:Int)):=O;have c1:(0:Int)<=(k:Int)/\(k:Int)<(a.length:Int):=O;have c2:(0:Int)<=(k:Int)/\(k:Int)<(out.length:Int):=O;obtain⟨x,ex,hx⟩:=ha.get hk;have w1:wJ (x:Int)=(x:Int):=w64n O
    have step: ∀y d e:Nat,y<4294967296->d<4294967296->e<2->d+y+c=x+4294967296*e->vl (b.drop k)=y+4294967296*vl (b.drop (k+1))->
     ∃out' c',g136L0 m n b (out.set (0+k) (d:Int)) (e:Int) a (a.length:Int) ((k+1:Nat):Int)=some (.inl (out',()))/\Lm out'/\out'.length=a.length/\c'<2/\
      vl out'+4294967296^k*(c+vl (b.drop k))=vl out+4294967296^k*vl (a.drop k)+4294967296^a.length*c':=by
     intro y d e hy hd he hde hbk;rw[zK];obtain⟨out',c',g1,g2,g3,g4,g5⟩:=qgs m ha hb hl hba n (k+1) (out.set k (d:Int)) e O O (q50 ho hd) (by rw[zY];exact hol) (λp hp=>by rw[getD_set_ne O];exact hz p O) he
     refine⟨out',c',g1,g2,g3,g4,?_⟩;have hs:=q6m (l:=out) (p:=k) (y:=(d:Int)) O;rw[hz k (zD _),tN]at hs;simp only[Int.toNat_zero,zt1,zV]at hs;rw[hs,zD1]at g5;rw[hbk,Xr hk,ex,tN];generalize 4294967296^k=P at*;generalize 4294967296^a.length*c'=Q at*;generalize vl (a.drop (k+1))=A at*;generalize vl (b.drop (k+1))=B at*;have k0:P*(d+y+c)=P*(x+4294967296*e):=by rw[hde]
     have k1:P*(d+y+c)=P*d+P*y+P*c:=by rw[zu,zu]
     have k2:P*(x+4294967296*e)=P*x+P*4294967296*e:=by rw[zu,zk]
     have k3:P*4294967296*(e+B)=P*4294967296*e+P*(4294967296*B):=by rw[zu,zk P 4294967296 B]
     have k4:P*(c+(y+4294967296*B))=P*c+(P*y+P*(4294967296*B)):=by rw[zu,zu]
     have k5:P*(x+4294967296*A)=P*x+P*(4294967296*A):=by rw[zu]
     have k6:P*4294967296*A=P*(4294967296*A):=zk ..;rw[k3,k6]at g5;rw[k4,k5];omega
    by_cases hkb:k<b.length
    . have h2:((k:Int)<(b.length:Int)):=O;have c3:(0:Int)<=(k:Int)/\(k:Int)<(b.length:Int):=O;obtain⟨y,ey,hy⟩:=hb.get hkb;have w3:wJ (y:Int)=(y:Int):=w64n O;obtain⟨d,e,hd,he,hde,q1,q2⟩:=q82 hx hy hc;rw[bQ,iP h1,iP c1,bQ,iP h2,iP c3,iP c2,tN,ex,ey,w1,w3,q1,q2,show wI ((k:Int)+1)=((k+1:Nat):Int)from wsucc O]
      exact step y d e hy hd he hde (by rw[Xr hkb,ey,tN])
    . have h2: ¬((k:Int)<(b.length:Int)):=O;obtain⟨d,e,hd,he,hde,q1,q2⟩:=q82 hx (y:=0) O hc
      have w4:wJ (wJ ((x:Int)-(c:Int))-((0:Nat):Int))=wJ ((x:Int)-(c:Int)):=by
       rw[w64m,w64m];omega
      rw[w4]at q1 q2;rw[bQ,iP h1,iP c1,bQ,iN' h2,iP c2,tN,ex,w1,q1,q2,show wI ((k:Int)+1)=((k+1:Nat):Int)from wsucc O]
      exact step 0 d e O hd he hde (by rw[Qh O,Qh O])
  . rw[bQ,iN' O];have:k=a.length:=O;subst this;refine⟨out,c,rfl,ho,hol,hc,?_⟩;rw[Qh (l:=a) (zD _),Qh (l:=b) hba];simp
def qh3 {m:Nat} (hm:2000000<m) {a b:LI} (ha:Lm a) (hb:Lm b) (hla:a.length<=1000000) (hba:b.length<=a.length) (hv:vl b<=vl a):g136 m a b=some (lim (vl a-vl b),(),(),()):=by
 obtain⟨out,c,e,h1,h2,h3,h4⟩:=qgs m ha hb hla hba m 0 (List.replicate a.length 0) 0 O O Z5 (by simp) (λp hp=>by
  by_cases h:p<a.length
  . rw[Xh h]
  . rw[q7b (by simpa using h)]) O
 rw[nZ]at e;rw[g136,iP O,tN,e,bS];dsimp only;rw[X3 h1 O O,bS];dsimp only;have hlt:=vl_lt h1;rw[h2]at hlt;rw[Zy]at h4;simp only[zI2,zt2,zo2,zK]at h4
 have hc:c=0:=by
  rcases zq c 1 with h|h
  . omega
  . have:c=1:=O;subst this;omega
 subst hc;rw[show vl a-vl b=vl out by omega]
def Qp {x y:Nat} (h:x<=y):(lim x).length<=(lim y).length:=by
 have:=vl_lt (Qu y);rw[Qn]at this;exact Y7 O
def Zz {l:LI} {k:Nat} (h:k<=l.length):vl l=vl (l.take k)+4294967296^k*vl (l.drop k):=by
 conv=>lhs;rw[<-List.take_append_drop k l,qgp]
 rw[zH1,show min k l.length=k by omega]
def q2q {a b:LI} (ha:Lm a) {k:Nat} (hka:k<=a.length) (hkb:k<=b.length) (h:vl (a.drop k)<vl (b.drop k)):vl a<vl b:=by
 rw[Zz hka,Zz hkb];have h1:=vl_lt (l:=a.take k) λx hx=>ha x (zE1 hx)
 rw[zH1,show min k a.length=k by omega]at h1
 have h2:4294967296^k*(vl (a.drop k)+1)<=4294967296^k*vl (b.drop k):=zw1 _ h;rw[zu,zk1]at h2;omega
def qdw {m:Nat} (x y:Int):g187 m x y=some (if x<y then-1 else if x>y then 1 else 0,(),(),()):=by
 simp only[g187,g212,bS,bne_self_eq_false,cond_false,bQ];by_cases h1:x<y
 . simp[h1]
 . by_cases h2:x>y
   . simp[h1,h2]
   . simp[h1,h2]
def cmpN (x y:Nat):Int:=if x<y then-1 else if y<x then 1 else 0
def q89 (m:Nat) {a b:LI} (ha:Lm a) (hb:Lm b) (hl:a.length<=1000000) (hlen:a.length=b.length): ∀(k n:Nat),k<n->k<=a.length->vl (a.drop k)=vl (b.drop k)->
 ∃r,g135L0 m n a b ((k:Int)-1)=some r/\(r= .inl (cmpN (vl a) (vl b),())\/r= .inr (.inl ())/\vl a=vl b)
 |0,n,h,_,hd=>by
  obtain⟨n,rfl⟩: ∃n',n=n'+1:=⟨n-1,O⟩;rw[g135L0,bQ,iN' O];exact⟨_,rfl,.inr ⟨rfl,hd⟩⟩
 |k+1,n,h,hk,hd=>by
  obtain⟨n,rfl⟩: ∃n',n=n'+1:=⟨n-1,O⟩;have e0:((k+1:Nat):Int)-1=(k:Int):=O;have c1:(0:Int)<=(k:Int)/\(k:Int)<(a.length:Int):=O;have c2:(0:Int)<=(k:Int)/\(k:Int)<(b.length:Int):=O;have w:wI ((k:Int)-1)=(k:Int)-1:=by rw[wQ,wi O O]
  obtain⟨x,ex,hx⟩:=ha.get (show k<a.length by omega)
  obtain⟨y,ey,hy⟩:=hb.get (show k<b.length by omega)
  have d1:=Xr (l:=a) (k:=k) O;have d2:=Xr (l:=b) (k:=k) O;rw[ex,tN]at d1;rw[ey,tN,<-hd]at d2;rw[e0,g135L0,bQ,iP O,iP c1,iP c2,tN,ex,ey,bif_ne,qdw];by_cases e:(x:Int)=(y:Int)
  . rw[iP e,w];have:x=y:=O;subst this;exact q89 m ha hb hl hlen k n O O O
  . rw[iN' e,iP c1,iP c2,bS];refine⟨_,rfl,.inl ?_⟩;dsimp only;unfold cmpN;by_cases hxy:x<y
    . have:=q2q (a:=a) (b:=b) ha (k:=k) O O O;rw[iP O,iP this]
    . have:=q2q (a:=b) (b:=a) hb (k:=k) O O O;rw[iN' O,iP O,iN' O,iP this]
def q3t {m:Nat} (hm:2000000<m) {x y:Nat} (hx:(lim x).length<=1000000) (hy:(lim y).length<=1000000):g135 m (lim x) (lim y)=some (cmpN x y,(),(),()):=by
 rw[g135,bif_ne];by_cases e:((lim x).length:Int)=((lim y).length:Int)
 . rw[iP e];have w:wI (((lim x).length:Int)-1)=((lim x).length:Int)-1:=by rw[wQ,wi O O]
   obtain⟨r,g,hr⟩:=q89 m (Qu x) (Qu y) hx O (lim x).length m O (zD _) (by rw[Qh (zD _),Qh O])
   rw[w,g,bS];rw[Qn,Qn]at hr;rcases hr with rfl|⟨rfl,h⟩
   . rfl
   . subst h;simp[cmpN]
 . rw[iN' e,qhu,bS];dsimp only;unfold cmpN;by_cases h:x<y
   . have:=Qp (zv2 h);rw[iP O,iP h]
   . have:=Qp (zC2 h)
     have hne:y<x:=by
      rcases zq y x with h2|h2
      . exact h2
      . have:x=y:=O;subst this;exact absurd rfl e
     rw[iN' O,iP O,iN' h,iP hne]
def zv (neg:Bool) (l:LI):Int:=if neg then-(vl l:Int)else(vl l:Int)
def zB (z:Int):Bool×LI×Unit:=(decide (z<0),lim z.natAbs,())
def Sz (l:LI):Prop:=Lm l/\l.length<=1000000
def zlen (z:Int):Nat:=(lim z.natAbs).length
def q6q {neg:Bool} {l:LI}:(zv neg l).natAbs=vl l:=by
 unfold zv;cases neg<;>simp
def zv_zB (z:Int):zv (zB z).1 (zB z).2.1=z:=by
 unfold zv zB;rw[Qn];by_cases h:z<0
 . rw[iP (by simpa using h)];omega
 . rw[iN' (by simpa using h)];omega
def Sz_zB {z:Int} (h:zlen z<=1000000):Sz (zB z).2.1:=⟨Qu _,h⟩
def qeh {n k:Nat} (h:n<4294967296^k):(lim n).length<=k:=Y7 h
def q4s {a b:Int} {k:Nat} (ha:zlen a<=k) (hb:zlen b<=k):zlen (a+b)<=k+1:=by
 refine Y7 ?_;have h1:=vl_lt (Qu a.natAbs);have h2:=vl_lt (Qu b.natAbs);rw[Qn]at h1 h2;have h3:4294967296^(lim a.natAbs).length<=4294967296^k:=zZ O ha;have h4:4294967296^(lim b.natAbs).length<=4294967296^k:=zZ O hb;rw[zD1];omega
def q4o {a b:Int}:zlen (a*b)<=zlen a+zlen b:=by
 refine Y7 ?_;have h1:=vl_lt (Qu a.natAbs);have h2:=vl_lt (Qu b.natAbs);rw[Qn]at h1 h2;rw[zP3,zW1];exact Nat.mul_lt_mul_of_lt_of_le h1 (zv2 h2) (zn O)
def qrd {neg:Bool} {n:Nat}:zB (if neg then-(n:Int)else(n:Int))=((bigM neg n).1,(bigM neg n).2,()):=by
 unfold zB bigM;cases neg with
 |false=>
  show(decide ((n:Int)<0),lim (n:Int).natAbs,())=_
  rw[show decide ((n:Int)<0)=false by simp,zK1];rfl
 |true=>
  show(decide (-(n:Int)<0),lim (-(n:Int)).natAbs,())=_
  rw[zb2,zK1];by_cases h:n=0
  . subst h;rfl
  . rw[show decide (-(n:Int)<0)=true by rw[decide_eq_true_eq];omega,show(n !=0)=true by simpa using h];rfl
def qay {m:Nat} (hm:2000000<m) {l:LI} (h:Lm l) (hl:l.length<=1000001) (neg:Bool):g133 m neg l=some (zB (zv neg l),(),(),()):=by
 rw[qqz h O O,zv,qrd]
def bigN {m:Nat} (hm:2000000<m) {n:Nat} (hl:(lim n).length<=1000001) (neg:Bool):g133 m neg (lim n)=some (zB (if neg then-(n:Int)else(n:Int)),(),(),()):=by
 rw[qay hm (Qu n) hl,zv,Qn]
def qfz {m:Nat} {l:LI} (h:l.length<=1000001):g137 m l=some (l,(),()):=by
 rw[g137,iP (by simp;omega)]
def qnp {neg:Bool} {l:LI}:zv (!neg) l= -zv neg l:=by
 unfold zv;cases neg<;>simp
def qlf {m:Nat} (hm:2000000<m) {neg:Bool} {l:LI} (h:Sz l):g105 m neg l=some (zB (zv neg l),(),()):=by
 rw[g105,qfz (by have:=h.2;omega),bS,qay hm h.1 (by have:=h.2;omega)];rfl
def q7z {m:Nat} (hm:2000000<m) {neg:Bool} {l:LI} (h:Sz l):g88 m neg l=some (zB (-zv neg l),(),()):=by
 rw[g88,qfz (by have:=h.2;omega),bS,qay hm h.1 (by have:=h.2;omega),qnp];rfl
def qoc {m:Nat} (hm:2000000<m) {neg:Bool} {l:LI} (h:Sz l):g143 m neg l=some (zB ((zv neg l).natAbs:Int),(),()):=by
 rw[g143,qfz (by have:=h.2;omega),bS,qay hm h.1 (by have:=h.2;omega),q6q];rfl
def q6f {n:Nat}:((lim n).length:Int)=0↔n=0:=by
 rw[<-q44,<-List.length_eq_zero_iff];omega
def sgn (z:Int):Int:=if z<0 then-1 else if 0<z then 1 else 0
def q1o {m:Nat} (hm:2000000<m) {neg:Bool} {l:LI} (h:Sz l):g90 m neg l=some (sgn (zv neg l),(),()):=by
 rw[g90,X3 h.1 (by have:=h.2;omega) (by have:=h.2;omega),bS,bif_eq]
 dsimp only;unfold sgn zv;by_cases e:vl l=0
 . rw[iP (q6f.2 e)];cases neg<;>simp[e]
 . rw[iN' (λh=>e (q6f.1 h))]
   cases neg
   . simp only[cond_false,iN' (show¬(false=true) by simp)]
     rw[iN' O,iP O]
   . simp only[cond_true,iP];rw[iP O]
def Jp {m:Nat} (hm:2000000<m) {n:Int} (h1: -9223372036854775808<=n) (h2:n<9223372036854775808):g86 m n=some (zB n,(),()):=by
 have lo: ∀u:Nat,u<18446744073709551616-> ∀neg:Bool,g133 m neg [wK (qo .u64 (u:Int) 4294967295),wK (shr_ .u64 (u:Int) 32)]=some (zB (if neg then-(u:Int)else(u:Int)),(),(),()):=by
  intro u hu neg;have e2:shr_ .u64 (u:Int) 32=((u/4294967296:Nat):Int):=shr64 (a:=u) (k:=32) O;rw[low32 hu,w32,e2,w32,ze2,zU1 (show u/4294967296<4294967296 by omega),qay hm,zv]
  . have:vl [((u%4294967296:Nat):Int),((u/4294967296:Nat):Int)]=u:=by
     simp only[vl,tN];omega
    rw[this]
  . intro x hx;simp only[zJ,zS,or_false]at hx;omega
  . simp
 rw[g86,bQ];by_cases h:n<0
 . have w:wJ (0-wJ n)=((n.natAbs:Nat):Int):=by rw[w64m,w64m];omega
   rw[iP h,w,lo _ O,bS,show decide (n<0)=true by simpa using h,iP rfl,show-(n.natAbs:Int)=n by omega]
 . have w:wJ n=((n.natAbs:Nat):Int):=by rw[w64m];omega
   rw[iN' h,w,lo _ O,bS,show decide (n<0)=false by simpa using h,iN' (by simp),show(n.natAbs:Int)=n by omega]
def Sz.lim {l:LI} (h:Sz l):(lim (vl l)).length<=1000000:=zT (Jf h.1) h.2
def qkn {x y:Nat} (hx:(lim x).length<=1000000) (hy:(lim y).length<=1000000):(lim (x+y)).length<=1000001:=by
 have:=q4s (a:=(x:Int)) (b:=(y:Int)) (k:=1000000) hx hy;unfold zlen at this
 rwa [show((x:Int)+(y:Int)).natAbs=x+y by omega]at this
def qg8 {m:Nat} (hm:2000000<m) {n1 n2:Bool} {l1 l2:LI} (h1:Sz l1) (h2:Sz l2):g85 m n1 l1 n2 l2=some (zB (zv n1 l1+zv n2 l2),(),(),()):=by
 have b1:=h1.lim;have b2:=h2.lim;rw[g85,X3 h1.1 (by have:=h1.2;omega) (by have:=h1.2;omega),bS,X3 h2.1 (by have:=h2.2;omega) (by have:=h2.2;omega),bS]
 dsimp only;by_cases hn:n1=n2
 . subst hn;rw[show(n1==n1)=true by simp,cond_true,qlr hm (Qu _) (Qu _) b1 b2,bS]
   dsimp only;rw[Qn,Qn,bigN hm (qkn b1 b2),bS]
   have:(if n1=true then-((vl l1+vl l2:Nat):Int)else((vl l1+vl l2:Nat):Int))=zv n1 l1+zv n1 l2:=by
    unfold zv;cases n1<;>simp<;>omega
   rw[this]
 . rw[show(n1==n2)=false by simpa using hn,cond_false,q3t hm b1 b2,bS,bQ]
   dsimp only;unfold cmpN
   have ev:zv n1 l1+zv n2 l2=if n1 then(vl l2:Int)-vl l1 else(vl l1:Int)-vl l2:=by
    unfold zv;cases n1<;>cases n2<;>simp at hn⊢ <;>omega
   by_cases hlt:vl l1<vl l2
   . have k:(if vl l1<vl l2 then(-1:Int)else if vl l2<vl l1 then 1 else 0)= -1:=iP hlt
     rw[k,iN' O,qh3 hm (Qu _) (Qu _) b2 (Qp (zv2 hlt)) (by rw[Qn,Qn];exact zv2 hlt),bS]
     dsimp only;rw[Qn,Qn,bigN hm (by have:=Qp (Nat.sub_le (vl l2) (vl l1));omega),bS]
     have:(if n2=true then-((vl l2-vl l1:Nat):Int)else((vl l2-vl l1:Nat):Int))=zv n1 l1+zv n2 l2:=by
      rw[ev];cases n1<;>cases n2<;>simp at hn⊢ <;>omega
     rw[this]
   . have k:(if vl l1<vl l2 then(-1:Int)else if vl l2<vl l1 then 1 else 0)>=0:=by
      rw[iN' hlt];split<;>omega
     rw[iP k,qh3 hm (Qu _) (Qu _) b1 (Qp (zC2 hlt)) (by rw[Qn,Qn];exact zC2 hlt),bS]
     dsimp only;rw[Qn,Qn,bigN hm (by have:=Qp (Nat.sub_le (vl l1) (vl l2));omega),bS]
     have:(if n1=true then-((vl l1-vl l2:Nat):Int)else((vl l1-vl l2:Nat):Int))=zv n1 l1+zv n2 l2:=by
      rw[ev];cases n1<;>cases n2<;>simp at hn⊢ <;>omega
     rw[this]
def qrb {m:Nat} (hm:2000000<m) {n1 n2:Bool} {l1 l2:LI} (h1:Sz l1) (h2:Sz l2):g213 m n1 l1 n2 l2=some (zB (zv n1 l1-zv n2 l2),(),(),()):=by
 rw[g213,qg8 hm h1 h2,qnp,<-Int.sub_eq_add_neg];rfl
def cmpZ (x y:Int):Int:=if x<y then-1 else if y<x then 1 else 0
def qnz {m:Nat} (hm:2000000<m) {n1 n2:Bool} {l1 l2:LI} (h1:Sz l1) (h2:Sz l2):g100 m n1 l1 n2 l2=some (cmpZ (zv n1 l1) (zv n2 l2),(),(),()):=by
 have b1:=h1.lim;have b2:=h2.lim;rw[g100,q1o hm h1,bS,q1o hm h2,bS,bQ,bQ];dsimp only;by_cases c1:sgn (zv n1 l1)<sgn (zv n2 l2)
 . rw[iP c1]
   have:cmpZ (zv n1 l1) (zv n2 l2)= -1:=by
    unfold sgn at c1;unfold cmpZ;rw[iP];split at c1<;>(try split at c1)<;>(try split at c1)<;>omega
   rw[this]
 . rw[iN' c1];by_cases c2:sgn (zv n1 l1)>sgn (zv n2 l2)
   . rw[iP c2]
     have:cmpZ (zv n1 l1) (zv n2 l2)=1:=by
      unfold sgn at c2;unfold cmpZ
      have:zv n2 l2<zv n1 l1:=by
       split at c2<;>(try split at c2)<;>(try split at c2)<;>omega
      rw[iN' O,iP this]
     rw[this]
   . rw[iN' c2,X3 h1.1 (by have:=h1.2;omega) (by have:=h1.2;omega),bS,X3 h2.1 (by have:=h2.2;omega) (by have:=h2.2;omega),bS]
     dsimp only;rw[q3t hm b1 b2,bS];dsimp only;have e:sgn (zv n1 l1)=sgn (zv n2 l2):=O
     have:wI (sgn (zv n1 l1)*cmpN (vl l1) (vl l2))=cmpZ (zv n1 l1) (zv n2 l2):=by
      have a1:=q6q (neg:=n1) (l:=l1);have a2:=q6q (neg:=n2) (l:=l2);generalize zv n1 l1=x at*;generalize zv n2 l2=y at*;rw[<-a1,<-a2];unfold sgn at e⊢;unfold cmpZ cmpN;by_cases x1:x<0
      . rw[iP x1]at e⊢
        have y1:y<0:=by
         by_cases h:y<0
         . exact h
         . rw[iN' h]at e;split at e<;>omega
        by_cases q1:x<y
        . rw[iN' O,iP O,iP q1,wQ,wi O O];rfl
        . by_cases q2:y<x
          . rw[iP O,iN' q1,iP q2,wQ,wi O O];rfl
          . rw[iN' O,iN' O,iN' q1,iN' q2,wQ,wi O O];rfl
      . rw[iN' x1]at e⊢;by_cases x2:0<x
        . rw[iP x2]at e⊢
          have y1:0<y:=by
           by_cases h:y<0
           . rw[iP h]at e;omega
           . rw[iN' h]at e;split at e<;>omega
          by_cases q1:x<y
          . rw[iP O,iP q1,wQ,wi O O];rfl
          . by_cases q2:y<x
            . rw[iN' O,iP O,iN' q1,iP q2,wQ,wi O O];rfl
            . rw[iN' O,iN' O,iN' q1,iN' q2,wQ,wi O O];rfl
        . rw[iN' x2]at e⊢;have x0:x=0:=O
          have y0:y=0:=by
           by_cases h:y<0
           . rw[iP h]at e;omega
           . rw[iN' h]at e;split at e<;>omega
          subst x0 y0;rfl
     rw[this]
def qqt {m:Nat} (hm:4000000<=m) {n1 n2:Bool} {l1 l2:LI} (h1:Lm l1) (h2:Lm l2) (hl:l1.length+l2.length<=1000000):g177 m n1 l1 n2 l2=some (zB (zv n1 l1*zv n2 l2),(),(),()):=by
 have b1:=Jf h1;have b2:=Jf h2;rw[g177,X3 h1 O O,bS,X3 h2 O O,bS];dsimp only;rw[qn9 hm (Qu _) (Qu _) O O,bS];dsimp only
 have hlen:(lim (vl l1*vl l2)).length<=1000001:=by
  have:=q4o (a:=(vl l1:Int)) (b:=(vl l2:Int));unfold zlen at this;rw[zP3,zK1,zK1]at this;omega
 rw[Qn,Qn,bigN O hlen,bS]
 have:(if(!(n1==n2))=true then-((vl l1*vl l2:Nat):Int)else((vl l1*vl l2:Nat):Int))=zv n1 l1*zv n2 l2:=by
  unfold zv;cases n1<;>cases n2<;>simp[zn3,Int.mul_neg]
 rw[this]
def ofInt32 {a:Nat} (h:a<4294967296):(BitVec.ofInt 32 (a:Int)).toNat=a:=by
 rw[BitVec.toNat_ofInt];have:((a:Int)%((2^32:Nat):Int)).toNat=a:=O;exact this
def wrap32 {a:Nat} (h:a<4294967296):IntKind.wrap .u32 (a:Int)=(a:Int):=by
 show wK (a:Int)=_
 rw[w32,zU1 h]
def or32 {a b:Nat} (ha:a<4294967296) (hb:b<4294967296):b_or_ .u32 (a:Int) (b:Int)=((a|||b:Nat):Int):=by
 unfold b_or_;show IntKind.wrap .u32 ((BitVec.ofInt 32 (a:Int)|||BitVec.ofInt 32 (b:Int)).toNat:Int)=_
 rw[BitVec.toNat_or,ofInt32 ha,ofInt32 hb];have:a|||b<2^32:=Nat.or_lt_two_pow ha hb
 rw[wrap32 O]
def and32 {a b:Nat} (ha:a<4294967296) (hb:b<4294967296):qo .u32 (a:Int) (b:Int)=((a&&&b:Nat):Int):=by
 unfold qo;show IntKind.wrap .u32 ((BitVec.ofInt 32 (a:Int)&&&BitVec.ofInt 32 (b:Int)).toNat:Int)=_;rw[BitVec.toNat_and,ofInt32 ha,ofInt32 hb];have:a&&&b<=a:=zW3;rw[wrap32 O]
def or64 {a b:Nat} (ha:a<18446744073709551616) (hb:b<18446744073709551616):b_or_ .u64 (a:Int) (b:Int)=((a|||b:Nat):Int):=by
 unfold b_or_;show IntKind.wrap .u64 ((BitVec.ofInt 64 (a:Int)|||BitVec.ofInt 64 (b:Int)).toNat:Int)=_
 rw[BitVec.toNat_or,ofInt64 ha,ofInt64 hb];have:a|||b<2^64:=Nat.or_lt_two_pow ha hb
 rw[wu O O]
def shl64 {a k:Nat} (hk:k<=64) (h:a*2^k<18446744073709551616):shl_ .u64 (a:Int) (k:Int)=((a*2^k:Nat):Int):=by
 unfold shl_;rw[show min (k:Int).toNat (IntKind.u64.bits)=k by show min _ 64=k;omega]
 have:(a:Int)*2^k=((a*2^k:Nat):Int):=by
  rw[zi1,zV1];rfl
 rw[this];exact w64n h
def qo8 {n:Nat}:Int.tdiv (n:Int) 32=((n/32:Nat):Int):=(Int.ofNat_tdiv n 32).symm
def qnj {n:Nat}:Int.tmod (n:Int) 32=((n%32:Nat):Int):=(Int.ofNat_tmod n 32).symm
def qog {x p o:Nat} (hx:x<4294967296) (hp:p<32) (ho:o<2^p): ∃d e:Nat,d<4294967296/\e<2^p/\d+4294967296*e=o+x*2^p/\
 b_or_ .u32 (o:Int) (wK (qo .u64 (shl_ .u64 (x:Int) (p:Int)) 4294967295))=(d:Int)/\wK (shr_ .u64 (shl_ .u64 (x:Int) (p:Int)) 32)=(e:Int):=by
 have hpp:2^p*2^(32-p)=4294967296:=by rw[<-Nat.pow_add,show p+(32-p)=32 by omega]
 have hP:0<2^p:=zn O;have hQ:0<2^(32-p):=zn O;have hple:2^p<=2^31:=zZ O O;have h1:x*2^p<=4294967295*2^p:=zN _ O;have h2:4294967295*2^p<=4294967295*2^31:=zw1 _ hple
 have hx2:x*2^p<18446744073709551616:=by
  have:(4294967295:Nat)*2^31<18446744073709551616:=by decide
  omega
 have e2:shr_ .u64 ((x*2^p:Nat):Int) 32=((x*2^p/4294967296:Nat):Int):=shr64 (a:=x*2^p) (k:=32) O
 have hlo:x*2^p%4294967296=2^p*(x%2^(32-p)):=by
  rw[<-hpp,zh x,Nat.mul_mod_mul_left]
 have hhi:x*2^p/4294967296<2^p:=by
  rw[zF2 O,zh];exact Nat.mul_lt_mul_of_pos_left hx hP
 have hor:o|||x*2^p%4294967296=o+x*2^p%4294967296:=by
  rw[hlo,zc3,<-Nat.two_pow_add_eq_or_of_lt ho,zN3]
 have hlt:o+x*2^p%4294967296<4294967296:=by
  rw[<-hor];have:o|||x*2^p%4294967296<2^32:=Nat.or_lt_two_pow O O
  omega
 refine⟨o+x*2^p%4294967296,x*2^p/4294967296,hlt,hhi,O,?_,?_⟩
 . rw[shl64 O hx2,low32 hx2,w32,ze2,or32 O O,hor]
 . rw[shl64 O hx2,e2,w32,zU1 O]
def qrj {B P T V0 V1 V2 x d e o D:Nat} (hs1:V1+P*o=V0+P*d) (hs2:V2+P*B*(0:Int).toNat=V1+P*B*e) (hde:d+B*e=o+x*T):V2+P*B*(T*D)=V0+P*(T*(x+B*D)):=by
 rw[show(0:Int).toNat=0 from rfl,zt1,zV]at hs2
 have k1:P*(d+B*e)=P*(o+x*T):=by rw[hde]
 have k2:P*(d+B*e)=P*d+P*B*e:=by rw[zu,zk]
 have k3:P*(o+x*T)=P*o+P*(T*x):=by rw[zu,zh x]
 have k4:P*(T*(x+B*D))=P*(T*x)+P*B*(T*D):=by
  rw[zu,zu,Nat.mul_left_comm T B D,zk P B]
 rw[k4];omega
def up_L0 (m:Nat) {a:LI} {w p:Nat} (ha:Lm a) (hl:a.length<=1000000) (hw:w<=1000000) (hp:p<32): ∀(n k:Nat) (out:LI) (o:Nat),a.length-k<n->k<=a.length->Lm out->out.length=w+a.length+1->(∀q,w+k<q->out.getD q 0=0)->out.getD (w+k) 0=(o:Int)->o<2^p->
 ∃out',g193L0 m n (w:Int) (p:Int) out a (a.length:Int) (k:Int)=some (.inl (out',()))/\Lm out'/\out'.length=out.length/\vl out'=vl out+4294967296^(w+k)*(2^p*vl (a.drop k)):=by
 intro n;induction n with
 |zero=>intro k out o h;omega
 |succ n ih=>
  intro k out o h hk0 ho hol hz eo hop;rw[g193L0];by_cases hk:k<a.length
  . have h1:((k:Int)<(a.length:Int)):=O;have c1:(0:Int)<=(k:Int)/\(k:Int)<(a.length:Int):=O;obtain⟨x,ex,hx⟩:=ha.get hk;have w0:wI ((w:Int)+(k:Int))=((w+k:Nat):Int):=by rw[wQ,wi O O];omega
    have w1:wI (((w+k:Nat):Int)+1)=((w+k+1:Nat):Int):=wsucc O;have w2:wJ (x:Int)=(x:Int):=w64n O;have c2:(0:Int)<=((w+k:Nat):Int)/\((w+k:Nat):Int)<(out.length:Int):=O;obtain⟨d,e,hd,he,hde,q1,q2⟩:=qog hx hp hop
    have he2:e<4294967296:=by
     have hple:2^p<=2^31:=zZ O O;omega
    have c3:(0:Int)<=((w+k+1:Nat):Int)/\((w+k+1:Nat):Int)<(((out.set (w+k) (d:Int)).length:Nat):Int):=by rw[zY];omega
    rw[bQ,iP h1,iP c1,iP O,w0,w1,iP c2,iP c2,tN,tN,tN,zK,zK,ex,eo,w2,q1,q2,iP c3,show wI ((k:Int)+1)=((k+1:Nat):Int)from wsucc O]
    have hs1:=q6m (l:=out) (p:=w+k) (y:=(d:Int)) O;have hs2:=q6m (l:=out.set (w+k) (d:Int)) (p:=w+k+1) (y:=(e:Int)) (by rw[zY];omega)
    rw[getD_set_ne O,hz _ O]at hs2;rw[eo]at hs1
    obtain⟨out',g1,g2,g3,g4⟩:=ih (k+1) ((out.set (w+k) (d:Int)).set (w+k+1) (e:Int)) e O O (q50 (q50 ho hd) he2) (by rw[zY,zY];exact hol) (λq hq=>by
     rw[getD_set_ne O,getD_set_ne O];exact hz q O) (by rw[show w+(k+1)=w+k+1 by omega,q1y (by rw[zY];omega)]) he
    refine⟨out',g1,g2,by rw[g3,zY,zY],?_⟩
    have hpw:4294967296^(w+k+1)=4294967296^(w+k)*4294967296:=zD1 ..;rw[hpw,tN]at hs2;rw[tN,tN]at hs1;rw[g4,Xr hk,ex,tN,<-Nat.add_assoc w k 1,hpw];exact qrj hs1 hs2 hde
  . rw[bQ,iN' O];refine⟨out,rfl,ho,rfl,?_⟩;rw[Qh O];simp
def pow32 {w p:Nat}:4294967296^w*2^p=2^(32*w+p):=by
 rw[show(4294967296:Nat)=2^32 by decide,<-Nat.pow_mul,<-Nat.pow_add]
def up_eq {m:Nat} (hm:3000000<m) {a:LI} (ha:Lm a) (hl:a.length<=500000) {n:Nat} (hn:n<=10000000):g193 m a (n:Int)=some (lim (vl a*2^n),(),(),()):=by
 rw[g193,bif_eq];by_cases h:(a.length:Int)=0
 . have:a=[]:=zL2.1 O;subst this;rw[iP h,vl,zO3,Q8]
 . have w0:wI (Int.tdiv (n:Int) 32)=((n/32:Nat):Int):=by rw[qo8,wQ,wi O O]
   have w1:wJ (Int.tmod (n:Int) 32)=((n%32:Nat):Int):=by rw[qnj,w64n O]
   have w2:wI (((n/32:Nat):Int)+(a.length:Int))=((n/32+a.length:Nat):Int):=by rw[wQ,wi O O];omega
   have w3:wI (((n/32+a.length:Nat):Int)+1)=((n/32+a.length+1:Nat):Int):=wsucc O
   obtain⟨out,e,h1,h2,h3⟩:=up_L0 m (w:=n/32) (p:=n%32) ha O O O m 0 (List.replicate (n/32+a.length+1) 0) 0 O O Z5 (by simp) (λp hp=>by
    by_cases h:p<n/32+a.length+1
    . rw[Xh h]
    . rw[q7b (by simpa using h)]) (by rw[Xh O];rfl) (zn O)
   rw[nZ]at e;rw[iN' h,w0,w1,w2,w3,iP O,tN,e,bS];dsimp only;rw[zm1]at h2;rw[X3 h1 O O,bS];dsimp only;rw[h3,Zy,zI2,zK,zV,<-Nat.mul_assoc,pow32,show 32*(n/32)+n%32=n by omega,zh]
def blen (n:Nat):Nat:=if n=0 then 0 else n.log2+1
def q2d:blen 0=0:=rfl
def Xw {n:Nat} (h:n≠0):blen n=n.log2+1:=iN' h
def qkm {n k:Nat} (h1:2^k<=n) (h2:n<2^(k+1)):blen n=k+1:=by
 have hn:n≠0:=by
  have:0<2^k:=zn O;omega
 rw[Xw hn];have a:n.log2<k+1:=(zJ3 hn).2 h2;have b: ¬n.log2<k:=λh=>by have:=(zJ3 hn).1 h;omega
 omega
def q21 (n:Nat):n<2^blen n:=by
 by_cases h:n=0
 . subst h;exact zn O
 . rw[Xw h];exact Nat.lt_log2_self
def qkf {n:Nat} (h:n≠0):2^(blen n-1)<=n:=by
 rw[Xw h];exact Nat.log2_self_le h
def q3y {x k y:Nat} (hx:x≠0) (hy:y<2^k):blen (2^k*x+y)=k+blen x:=by
 have h1:=q21 x;have h2:=qkf hx;have h3:blen x=blen x-1+1:=by rw[Xw hx];omega
 rw[h3,<-Nat.add_assoc];refine qkm ?_ ?_
 . rw[zW1];have:=zw1 (2^k) h2;omega
 . rw[show k+(blen x-1)+1=k+blen x by omega,zW1]
   have:2^k*(x+1)<=2^k*2^blen x:=zw1 _ h1;rw[zu,zk1]at this;omega
def qom: ∀x:Fin 256,Qc.getD x.val 0=((blen x.val:Nat):Int):=by decide+kernel
def qh5:Qc.length=256:=by decide+kernel
def shr32 {a k:Nat} (hk:k<=32):shr_ .u32 (a:Int) (k:Int)=((a/2^k:Nat):Int):=by
 unfold shr_;rw[show min (k:Int).toNat (IntKind.u32.bits)=k by show min _ 32=k;omega]
 exact fdiv_pow
def w8n {a:Nat} (h:a<256):w_u8 (a:Int)=(a:Int):=by
 show(a:Int)%256=_
 omega
def qm3 {m x:Nat} (hx:x<4294967296):g182 m (x:Int)=some (((blen x:Nat):Int),(),()):=by
 have look: ∀y:Nat,y<256->(0:Int)<=w_u8 (y:Int)/\w_u8 (y:Int)<(Qc.length:Int)/\wI (Qc.getD (w_u8 (y:Int)).toNat 0)=((blen y:Nat):Int)/\blen y<=8:=by
  intro y hy
  have b8:blen y<=8:=by
   by_cases h:y=0
   . subst h;exact zc1 _
   . have:y.log2<8:=(zJ3 h).2 hy;rw[Xw h];omega
  rw[w8n hy,qh5,tN];refine⟨O,O,?_,b8⟩;rw[show Qc.getD y 0=((blen y:Nat):Int)from qom ⟨y,hy⟩,wQ,wi O O]
 have sh: ∀k:Nat,k<=31->2^k<=x->blen x=k+blen (x/2^k):=by
  intro k hk hle;have hp:0<2^k:=zn O;have:=q3y (x:=x/2^k) (k:=k) (y:=x%2^k) (by have:=Nat.div_pos hle hp;omega) (zN2 _ hp)
  rwa [zX3]at this
 have s16:shr_ .u32 (x:Int) 16=((x/65536:Nat):Int):=shr32 (k:=16) O;have s8:shr_ .u32 (x:Int) 8=((x/256:Nat):Int):=shr32 (k:=8) O;have s168:shr_ .u32 ((x/65536:Nat):Int) 8=((x/65536/256:Nat):Int):=shr32 (k:=8) O;rw[g182,bQ,bQ,bQ,s16,s8,s168];by_cases h1:(x:Int)>=65536
 . rw[iP h1];by_cases h2:((x/65536:Nat):Int)>=256
   . obtain⟨l1,l2,l3,l4⟩:=look (x/65536/256) O;have e:=sh 24 O O;rw[show x/2^24=x/65536/256 by omega]at e
     rw[iP h2,iP ⟨l1,l2⟩,l3,wQ,wi O O,e,zU2];rfl
   . obtain⟨l1,l2,l3,l4⟩:=look (x/65536) O;have e:=sh 16 O O;rw[show x/2^16=x/65536 by omega]at e
     rw[iN' h2,iP ⟨l1,l2⟩,l3,wQ,wi O O,e,zU2];rfl
 . rw[iN' h1];by_cases h2:(x:Int)>=256
   . obtain⟨l1,l2,l3,l4⟩:=look (x/256) O;have e:=sh 8 O O;rw[show x/2^8=x/256 by omega]at e
     rw[iP h2,iP ⟨l1,l2⟩,l3,wQ,wi O O,e,zU2];rfl
   . obtain⟨l1,l2,l3,l4⟩:=look x O;rw[iN' h2,iP ⟨l1,l2⟩,l3,wQ,wi O O,Int.zero_add]
def qm6 {n:Nat} (h:n≠0): ∃k x y:Nat,(lim n).length=k+1/\(lim n).getD k 0=(x:Int)/\x<4294967296/\x≠0/\y<2^(32*k)/\n=2^(32*k)*x+y:=by
 have hne:lim n≠[]:=λe=>h (q44.1 e)
 have hl:0<(lim n).length:=List.length_pos_iff.2 hne;obtain⟨k,hk⟩: ∃k,(lim n).length=k+1:=⟨(lim n).length-1,O⟩;obtain⟨x,ex,hx⟩:=(Qu n).get (show k<(lim n).length by omega)
 have hlast:=qr6 n hne;rw[List.getLast_eq_getElem]at hlast
 have hx0:x≠0:=by
  rintro rfl
  apply hlast;rw[List.getD,List.getElem?_eq_getElem O]at ex;simp only[hk,zf2];exact ex
 have hb:(4294967296:Nat)^k=2^(32*k):=by rw[show(4294967296:Nat)=2^32 by decide,<-Nat.pow_mul]
 have hv:=Zz (l:=lim n) (k:=k) O;have hlt:=vl_lt (l:=(lim n).take k) λx hx=>Qu n x (zE1 hx)
 rw[zH1,show min k (lim n).length=k by omega,hb]at hlt
 rw[Xr O,ex,Qh O,Qn,tN,zt1,zV,hb]at hv;exact⟨k,x,vl ((lim n).take k),hk,ex,hx,hx0,hlt,O⟩
def length_eq {m n:Nat} (h:(lim n).length<=1000000):g188 m (lim n)=some (((blen n:Nat):Int),(),()):=by
 rw[g188,bif_eq];by_cases e:n=0
 . subst e;rw[iP (q6f.2 rfl)];rfl
 . obtain⟨k,x,y,h1,h2,h3,h4,h5,h6⟩:=qm6 e;have w1:wI (((lim n).length:Int)-1)=(k:Int):=by rw[wQ,wi O O];omega
   have w2:wI ((k:Int)*32)=((32*k:Nat):Int):=by rw[wQ,wi O O];omega
   have hb:blen x<=32:=by
    have:x.log2<32:=(zJ3 h4).2 h3;rw[Xw h4];omega
   have w3:wI (((32*k:Nat):Int)+((blen x:Nat):Int))=((32*k+blen x:Nat):Int):=by rw[wQ,wi O O];omega
   rw[iN' (λh=>e (q6f.1 h)),w1,iP O,tN,h2,qm3 h3,bS]
   dsimp only;rw[w2,w3,<-q3y h4 h5,<-h6]
def q75 {m:Nat} (hm:2000000<m) {neg:Bool} {l:LI} (h:Sz l):g139 m neg l=some (((blen (vl l):Nat):Int),(),()):=by
 rw[g139,X3 h.1 (by have:=h.2;omega) (by have:=h.2;omega),bS]
 dsimp only;rw[length_eq h.lim,bS]
def tz (n:Nat):Nat:=if h:n=0 then 0 else if n%2=1 then 0 else tz (n/2)+1
termination_by n
decreasing_by omega
def qp1:tz 0=0:=by rw[tz];simp
def qgr {n:Nat} (h:n%2=1):tz n=0:=by
 rw[tz,dif_neg O,iP h]
def qnt {n:Nat} (h:n≠0):tz (2*n)=tz n+1:=by
 rw[tz,dif_neg O,iN' O,show 2*n/2=n by omega]
def qln {k q:Nat} (h:q%2=1):tz (2^k*q)=k:=by
 induction k with
 |zero=>rw[zt2,zo2,qgr h]
 |succ k ih=>
  have:0<2^k*q:=Nat.mul_pos (zn O) O;rw[zD1,zh (2^k) 2,zk,qnt O,ih]
def q5u {n:Nat} (h:n≠0): ∃q,n=2^tz n*q/\q%2=1:=by
 induction n using Nat.strongRecOn with
 |ind n ih=>
  by_cases e:n%2=1
  . exact⟨n,by rw[qgr e];omega,e⟩
  . obtain⟨q,h1,h2⟩:=ih (n/2) O O;refine⟨q,?_,h2⟩;have e2:n=2*(n/2):=O
    have e3:tz n=tz (n/2)+1:=by
     have:=qnt (n:=n/2) O
     rwa [<-e2]at this
    rw[e3,zD1,zh (2^_) 2,zk,<-h1];exact e2
def qke {j q:Nat} (h:q<2^j):q&&&(2^j-(q+1))=0:=by
 apply zY2;intro i;rw[zV2,Nat.testBit_two_pow_sub_succ h,Nat.zero_testBit];cases Nat.testBit q i<;>simp
def qe2 {x:Nat} (h0:x≠0) (hx:x<4294967296):x&&&(4294967296-x)=2^tz x/\tz x<32:=by
 obtain⟨q,h1,h2⟩:=q5u h0;generalize tz x=k at*
 have hk:k<32:=by
  rcases zq k 32 with h|h
  . exact h
  . have a:=zZ (n:=2) O h;have b:2^k*1<=2^k*q:=zw1 _ O;have:(2:Nat)^32=4294967296:=by decide
    omega
 refine⟨?_,hk⟩;obtain⟨r,rfl⟩: ∃r,q=2*r+1:=⟨q/2,O⟩
 have hp:2^k*(2*2^(31-k))=4294967296:=by
  rw[show 2*2^(31-k)=2^(31-k+1) by rw[zD1,zh],<-Nat.pow_add,show k+(31-k+1)=32 by omega]
 have hr:r<2^(31-k):=by
  have:2^k*(2*r+1)<2^k*(2*2^(31-k)):=O;have:=Nat.lt_of_mul_lt_mul_left this;omega
 have e:4294967296-x=2^k*(2*(2^(31-k)-(r+1))+1):=by
  rw[h1,<-hp,<-Nat.mul_sub];congr 1;omega
 rw[e,h1];apply zY2;intro i;rw[zV2,Nat.testBit_two_pow_mul,Nat.testBit_two_pow_mul,zd1];by_cases hi:i<k
 . simp[show¬k<=i by omega,show¬k=i by omega]
 . by_cases hik:k=i
   . subst hik;simp[Nat.testBit_zero,zw2]
   . obtain⟨t,ht⟩: ∃t,i-k=t+1:=⟨i-k-1,O⟩
     have hb: ∀y,(2*y+1).testBit (t+1)=y.testBit t:=λy=>by
      rw[Nat.testBit_succ,show(2*y+1)/2=y by omega]
     rw[ht,hb,hb];have:=congrArg (λz=>Nat.testBit z t) (qke hr)
     simp only[zV2,Nat.zero_testBit]at this;simp[hik];intro _ h3;rw[h3]at this;intro _;simpa using this
def qro: ∀k:Fin 32,(shr_ .u32 (wK (((2^k.val:Nat):Int)*125613361)) 27)=(((2^k.val*125613361)%4294967296/134217728:Nat):Int)/\(2^k.val*125613361)%4294967296/134217728<32/\q3r.getD ((2^k.val*125613361)%4294967296/134217728) 0=(k.val:Int):=by decide+kernel
def qlv:q3r.length=32:=by decide+kernel
def qou {m x:Nat} (h0:x≠0) (hx:x<4294967296):g180 m (x:Int)=some (((tz x:Nat):Int),(),()):=by
 obtain⟨h1,h2⟩:=qe2 h0 hx;obtain⟨t1,t2,t3⟩:=qro ⟨tz x,h2⟩
 have w1:wK (0-(x:Int))=((4294967296-x:Nat):Int):=by
  show(0-(x:Int))%4294967296=_
  omega
 have w2:qo .u32 (x:Int) ((4294967296-x:Nat):Int)=((2^tz x:Nat):Int):=by
  rw[and32 hx O,h1]
 dsimp only at t1 t2 t3;rw[g180,bif_eq,iN' O,iP O,w1,w2,t1,qlv,iP O,tN,t3,wQ,wi O O]
def qh2 {k n:Nat} (h:n≠0):tz (2^k*n)=k+tz n:=by
 obtain⟨q,h1,h2⟩:=q5u h;rw[h1,<-Nat.mul_assoc,<-Nat.pow_add,qln h2,qln h2]
def qox {x r:Nat} (h0:x≠0) (hx:x<4294967296):tz (x+4294967296*r)=tz x:=by
 obtain⟨h1,h2⟩:=qe2 h0 hx;obtain⟨q,h3,h4⟩:=q5u h0
 have hp:(4294967296:Nat)=2^tz x*(2*2^(31-tz x)):=by
  rw[show 2*2^(31-tz x)=2^(31-tz x+1) by rw[zD1,zh],<-Nat.pow_add,show tz x+(31-tz x+1)=32 by omega]
 have e:x+4294967296*r=2^tz x*(q+2*(2^(31-tz x)*r)):=by
  rw[zu,<-h3,<-Nat.mul_assoc 2,<-Nat.mul_assoc (2^tz x),<-hp]
 rw[e,qln O]
def TZ_L0 (m:Nat) {l:LI} (hl:Lm l) (hlen:l.length<=1000000): ∀(n k:Nat),l.length-k<n->k<=l.length->vl (l.drop k)≠0->
 g138L0 m n l (l.length:Int) (k:Int)=some (.inl (((32*k+tz (vl (l.drop k)):Nat):Int),()))
 |0,k,h,_,_=>O
 |n+1,k,h,hk0,hv=>by
  rw[g138L0];by_cases hk:k<l.length
  . obtain⟨x,ex,hx⟩:=hl.get hk;have hd:=Xr hk;rw[ex,tN]at hd;rw[bQ,iP O,iP O,tN,ex,bif_ne];by_cases e:x=0
    . subst e;rw[iP (by rfl),show wI ((k:Int)+1)=((k+1:Nat):Int)from wsucc O,TZ_L0 m hl hlen n (k+1) O O O]
      have hb:(4294967296:Nat)=2^32:=by decide
      have:tz (vl (l.drop k))=32+tz (vl (l.drop (k+1))):=by
       rw[hd,zK,hb,qh2 O]
      rw[this];congr 4;omega
    . have h2:=(qe2 e hx).2;have w2:wI ((k:Int)*32)=((32*k:Nat):Int):=by rw[wQ,wi O O];omega
      have w3:wI (((32*k:Nat):Int)+((tz x:Nat):Int))=((32*k+tz x:Nat):Int):=by rw[wQ,wi O O];omega
      rw[iN' O,qou e hx,bS];dsimp only;rw[w2,w3,hd,qox e hx]
  . exact absurd (Qh O) hv
def q04 {m:Nat} (hm:2000000<m) {neg:Bool} {l:LI} (h:Sz l) (h0:vl l≠0):g138 m neg l=some (((tz (vl l):Nat):Int),(),()):=by
 have:=TZ_L0 m h.1 h.2 m 0 (by have:=h.2;omega) O (by rw[zI2];exact h0)
 rw[nZ,zI2,zt1,zK]at this;rw[g138,this,bS]
def qj2 {x y p:Nat} (hx:x<4294967296) (hy:y<4294967296) (hp:p<32):wK (qo .u64 (shr_ .u64 (b_or_ .u64 (x:Int) (shl_ .u64 (y:Int) 32)) (p:Int)) 4294967295)=(((x+4294967296*y)/2^p%4294967296:Nat):Int):=by
 have e1:shl_ .u64 (y:Int) 32=((y*4294967296:Nat):Int):=shl64 (a:=y) (k:=32) O O
 have e2:x|||y*4294967296=x+4294967296*y:=by
  rw[zc3,zh,show(4294967296:Nat)=2^32 by decide,<-Nat.two_pow_add_eq_or_of_lt O,zN3]
 have hle:(x+4294967296*y)/2^p<=x+4294967296*y:=zj2 ..;rw[e1,or64 O O,e2,shr64 O,low32 O,w32,ze2]
def qi8 {x p:Nat} (hx:x<4294967296) (hp:p<32):wK (qo .u64 (shr_ .u64 (x:Int) (p:Int)) 4294967295)=((x/2^p:Nat):Int):=by
 have hle:x/2^p<=x:=zj2 ..;rw[shr64 O,low32 O,w32,ze2,zU1 O]
def qgw {B T x E:Nat} (hT:0<T) (hx:x<B):(x+B*E)/T=(x+B*(E%T))/T+B*(E/T)/\(x+B*(E%T))/T<B:=by
 have h1:x+B*E=x+B*(E%T)+T*(B*(E/T)):=by
  have:B*E=B*(E%T)+T*(B*(E/T)):=by
   rw[Nat.mul_left_comm T B,<-Nat.mul_add,zE3]
  omega
 constructor
 . rw[h1,Nat.add_mul_div_left _ _ hT]
 . rw[zF2 hT];have h2:B*(E%T+1)<=B*T:=zw1 _ (zN2 _ hT);rw[zu,zk1]at h2;omega
def qoe {p x y R:Nat} (hp:p<32) (hx:x<4294967296):(x+4294967296*y)/2^p%4294967296+4294967296*((y+4294967296*R)/2^p)=(x+4294967296*(y+4294967296*R))/2^p:=by
 have hT:0<2^p:=zn O;have hB:(4294967296:Nat)=2^p*2^(32-p):=by rw[<-Nat.pow_add,show p+(32-p)=32 by omega]
 have hm:(y+4294967296*R)%2^p=y%2^p:=by
  rw[hB,zk,zS2]
 obtain⟨a1,a2⟩:=qgw (E:=y+4294967296*R) hT hx;obtain⟨b1,b2⟩:=qgw (E:=y) hT hx;rw[a1,b1,hm,zS2,zU1 b2]
def qmy {P B V0 V1 d E X:Nat} (hs:V1+P*(0:Int).toNat=V0+P*d) (he:d+B*E=X):V1+P*B*E=V0+P*X:=by
 rw[show(0:Int).toNat=0 from rfl,zt1,zV]at hs
 rw[<-he,hs,zu,zk,zM1]
def qp0 (m:Nat) {a:LI} {w p:Nat} (ha:Lm a) (hl:a.length<=1000000) (hw:w<a.length) (hp:p<32) (lost:Bool): ∀(n k:Nat) (out:LI),a.length-w-k<n->k<=a.length-w->Lm out->out.length=a.length-w->(∀q,k<=q->out.getD q 0=0)->
 ∃out',g194L0 m n a (w:Int) (p:Int) lost out ((a.length-w:Nat):Int) (k:Int)=some (.inl (lost,out',()))/\Lm out'/\out'.length=a.length-w/\vl out'=vl out+4294967296^k*(vl (a.drop (w+k))/2^p):=by
 intro n;induction n with
 |zero=>intro k out h;omega
 |succ n ih=>
  intro k out h hk0 ho hol hz;rw[g194L0];by_cases hk:k<a.length-w
  . have h1:((k:Int)<((a.length-w:Nat):Int)):=O;have w0:wI ((w:Int)+(k:Int))=((w+k:Nat):Int):=by rw[wQ,wi O O];omega
    have w1:wI (((w+k:Nat):Int)+1)=((w+k+1:Nat):Int):=wsucc O;have w3:wI ((k:Int)+1)=((k+1:Nat):Int):=wsucc O;have c1:(0:Int)<=((w+k:Nat):Int)/\((w+k:Nat):Int)<(a.length:Int):=O;have c2:(0:Int)<=(p:Int):=O;have c3:(0:Int)<=(k:Int)/\(k:Int)<(out.length:Int):=O;obtain⟨x,ex,hx⟩:=ha.get (show w+k<a.length by omega)
    have wx:wJ (x:Int)=(x:Int):=w64n O
    have step: ∀d:Nat,d<4294967296->d+4294967296*(vl (a.drop (w+(k+1)))/2^p)=vl (a.drop (w+k))/2^p->
     ∃out',g194L0 m n a (w:Int) (p:Int) lost (out.set k (d:Int)) ((a.length-w:Nat):Int) ((k+1:Nat):Int)=some (.inl (lost,out',()))/\Lm out'/\out'.length=a.length-w/\vl out'=vl out+4294967296^k*(vl (a.drop (w+k))/2^p):=by
     intro d hd he;obtain⟨out',g1,g2,g3,g4⟩:=ih (k+1) (out.set k (d:Int)) O O (q50 ho hd) (by rw[zY];exact hol) (λq hq=>by rw[getD_set_ne O];exact hz q O)
     refine⟨out',g1,g2,g3,?_⟩;have hs:=q6m (l:=out) (p:=k) (y:=(d:Int)) O;rw[hz k (zD _),tN]at hs;have hpw:4294967296^(k+1)=4294967296^k*4294967296:=zD1 ..;rw[g4,hpw];exact qmy hs he
    rw[bQ,iP h1,w0,iP c1,w1,bQ];simp only[tN,zK];rw[ex,wx];have hd:=Xr (l:=a) (k:=w+k) O;rw[ex,tN]at hd;by_cases hn:w+k+1<a.length
    . obtain⟨y,ey,hy⟩:=ha.get hn;have wy:wJ (y:Int)=(y:Int):=w64n O;have c4:(0:Int)<=((w+k+1:Nat):Int)/\((w+k+1:Nat):Int)<(a.length:Int):=O;have hd2:=Xr hn;rw[ey,tN]at hd2;rw[iP c4.2,iP c4,iP c2,iP c3,ey,wy,qj2 hx hy hp,w3];refine step _ (zN2 _ O) ?_;rw[<-Nat.add_assoc w k 1,hd,hd2];exact qoe hp hx
    . have c4: ¬((w+k+1:Nat):Int)<(a.length:Int):=O;rw[iN' c4,iP c2,iP c3,qi8 hx hp,w3];refine step _ (zn1 (zj2 ..) hx) ?_;rw[<-Nat.add_assoc w k 1,hd,Qh (l:=a) (k:=w+k+1) O,zt1,zV,Nat.zero_div,zt1,zV]
  . rw[bQ,iN' O];refine⟨out,rfl,ho,hol,?_⟩;rw[Qh O,Nat.zero_div,zt1,zV]
def qmx (m:Nat) {s:LI} (hs:Lm s) (hl:s.length<=1000000): ∀(n k:Nat),s.length-k<n->k<=s.length->
 ∃r,g235L0 m n s (s.length:Int) (k:Int)=some r/\((∃j:Nat,r= .inl ((j:Int),())/\vl (s.drop k)≠0)\/(r= .inr (.inl ())/\vl (s.drop k)=0)):=by
 intro n;induction n with
 |zero=>intro k h;omega
 |succ n ih=>
  intro k h hk0;rw[g235L0];by_cases hk:k<s.length
  . obtain⟨x,ex,hx⟩:=hs.get hk;have hd:=Xr hk;rw[ex,tN]at hd;rw[bQ,iP O,iP O,tN,ex,g217,bS];dsimp only;rw[bif_ne];by_cases e:x=0
    . subst e;rw[iP (by rfl),show wI ((k:Int)+1)=((k+1:Nat):Int)from wsucc O]
      obtain⟨r,g1,g2⟩:=ih (k+1) O O;refine⟨r,g1,?_⟩;rcases g2 with⟨j,g2,g3⟩|⟨g2,g3⟩
      . exact .inl ⟨j,g2,O⟩
      . exact .inr ⟨g2,O⟩
    . rw[iN' O];exact⟨_,rfl,.inl ⟨k,rfl,O⟩⟩
  . rw[bQ,iN' O];exact⟨_,rfl,.inr ⟨rfl,Qh O⟩⟩
def q51 {m:Nat} (hm:2000000<m) {s:LI} (hs:Lm s) (hl:s.length<=1000000):g216 m s=some (decide (vl s≠0),(),(),()):=by
 obtain⟨r,g1,g2⟩:=qmx m hs hl m 0 O O;rw[nZ]at g1;rw[zI2]at g2;rw[g216,g235,g1,bS];rcases g2 with⟨j,rfl,h⟩|⟨rfl,h⟩
 . rw[show decide (vl s≠0)=true by simpa using h]
   show some (decide ((j:Int)>=0),_)=_
   rw[show decide ((j:Int)>=0)=true by rw[decide_eq_true_eq];omega]
 . rw[show decide (vl s≠0)=false by simpa using h]
   rfl
def mask32 {x p:Nat} (hx:x<4294967296) (hp:p<32):qo .u32 (x:Int) (wK ((shl_ .u32 1 (p:Int))-1))=((x%2^p:Nat):Int):=by
 have hple:2^p<=2^31:=zZ O O;have hpos:0<2^p:=zn O
 have e1:shl_ .u32 1 (p:Int)=((2^p:Nat):Int):=by
  unfold shl_;rw[show min (p:Int).toNat (IntKind.u32.bits)=p by show min _ 32=p;omega,zo3]
  have:(2:Int)^p=((2^p:Nat):Int):=by rw[zV1];rfl
  rw[this,wrap32 O]
 have e2:wK (((2^p:Nat):Int)-1)=((2^p-1:Nat):Int):=by
  show(((2^p:Nat):Int)-1)%4294967296=_
  omega
 rw[e1,e2,and32 hx O,zJ1]
def ql9 {P T L D:Nat} (hL:L<P) (hT:0<T):(L+P*D)%(P*T)=L+P*(D%T):=by
 have h1:L+P*D=L+P*(D%T)+P*T*(D/T):=by
  have:P*D=P*(D%T)+P*T*(D/T):=by rw[zk,<-Nat.mul_add,zE3]
  omega
 rw[h1,zS2,zU1];have h2:P*(D%T+1)<=P*T:=zw1 _ (zN2 _ hT);rw[zu,zk1]at h2;omega
def qlw {P T L D:Nat} (hL:L<P):(L+P*D)/(P*T)=D/T:=by
 rw[<-Nat.div_div_eq_div_mul,Nat.add_mul_div_left _ _ O,zx2 hL,zK]
def qpi {m:Nat} (hm:3000000<m) {v:Nat} (hl:(lim v).length<=1000000) {n:Nat} (hn:n<=10000000):g194 m (lim v) (n:Int)=some ((lim (v/2^n),decide (v%2^n≠0),()),(),(),()):=by
 have w0:wI (Int.tdiv (n:Int) 32)=((n/32:Nat):Int):=by rw[qo8,wQ,wi O O]
 have w1:wJ (Int.tmod (n:Int) 32)=((n%32:Nat):Int):=by rw[qnj,w64n O]
 have hpw:2^n=4294967296^(n/32)*2^(n%32):=by rw[pow32,show 32*(n/32)+n%32=n by omega]
 have hT:0<2^(n%32):=zn O;have hLm:=Qu v;rw[g194,w0,w1,bQ];by_cases h:((n/32:Nat):Int)>=((lim v).length:Int)
 . have hlt:=vl_lt hLm;rw[Qn]at hlt;have h2:4294967296^(lim v).length<=4294967296^(n/32):=zZ O O;have h3:4294967296^(n/32)*1<=4294967296^(n/32)*2^(n%32):=zw1 _ hT;have hv:v<2^n:=by rw[hpw];omega
   rw[iP h,zx2 hv,zU1 hv,Q8]
   have:decide (((lim v).length:Int)>0)=decide (v≠0):=by
    by_cases e:v=0
    . subst e;rw[Q8];rfl
    . have:=mt q6f.1 e;rw[show decide (v≠0)=true by simpa using e,decide_eq_true_eq];omega
   rw[this]
 . have hw:n/32<(lim v).length:=O;obtain⟨x,ex,hx⟩:=hLm.get hw;have c1:(0:Int)<=0/\(0:Int)<=((n/32:Nat):Int)/\((n/32:Nat):Int)<=((lim v).length:Int):=O;have w2:wI (((lim v).length:Int)-((n/32:Nat):Int))=(((lim v).length-n/32:Nat):Int):=by rw[wQ,wi O O];omega
   have hlen:(List.replicate ((lim v).length-n/32) (0:Int)).length=(lim v).length-n/32:=zm1 ..;have hT1:Lm ((lim v).take (n/32)):=λy hy=>hLm y (zE1 hy)
   have hL:=vl_lt hT1;rw[zH1,show min (n/32) (lim v).length=n/32 by omega]at hL
   have hv:=Zz (l:=lim v) (k:=n/32) O;rw[Qn]at hv;have hd:=Xr hw;rw[ex,tN]at hd
   have hdiv:v/2^n=vl ((lim v).drop (n/32))/2^(n%32):=by
    conv=>lhs;rw[hv,hpw]
    exact qlw hL
   have hmod:v%2^n=vl ((lim v).take (n/32))+4294967296^(n/32)*(x%2^(n%32)):=by
    conv=>lhs;rw[hv,hpw]
    rw[ql9 hL hT,hd];have hB:(4294967296:Nat)=2^(n%32)*2^(32-n%32):=by rw[<-Nat.pow_add,show n%32+(32-n%32)=32 by omega]
    have:(x+4294967296*vl ((lim v).drop (n/32+1)))%2^(n%32)=x%2^(n%32):=by
     conv=>lhs;rw[hB,zk,zS2]
    rw[this]
   have run: ∀lost:Bool,∃out,g194L0 m m (lim v) ((n/32:Nat):Int) ((n%32:Nat):Int) lost (List.replicate ((lim v).length-n/32) (0:Int)) (((lim v).length-n/32:Nat):Int) 0=some (.inl (lost,out,()))/\g132 m out=some (lim (v/2^n),(),()):=by
    intro lost
    obtain⟨out,e,h1,h2,h3⟩:=qp0 m (w:=n/32) (p:=n%32) hLm hl hw O lost m 0 (List.replicate ((lim v).length-n/32) 0) O O Z5 hlen (λp hp=>by
     by_cases h:p<(lim v).length-n/32
     . rw[Xh h]
     . rw[q7b (by rw[hlen];omega)])
    rw[nZ]at e;refine⟨out,e,?_⟩;rw[X3 h1 O O,h3,Zy,zK,zt2,zo2,zV,hdiv]
   rw[iN' h,iP c1,tN,q51 O hT1 (by rw[zH1];omega),bS]
   dsimp only;rw[w2,tN,hlen,ex,mask32 hx O,hmod];obtain⟨o1,r1,r2⟩:=run true;obtain⟨o2,r3,r4⟩:=run (((x%2^(n%32):Nat):Int) !=0);have hP:0<4294967296^(n/32):=zn O;by_cases e:vl ((lim v).take (n/32))=0
   . have:decide (vl ((lim v).take (n/32))+4294967296^(n/32)*(x%2^(n%32))≠0)=(((x%2^(n%32):Nat):Int) !=0):=by
      rw[e,zK];by_cases e2:x%2^(n%32)=0
      . rw[e2];simp
      . have:=Nat.mul_pos hP (zg2 e2);rw[show decide (4294967296^(n/32)*(x%2^(n%32))≠0)=true by rw[decide_eq_true_eq];omega]
        symm
        rw[bne_iff_ne];omega
     rw[this,show decide (vl ((lim v).take (n/32))≠0)=false by simpa using e,cond_false,iP O,iP O,iP O,r3,bS]
     dsimp only;rw[r4,bS]
   . rw[show decide (vl ((lim v).take (n/32))≠0)=true by simpa using e,cond_true,iP O,r1,bS]
     dsimp only;rw[r2,bS,show decide (vl ((lim v).take (n/32))+4294967296^(n/32)*(x%2^(n%32))≠0)=true by rw[decide_eq_true_eq];omega]
def qem {v n:Nat} (hv:(lim v).length<=500000) (hn:n<=10000000):(lim (v*2^n)).length<=1000000:=by
 have hl:(lim v).length+(n/32+1)<=1000000:=O;refine zT (Y7 (k:=(lim v).length+(n/32+1)) ?_) hl;have h1:=vl_lt (Qu v);rw[Qn]at h1
 have h2:2^n<=4294967296^(n/32+1):=by
  have:(4294967296:Nat)^(n/32+1)=2^(32*(n/32+1)):=by rw[show(4294967296:Nat)=2^32 by decide,<-Nat.pow_mul]
  rw[this];exact zZ O O
 rw[zW1];exact Nat.mul_lt_mul_of_lt_of_le h1 h2 (zn O)
def q4p {m:Nat} (hm:3000000<m) {neg:Bool} {l:LI} (h:Lm l) (hl:l.length<=500000) {n:Nat} (hn:n<=1048576):g151 m neg l (n:Int)=some ((zB (zv neg l*2^n),0,()),(),(),()):=by
 have b:=Jf h;rw[g151,bQ,iN' O,bQ,iN' O,X3 h O O,bS,bQ,iP O];dsimp only;rw[up_eq hm (Qu _) O O,Qn,bS];dsimp only;rw[bigN O (by have:=qem (v:=vl l) (n:=n) O O;omega),bS]
 have:(if neg=true then-((vl l*2^n:Nat):Int)else((vl l*2^n:Nat):Int))=zv neg l*2^n:=by
  unfold zv;rw[zi1,zV1];cases neg
  . rfl
  . show-((vl l:Int)*_)= -(vl l:Int)*_
    rw[zn3];rfl
 rw[this]
def qee {v T:Nat}:(lim (v/T)).length<=(lim v).length:=Qp (zj2 ..)
def qj0 {v T:Nat} (hT:0<T): -(v:Int)/(T:Int)=if v%T≠0 then-((v/T+1:Nat):Int)else-((v/T:Nat):Int):=by
 have h:=zE3 v T;by_cases e:v%T=0
 . rw[iN' O]
   have: -(v:Int)=(T:Int)* -((v/T:Nat):Int):=by
    rw[Int.mul_neg,<-Int.natCast_mul];congr 2;omega
   rw[this,Int.mul_ediv_cancel_left _ O]
 . rw[iP e];have hm:=zN2 v hT
   have: -(v:Int)=((T-v%T:Nat):Int)+(T:Int)* -((v/T+1:Nat):Int):=by
    rw[Int.mul_neg,<-Int.natCast_mul,zu,zk1];omega
   rw[this,Int.add_mul_ediv_left _ _ O,Int.ediv_eq_zero_of_lt O O,Int.zero_add]
def qh6 {m:Nat} (hm:3000000<m) {neg:Bool} {l:LI} (h:Lm l) (hl:l.length<=500000) {n:Nat} (h0:0<n) (hn:n<=1048576):g151 m neg l (-(n:Int))=some ((zB (zv neg l/((2^n:Nat):Int)),0,()),(),(),()):=by
 have b:=Jf h;have hT:0<2^n:=zn O;have bd:(lim (vl l/2^n)).length<=500000:=zT qee O;have w:wI (0- -(n:Int))=(n:Int):=by rw[wQ,wi O O];omega
 have h1:Lm [1]:=λx hx=>by rw[zA]at hx;subst hx;omega
 rw[g151,bQ,iN' O,bQ,iN' O,X3 h O O,bS,bQ,iN' O,w];dsimp only;rw[qpi hm O O,bS];dsimp only;generalize 2^n=T at*;cases neg with
 |false=>
  rw[cond_false,bigN O O,bS]
  have:(if false=true then-((vl l/T:Nat):Int)else((vl l/T:Nat):Int))=zv false l/(T:Int):=by
   show _=(vl l:Int)/_
   rw[iN' (by simp),Int.natCast_ediv]
  rw[this]
 |true=>
  have e:=qj0 (v:=vl l) hT;rw[cond_true];by_cases hd:vl l%T=0
  . rw[iN' O]at e;rw[show decide (vl l%T≠0)=false by simpa using hd,cond_false,bigN O O,bS,iP rfl,<-e]
    rfl
  . rw[iP hd]at e;have a1:(lim (vl l/T+1)).length<=1000001:=qkn (x:=vl l/T) (y:=1) O (by rw[q0g O];show(lim 0).length+1<=_;rw[Q8];simp)
    rw[show decide (vl l%T≠0)=true by simpa using hd,cond_true,qlr O (Qu _) h1 O (by simp),bS,Qn]
    dsimp only;rw[show vl [1]=1 from rfl,bigN O a1,bS,iP rfl,<-e]
    rfl
end Go.Vs.F
