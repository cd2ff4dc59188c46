import Derived.Test.YtoeiaipcgnjfcaaGreatDoorLc
set_option linter.unusedVariables false
set_option linter.unusedSimpArgs false
set_option linter.unusedSectionVars false
set_option linter.defProp false
namespace Go.Vs.F
def Wk (m:Nat) {l:LI} (hl:l.length<=1000000000): ∀(k n:Nat),k<n->k<=l.length->
 ∃j:Nat,iO m n l (k:Int)=some (.inl (l,(j:Int),()))/\j<=k/\(∀i,j<=i->i<k->l.getD i 0=0)/\(j=0\/l.getD (j-1) 0≠0)
 |0,n,h,_=>by
  obtain⟨n,rfl⟩: ∃n',n=n'+1:=⟨n-1,O⟩;rw[iO,bQ,ao O];exact⟨0,rfl,zF _,λi a b=>O,.inl rfl⟩
 |k+1,n,h,hk=>by
  obtain⟨n,rfl⟩: ∃n',n=n'+1:=⟨n-1,O⟩;have w1:wI (((k+1:Nat):Int)-1)=(k:Int):=by rw[wQ,wi O O];omega
  rw[iO,bQ,iP O,w1,iP O,tN,aF];by_cases e:l.getD k 0=0
  . rw[iP e];obtain⟨j,g1,g2,g3,g4⟩:=Wk m hl k n O O;refine⟨j,g1,O,λi a b=> ?_,g4⟩
    by_cases ei:i=k
    . subst ei;exact e
    . exact g3 i a O
  . rw[ao e];exact⟨k+1,rfl,zF _,λi a b=>O,.inr (by simpa using e)⟩
def Wc (m:Nat) {l:LI} {j:Nat} (hj:j<=l.length) (hl:l.length<=1000000000): ∀(n k:Nat),j-k<n->k<=j->
 lD m n l (j:Int) (l.take k) (k:Int)=some (.inl (l.take j,()))
 |0,k,h,_=>O
 |n+1,k,h,hk=>by
  rw[lD];by_cases e:k<j
  . rw[bQ,iP O,iP O,iP (by rw[zk];show min k l.length+1<=_;omega),tN,show wI ((k:Int)+1)=((k+1:Nat):Int)from aB O]
    have:l.take k++[l.getD k 0]=l.take (k+1):=by
     rw[Nm,List.getD,List.getElem?_eq_getElem (show k<l.length by omega)];rfl
    rw[this];exact Wc m hj hl n (k+1) O O
  . rw[bQ,ao O,show k=j by omega]
def H5 {m:Nat} {l:LI} (h:Lm l) (hm:l.length<m) (hl:l.length<=1000000000):nK m l=some (lim (vl l),(),()):=by
 obtain⟨j,e,h1,h2,h3⟩:=Wk m hl l.length m hm (zF _);have e2:=Wc m h1 hl m 0 O O;rw[sk,nZ]at e2;rw[nK,e,bS];dsimp only;rw[e2,bS];dsimp only
 have hv:vl (l.take j)=vl l:=by
  conv=>rhs;rw[<-List.take_append_drop j l,xH]
  rw[OC (l:=l.drop j)]
  . omega
  . intro x hx;obtain⟨i,hi,rfl⟩:=l9 hx;simp only[pI]at hi;have:=h2 (j+i) O O;rw[Nl];rw[List.getD,List.getElem?_eq_getElem O]at this;exact this
 rw[<-hv];congr 2;refine PL (λx hx=>h x (pJ hx)) λhne=> ?_
 rcases h3 with h3|h3
 . subst h3;exact absurd (sk ..) hne
 . obtain⟨j,rfl⟩: ∃j',j=j'+1:=⟨j-1,by
    have:j≠0:=by rintro rfl;exact hne (sk ..)
    omega⟩
   rw[hZ O];simpa using h3
def Z4 {m:Nat} (hm:2000000<m) {l:LI} (h:Lm l) (hl:l.length<=1000001) (neg:Bool):ie m neg l=some (zB (zv neg l),(),(),()):=by
 rw[ie,H5 h O O,bS,zv,Vd];dsimp only[qR]
 have e:decide (((lim (vl l)).length:Int)>0)=(vl l !=0):=by
  by_cases e:vl l=0
  . rw[e,Qj];rfl
  . have: ¬((lim (vl l)).length:Int)=0:=λh=>e (Jt.1 (pK.1 O))
    rw[show(vl l !=0)=true by simpa using e]
    simp only[decide_eq_true_eq];omega
 rw[e];cases neg<;>rfl
def JO {m:Nat} (hm:2000000<m) {neg:Bool} {l:LI} (h:Sz l):qE m neg l=some (zB (zv neg l),(),()):=by
 rw[qE,Z4 hm h.1 (by have:=h.2;omega)];rfl
def qtc {m:Nat} (hm:2000000<m) {neg:Bool} {l:LI} (h:Sz l):zj m neg l=some (zB (-zv neg l),(),()):=by
 rw[zj,Z4 hm h.1 (by have:=h.2;omega),PF];rfl
def QT {m:Nat} (hm:2000000<m) {neg:Bool} {l:LI} (h:Sz l):s6 m neg l=some (zB ((zv neg l).natAbs:Int),(),()):=by
 rw[s6,Z4 hm h.1 (by have:=h.2;omega),Zv];rfl
def Ot {m:Nat} (hm:2000000<m) {neg:Bool} {l:LI} (h:Sz l):dX m neg l=some (sgn (zv neg l),(),()):=by
 rw[dX,JO hm h,bS,aF];dsimp only;unfold sgn
 have e:(((zB (zv neg l)).2.1.length:Nat):Int)=0↔zv neg l=0:=by
  show(((lim (zv neg l).natAbs).length:Nat):Int)=0↔_
  rw[x6];omega
 by_cases z:zv neg l=0
 . rw[iP (e.2 z),ao O,ao O]
 . rw[ao (λh=>z (e.1 h))]
   show(bif decide (zv neg l<0)then _ else _)=_
   rw[bQ];by_cases z2:zv neg l<0
   . rw[iP z2,iP z2]
   . rw[ao z2,ao z2,iP O]
def SC {m:Nat} (hm:2000000<m) {n:Int} (h1: -9223372036854775808<=n) (h2:n<9223372036854775808):cO m n=some (zB n,(),()):=by
 have lo: ∀u:Nat,u<18446744073709551616-> ∀neg:Bool,ie m neg [wK (u:Int),wK (az .u64 (u:Int) 32)]=some (zB (if neg then-(u:Int)else(u:Int)),(),(),()):=by
  intro u hu neg;have e2:az .u64 (u:Int) 32=((u/4294967296:Nat):Int):=cV (a:=u) (k:=32) O;rw[fA,e2,fA,j7 (show u/4294967296<4294967296 by omega),Z4 hm,zv]
  . have:vl [((u%4294967296:Nat):Int),((u/4294967296:Nat):Int)]=u:=by
     simp only[vl,tN];omega
    rw[this]
  . intro x hx;simp only[zT,zZ,or_false]at hx;omega
  . simp
 rw[cO,bQ];by_cases h:n<0
 . have w:wJ (wJ (wI (0-wI (n+1)))+1)=((n.natAbs:Nat):Int):=by
    rw[show wI (n+1)=n+1 by rw[wQ,wi O O],show wI (0-(n+1))=0-(n+1) by rw[wQ,wi O O],dO,dO];omega
   rw[iP h,w,lo _ O,bS,show decide (n<0)=true by simpa using h,iP rfl,show-(n.natAbs:Int)=n by omega]
 . have w:wJ n=((n.natAbs:Nat):Int):=by rw[dO];omega
   rw[ao h,w,lo _ O,bS,show decide (n<0)=false by simpa using h,ao (by simp),show(n.natAbs:Int)=n by omega]
def Lm.get' {l:LI} (h:Lm l) (k:Nat): ∃x:Nat,l.getD k 0=(x:Int)/\x<4294967296/\vl (l.drop k)=x+4294967296*vl (l.drop (k+1)):=by
 by_cases hk:k<l.length
 . obtain⟨x,ex,hx⟩:=h.get hk;exact⟨x,ex,hx,by rw[Xd hk,ex,tN]⟩
 . exact⟨0,by rw[Zy O];rfl,O,by rw[qw O,qw O]⟩
def PC {a b:Nat}:(if(b:Int)>(a:Int)then(b:Int)else(a:Int))=((max a b:Nat):Int):=by
 split<;>omega
def qud (m:Nat) {a b:LI} (ha:Lm a) (hb:Lm b) (hl:max a.length b.length<=1000000): ∀(n k:Nat) (out:LI) (c:Nat),max a.length b.length-k<n->k<=max a.length b.length->Lm out->out.length=k->c<2->
 ∃out' c',fg m n a b out (c:Int) (k:Int)=some (.inl (out',((c':Nat):Int),()))/\Lm out'/\out'.length=max a.length b.length/\c'<2/\
  vl out'+4294967296^(max a.length b.length)*c'=vl out+4294967296^k*(c+vl (a.drop k)+vl (b.drop k)):=by
 intro n;induction n with
 |zero=>intro k out c h;omega
 |succ n ih=>
  intro k out c h hk0 ho hol hc;rw[fg,PC];by_cases hk:k<max a.length b.length
  . have h1:((k:Int)<((max a.length b.length:Nat):Int)):=O;obtain⟨x,ex,hx,dx⟩:=ha.get' k;obtain⟨y,ey,hy,dy⟩:=hb.get' k;have c2: ∀y:Int,out.length+([y]:LI).length<=1073741824:=λy=>by show out.length+1<=_;omega
    have w1:wJ (x:Int)=(x:Int):=bA O;have w3:wJ (y:Int)=(y:Int):=bA O;have ws:wI ((k:Int)+1)=((k+1:Nat):Int):=aB O;have w2: ∀u v:Nat,u+v<18446744073709551616->wJ ((u:Int)+(v:Int))=((u+v:Nat):Int):=λu v h=>by rw[show(u:Int)+(v:Int)=((u+v:Nat):Int) by omega,bA h]
    have e2: ∀t:Nat,az .u64 (t:Int) 32=((t/4294967296:Nat):Int):=λt=>cV (a:=t) (k:=32) O
    have step: ∃out' c',fg m n a b (out++[(((c+x+y)%4294967296:Nat):Int)]) (((c+x+y)/4294967296:Nat):Int) ((k+1:Nat):Int)=some (.inl (out',((c':Nat):Int),()))/\Lm out'/\out'.length=max a.length b.length/\c'<2/\
     vl out'+4294967296^(max a.length b.length)*c'=vl out+4294967296^k*(c+vl (a.drop k)+vl (b.drop k)):=by
     obtain⟨out',c',g1,g2,g3,g4,g5⟩:=ih (k+1) (out++[(((c+x+y)%4294967296:Nat):Int)]) ((c+x+y)/4294967296) O O (x7 ho O) (by simp[hol]) O
     refine⟨out',c',g1,g2,g3,g4,?_⟩
     have hp:4294967296^(k+1)*((c+x+y)/4294967296+vl (a.drop (k+1))+vl (b.drop (k+1)))=4294967296^k*(4294967296*((c+x+y)/4294967296+vl (a.drop (k+1))+vl (b.drop (k+1)))):=by
      rw[gV,zX]
     rw[g5,Jz,hol,hp,tn,<-Nat.mul_add,dx,dy];congr 2;omega
    rw[bQ,iP h1,bQ,bQ,tN,ex,ey,w1,w3,ws];by_cases ka:(k:Int)<(a.length:Int)
    . rw[iP ka,iP (show(0:Int)<=(k:Int)/\(k:Int)<(a.length:Int) by omega),w2 _ _ O]
      by_cases kb:(k:Int)<(b.length:Int)
      . rw[iP kb,iP (show(0:Int)<=(k:Int)/\(k:Int)<(b.length:Int) by omega),w2 _ _ O,fA,e2,iP (c2 _)]
        exact step
      . have y0:y=0:=by rw[Zy O]at ey;omega
        subst y0;rw[ao kb,fA,e2,iP (c2 _)];exact step
    . have x0:x=0:=by rw[Zy O]at ex;omega
      subst x0;rw[ao ka];by_cases kb:(k:Int)<(b.length:Int)
      . rw[bQ,iP kb,iP (show(0:Int)<=(k:Int)/\(k:Int)<(b.length:Int) by omega),w2 _ _ O,fA,e2,iP (c2 _)]
        exact step
      . omega
  . rw[bQ,ao O];refine⟨out,c,rfl,ho,O,hc,?_⟩;rw[qw (l:=a) O,qw (l:=b) O,show k=max a.length b.length by omega]
    rfl
def ql2 {m:Nat} (hm:2000000<m) {a b:LI} (ha:Lm a) (hb:Lm b) (hla:a.length<=1000000) (hlb:b.length<=1000000):
 ∃r,AF m a b=some (r,(),(),())/\Lm r/\r.length=max a.length b.length+1/\vl r=vl a+vl b:=by
 obtain⟨out,c,e,h1,h2,h3,h4⟩:=qud m ha hb O m 0 [] 0 O O (λx hx=>by cases hx) rfl O
 rw[nZ]at e;have w:wK (c:Int)=(c:Int):=by rw[fA];congr 1;omega
 refine⟨out++[(c:Int)],?_,x7 h1 O,by simp[h2],?_⟩
 . rw[AF,e,bS];dsimp only;rw[w,iP (by rw[h2];show max a.length b.length+1<=_;omega)]
 . rw[Jz,h2,h4];simp[vl]
def qgs {x y c:Nat} (hx:x<4294967296) (hy:y<4294967296) (hc:c<2): ∃d e:Nat,d<4294967296/\e<2/\d+y+c=x+4294967296*e/\
 wK (wJ ((wJ ((x:Int)-(c:Int)))-(y:Int)))=(d:Int)/\az .u64 (wJ ((wJ ((x:Int)-(c:Int)))-(y:Int))) 63=(e:Int):=by
 have key: ∀t:Nat,t<18446744073709551616->wJ ((wJ ((x:Int)-(c:Int)))-(y:Int))=(t:Int)->
  wK (wJ ((wJ ((x:Int)-(c:Int)))-(y:Int)))=((t%4294967296:Nat):Int)/\az .u64 (wJ ((wJ ((x:Int)-(c:Int)))-(y:Int))) 63=((t/9223372036854775808:Nat):Int):=by
  intro t ht e;rw[e,fA];exact⟨rfl,cV (a:=t) (k:=63) O⟩
 by_cases h:y+c<=x
 . have e:wJ ((wJ ((x:Int)-(c:Int)))-(y:Int))=((x-c-y:Nat):Int):=by
    rw[dO,dO];omega
   obtain⟨k1,k2⟩:=key (x-c-y) O e;exact⟨_,_,O,O,O,k1,k2⟩
 . have e:wJ ((wJ ((x:Int)-(c:Int)))-(y:Int))=((18446744073709551616+x-c-y:Nat):Int):=by
    rw[dO,dO];omega
   obtain⟨k1,k2⟩:=key (18446744073709551616+x-c-y) O e;exact⟨_,_,O,O,O,k1,k2⟩
def qt7 {B P V0 V1 d y c x e Av Bv Q R:Nat} (g:V1+P*B*(e+Bv)=(V0+P*d)+P*B*Av+Q) (hde:d+y+c=x+B*e):V1+P*(c+(y+B*Bv))=V0+P*(x+B*Av)+Q:=by
 have k1:P*(d+y+c)=P*d+P*y+P*c:=by rw[zL,zL]
 have k2:P*(x+B*e)=P*x+P*B*e:=by rw[zL,zX]
 have k3:P*B*(e+Bv)=P*B*e+P*(B*Bv):=by rw[zL,zX P B Bv]
 have k4:P*(c+(y+B*Bv))=P*c+(P*y+P*(B*Bv)):=by rw[zL,zL]
 have k5:P*(x+B*Av)=P*x+P*(B*Av):=by rw[zL]
 have k6:P*B*Av=P*(B*Av):=zX ..;rw[hde]at k1;rw[k3,k6]at g;rw[k4,k5];omega
def qtq (m:Nat) {a b:LI} (ha:Lm a) (hb:Lm b) (hl:a.length<=1000000) (hba:b.length<=a.length): ∀(n k:Nat) (out:LI) (c:Nat),a.length-k<n->k<=a.length->Lm out->out.length=k->c<2->
 ∃out' c',gM m n a b out (c:Int) (k:Int)=some (.inl (out',()))/\Lm out'/\out'.length=a.length/\c'<2/\
  vl out'+4294967296^k*(c+vl (b.drop k))=vl out+4294967296^k*vl (a.drop k)+4294967296^a.length*c':=by
 intro n;induction n with
 |zero=>intro k out c h;omega
 |succ n ih=>
  intro k out c h hk0 ho hol hc;rw[gM];by_cases hk:k<a.length
  . have h1:((k:Int)<(a.length:Int)):=O;have c1:(0:Int)<=(k:Int)/\(k:Int)<(a.length:Int):=O;obtain⟨x,ex,hx,dx⟩:=ha.get' k;obtain⟨y,ey,hy,dy⟩:=hb.get' k;have c2: ∀y:Int,out.length+([y]:LI).length<=1073741824:=λy=>by show out.length+1<=_;omega
    have w1:wJ (x:Int)=(x:Int):=bA O;have w3:wJ (y:Int)=(y:Int):=bA O;have ws:wI ((k:Int)+1)=((k+1:Nat):Int):=aB O;obtain⟨d,e,hd,he,hde,q1,q2⟩:=qgs hx hy hc
    have step: ∃out' c',gM m n a b (out++[(d:Int)]) (e:Int) ((k+1:Nat):Int)=some (.inl (out',()))/\Lm out'/\out'.length=a.length/\c'<2/\
     vl out'+4294967296^k*(c+vl (b.drop k))=vl out+4294967296^k*vl (a.drop k)+4294967296^a.length*c':=by
     obtain⟨out',c',g1,g2,g3,g4,g5⟩:=ih (k+1) (out++[(d:Int)]) e O O (x7 ho hd) (by simp[hol]) he
     refine⟨out',c',g1,g2,g3,g4,?_⟩;rw[Jz,hol,gV]at g5;rw[dx,dy];exact qt7 (R:=0) g5 hde
    rw[bQ,iP h1,iP c1,bQ,tN,ex,ey,w1,w3,ws];by_cases kb:(k:Int)<(b.length:Int)
    . rw[iP kb,iP (show(0:Int)<=(k:Int)/\(k:Int)<(b.length:Int) by omega),q1,q2,iP (c2 _)]
      exact step
    . have y0:y=0:=by rw[Zy O]at ey;omega
      subst y0
      have w4:wJ (wJ ((x:Int)-(c:Int))-((0:Nat):Int))=wJ ((x:Int)-(c:Int)):=by
       rw[dO,dO];omega
      rw[w4]at q1 q2;rw[ao kb,q1,q2,iP (c2 _)];exact step
  . rw[bQ,ao O];refine⟨out,c,rfl,ho,O,hc,?_⟩;rw[qw (l:=a) O,qw (l:=b) O,show k=a.length by omega]
    simp
def ZM {m:Nat} (hm:2000000<m) {a b:LI} (ha:Lm a) (hb:Lm b) (hla:a.length<=1000000) (hba:b.length<=a.length) (hv:vl b<=vl a):
 ∃r,vY m a b=some (r,(),(),())/\Lm r/\r.length=a.length/\vl r=vl a-vl b:=by
 obtain⟨out,c,e,h1,h2,h3,h4⟩:=qtq m ha hb hla hba m 0 [] 0 O O (λx hx=>by cases hx) rfl O
 rw[nZ]at e;refine⟨out,?_,h1,h2,?_⟩
 . rw[vY,e,bS]
 . have hlt:=cd h1;rw[h2]at hlt;simp only[nW,xU,xS,zG,vl]at h4
   have hc:c=0:=by
    rcases zq c 1 with h|h
    . omega
    . have:c=1:=O;subst this;omega
   subst hc;omega
def VQ (m:Nat) {a b:LI} (ha:Lm a) (hb:Lm b) (hl:a.length<=1000000) (hlen:a.length=b.length): ∀(k n:Nat),k<n->k<=a.length->vl (a.drop k)=vl (b.drop k)->
 ∃r,iN m n a b ((k:Int)-1)=some r/\(r= .inl (dm (vl a) (vl b),())\/r= .inr (.inl ())/\vl a=vl b)
 |0,n,h,_,hd=>by
  obtain⟨n,rfl⟩: ∃n',n=n'+1:=⟨n-1,O⟩;rw[iN,bQ,ao O];exact⟨_,rfl,.inr ⟨rfl,hd⟩⟩
 |k+1,n,h,hk,hd=>by
  obtain⟨n,rfl⟩: ∃n',n=n'+1:=⟨n-1,O⟩;have e0:((k+1:Nat):Int)-1=(k:Int):=O;have c1:(0:Int)<=(k:Int)/\(k:Int)<(a.length:Int):=O;have c2:(0:Int)<=(k:Int)/\(k:Int)<(b.length:Int):=O;have w:wI ((k:Int)-1)=(k:Int)-1:=by rw[wQ,wi O O]
  obtain⟨x,ex,hx⟩:=ha.get (show k<a.length by omega)
  obtain⟨y,ey,hy⟩:=hb.get (show k<b.length by omega)
  have d1:=Xd (l:=a) (k:=k) O;have d2:=Xd (l:=b) (k:=k) O;rw[ex,tN]at d1;rw[ey,tN,<-hd]at d2;rw[e0,iN,bQ,iP O,iP c1,iP c2,tN,ex,ey,aE,bQ];by_cases e:(x:Int)=(y:Int)
  . rw[iP e,w];have:x=y:=O;subst this;exact VQ m ha hb hl hlen k n O O O
  . rw[ao e,iP c1,iP c2];by_cases hxy:x<y
    . have:=J8 (a:=a) (b:=b) ha (k:=k) O O O;rw[iP O];exact⟨_,rfl,.inl (by unfold dm;rw[iP this])⟩
    . have:=J8 (a:=b) (b:=a) hb (k:=k) O O O;rw[ao O];exact⟨_,rfl,.inl (by unfold dm;rw[ao O,iP this])⟩
def qkc {m:Nat} (hm:2000000<m) {x y:Nat} (hx:(lim x).length<=1000000) (hy:(lim y).length<=1000000):AD m (lim x) (lim y)=some (dm x y,(),(),()):=by
 rw[AD,aE];by_cases e:((lim x).length:Int)=((lim y).length:Int)
 . rw[iP e];have w:wI (((lim x).length:Int)-1)=((lim x).length:Int)-1:=by rw[wQ,wi O O]
   obtain⟨r,g,hr⟩:=VQ m (Q9 x) (Q9 y) hx O (lim x).length m O (zF _) (by rw[qw (zF _),qw O])
   rw[w,g,bS];rw[qx,qx]at hr;rcases hr with rfl|⟨rfl,h⟩
   . rfl
   . subst h;simp[dm]
 . rw[ao e,bQ];unfold dm;by_cases h:x<y
   . have:=Qd (tp h);rw[iP O,iP h]
   . have:=Qd (xu h)
     have hne:y<x:=by
      rcases zq y x with h2|h2
      . exact h2
      . have:x=y:=O;subst this;exact absurd rfl e
     rw[ao O,ao h,iP hne]
def Oj {m:Nat} (hm:2000000<m) {n1 n2:Bool} {l1 l2:LI} (h1:Sz l1) (h2:Sz l2):cI m n1 l1 n2 l2=some (zB (zv n1 l1+zv n2 l2),(),(),()):=by
 have b1:=h1.lim;have b2:=h2.lim;rw[cI,H5 h1.1 (by have:=h1.2;omega) (by have:=h1.2;omega),bS,H5 h2.1 (by have:=h2.2;omega) (by have:=h2.2;omega),bS]
 dsimp only;by_cases hn:n1=n2
 . subst hn;obtain⟨r,e,k1,k2,k3⟩:=ql2 hm (Q9 (vl l1)) (Q9 (vl l2)) b1 b2;rw[show(n1==n1)=true by simp,cond_true,e,bS]
   dsimp only;rw[Z4 hm k1 O,bS]
   have:zv n1 r=zv n1 l1+zv n1 l2:=by
    rw[qx,qx]at k3;unfold zv;cases n1<;>simp<;>omega
   rw[this]
 . rw[show(n1==n2)=false by simpa using hn,cond_false,qkc hm b1 b2,bS,bQ]
   dsimp only;unfold dm
   have ev:zv n1 l1+zv n2 l2=if n1 then(vl l2:Int)-vl l1 else(vl l1:Int)-vl l2:=by
    unfold zv;cases n1<;>cases n2<;>simp at hn⊢ <;>omega
   by_cases hlt:vl l1<vl l2
   . have k:(if vl l1<vl l2 then(-1:Int)else if vl l2<vl l1 then 1 else 0)= -1:=iP hlt
     obtain⟨r,e,k1,k2,k3⟩:=ZM hm (Q9 (vl l2)) (Q9 (vl l1)) b2 (Qd (tp hlt)) (by rw[qx,qx];exact tp hlt)
     rw[k,ao O,e,bS];dsimp only;rw[Z4 hm k1 O,bS]
     have:zv n2 r=zv n1 l1+zv n2 l2:=by
      rw[qx,qx]at k3;rw[ev];unfold zv;cases n1<;>cases n2<;>simp at hn⊢ <;>omega
     rw[this]
   . have k:(if vl l1<vl l2 then(-1:Int)else if vl l2<vl l1 then 1 else 0)>=0:=by
      rw[ao hlt];split<;>omega
     obtain⟨r,e,k1,k2,k3⟩:=ZM hm (Q9 (vl l1)) (Q9 (vl l2)) b1 (Qd (xu hlt)) (by rw[qx,qx];exact xu hlt)
     rw[iP k,e,bS];dsimp only;rw[Z4 hm k1 O,bS]
     have:zv n1 r=zv n1 l1+zv n2 l2:=by
      rw[qx,qx]at k3;rw[ev];unfold zv;cases n1<;>cases n2<;>simp at hn⊢ <;>omega
     rw[this]
def qtx {m:Nat} (hm:2000000<m) {n1 n2:Bool} {l1 l2:LI} (h1:Sz l1) (h2:Sz l2):Ax m n1 l1 n2 l2=some (zB (zv n1 l1-zv n2 l2),(),(),()):=by
 have hz:iv (-zv n2 l2)<=1000000:=by
  unfold iv;rw[BW,Zv];exact h2.lim
 rw[Ax,qtc hm h2,bS];dsimp only;rw[Oj hm h1 (Fl hz),ba,<-Int.sub_eq_add_neg];rfl
def qp8 {x p o:Nat} (hx:x<4294967296) (hp:p<32) (ho:o<2^p): ∃d e:Nat,d<4294967296/\e<2^p/\d+4294967296*e=o+x*2^p/\
 wK (bc .u64 (o:Int) (bu .u64 (x:Int) (p:Int)))=(d:Int)/\az .u64 (bc .u64 (o:Int) (bu .u64 (x:Int) (p:Int))) 32=(e:Int):=by
 have hple:2^p<=2^31:=zW O O;have h1:x*2^p<=4294967295*2^p:=zO _ O;have h2:4294967295*2^p<=4294967295*2^31:=zi _ hple
 have hx2:o+x*2^p<18446744073709551616:=by
  have:(4294967295:Nat)*2^31+2^31<18446744073709551616:=by decide
  omega
 have hor:o|||x*2^p=o+x*2^p:=by
  rw[Fw,zh,<-Nat.two_pow_add_eq_or_of_lt ho,xr]
 have e2:az .u64 ((o+x*2^p:Nat):Int) 32=(((o+x*2^p)/4294967296:Nat):Int):=cV (a:=o+x*2^p) (k:=32) O
 have he:(o+x*2^p)/4294967296<2^p:=by
  rw[B7 O];omega
 refine⟨(o+x*2^p)%4294967296,(o+x*2^p)/4294967296,O,he,O,?_,?_⟩
 . rw[fD O O,kj O O,hor,fA]
 . rw[fD O O,kj O O,hor,e2]
def qql {B P T V0 V1 x d e o D Q:Nat} (g:V1+Q=(V0+P*d)+P*B*(e+T*D)) (hde:d+B*e=o+x*T):V1+Q=V0+P*(o+T*(x+B*D)):=by
 have k1:P*(d+B*e)=P*d+P*B*e:=by rw[zL,zX]
 have k2:P*(o+x*T)=P*o+P*(T*x):=by rw[zL,zh x]
 have k4:P*(o+T*(x+B*D))=P*o+(P*(T*x)+P*B*(T*D)):=by
  rw[zL,zL T,zL P (T*x),xw T B D,zX P B]
 have k5:P*B*(e+T*D)=P*B*e+P*B*(T*D):=zL ..;rw[hde]at k1;rw[k5]at g;rw[k4];omega
def qub (m:Nat) {a:LI} {N w p:Nat} (ha:Lm a) (hl:a.length<=1000000) (hw:w<=1000000) (hp:p<32) (hN:Int.tmod (N:Int) 32=(p:Int)): ∀(n k:Nat) (out:LI) (o:Nat),a.length-k<n->k<=a.length->Lm out->out.length=w+k->o<2^p->
 ∃out' o',lC m n a (N:Int) out (o:Int) (k:Int)=some (.inl (out',((o':Nat):Int),()))/\Lm out'/\out'.length=w+a.length/\o'<2^p/\vl out'+4294967296^(w+a.length)*o'=vl out+4294967296^(w+k)*(o+2^p*vl (a.drop k)):=by
 intro n;induction n with
 |zero=>intro k out o h;omega
 |succ n ih=>
  intro k out o h hk0 ho hol hop;rw[lC,hN];by_cases hk:k<a.length
  . have h1:((k:Int)<(a.length:Int)):=O;have c1:(0:Int)<=(k:Int)/\(k:Int)<(a.length:Int):=O;obtain⟨x,ex,hx,dx⟩:=ha.get' k;obtain⟨d,e,hd,he,hde,q1,q2⟩:=qp8 hx hp hop;rw[bQ,iP h1,iP c1,iP O,tN,ex,bA O,q1,q2,iP (by show out.length+1<=_;omega),show wI ((k:Int)+1)=((k+1:Nat):Int)from aB O]
    obtain⟨out',o',g1,g2,g3,g4,g5⟩:=ih (k+1) (out++[(d:Int)]) e O O (x7 ho hd) (by simp[hol];omega) he
    refine⟨out',o',g1,g2,g3,g4,?_⟩;rw[Jz,hol,<-Nat.add_assoc w k 1,gV]at g5;rw[dx];exact qql g5 hde
  . rw[bQ,ao O];have:k=a.length:=O;subst this;refine⟨out,o,rfl,ho,hol,hop,?_⟩;rw[qw O,gd,zU]
def qua {m:Nat} (hm:3000000<m) {a:LI} (ha:Lm a) (hl:a.length<=500000) {n:Nat} (hn:n<=10000000):
 ∃r,vX m a (n:Int)=some (r,(),(),())/\Lm r/\r.length<=a.length+n/32+1/\vl r=vl a*2^n:=by
 have w0:wI (Int.tdiv (n:Int) 32)=((n/32:Nat):Int):=by rw[NX,wQ,wi O O]
 have hple:2^(n%32)<=2^31:=zW O O;obtain⟨out,c,e,h1,h2,h3,h4⟩:=qub m (N:=n) (w:=n/32) (p:=n%32) ha O O O N8 m 0 (List.replicate (n/32) 0) 0 O O Xe (by simp) (f9 O)
 rw[nZ]at e;have w:wK (c:Int)=(c:Int):=by rw[fA,j7 O]
 refine⟨out++[(c:Int)],?_,x7 h1 O,by simp[h2];omega,?_⟩
 . rw[vX,w0,iP O,tN,e,bS];dsimp only;rw[w,iP (by rw[h2];show n/32+a.length+1<=_;omega)]
 . rw[Jz,h2,h4,Xq,nW,zG,zG,zU,<-Nat.mul_assoc,rj,show 32*(n/32)+n%32=n by omega,zh]
def qo3 {x y p:Nat} (hx:x<4294967296) (hy:y<4294967296) (hp:p<32):wK (az .u64 (bc .u64 (x:Int) (bu .u64 (y:Int) 32)) (p:Int))=(((x+4294967296*y)/2^p%4294967296:Nat):Int):=by
 have e1:bu .u64 (y:Int) 32=((y*4294967296:Nat):Int):=fD (a:=y) (k:=32) O O
 have e2:x|||y*4294967296=x+4294967296*y:=by
  rw[Fw,zh,show(4294967296:Nat)=2^32 by decide,<-Nat.two_pow_add_eq_or_of_lt O,xr]
 rw[e1,kj O O,e2,cV O,fA]
def qu7 (m:Nat) {a:LI} {N w:Nat} (ha:Lm a) (hl:a.length<=1000000) (hw:w<=1000000) (hN:wI (Int.tdiv (N:Int) 32)=(w:Int)): ∀(n k:Nat),min w a.length-k<n->k<=min w a.length->
 iM m n a (N:Int) (decide (vl (a.take k)≠0)) (k:Int)=some (.inl (a,(N:Int),decide (vl (a.take w)≠0),())):=by
 intro n;induction n with
 |zero=>intro k h;omega
 |succ n ih=>
  intro k h hk0;rw[iM,hN,bQ,bQ];by_cases hk:k<min w a.length
  . obtain⟨x,ex,hx⟩:=ha.get (show k<a.length by omega)
    rw[iP O,iP O,tN,ex,iP O,show wI ((k:Int)+1)=((k+1:Nat):Int)from aB O]
    have hv:vl (a.take (k+1))=vl (a.take k)+4294967296^k*x:=by
     have:a.take (k+1)=a.take k++[(x:Int)]:=by
      rw[Nm,<-ex,List.getD,List.getElem?_eq_getElem (show k<a.length by omega)];rfl
     rw[this,Jz,zk,show min k a.length=k by omega]
    have hP:0<4294967296^k:=f9 O;have ih:=ih (k+1) O O;by_cases e:vl (a.take k)=0
    . rw[show decide (vl (a.take k)≠0)=false by simpa using e,cond_false]
      rw[e,zG]at hv
      have:decide (vl (a.take (k+1))≠0)=((x:Int) !=0):=by
       rw[hv];by_cases e2:x=0
       . subst e2;simp
       . have:=Nx hP (B4 e2);rw[show decide (4294967296^k*x≠0)=true by rw[decide_eq_true_eq];omega]
         symm
         rw[bne_iff_ne];omega
      rw[this]at ih;exact ih
    . rw[show decide (vl (a.take k)≠0)=true by simpa using e,cond_true]
      rw[show decide (vl (a.take (k+1))≠0)=true by rw[decide_eq_true_eq];omega]at ih
      exact ih
  . have ht:a.take w=a.take k:=by
     by_cases hwl:w<=a.length
     . rw[show k=w by omega]
     . rw[sj O,sj O]
    rw[ht];by_cases c:(k:Int)<(w:Int)
    . rw[iP c,ao O]
    . rw[ao c]
def qss (m:Nat) {a:LI} {N w p:Nat} (ha:Lm a) (hl:a.length<=1000000) (hw:w<=1000000) (hp:p<32) (hN:wI (Int.tdiv (N:Int) 32)=(w:Int)): ∀(n k:Nat) (lost:Bool) (out:LI),a.length-k<n->w<=k->(k<=a.length\/k=w)->Lm out->out.length+w=k->
 ∃out',dW m n a (N:Int) lost out (p:Int) (k:Int)=some (.inl (if k=w then(lost||decide ((a.getD w 0).toNat%2^p≠0))else lost,out',()))/\Lm out'/\out'.length<=out.length+(a.length-k)/\vl out'=vl out+4294967296^out.length*(vl (a.drop k)/2^p):=by
 intro n;induction n with
 |zero=>intro k lost out h;omega
 |succ n ih=>
  intro k lost out h hwk hk0 ho hol;rw[dW,hN];by_cases hk:k<a.length
  . obtain⟨x,ex,hx,dx⟩:=ha.get' k;obtain⟨y,ey,hy,dy⟩:=ha.get' (k+1);have c2: ∀y:Int,out.length+([y]:LI).length<=1073741824:=λy=>by show out.length+1<=_;omega
    have ws:wI ((k:Int)+1)=((k+1:Nat):Int):=aB O;have w1:wJ (x:Int)=(x:Int):=bA O;have w2:wJ (y:Int)=(y:Int):=bA O;have q:=qo3 hx hy hp
    have step: ∀l2:Bool,∃out',dW m n a (N:Int) l2 (out++[(((x+4294967296*y)/2^p%4294967296:Nat):Int)]) (p:Int) ((k+1:Nat):Int)=some (.inl (l2,out',()))/\Lm out'/\out'.length<=out.length+(a.length-k)/\vl out'=vl out+4294967296^out.length*(vl (a.drop k)/2^p):=by
     intro l2;obtain⟨out',g1,g2,g3,g4⟩:=ih (k+1) l2 (out++[(((x+4294967296*y)/2^p%4294967296:Nat):Int)]) O O O (x7 ho O) (by simp;omega)
     rw[ao O]at g1;refine⟨out',g1,g2,by simp at g3;omega,?_⟩
     rw[g4,Jz,zJ,xt];have hs:=VE (y:=y) (R:=vl (a.drop (k+1+1))) hp hx;rw[<-dy,<-dx]at hs;rw[<-hs,zL,tn,zX];rfl
    have m32:=uO hx hp
    have hb:(((x%2^p:Nat):Int) !=0)=decide (x%2^p≠0):=by
     by_cases e:x%2^p=0
     . rw[e];rfl
     . rw[show decide (x%2^p≠0)=true by simpa using e,bne_iff_ne];omega
    rw[bQ,iP O,iP O,bQ,tN,ex,w1,ws,tN,aF];by_cases kw:k=w
    . have hex:(a.getD w 0).toNat=x:=by rw[<-kw,ex,tN]
      rw[iP kw,hex];by_cases k1:k+1<a.length
      . rw[iP O,iP O,iP O,iP O,iP O,m32,hb,ey,w2,q];by_cases e:x%2^p=0
        . rw[show decide (x%2^p≠0)=false by simpa using e,cond_false,iP O,iP (c2 _),NH]
          exact step lost
        . rw[show decide (x%2^p≠0)=true by simpa using e,cond_true,iP O,iP (c2 _),B8]
          exact step true
      . have y0:y=0:=by rw[Zy O]at ey;omega
        have q0:wK (az .u64 (x:Int) (p:Int))=(((x+4294967296*y)/2^p%4294967296:Nat):Int):=by
         rw[cV O,fA,y0,gd,zU]
        rw[ao O,aF,iP O,iP O,iP O,m32,hb,q0];by_cases e:x%2^p=0
        . rw[show decide (x%2^p≠0)=false by simpa using e,cond_false,iP O,iP (c2 _),NH]
          exact step lost
        . rw[show decide (x%2^p≠0)=true by simpa using e,cond_true,iP O,iP (c2 _),B8]
          exact step true
    . rw[ao kw];by_cases k1:k+1<a.length
      . rw[iP O,iP O,ao O,iP O,ey,w2,q,iP (c2 _)];exact step lost
      . have y0:y=0:=by rw[Zy O]at ey;omega
        have q0:wK (az .u64 (x:Int) (p:Int))=(((x+4294967296*y)/2^p%4294967296:Nat):Int):=by
         rw[cV O,fA,y0,gd,zU]
        rw[ao O,aF,ao O,iP O,q0,iP (c2 _)];exact step lost
  . rw[bQ,ao O];refine⟨out,?_,ho,O,?_⟩
    . by_cases kw:k=w
      . rw[iP kw,Zy O];simp
      . rw[ao kw]
    . rw[qw O,NB];simp
def Vn {m:Nat} (hm:3000000<m) {a:LI} (ha:Lm a) (hl:a.length<=1000000) {n:Nat} (hn:n<=10000000):
 ∃r,sY m a (n:Int)=some ((r,decide (vl a%2^n≠0),()),(),(),())/\Lm r/\r.length<=a.length/\vl r=vl a/2^n:=by
 have w0:wI (Int.tdiv (n:Int) 32)=((n/32:Nat):Int):=by rw[NX,wQ,wi O O]
 have e0:=qu7 m (N:=n) (w:=n/32) ha hl O w0 m 0 O O;rw[sk,nZ]at e0;obtain⟨r,e1,h1,h2,h3⟩:=qss m (N:=n) (w:=n/32) (p:=n%32) ha hl O O w0 m (n/32) (decide (vl (a.take (n/32))≠0)) [] O O O (λx hx=>by cases hx) (by simp)
 rw[iP rfl]at e1;have hpw:2^n=4294967296^(n/32)*2^(n%32):=by rw[rj,show 32*(n/32)+n%32=n by omega]
 have hT:0<2^(n%32):=f9 O;have hP:0<4294967296^(n/32):=f9 O;obtain⟨x,ex,hx,dx⟩:=ha.get' (n/32)
 have key:vl a/2^n=vl (a.drop (n/32))/2^(n%32)/\vl a%2^n=vl (a.take (n/32))+4294967296^(n/32)*(x%2^(n%32)):=by
  have hB:(4294967296:Nat)=2^(n%32)*2^(32-n%32):=by rw[<-Nat.pow_add,show n%32+(32-n%32)=32 by omega]
  have hxm:(x+4294967296*vl (a.drop (n/32+1)))%2^(n%32)=x%2^(n%32):=by
   conv=>lhs;rw[hB,zX,Iy]
  by_cases hw:n/32<=a.length
  . have hL:=cd (l:=a.take (n/32)) λy hy=>ha y (pJ hy)
    rw[zk,show min (n/32) a.length=n/32 by omega]at hL
    have hv:=Zl (l:=a) (k:=n/32) hw;constructor
    . conv=>lhs;rw[hv,hpw]
      exact YM hL
    . conv=>lhs;rw[hv,hpw]
      rw[W5 hL hT,dx,hxm]
  . have hL:=cd ha;have h2:4294967296^a.length<=4294967296^(n/32):=zW O O;have h3:4294967296^(n/32)*1<=4294967296^(n/32)*2^(n%32):=zi _ hT;have hlt:vl a<2^n:=by rw[hpw];omega
    have x0:x=0:=by rw[Zy O]at ex;omega
    rw[B0 hlt,j7 hlt,qw O,sj O,x0];simp
 refine⟨r,?_,h1,by simp at h2;omega,?_⟩
 . rw[sY];rw[show(decide (vl []≠0))=false from rfl]at e0
   rw[e0,bS];dsimp only;rw[N8,w0,e1,bS];dsimp only;rw[ex,tN,key.2];congr 3;by_cases e:vl (a.take (n/32))=0
   . rw[e];by_cases e2:x%2^(n%32)=0
     . rw[e2];simp
     . have:=Nx hP (B4 e2);rw[show decide (x%2^(n%32)≠0)=true by simpa using e2,show decide (0+4294967296^(n/32)*(x%2^(n%32))≠0)=true by rw[decide_eq_true_eq];omega]
       simp
   . rw[show decide (vl (a.take (n/32))≠0)=true by simpa using e,show decide (vl (a.take (n/32))+4294967296^(n/32)*(x%2^(n%32))≠0)=true by rw[decide_eq_true_eq];omega]
     simp
 . rw[h3,key.1];simp[vl]
def Wo {m:Nat} (hm:3000000<m) {neg:Bool} {l:LI} (h:Sz l) {n:Nat} (hn:n<=10000000):qq m neg l (n:Int)=some (decide (vl l%2^n≠0),(),(),()):=by
 obtain⟨r,e,_,_,_⟩:=Vn hm (Q9 (vl l)) h.lim hn;rw[qq,H5 h.1 (by have:=h.2;omega) (by have:=h.2;omega),bS]
 dsimp only;rw[e,bS,qx]
def ZX {m:Nat} (hm:2000000<m) {neg:Bool} {l:LI} (h:Sz l):v5 m neg l=some (((au (vl l):Nat):Int),(),()):=by
 rw[v5,H5 h.1 (by have:=h.2;omega) (by have:=h.2;omega),bS,aF]
 dsimp only;have hl:=h.lim;by_cases e:vl l=0
 . rw[e,iP (x6.2 rfl)];rfl
 . obtain⟨k,x,y,h1,h2,h3,h4,h5,h6⟩:=Wm e;have w1:wI (((lim (vl l)).length:Int)-1)=(k:Int):=by rw[wQ,wi O O];omega
   have w2:wI (32*(k:Int))=((32*k:Nat):Int):=by rw[wQ,wi O O];omega
   have hb:au x<=32:=by
    have:x.log2<32:=(xQ h4).2 h3;rw[X8 h4];omega
   have w3:wI (((32*k:Nat):Int)+((au x:Nat):Int))=((32*k+au x:Nat):Int):=by rw[wQ,wi O O];omega
   rw[ao (λh=>e (x6.1 h)),w1,iP O,tN,zG,h2,Rm h3,bS]
   dsimp only;rw[w2,w3,<-OT h4 h5,<-h6]
def Un (m:Nat) {l:LI} (hl:Lm l) (hlen:l.length<=1000000): ∀(n k:Nat),l.length-k<n->k<=l.length->vl (l.drop k)≠0->
 iR m n l (k:Int)=some (.inl (((32*k+tz (vl (l.drop k)):Nat):Int),()))
 |0,k,h,_,_=>O
 |n+1,k,h,hk0,hv=>by
  rw[iR];by_cases hk:k<l.length
  . obtain⟨x,ex,hx⟩:=hl.get hk;have hd:=Xd hk;rw[ex,tN]at hd;rw[bQ,iP O,iP O,tN,zG,ex,aE];by_cases e:x=0
    . subst e;rw[iP (by rfl),show wI ((k:Int)+1)=((k+1:Nat):Int)from aB O,Un m hl hlen n (k+1) O O O]
      have hb:(4294967296:Nat)=2^32:=by decide
      have:tz (vl (l.drop k))=32+tz (vl (l.drop (k+1))):=by
       rw[hd,zG,hb,Rt O]
      rw[this];congr 4;omega
    . have h2:=(Ob e hx).2;have w2:wI (32*(k:Int))=((32*k:Nat):Int):=by rw[wQ,wi O O];omega
      have w3:wI (((32*k:Nat):Int)+((tz x:Nat):Int))=((32*k+tz x:Nat):Int):=by rw[wQ,wi O O];omega
      rw[ao O,iP O,Vo e hx,bS];dsimp only;rw[w2,w3,hd,Vm e hx]
  . exact absurd (qw O) hv
def Zf {m:Nat} (hm:2000000<m) {neg:Bool} {l:LI} (h:Sz l):eX m neg l=some (((tz (vl l):Nat):Int),(),()):=by
 have hl:=h.lim;rw[eX,H5 h.1 (by have:=h.2;omega) (by have:=h.2;omega),bS]
 dsimp only;by_cases e:vl l=0
 . obtain⟨m',rfl⟩: ∃m',m=m'+1:=⟨m-1,O⟩;rw[e,Qj,iR,bQ,ao (by simp),bS,QG];rfl
 . have:=Un m (Q9 (vl l)) hl m 0 O O (by rw[nW,qx];exact e)
   rw[nZ,nW,gd,zG,qx]at this;rw[this,bS]
def XJ {m:Nat} (hm:3000000<m) {neg:Bool} {l:LI} (h:Lm l) (hl:l.length<=500000) {n:Nat} (hn:n<=1048576):lN m neg l (n:Int)=some (zB (zv neg l*2^n),(),(),()):=by
 have b:=Y7 h;have hS:Sz l:=⟨h,O⟩;have hz:(lim (zv neg l).natAbs).length<=500000:=by rw[Zv];omega
 obtain⟨r,e,h1,h2,h3⟩:=qua hm (Q9 (zv neg l).natAbs) hz (n:=n) O;rw[lN,JO O hS,bS,bQ,iP O];dsimp only;show(Option.bind (vX m (lim (zv neg l).natAbs) _) _)=_;rw[e,bS];dsimp only;rw[Z4 O h1 O,bS]
 have:zv (zB (zv neg l)).1 r=zv neg l*2^n:=by
  show zv (decide (zv neg l<0)) r=_
  rw[qx]at h3;unfold zv;rw[h3,qZ,nY];show(if decide (zv neg l<0)=true then-(((zv neg l).natAbs:Int)*2^n)else(((zv neg l).natAbs:Int)*2^n))=zv neg l*2^n
  by_cases c:zv neg l<0
  . rw[iP (by simpa using c),<-Int.neg_mul,show-((zv neg l).natAbs:Int)=zv neg l by omega]
  . rw[ao (by simpa using c),show((zv neg l).natAbs:Int)=zv neg l by omega]
 rw[this]
def qh0 {m:Nat} (hm:3000000<m) {neg:Bool} {l:LI} (h:Lm l) (hl:l.length<=500000) {n:Nat} (h0:0<n) (hn:n<=10000000):lN m neg l (-(n:Int))=some (zB (zv neg l/((2^n:Nat):Int)),(),(),()):=by
 have b:=Y7 h;have hS:Sz l:=⟨h,O⟩;have hz:(lim (zv neg l).natAbs).length<=500000:=by rw[Zv];omega
 have hT:0<2^n:=f9 O;have w:wI (0- -(n:Int))=(n:Int):=by rw[wQ,wi O O];omega
 obtain⟨r,e,h1,h2,h3⟩:=Vn hm (Q9 (zv neg l).natAbs) O (n:=n) O;rw[lN,JO O hS,bS,bQ,ao O,w];dsimp only;show(Option.bind (sY m (lim (zv neg l).natAbs) _) _)=_;rw[e,bS];dsimp only;rw[qx]at h3;rw[qx,Z4 O h1 O,bS];dsimp only;show(bif decide (zv neg l<0)then _ else _)=_
 rw[bQ];generalize 2^n=T at*;by_cases c:zv neg l<0
 . rw[iP c]
   have hv:zv (zB (zv neg l)).1 r= -((((zv neg l).natAbs/T:Nat)):Int):=by
    have hz: ∀b l,zv b l=if b then-(vl l:Int)else(vl l:Int):=λ_ _=>rfl
    show zv (decide (zv neg l<0)) r=_
    rw[hz (decide _) r,iP (by simpa using c),h3]
   have ev:=YB (v:=(zv neg l).natAbs) hT;rw[show-((zv neg l).natAbs:Int)=zv neg l by omega]at ev
   have hlen:iv (-((((zv neg l).natAbs/T:Nat)):Int))<=1000000:=by
    unfold iv;rw[BW,nx];have:=q6o (v:=(zv neg l).natAbs) (T:=T);omega
   rw[hv];by_cases d:(zv neg l).natAbs%T=0
   . rw[ao O]at ev;rw[show decide ((zv neg l).natAbs%T≠0)=false by simpa using d,cond_false,ev]
   . rw[iP d]at ev;have s1:Sz (zB 1).2.1:=⟨d7 1,by have:=xG (z:=1) (k:=1) (by decide);omega⟩
     rw[show decide ((zv neg l).natAbs%T≠0)=true by simpa using d,cond_true,SC O O O,bS]
     dsimp only;rw[qtx O (Fl hlen) s1,ba,ba,bS,ev,show-((((zv neg l).natAbs/T+1:Nat)):Int)= -((((zv neg l).natAbs/T:Nat)):Int)-1 by omega]
 . rw[ao c]
   have hv:zv (zB (zv neg l)).1 r=zv neg l/(T:Int):=by
    have hz: ∀b l,zv b l=if b then-(vl l:Int)else(vl l:Int):=λ_ _=>rfl
    show zv (decide (zv neg l<0)) r=_
    rw[hz (decide _) r,ao (by simpa using c),h3,IF]
    rw[show((zv neg l).natAbs:Int)=zv neg l by omega]
   rw[hv]
def SH {m:Nat} (hm:3000000<m) {z:Int} (hz:au z.natAbs<=1000000) {k:Int} (h0:0<=k) (hk:k<=1048576):lN m (zB z).1 (zB z).2.1 k=some (zB (z*2^k.toNat),(),(),()):=by
 have hl:=xG hz;obtain⟨n,rfl⟩: ∃n:Nat,k=(n:Int):=⟨k.toNat,O⟩;rw[XJ hm (d7 z) O O,ba];rfl
def Rs {m:Nat} (hm:3000000<m) {z:Int} (hz:au z.natAbs<=1000000) {k:Nat} (hk:k<=1048576):o8 m (zB z).1 (zB z).2.1 (k:Int)=some (zB (z/2^k),(),(),()):=by
 have hl:=xG hz;obtain⟨m',rfl⟩: ∃m',m=m'+1:=⟨m-1,O⟩;rw[o8,nM,bQ,ao O,bS];dsimp only;by_cases h0:k=0
 . subst h0;rw[show wI (0-((0:Nat):Int))=((0:Nat):Int)from by decide,XJ hm (d7 z) O O,bS,ba]
   dsimp only;rw[show z*2^0=z/2^0 by rw[Int.pow_zero,Int.mul_one,Int.ediv_one]]
 . rw[show wI (0-(k:Int))= -(k:Int) by rw[wQ,wi O O];omega,qh0 hm (d7 z) O O O,bS,ba,nY]
   rfl
def Sw {v k:Nat}:(v:Int)/2^k=((v/2^k:Nat):Int):=by rw[IF,nY];rfl
def V8 {m:Nat} (hm:3000000<m) {n:Bool} {l:LI} (h:Lm l) (hl:l.length<=28000) {e:Int} (h1: -1000000000<=e) (h2:e<=1000000000):lO m n l e=some (aW (zv n l) e,(),(),()):=by
 have hz:au (zv n l).natAbs<=900000:=by
  rw[Zv];have:=qqw (Y7 h);omega
 have hS:Sz l:=⟨h,O⟩;have hSz:Sz (zB (zv n l)).2.1:=tf O;rw[lO,JO O hS,bS,aF];dsimp only
 have hnil:(((zB (zv n l)).2.1.length:Nat):Int)=0↔zv n l=0:=by
  show(((lim (zv n l).natAbs).length:Nat):Int)=0↔_
  rw[x6];omega
 have iu:vl (zB (zv n l)).2.1=(zv n l).natAbs:=qx _
 have hneg:zv n l≠0->decide (zv n l<0)=n:=by
  intro h;unfold zv at*;cases n
  . simp
  . simp at h⊢;omega
 generalize zv n l=z at*
 by_cases c:z=0
 . rw[iP (hnil.2 c),c];rfl
 . have hn:z.natAbs≠0:=O;have hb:1<=au z.natAbs:=by rw[X8 hn];omega
   rw[ao (λh=>c (hnil.1 h)),bQ]
   by_cases c1:e>65536
   . rw[iP c1,FQ (λh=>by rcases Ya.1 h with h|h<;>omega)];rfl
   . have ht:=Sp (n:=z.natAbs);have hbt:=Q1 hn;rw[ao c1,Zf O hSz,bS,iu,QT O hSz,ba,bS];dsimp only;rw[Rs hm (by rw[nx];omega) O,bS,Sw]
     dsimp only;have bd:au (z.natAbs/2^tz z.natAbs)<=900000:=zf JN hz;rw[ZX O (nT O),bS];dsimp only;rw[show vl (zB ((z.natAbs/2^tz z.natAbs:Nat):Int)).2.1=z.natAbs/2^tz z.natAbs by rw[Z9];exact qx _]
     rw[show wI (e+((tz z.natAbs:Nat):Int))=e+((tz z.natAbs:Nat):Int) by rw[wQ,wi O O],
      show wI (e+((tz z.natAbs:Nat):Int)+((au (z.natAbs/2^tz z.natAbs):Nat):Int))=e+((tz z.natAbs:Nat):Int)+((au (z.natAbs/2^tz z.natAbs):Nat):Int) by rw[wQ,wi O O],
      bQ,bQ]
     by_cases hk:cP z e
     . rcases Ya.1 hk with h0|⟨k1,k2⟩
       . exact absurd h0 c
       . rw[ao O,ao O];unfold aW;rw[ao c,ao O,hneg c,Z9]
     . have hk2: ¬(e+(au z.natAbs:Int)<=65536/\ -65536<=e+(tz z.natAbs:Int)):=λc=>hk (Ya.2 (Or.inr c))
       rw[FQ hk];by_cases d:e+((tz z.natAbs:Nat):Int)< -65536
       . rw[iP d];rfl
       . rw[ao d,iP O];rfl
def Ou {m:Nat} (hm:3000000<m) {z:Int} (hz:au z.natAbs<=800000) {e:Int} (h1: -1000000000<=e) (h2:e<=1000000000):lO m (zB z).1 (zB z).2.1 e=some (aW z e,(),(),()):=by
 have:=xG hz;rw[V8 hm (d7 z) O h1 h2,ba]
def RN {m:Nat} (hm:3000000<m) {z e:Int}:qK m (aW z e).1 (aW z e).2.1 (aW z e).2.2.1 (aW z e).2.2.2.1=some (aW z e,(),()):=by
 by_cases h:cP z e
 . obtain⟨w,f,k⟩:=h.nf;rw[k.md,qK,cond_false];dsimp only;have:=Ou hm (z:=w) (by have:=k.len;omega) (e:=f) (by have:=k.lo;omega) (by have:=k.hi;omega)
   rw[FF,FE]at this;rw[this,k.eq.mk,k.md];rfl
 . rw[FQ h];rfl
def UI {m:Nat} (neg:Bool) (half:Int) (odd:Bool) (mode:Int):da m neg half odd mode=some (rb neg half odd mode,(),(),(),(),()):=by
 rw[da,aF,aF,aF,bQ,aF];unfold rb;by_cases m1:mode=1
 . rw[iP m1,iP m1]
 . by_cases m2:mode=2
   . rw[ao m1,ao m1,iP m2,iP m2]
   . by_cases m3:mode=3
     . rw[ao m1,ao m1,ao m2,ao m2,iP m3,iP m3]
     . rw[ao m1,ao m1,ao m2,ao m2,ao m3,ao m3];by_cases c:half>0
       . rw[iP c,show decide (0<half)=true by simpa using c];rfl
       . rw[ao c,show decide (0<half)=false by simpa using c]
         by_cases d:half=0
         . rw[iP d,decide_eq_true d];simp
         . rw[ao d,decide_eq_false d];simp
def qpw {a b H:Nat} (hb:b<2) (ha:a<H):(b=1↔ ¬2*(a+H*b)<2*H)/\(b=1->(a=0↔2*(a+H*b)=2*H)):=by
 have:b=0\/b=1:=O;rcases this with rfl|rfl
 . simp only[gd];exact⟨⟨λh=>O,λh=>O⟩,λh=>O⟩
 . simp only[iw];exact⟨⟨λh=>O,λh=>by trivial⟩,λ_=>⟨λh=>O,λh=>O⟩⟩
def YS {v n:Nat} {more:Bool} (h: ¬2*(v%2^n)<2^n) (h2: ¬(2*(v%2^n)=2^n/\more=false)):eC v n more=1:=by unfold eC;rw[ao h,ao h2]
def qmp {v n:Nat} (h: ¬2*(v%2^n)<2^n) (h2:2*(v%2^n)=2^n):eC v n false=0:=by unfold eC;rw[ao h,iP ⟨h2,rfl⟩]
def qtl {m:Nat} (hm:3000000<m) (neg:Bool) {v:Nat} (hb:au v<=300000) (more:Bool) {k:Nat} (mode:Int) (hk:k<=500000):
 v3 m neg (zB (v:Int)).1 (zB (v:Int)).2.1 (k:Int) more mode=some (zB ((je neg v k more mode:Nat):Int),(),(),(),(),(),()):=by
 have hS:Sz (zB (v:Int)).2.1:=nT O;have iu:vl (zB (v:Int)).2.1=v:=by rw[Z9];exact qx v
 have bd:au (v/2^k)<=300000:=zf JN hb;have hS0:=nT (v:=v/2^k) O;have hvl0:vl (zB ((v/2^k:Nat):Int)).2.1=v/2^k:=by rw[Z9];exact qx _
 have h1S:Sz (zB 1).2.1:=tf (by decide)
 have add1:((cO m 1).bind λy9=>(cI m (zB ((v/2^k:Nat):Int)).1 (zB ((v/2^k:Nat):Int)).2.1 y9.1.1 y9.1.2.1).bind λy10=>
  (some ((y10.1.1,y10.1.2.1,()),((),(),(),(),(),())):Option ((Bool×LI×Unit)×Unit×Unit×Unit×Unit×Unit×Unit)))=some (zB ((v/2^k+1:Nat):Int),((),(),(),(),(),())):=by
  rw[SC O O O,bS];dsimp only;rw[Oj O hS0 h1S,ba,ba];rfl
 have hr:zB ((v/2^k+0:Nat):Int)=zB ((v/2^k:Nat):Int):=rfl
 have fin: ∀h:Int,((dX m (zB ((v/2^k:Nat):Int)).1 (zB ((v/2^k:Nat):Int)).2.1).bind λy6=>
  bif y6.1 !=0 then
   (eX m (zB ((v/2^k:Nat):Int)).1 (zB ((v/2^k:Nat):Int)).2.1).bind λy7=>
   (da m neg h (y7.1==0) mode).bind λy8=>
   bif y8.1 then
    (cO m 1).bind λy9=>
    (cI m (zB ((v/2^k:Nat):Int)).1 (zB ((v/2^k:Nat):Int)).2.1 y9.1.1 y9.1.2.1).bind λy10=>
    (some ((y10.1.1,y10.1.2.1,()),((),(),(),(),(),())):Option ((Bool×LI×Unit)×Unit×Unit×Unit×Unit×Unit×Unit))
   else
    some (((zB ((v/2^k:Nat):Int)).1,(zB ((v/2^k:Nat):Int)).2.1,()),((),(),(),(),(),()))
  else
   (da m neg h false mode).bind λy11=>
   bif y11.1 then
    (cO m 1).bind λy12=>
    (cI m (zB ((v/2^k:Nat):Int)).1 (zB ((v/2^k:Nat):Int)).2.1 y12.1.1 y12.1.2.1).bind λy13=>
    some ((y13.1.1,y13.1.2.1,()),((),(),(),(),(),()))
   else
    some (((zB ((v/2^k:Nat):Int)).1,(zB ((v/2^k:Nat):Int)).2.1,()),((),(),(),(),(),())))=
  some (zB ((v/2^k+(if rb neg h (v/2^k%2==1) mode then 1 else 0):Nat):Int),((),(),(),(),(),())):=by
  intro h;rw[Ot O hS0,bS,ba,aE,add1,Zf O hS0,hvl0];dsimp only;by_cases z:v/2^k=0
  . rw[iP (by rw[Qy];omega),UI,bS,z]
    dsimp only;rw[show(0%2==1)=false from rfl]
    cases rb neg h false mode<;>rfl
  . rw[ao (by rw[Qy];omega),bS]
    dsimp only;rw[UI,bS]
    have:(((tz (v/2^k):Nat):Int)==0)=(v/2^k%2==1):=by
     by_cases o:v/2^k%2=1
     . rw[(HZ z).2 o,show(v/2^k%2==1)=true by simpa using o];rfl
     . rw[show(v/2^k%2==1)=false by simpa using o]
       have:=mt (HZ z).1 o;simp;omega
    rw[this];cases rb neg h (v/2^k%2==1) mode<;>rfl
 have hpk:0<k->2^k=2*2^(k-1):=λh=>by
  have:2^(k-1+1)=2*2^(k-1):=by rw[gV,zh]
  rwa [show k-1+1=k by omega]at this
 have half:0<k->(v/2^(k-1)%2=1↔ ¬2*(v%2^k)<2^k)/\(v/2^(k-1)%2=1->(v%2^(k-1)=0↔2*(v%2^k)=2^k)):=by
  intro h0;have hp:=hpk h0;have hP:0<2^(k-1):=f9 O
  have e1:v%2^k=v%2^(k-1)+2^(k-1)*(v/2^(k-1)%2):=by
   rw[hp,zh 2,Nat.mod_mul]
  have e2:=l6 v hP;rw[e1,hp];exact qpw (l6 _ O) e2
 have b1:au (v/2^(k-1))<=300000:=zf JN hb;have hS1:=nT (v:=v/2^(k-1)) O;have hvl1:vl (zB ((v/2^(k-1):Nat):Int)).2.1=v/2^(k-1):=by rw[Z9];exact qx _
 have w1:0<k->wI ((k:Int)-1)=((k-1:Nat):Int):=λh=>by rw[wQ,wi O O];omega
 rw[v3,Rs hm (by rw[nx];omega) O,bS,Sw]
 dsimp only;rw[Wo hm hS O,bS,iu];dsimp only;simp only[fin];unfold je
 have tail: ¬(v%2^k=0/\more=false)->(bif decide ((k:Int)>0)then
       (o8 m (zB (v:Int)).1 (zB (v:Int)).2.1 (wI ((k:Int)-1))).bind λy3=>
       (eX m y3.1.1 y3.1.2.1).bind λy4=>
       bif y4.1==0 then
        (dX m y3.1.1 y3.1.2.1).bind λy5=>
        bif y5.1 !=0 then
         bif more then
          (some (zB ((v/2^k+(if rb neg 1 (v/2^k%2==1) mode then 1 else 0):Nat):Int),((),(),(),(),(),())):Option ((Bool×LI×Unit)×Unit×Unit×Unit×Unit×Unit×Unit))
         else
          (qq m (zB (v:Int)).1 (zB (v:Int)).2.1 (wI ((k:Int)-1))).bind λy14=>
          bif y14.1 then
           some (zB ((v/2^k+(if rb neg 1 (v/2^k%2==1) mode then 1 else 0):Nat):Int),((),(),(),(),(),()))
          else
           some (zB ((v/2^k+(if rb neg 0 (v/2^k%2==1) mode then 1 else 0):Nat):Int),((),(),(),(),(),()))
        else
         some (zB ((v/2^k+(if rb neg (-1) (v/2^k%2==1) mode then 1 else 0):Nat):Int),((),(),(),(),(),()))
       else
        some (zB ((v/2^k+(if rb neg (-1) (v/2^k%2==1) mode then 1 else 0):Nat):Int),((),(),(),(),(),()))
  else
   some (zB ((v/2^k+(if rb neg (-1) (v/2^k%2==1) mode then 1 else 0):Nat):Int),((),(),(),(),(),())))=
  some (zB ((v/2^k+(if rb neg (eC v k more) (v/2^k%2==1) mode then 1 else 0):Nat):Int),((),(),(),(),(),())):=by
  intro hne;rw[bQ];by_cases h0:0<k
  . obtain⟨q1,q2⟩:=half h0;rw[iP O,w1 h0,Rs hm (by rw[nx];omega) O,bS,Sw]
    dsimp only;rw[Zf O hS1,bS,hvl1,aF,Ot O hS1,ba];dsimp only;rw[bS,aE];dsimp only;by_cases c:v/2^(k-1)%2=1
    . have z1:v/2^(k-1)≠0:=by intro h;rw[h]at c;omega
      rw[iP (by rw[(HZ z1).2 c];rfl),ao (by rw[Qy];omega)]
      cases more with
      |true=>rw[cond_true,YS (q1.1 c) (λh=>by cases h.2)]
      |false=>
       rw[cond_false,Wo hm hS O,bS,iu];dsimp only;by_cases d:v%2^(k-1)=0
       . rw[show decide (v%2^(k-1)≠0)=false by simpa using d,cond_false,qmp (q1.1 c) ((q2 c).1 d)]
       . rw[show decide (v%2^(k-1)≠0)=true by simpa using d,cond_true,YS (q1.1 c) (λh=>d ((q2 c).2 h.1))]
    . rw[Sm (Decidable.not_not.1 (mt q1.2 c))];by_cases z1:v/2^(k-1)=0
      . rw[z1,QG,iP (show((0:Nat):Int)=0 from rfl),iP (show sgn ((0:Nat):Int)=0 from rfl)]
      . rw[ao (by have:=mt (HZ z1).1 c;omega)]
  . have k0:k=0:=O;subst k0;rw[ao O,Sm (by rw[xU,Nw];omega)]
 by_cases hl:v%2^k=0
 . rw[show decide (v%2^k≠0)=false by simpa using hl,q9,cond_true]
   cases more with
   |false=>rw[q9,cond_true,iP ⟨hl,rfl⟩]
   |true=>
    rw[jM,cond_false,ao (show¬(v%2^k=0/\true=false)from λh=>by cases h.2)]
    exact tail (λh=>by cases h.2)
 . rw[show decide (v%2^k≠0)=true by simpa using hl,jM,cond_false,ao (show¬(v%2^k=0/\more=false)from λh=>hl h.1)]
   exact tail (λh=>hl h.1)
def YD {m:Nat} (hm:3000000<m) {z e:Int} (h:cP z e):dX m (aW z e).2.1 (aW z e).2.2.1=some (sgn z,(),()):=by
 obtain⟨w,f,k,k1,k2,k3⟩:=Jg h;rw[k1,k2,Ot O k.Sz,ba,k.sgn]
def Vv (m:Nat) (neg:Bool) {l:LI} (hl:Lm l) (h2:l.length<=2): ∀(n k:Nat),l.length-k<n->k<=l.length->
 iQ m n neg l ((vl (l.take k):Nat):Int) (k:Int)=some (.inl ((neg,l,()),((vl l:Nat):Int),()))
 |0,k,h,_=>O
 |n+1,k,h,hk0=>by
  rw[iQ,bQ];by_cases hk:k<l.length
  . obtain⟨x,ex,hx⟩:=hl.get hk;have w:wI (32*(k:Int))=((32*k:Nat):Int):=by rw[wQ,wi O O];omega
    rw[iP O,iP O,w,iP O,tN,ex,bA O,VB hl h2 hk ex hx,show wI ((k:Int)+1)=((k+1:Nat):Int)from aB O]
    exact Vv m neg hl h2 n (k+1) O O
  . rw[ao O,sj O]
def qtn {m:Nat} (hm:2000000<m) {neg:Bool} {l:LI} (h:Sz l):o7 m neg l=some (po (zv neg l),(),()):=by
 rw[o7,JO O h,bS,bQ];dsimp only;show(if((((lim (zv neg l).natAbs).length:Nat):Int)>2)then _ else _)=_
 unfold po;generalize zv neg l=z;by_cases c:z.natAbs<18446744073709551616
 . have c2:=Oi.2 c;have e:=Vv m (zB z).1 (Q9 z.natAbs) c2 m 0 O O;rw[sk,nZ]at e;rw[ao O];rw[show((vl ([]:LI):Nat):Int)=0 from rfl]at e
   show(Option.bind (iQ m m (zB z).1 (lim z.natAbs) 0 0) _)=_
   rw[e,bS,qx];dsimp only;show(bif decide (z<0)then _ else _)=_
   rw[bQ,bQ,bQ];by_cases d:z<0
   . rw[iP d];by_cases d1:(z.natAbs:Int)>9223372036854775808
     . rw[iP d1,ao O]
     . rw[ao d1,iP O,dO,Int.emod_eq_of_lt O O,show wI ((z.natAbs:Int)-1)=(z.natAbs:Int)-1 by rw[wQ,wi O O],
          show wI (0-((z.natAbs:Int)-1))=0-((z.natAbs:Int)-1) by rw[wQ,wi O O],show wI (0-((z.natAbs:Int)-1)-1)=0-((z.natAbs:Int)-1)-1 by rw[wQ,wi O O],show 0-((z.natAbs:Int)-1)-1=z by omega]
   . rw[ao d];by_cases d1:(z.natAbs:Int)>9223372036854775807
     . rw[iP d1,ao O]
     . rw[ao d1,iP O,wQ,wi O O,show(z.natAbs:Int)=z by omega]
 . have c2: ¬(lim z.natAbs).length<=2:=λh=>c (Oi.1 h)
   rw[iP O,ao O]
def Ka {m:Nat} {f:Int} (h1:0<=f) (h2:f<9223372036854775808) (neg:Bool):dz m neg f=some (ke neg f,(),(),()):=by
 unfold dz ke;rw[UK h1 h2];cases neg<;>rfl
def Q3 {m:Nat} (neg:Bool) (mode:Int):mi m neg mode=some (gX neg mode,(),(),()):=by
 rw[mi,aF,aF,aF];simp only[Ka (show(0:Int)<=9218868437227405311 by omega) O,Ka (show(0:Int)<=9218868437227405312 by omega) O,bS]
 unfold gX;by_cases m3:mode=3
 . rw[iP m3,iP (.inl m3)]
 . rw[ao m3];by_cases m1:mode=1
   . have m2: ¬mode=2:=O;rw[iP m1,ao m2];cases neg with
     |false=>rw[iP (.inr (.inl ⟨m1,rfl⟩))];rfl
     |true=>rw[ao (by simp[m2,m3])];rfl
   . rw[ao m1];by_cases m2:mode=2
     . rw[iP m2];cases neg with
       |true=>rw[iP (.inr (.inr ⟨m2,rfl⟩))];rfl
       |false=>rw[ao (by simp[m1,m3])];rfl
     . rw[ao m2,ao (by simp[m1,m2,m3])]
def V6 {m:Nat} (neg:Bool) {n:Nat} (hn:n<=9007199254740992) {u:Int} (h1: -1074<=u) (h2:u<=600000) (mode:Int):
 ((o7 m (zB (n:Int)).1 (zB (n:Int)).2.1=some (po (n:Int),(),()))->((o7 m (zB (n:Int)).1 (zB (n:Int)).2.1).bind λy4=>
   bif y4.1.1==9007199254740992 then
    bif decide ((wI ((wI (u+1))+53))>1024)then
     (mi m neg mode).bind λy5=>
     (some (y5.1,((),(),(),(),(),())):Option (Int×Unit×Unit×Unit×Unit×Unit×Unit))
    else
     (dz m neg (bc .u64 (bu .u64 (wJ (wI ((wI (u+1))+1075))) 52) 0)).bind λy6=>
     some (y6.1,((),(),(),(),(),()))
   else
    bif decide (y4.1.1>=4503599627370496)then
     bif decide ((wI (u+53))>1024)then
      (mi m neg mode).bind λy7=>
      some (y7.1,((),(),(),(),(),()))
     else
      bif decide (y4.1.1>=4503599627370496)then
       (dz m neg (bc .u64 (bu .u64 (wJ (wI (u+1075))) 52) (wJ (wI (y4.1.1-4503599627370496))))).bind λy8=>
       some (y8.1,((),(),(),(),(),()))
      else
       (dz m neg (wJ y4.1.1)).bind λy9=>
       some (y9.1,((),(),(),(),(),()))
    else
     bif decide (y4.1.1>=4503599627370496)then
      (dz m neg (bc .u64 (bu .u64 (wJ (wI (u+1075))) 52) (wJ (wI (y4.1.1-4503599627370496))))).bind λy10=>
      some (y10.1,((),(),(),(),(),()))
     else
      (dz m neg (wJ y4.1.1)).bind λy11=>
      some (y11.1,((),(),(),(),(),())))=some (kh neg n u mode,(),(),(),(),(),())):=by
 intro hI;have w4: ∀d:Nat,d<=2000->wI (u+(d:Int))=u+(d:Int):=λd hd=>by rw[wQ,wi O O]
 have w5:wI (u+1)=u+1:=w4 1 O;have w6:wI (u+1075)=u+1075:=w4 1075 O;have w7:wI (u+1+1075)=u+1076:=by rw[Ps];exact w4 1076 O
 have w8:wI (u+53)=u+53:=w4 53 O;have w9:wI (u+1+53)=u+54:=by rw[Ps];exact w4 54 O
 rw[hI,bS];unfold po;rw[iP O];dsimp only;rw[w5,w6,w7,w8,w9];simp only[aF,bQ];unfold kh;by_cases c1:n=9007199254740992
 . rw[iP O,iP c1];by_cases c2:u+1076>=2047
   . rw[iP O,iP c2,Q3];rfl
   . have hf:=OE (q:=u+1076) (r:=0) O O O;rw[show wI (u+1076)=u+1076 by rw[wQ,wi O O],nZ]at hf
     rw[ao O,ao c2,hf,NA,Ka O O];rfl
 . rw[ao O,ao c1];by_cases c2:n<4503599627370496
   . rw[ao O,ao O,iP c2,bA O,Ka O O];rfl
   . rw[iP O,ao c2];by_cases c3:u+1075>=2047
     . rw[iP O,iP c3,Q3];rfl
     . have hf:=OE (q:=u+1075) (r:=n-4503599627370496) O O O;rw[w6]at hf;have w8:wJ (wI ((n:Int)-4503599627370496))=((n-4503599627370496:Nat):Int):=by rw[wQ,wi O O,dO];omega
       rw[ao O,ao c3,iP O,w8,hf,Ka O O,show((n-4503599627370496:Nat):Int)=(n:Int)-4503599627370496 by omega];rfl
def qgj {m:Nat} (hm:3000000<m) (neg:Bool) {v:Nat} (hv:v≠0) (hb:au v<=300000) {e:Int} (more:Bool) (mode:Int) (h1: -200000<=e) (h2:e<=200000) (hmore:more=true->e<bj v e):
 Bu m neg (zB (v:Int)).1 (zB (v:Int)).2.1 e more mode=some (uw neg v e more mode,(),(),(),(),(),()):=by
 have hS:Sz (zB (v:Int)).2.1:=nT O;have iu:vl (zB (v:Int)).2.1=v:=by rw[Z9];exact qx v
 have w1:wI (e+((au v:Nat):Int))=e+((au v:Nat):Int):=by rw[wQ,wi O O]
 have w2:wI (e+((au v:Nat):Int)-1)=e+((au v:Nat):Int)-1:=by rw[wQ,wi O O]
 have w3:wI (e+((au v:Nat):Int)-1-52)=e+((au v:Nat):Int)-1-52:=by rw[wQ,wi O O]
 have hu:max (e+((au v:Nat):Int)-1-52) (-1074)=bj v e:=by unfold bj;congr 1;omega
 rw[Bu,ZX O hS,bS,iu,bQ];dsimp only;rw[w1,w2,w3,Ug,hu];by_cases c:e+((au v:Nat):Int)-1>=1024
 . rw[iP c,Q3,qh1 hv O];rfl
 . have hun:=Ru v e;have hun2:bj v e<=600000:=by unfold bj;omega
   have hle:=Ry (neg:=neg) (v:=v) (e:=e) (more:=more) (mode:=mode)
   have hIe: ∀n:Nat,n<=9007199254740992->o7 m (zB (n:Int)).1 (zB (n:Int)).2.1=some (po (n:Int),(),()):=by
    intro n hn;rw[qtn O (nT (zf (Qr (k:=54) O) O)),ba]
   rw[ao c,bQ];unfold uw;by_cases c2:bj v e>=e
   . have hc:v3 m neg (zB (v:Int)).1 (zB (v:Int)).2.1 (wI (bj v e-e)) more mode=some (zB ((je neg v (bj v e-e).toNat more mode:Nat):Int),(),(),(),(),(),()):=by
      have:=qtl hm neg (v:=v) hb more (k:=(bj v e-e).toNat) mode (by unfold bj at*;omega)
      rw[show(((bj v e-e).toNat:Nat):Int)=bj v e-e by omega]at this
      rw[wQ,wi O O,this]
     have hmu:je neg v (bj v e-e).toNat more mode=eP neg v e more mode:=by
      unfold eP;by_cases c3:bj v e<=e
      . have:bj v e=e:=O;rw[iP c3,this,Int.sub_self];show je neg v 0 more mode=v*2^0
        have hf:more=false:=by
         cases more with
         |false=>rfl
         |true=>have:=hmore rfl;omega
        unfold je;rw[xU,Nw,iP ⟨rfl,hf⟩,Nat.div_one,iw]
      . rw[ao c3]
     rw[iP c2,hc,bS];dsimp only;rw[hmu];exact V6 neg hle hun hun2 mode (hIe _ hle)
   . have hmu:((v*2^(e-bj v e).toNat:Nat))=eP neg v e more mode:=by
      unfold eP;rw[iP O]
     have e1:(v:Int)*2^(e-bj v e).toNat=((v*2^(e-bj v e).toNat:Nat):Int):=by rw[qZ,nY];rfl
     rw[ao c2,wQ,wi O O,SH hm (by rw[nx];omega) O O,bS,e1,hmu]
     dsimp only;exact V6 neg hle hun hun2 mode (hIe _ hle)
def qn4 {m:Nat} (hm:3000000<m) {z e:Int} (mode:Int):KI m (aW z e).1 (aW z e).2.1 (aW z e).2.2.1 (aW z e).2.2.2.1 mode=some (N1 (aW z e) mode,(),(),()):=by
 rw[KI,RN hm,bS];dsimp only;unfold N1;by_cases h:cP z e
 . have h1:(aW z e).1=false:=h;rw[YD hm h,bS,aF];dsimp only;obtain⟨w,f,k,k1,k2,k3⟩:=Jg h
   have hw:sgn z=0↔(zB w).2.1=[]:=by
    rw[<-k.sgn,Qy];show w=0↔lim w.natAbs=[];rw[Jt];omega
   rw[h1,cond_false,ao (show¬(false=true) by simp)]
   by_cases c:sgn z=0
   . rw[iP c,iP (by rw[k2];exact hw.1 c)]
   . have c2: ¬(zB w).2.1=[]:=λh=>c (hw.2 h)
     have hw0:w.natAbs≠0:=λh=>c2 (Jt.2 h)
     rw[ao c,ao (by rw[k2];exact c2),k1,k2,k3,QT O k.Sz,ba,bS]
     dsimp only;rw[qgj hm _ hw0 (by have:=k.len;omega) _ _ (by have:=k.lo;omega) (by have:=k.hi;omega) (λh=>by cases h),bS]
     show some (_,_)=some (uw _ (vl (lim w.natAbs)) _ _ _,_)
     rw[qx]
 . rw[FQ h];rfl
def PG {f:Int} (h:dg f):qp .u64 (az .u64 f 52) 2047=dQ f/\qp .u64 f 4503599627370495=jK f:=by
 have:=kg (m:=0) h;rw[nP]at this;simp only[zM,Iu,and_true]at this;have hl:=Jn f;refine⟨?_,this.2⟩;have h2:=U9 (x:=az .u64 f 52);have:=this.1
 rwa [wQ,wi O O]at this
def WL {m:Nat} {f:Int} (h:dg f):qJ m f=some (decide (bD f),(),()):=by
 rw[qJ,(PG h).1];by_cases c:bD f
 . rw[decide_eq_true c,show(dQ f !=2047)=true by simpa [bD]using c]
 . rw[decide_eq_false c,show(dQ f !=2047)=false by simpa [bD]using c]
def qpc {m:Nat} {f:Int} (h:dg f):Bx m f=some (jb f,(),()):=by
 have:=q67 (m:=m) h
 rwa [s9]at this
def qup {m:Nat} (hm:3000000<m) {f:Int} (h:dg f):Pe m f=some (eH f,(),()):=by
 have h1:=Jn f;have h2:=Ri f;have hl:=Oa f;have he:=HS (f:=f)
 have run: ∀q:Int,0<=q->q<9007199254740992->pY f=(if jb f then-1 else 1)*q-> ∀ex,oj f=ex->
  lO m (jb f) [wK q,wK (az .u64 q 32)] ex=some (aW (pY f) (oj f),(),(),()):=by
  intro q q1 q2 eq ex ee;obtain⟨u,rfl⟩: ∃u:Nat,q=(u:Int):=⟨q.toNat,O⟩;have e2:az .u64 (u:Int) 32=((u/4294967296:Nat):Int):=cV (a:=u) (k:=32) O
  rw[e2,fA,fA,j7 (show u/4294967296<4294967296 by omega),V8 hm (by
   intro x hx;simp only[zT,zZ,or_false]at hx;omega) (by simp) O O,<-ee]
  have:zv (jb f) [((u%4294967296:Nat):Int),((u/4294967296:Nat):Int)]=pY f:=by
   have hv:vl [((u%4294967296:Nat):Int),((u/4294967296:Nat):Int)]=u:=by
    simp only[vl,tN];omega
   rw[zv,hv,eq];cases jb f<;>simp
  rw[this]
 rw[Pe,WL h,bS,(PG h).1,(PG h).2];dsimp only;unfold eH;by_cases c:bD f
 . have w1:wI (dQ f)=dQ f:=by rw[wQ,wi O O]
   have w2:wI (dQ f-1075)=dQ f-1075:=by rw[wQ,wi O O]
   rw[decide_eq_true c,jM,cond_false,iP c,bQ,w1,w2,qpc h,XS h2.1 h2.2,bS,bS];dsimp only;by_cases c0:dQ f=0
   . rw[ao O,run _ h2.1 O (by unfold pY;rw[iP c0]) _ (by unfold oj;rw[iP c0])];rfl
   . rw[iP O,run _ O O (by unfold pY;rw[ao c0]) _ (by unfold oj;rw[ao c0])];rfl
 . rw[decide_eq_false c,q9,cond_true,ao c];rfl
end Go.Vs.F
