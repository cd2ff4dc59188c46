import Derived.Test.YtikppifemlpjlaaGreatDoorLc
set_option linter.unusedVariables false
set_option linter.unusedSimpArgs false
set_option linter.defProp false
namespace Go.Vs.F
def qg4 (m:Nat) {l:LI} (hl:l.length<=1000000000): ∀(k n:Nat),k<n->k<=l.length->
 ∃j:Nat,g166L0 m n l (k:Int)=some (.inl (l,(j:Int),()))/\j<=k/\(∀i,j<=i->i<k->l.getD i 0=0)/\(j=0\/l.getD (j-1) 0≠0)
 |0,n,h,_=>by
  obtain⟨n,rfl⟩: ∃n',n=n'+1:=⟨n-1,O⟩;rw[g166L0,bQ,iN' O];exact⟨0,rfl,zH _,λi a b=>O,.inl rfl⟩
 |k+1,n,h,hk=>by
  obtain⟨n,rfl⟩: ∃n',n=n'+1:=⟨n-1,O⟩;have w1:wI (((k+1:Nat):Int)-1)=(k:Int):=by rw[wQ,wi O O];omega
  rw[g166L0,bQ,iP O,w1,iP O,tN,bif_eq];by_cases e:l.getD k 0=0
  . rw[iP e];obtain⟨j,g1,g2,g3,g4⟩:=qg4 m hl k n O O;refine⟨j,g1,O,λi a b=> ?_,g4⟩
    by_cases ei:i=k
    . subst ei;exact e
    . exact g3 i a O
  . rw[iN' e];exact⟨k+1,rfl,zH _,λi a b=>O,.inr (by simpa using e)⟩
def qgs (m:Nat) {l:LI} {j:Nat} (hj:j<=l.length) (hl:l.length<=1000000000): ∀(n k:Nat),j-k<n->k<=j->
 g166L1 m n l (j:Int) (l.take k) (k:Int)=some (.inl (l.take j,()))
 |0,k,h,_=>O
 |n+1,k,h,hk=>by
  rw[g166L1];by_cases e:k<j
  . rw[bQ,iP O,iP O,iP (by rw[zf];show min k l.length+1<=_;omega),tN,show wI ((k:Int)+1)=((k+1:Nat):Int)from wsucc O]
    have:l.take k++[l.getD k 0]=l.take (k+1):=by
     rw[List.take_add_one,List.getD,List.getElem?_eq_getElem (show k<l.length by omega)];rfl
    rw[this];exact qgs m hj hl n (k+1) O O
  . rw[bQ,iN' O,show k=j by omega]
def Yf {m:Nat} {l:LI} (h:Lm l) (hm:l.length<m) (hl:l.length<=1000000000):g166 m l=some (lim (vl l),(),()):=by
 obtain⟨j,e,h1,h2,h3⟩:=qg4 m hl l.length m hm (zH _);have e2:=qgs m h1 hl m 0 O O;rw[zz2,nZ]at e2;rw[g166,e,bS];dsimp only;rw[e2,bS];dsimp only
 have hv:vl (l.take j)=vl l:=by
  conv=>rhs;rw[<-List.take_append_drop j l,Jr]
  rw[q5f (l:=l.drop j)]
  . omega
  . intro x hx;obtain⟨i,hi,rfl⟩:=zx hx;simp only[zU1]at hi;have:=h2 (j+i) O O;rw[zi3];rw[List.getD,List.getElem?_eq_getElem O]at this;exact this
 rw[<-hv];congr 2;refine qi9 (λx hx=>h x (zJ1 hx)) λhne=> ?_
 rcases h3 with h3|h3
 . subst h3;exact absurd (zz2 ..) hne
 . obtain⟨j,rfl⟩: ∃j',j=j'+1:=⟨j-1,by
    have:j≠0:=by rintro rfl;exact hne (zz2 ..)
    omega⟩
   rw[getLast_take O];simpa using h3
def Xr {m:Nat} (hm:2000000<m) {l:LI} (h:Lm l) (hl:l.length<=1000001) (neg:Bool):g127 m neg l=some (zB (zv neg l),(),(),()):=by
 rw[g127,Yf h O O,bS,zv,qo3];dsimp only[bigM]
 have e:decide (((lim (vl l)).length:Int)>0)=(vl l !=0):=by
  by_cases e:vl l=0
  . rw[e,Q8];rfl
  . have: ¬((lim (vl l)).length:Int)=0:=λh=>e (q0v.1 (z81.1 O))
    rw[show(vl l !=0)=true by simpa using e]
    simp only[decide_eq_true_eq];omega
 rw[e];cases neg<;>rfl
def qo1 {m:Nat} (hm:2000000<m) {n:Nat} (hl:(lim n).length<=1000001) (neg:Bool):g127 m neg (lim n)=some (zB (if neg then-(n:Int)else(n:Int)),(),(),()):=by
 rw[Xr hm (Q7 n) hl,zv,qw]
def q3b {m:Nat} (hm:2000000<m) {neg:Bool} {l:LI} (h:Sz l):g117 m neg l=some (zB (zv neg l),(),()):=by
 rw[g117,Xr hm h.1 (by have:=h.2;omega)];rfl
def qdx {m:Nat} (hm:2000000<m) {neg:Bool} {l:LI} (h:Sz l):g164 m neg l=some (zB (-zv neg l),(),()):=by
 rw[g164,Xr hm h.1 (by have:=h.2;omega),qkx];rfl
def q4f {m:Nat} (hm:2000000<m) {neg:Bool} {l:LI} (h:Sz l):g82 m neg l=some (zB ((zv neg l).natAbs:Int),(),()):=by
 rw[g82,Xr hm h.1 (by have:=h.2;omega),Z9];rfl
def Yx {m:Nat} (hm:2000000<m) {neg:Bool} {l:LI} (h:Sz l):g69 m neg l=some (sgn (zv neg l),(),()):=by
 rw[g69,q3b hm h,bS,bif_eq];dsimp only;unfold sgn
 have e:(((zB (zv neg l)).2.1.length:Nat):Int)=0↔zv neg l=0:=by
  show(((lim (zv neg l).natAbs).length:Nat):Int)=0↔_
  rw[q0l];omega
 by_cases z:zv neg l=0
 . rw[iP (e.2 z),iN' O,iN' O]
 . rw[iN' (λh=>z (e.1 h))]
   show(bif decide (zv neg l<0)then _ else _)=_
   rw[bQ];by_cases z2:zv neg l<0
   . rw[iP z2,iP z2]
   . rw[iN' z2,iN' z2,iP O]
def q2l {m:Nat} (hm:2000000<m) {n:Int} (h1: -9223372036854775808<=n) (h2:n<9223372036854775808):g123 m n=some (zB n,(),()):=by
 have lo: ∀u:Nat,u<18446744073709551616-> ∀neg:Bool,g127 m neg [wK (u:Int),wK (shr_ .u64 (u:Int) 32)]=some (zB (if neg then-(u:Int)else(u:Int)),(),(),()):=by
  intro u hu neg;have e2:shr_ .u64 (u:Int) 32=((u/4294967296:Nat):Int):=shr64 (a:=u) (k:=32) O;rw[w32,e2,w32,zu (show u/4294967296<4294967296 by omega),Xr hm,zv]
  . have:vl [((u%4294967296:Nat):Int),((u/4294967296:Nat):Int)]=u:=by
     simp only[vl,tN];omega
    rw[this]
  . intro x hx;simp only[zU,zy,or_false]at hx;omega
  . simp
 rw[g123,bQ];by_cases h:n<0
 . have w:wJ (wJ (wI (0-wI (n+1)))+1)=((n.natAbs:Nat):Int):=by
    rw[show wI (n+1)=n+1 by rw[wQ,wi O O],show wI (0-(n+1))=0-(n+1) by rw[wQ,wi O O],w64m,w64m];omega
   rw[iP h,w,lo _ O,bS,show decide (n<0)=true by simpa using h,iP rfl,show-(n.natAbs:Int)=n by omega]
 . have w:wJ n=((n.natAbs:Nat):Int):=by rw[w64m];omega
   rw[iN' h,w,lo _ O,bS,show decide (n<0)=false by simpa using h,iN' (by simp),show(n.natAbs:Int)=n by omega]
def Lm.get' {l:LI} (h:Lm l) (k:Nat): ∃x:Nat,l.getD k 0=(x:Int)/\x<4294967296/\vl (l.drop k)=x+4294967296*vl (l.drop (k+1)):=by
 by_cases hk:k<l.length
 . obtain⟨x,ex,hx⟩:=h.get hk;exact⟨x,ex,hx,by rw[X4 hk,ex,tN]⟩
 . exact⟨0,by rw[Yn O];rfl,O,by rw[qo O,qo O]⟩
def rmax {a b:Nat}:(if(b:Int)>(a:Int)then(b:Int)else(a:Int))=((max a b:Nat):Int):=by
 split<;>omega
def qpl (m:Nat) {a b:LI} (ha:Lm a) (hb:Lm b) (hl:max a.length b.length<=1000000): ∀(n k:Nat) (out:LI) (c:Nat),max a.length b.length-k<n->k<=max a.length b.length->Lm out->out.length=k->c<2->
 ∃out' c',g193L0 m n a b out (c:Int) (k:Int)=some (.inl (out',((c':Nat):Int),()))/\Lm out'/\out'.length=max a.length b.length/\c'<2/\
  vl out'+4294967296^(max a.length b.length)*c'=vl out+4294967296^k*(c+vl (a.drop k)+vl (b.drop k)):=by
 intro n;induction n with
 |zero=>intro k out c h;omega
 |succ n ih=>
  intro k out c h hk0 ho hol hc;rw[g193L0,rmax];by_cases hk:k<max a.length b.length
  . have h1:((k:Int)<((max a.length b.length:Nat):Int)):=O;obtain⟨x,ex,hx,dx⟩:=ha.get' k;obtain⟨y,ey,hy,dy⟩:=hb.get' k;have c2: ∀y:Int,out.length+([y]:LI).length<=1073741824:=λy=>by show out.length+1<=_;omega
    have w1:wJ (x:Int)=(x:Int):=w64n O;have w3:wJ (y:Int)=(y:Int):=w64n O;have ws:wI ((k:Int)+1)=((k+1:Nat):Int):=wsucc O;have w2: ∀u v:Nat,u+v<18446744073709551616->wJ ((u:Int)+(v:Int))=((u+v:Nat):Int):=λu v h=>by rw[show(u:Int)+(v:Int)=((u+v:Nat):Int) by omega,w64n h]
    have e2: ∀t:Nat,shr_ .u64 (t:Int) 32=((t/4294967296:Nat):Int):=λt=>shr64 (a:=t) (k:=32) O
    have step: ∃out' c',g193L0 m n a b (out++[(((c+x+y)%4294967296:Nat):Int)]) (((c+x+y)/4294967296:Nat):Int) ((k+1:Nat):Int)=some (.inl (out',((c':Nat):Int),()))/\Lm out'/\out'.length=max a.length b.length/\c'<2/\
     vl out'+4294967296^(max a.length b.length)*c'=vl out+4294967296^k*(c+vl (a.drop k)+vl (b.drop k)):=by
     obtain⟨out',c',g1,g2,g3,g4,g5⟩:=ih (k+1) (out++[(((c+x+y)%4294967296:Nat):Int)]) ((c+x+y)/4294967296) O O (Jj ho O) (by simp[hol]) O
     refine⟨out',c',g1,g2,g3,g4,?_⟩
     have hp:4294967296^(k+1)*((c+x+y)/4294967296+vl (a.drop (k+1))+vl (b.drop (k+1)))=4294967296^k*(4294967296*((c+x+y)/4294967296+vl (a.drop (k+1))+vl (b.drop (k+1)))):=by
      rw[zh,zO]
     rw[g5,Jm,hol,hp,zH1,<-Nat.mul_add,dx,dy];congr 2;omega
    rw[bQ,iP h1,bQ,bQ,tN,ex,ey,w1,w3,ws];by_cases ka:(k:Int)<(a.length:Int)
    . rw[iP ka,iP (show(0:Int)<=(k:Int)/\(k:Int)<(a.length:Int) by omega),w2 _ _ O]
      by_cases kb:(k:Int)<(b.length:Int)
      . rw[iP kb,iP (show(0:Int)<=(k:Int)/\(k:Int)<(b.length:Int) by omega),w2 _ _ O,w32,e2,iP (c2 _)]
        exact step
      . have y0:y=0:=by rw[Yn O]at ey;omega
        subst y0;rw[iN' kb,w32,e2,iP (c2 _)];exact step
    . have x0:x=0:=by rw[Yn O]at ex;omega
      subst x0;rw[iN' ka];by_cases kb:(k:Int)<(b.length:Int)
      . rw[bQ,iP kb,iP (show(0:Int)<=(k:Int)/\(k:Int)<(b.length:Int) by omega),w2 _ _ O,w32,e2,iP (c2 _)]
        exact step
      . omega
  . rw[bQ,iN' O];refine⟨out,c,rfl,ho,O,hc,?_⟩;rw[qo (l:=a) O,qo (l:=b) O,show k=max a.length b.length by omega]
    rfl
def qhk {m:Nat} (hm:2000000<m) {a b:LI} (ha:Lm a) (hb:Lm b) (hla:a.length<=1000000) (hlb:b.length<=1000000):
 ∃r,g193 m a b=some (r,(),(),())/\Lm r/\r.length=max a.length b.length+1/\vl r=vl a+vl b:=by
 obtain⟨out,c,e,h1,h2,h3,h4⟩:=qpl m ha hb O m 0 [] 0 O O (λx hx=>by cases hx) rfl O
 rw[nZ]at e;have w:wK (c:Int)=(c:Int):=by rw[w32];congr 1;omega
 refine⟨out++[(c:Int)],?_,Jj h1 O,by simp[h2],?_⟩
 . rw[g193,e,bS];dsimp only;rw[w,iP (by rw[h2];show max a.length b.length+1<=_;omega)]
 . rw[Jm,h2,h4];simp[vl]
def q6k {x y c:Nat} (hx:x<4294967296) (hy:y<4294967296) (hc:c<2): ∃d e:Nat,d<4294967296/\e<2/\d+y+c=x+4294967296*e/\
 wK (wJ ((wJ ((x:Int)-(c:Int)))-(y:Int)))=(d:Int)/\shr_ .u64 (wJ ((wJ ((x:Int)-(c:Int)))-(y:Int))) 63=(e:Int):=by
 have key: ∀t:Nat,t<18446744073709551616->wJ ((wJ ((x:Int)-(c:Int)))-(y:Int))=(t:Int)->
  wK (wJ ((wJ ((x:Int)-(c:Int)))-(y:Int)))=((t%4294967296:Nat):Int)/\shr_ .u64 (wJ ((wJ ((x:Int)-(c:Int)))-(y:Int))) 63=((t/9223372036854775808:Nat):Int):=by
  intro t ht e;rw[e,w32];exact⟨rfl,shr64 (a:=t) (k:=63) O⟩
 by_cases h:y+c<=x
 . have e:wJ ((wJ ((x:Int)-(c:Int)))-(y:Int))=((x-c-y:Nat):Int):=by
    rw[w64m,w64m];omega
   obtain⟨k1,k2⟩:=key (x-c-y) O e;exact⟨_,_,O,O,O,k1,k2⟩
 . have e:wJ ((wJ ((x:Int)-(c:Int)))-(y:Int))=((18446744073709551616+x-c-y:Nat):Int):=by
    rw[w64m,w64m];omega
   obtain⟨k1,k2⟩:=key (18446744073709551616+x-c-y) O e;exact⟨_,_,O,O,O,k1,k2⟩
def qqh {B P V0 V1 d y c x e Av Bv Q R:Nat} (g:V1+P*B*(e+Bv)=(V0+P*d)+P*B*Av+Q) (hde:d+y+c=x+B*e):V1+P*(c+(y+B*Bv))=V0+P*(x+B*Av)+Q:=by
 have k1:P*(d+y+c)=P*d+P*y+P*c:=by rw[zC,zC]
 have k2:P*(x+B*e)=P*x+P*B*e:=by rw[zC,zO]
 have k3:P*B*(e+Bv)=P*B*e+P*(B*Bv):=by rw[zC,zO P B Bv]
 have k4:P*(c+(y+B*Bv))=P*c+(P*y+P*(B*Bv)):=by rw[zC,zC]
 have k5:P*(x+B*Av)=P*x+P*(B*Av):=by rw[zC]
 have k6:P*B*Av=P*(B*Av):=zO ..;rw[hde]at k1;rw[k3,k6]at g;rw[k4,k5];omega
def qpd (m:Nat) {a b:LI} (ha:Lm a) (hb:Lm b) (hl:a.length<=1000000) (hba:b.length<=a.length): ∀(n k:Nat) (out:LI) (c:Nat),a.length-k<n->k<=a.length->Lm out->out.length=k->c<2->
 ∃out' c',g195L0 m n a b out (c:Int) (k:Int)=some (.inl (out',()))/\Lm out'/\out'.length=a.length/\c'<2/\
  vl out'+4294967296^k*(c+vl (b.drop k))=vl out+4294967296^k*vl (a.drop k)+4294967296^a.length*c':=by
 intro n;induction n with
 |zero=>intro k out c h;omega
 |succ n ih=>
  intro k out c h hk0 ho hol hc;rw[g195L0];by_cases hk:k<a.length
  . have h1:((k:Int)<(a.length:Int)):=O;have c1:(0:Int)<=(k:Int)/\(k:Int)<(a.length:Int):=O;obtain⟨x,ex,hx,dx⟩:=ha.get' k;obtain⟨y,ey,hy,dy⟩:=hb.get' k;have c2: ∀y:Int,out.length+([y]:LI).length<=1073741824:=λy=>by show out.length+1<=_;omega
    have w1:wJ (x:Int)=(x:Int):=w64n O;have w3:wJ (y:Int)=(y:Int):=w64n O;have ws:wI ((k:Int)+1)=((k+1:Nat):Int):=wsucc O;obtain⟨d,e,hd,he,hde,q1,q2⟩:=q6k hx hy hc
    have step: ∃out' c',g195L0 m n a b (out++[(d:Int)]) (e:Int) ((k+1:Nat):Int)=some (.inl (out',()))/\Lm out'/\out'.length=a.length/\c'<2/\
     vl out'+4294967296^k*(c+vl (b.drop k))=vl out+4294967296^k*vl (a.drop k)+4294967296^a.length*c':=by
     obtain⟨out',c',g1,g2,g3,g4,g5⟩:=ih (k+1) (out++[(d:Int)]) e O O (Jj ho hd) (by simp[hol]) he
     refine⟨out',c',g1,g2,g3,g4,?_⟩;rw[Jm,hol,zh]at g5;rw[dx,dy];exact qqh (R:=0) g5 hde
    rw[bQ,iP h1,iP c1,bQ,tN,ex,ey,w1,w3,ws];by_cases kb:(k:Int)<(b.length:Int)
    . rw[iP kb,iP (show(0:Int)<=(k:Int)/\(k:Int)<(b.length:Int) by omega),q1,q2,iP (c2 _)]
      exact step
    . have y0:y=0:=by rw[Yn O]at ey;omega
      subst y0
      have w4:wJ (wJ ((x:Int)-(c:Int))-((0:Nat):Int))=wJ ((x:Int)-(c:Int)):=by
       rw[w64m,w64m];omega
      rw[w4]at q1 q2;rw[iN' kb,q1,q2,iP (c2 _)];exact step
  . rw[bQ,iN' O];refine⟨out,c,rfl,ho,O,hc,?_⟩;rw[qo (l:=a) O,qo (l:=b) O,show k=a.length by omega]
    simp
def q84 {m:Nat} (hm:2000000<m) {a b:LI} (ha:Lm a) (hb:Lm b) (hla:a.length<=1000000) (hba:b.length<=a.length) (hv:vl b<=vl a):
 ∃r,g195 m a b=some (r,(),(),())/\Lm r/\r.length=a.length/\vl r=vl a-vl b:=by
 obtain⟨out,c,e,h1,h2,h3,h4⟩:=qpd m ha hb hla hba m 0 [] 0 O O (λx hx=>by cases hx) rfl O
 rw[nZ]at e;refine⟨out,?_,h1,h2,?_⟩
 . rw[g195,e,bS]
 . have hlt:=vl_lt h1;rw[h2]at hlt;simp only[zT1,za2,zT2,zF,vl]at h4
   have hc:c=0:=by
    rcases zE1 c 1 with h|h
    . omega
    . have:c=1:=O;subst this;omega
   subst hc;omega
def qlf (m:Nat) {a b:LI} (ha:Lm a) (hb:Lm b) (hl:a.length<=1000000) (hlen:a.length=b.length): ∀(k n:Nat),k<n->k<=a.length->vl (a.drop k)=vl (b.drop k)->
 ∃r,g194L0 m n a b ((k:Int)-1)=some r/\(r= .inl (cmpN (vl a) (vl b),())\/r= .inr (.inl ())/\vl a=vl b)
 |0,n,h,_,hd=>by
  obtain⟨n,rfl⟩: ∃n',n=n'+1:=⟨n-1,O⟩;rw[g194L0,bQ,iN' O];exact⟨_,rfl,.inr ⟨rfl,hd⟩⟩
 |k+1,n,h,hk,hd=>by
  obtain⟨n,rfl⟩: ∃n',n=n'+1:=⟨n-1,O⟩;have e0:((k+1:Nat):Int)-1=(k:Int):=O;have c1:(0:Int)<=(k:Int)/\(k:Int)<(a.length:Int):=O;have c2:(0:Int)<=(k:Int)/\(k:Int)<(b.length:Int):=O;have w:wI ((k:Int)-1)=(k:Int)-1:=by rw[wQ,wi O O]
  obtain⟨x,ex,hx⟩:=ha.get (show k<a.length by omega)
  obtain⟨y,ey,hy⟩:=hb.get (show k<b.length by omega)
  have d1:=X4 (l:=a) (k:=k) O;have d2:=X4 (l:=b) (k:=k) O;rw[ex,tN]at d1;rw[ey,tN,<-hd]at d2;rw[e0,g194L0,bQ,iP O,iP c1,iP c2,tN,ex,ey,bif_ne,bQ];by_cases e:(x:Int)=(y:Int)
  . rw[iP e,w];have:x=y:=O;subst this;exact qlf m ha hb hl hlen k n O O O
  . rw[iN' e,iP c1,iP c2];by_cases hxy:x<y
    . have:=Zq (a:=a) (b:=b) ha (k:=k) O O O;rw[iP O];exact⟨_,rfl,.inl (by unfold cmpN;rw[iP this])⟩
    . have:=Zq (a:=b) (b:=a) hb (k:=k) O O O;rw[iN' O];exact⟨_,rfl,.inl (by unfold cmpN;rw[iN' O,iP this])⟩
def q8m {m:Nat} (hm:2000000<m) {x y:Nat} (hx:(lim x).length<=1000000) (hy:(lim y).length<=1000000):g194 m (lim x) (lim y)=some (cmpN x y,(),(),()):=by
 rw[g194,bif_ne];by_cases e:((lim x).length:Int)=((lim y).length:Int)
 . rw[iP e];have w:wI (((lim x).length:Int)-1)=((lim x).length:Int)-1:=by rw[wQ,wi O O]
   obtain⟨r,g,hr⟩:=qlf m (Q7 x) (Q7 y) hx O (lim x).length m O (zH _) (by rw[qo (zH _),qo O])
   rw[w,g,bS];rw[qw,qw]at hr;rcases hr with rfl|⟨rfl,h⟩
   . rfl
   . subst h;simp[cmpN]
 . rw[iN' e,bQ];unfold cmpN;by_cases h:x<y
   . have:=Q5 (zh2 h);rw[iP O,iP h]
   . have:=Q5 (zD2 h)
     have hne:y<x:=by
      rcases zE1 y x with h2|h2
      . exact h2
      . have:x=y:=O;subst this;exact absurd rfl e
     rw[iN' O,iN' h,iP hne]
def qe8 {m:Nat} (hm:2000000<m) {n1 n2:Bool} {l1 l2:LI} (h1:Sz l1) (h2:Sz l2):g163 m n1 l1 n2 l2=some (zB (zv n1 l1+zv n2 l2),(),(),()):=by
 have b1:=h1.lim;have b2:=h2.lim;rw[g163,Yf h1.1 (by have:=h1.2;omega) (by have:=h1.2;omega),bS,Yf h2.1 (by have:=h2.2;omega) (by have:=h2.2;omega),bS]
 dsimp only;by_cases hn:n1=n2
 . subst hn;obtain⟨r,e,k1,k2,k3⟩:=qhk hm (Q7 (vl l1)) (Q7 (vl l2)) b1 b2;rw[show(n1==n1)=true by simp,cond_true,e,bS]
   dsimp only;rw[Xr hm k1 O,bS]
   have:zv n1 r=zv n1 l1+zv n1 l2:=by
    rw[qw,qw]at k3;unfold zv;cases n1<;>simp<;>omega
   rw[this]
 . rw[show(n1==n2)=false by simpa using hn,cond_false,q8m hm b1 b2,bS,bQ]
   dsimp only;unfold cmpN
   have ev:zv n1 l1+zv n2 l2=if n1 then(vl l2:Int)-vl l1 else(vl l1:Int)-vl l2:=by
    unfold zv;cases n1<;>cases n2<;>simp at hn⊢ <;>omega
   by_cases hlt:vl l1<vl l2
   . have k:(if vl l1<vl l2 then(-1:Int)else if vl l2<vl l1 then 1 else 0)= -1:=iP hlt
     obtain⟨r,e,k1,k2,k3⟩:=q84 hm (Q7 (vl l2)) (Q7 (vl l1)) b2 (Q5 (zh2 hlt)) (by rw[qw,qw];exact zh2 hlt)
     rw[k,iN' O,e,bS];dsimp only;rw[Xr hm k1 O,bS]
     have:zv n2 r=zv n1 l1+zv n2 l2:=by
      rw[qw,qw]at k3;rw[ev];unfold zv;cases n1<;>cases n2<;>simp at hn⊢ <;>omega
     rw[this]
   . have k:(if vl l1<vl l2 then(-1:Int)else if vl l2<vl l1 then 1 else 0)>=0:=by
      rw[iN' hlt];split<;>omega
     obtain⟨r,e,k1,k2,k3⟩:=q84 hm (Q7 (vl l1)) (Q7 (vl l2)) b1 (Q5 (zD2 hlt)) (by rw[qw,qw];exact zD2 hlt)
     rw[iP k,e,bS];dsimp only;rw[Xr hm k1 O,bS]
     have:zv n1 r=zv n1 l1+zv n2 l2:=by
      rw[qw,qw]at k3;rw[ev];unfold zv;cases n1<;>cases n2<;>simp at hn⊢ <;>omega
     rw[this]
def qdy {m:Nat} (hm:2000000<m) {n1 n2:Bool} {l1 l2:LI} (h1:Sz l1) (h2:Sz l2):g126 m n1 l1 n2 l2=some (zB (zv n1 l1-zv n2 l2),(),(),()):=by
 have hz:zlen (-zv n2 l2)<=1000000:=by
  unfold zlen;rw[zm1,Z9];exact h2.lim
 rw[g126,qdx hm h2,bS];dsimp only;rw[qe8 hm h1 (Sz_zB hz),zv_zB,<-Int.sub_eq_add_neg];rfl
def ql5 {x p o:Nat} (hx:x<4294967296) (hp:p<32) (ho:o<2^p): ∃d e:Nat,d<4294967296/\e<2^p/\d+4294967296*e=o+x*2^p/\
 wK (b_or_ .u64 (o:Int) (shl_ .u64 (x:Int) (p:Int)))=(d:Int)/\shr_ .u64 (b_or_ .u64 (o:Int) (shl_ .u64 (x:Int) (p:Int))) 32=(e:Int):=by
 have hple:2^p<=2^31:=zq O O;have h1:x*2^p<=4294967295*2^p:=zN _ O;have h2:4294967295*2^p<=4294967295*2^31:=zT _ hple
 have hx2:o+x*2^p<18446744073709551616:=by
  have:(4294967295:Nat)*2^31+2^31<18446744073709551616:=by decide
  omega
 have hor:o|||x*2^p=o+x*2^p:=by
  rw[zF4,zW,<-Nat.two_pow_add_eq_or_of_lt ho,zq1]
 have e2:shr_ .u64 ((o+x*2^p:Nat):Int) 32=(((o+x*2^p)/4294967296:Nat):Int):=shr64 (a:=o+x*2^p) (k:=32) O
 have he:(o+x*2^p)/4294967296<2^p:=by
  rw[z01 O];omega
 refine⟨(o+x*2^p)%4294967296,(o+x*2^p)/4294967296,O,he,O,?_,?_⟩
 . rw[shl64 O O,or64 O O,hor,w32]
 . rw[shl64 O O,or64 O O,hor,e2]
def qmw {B P T V0 V1 x d e o D Q:Nat} (g:V1+Q=(V0+P*d)+P*B*(e+T*D)) (hde:d+B*e=o+x*T):V1+Q=V0+P*(o+T*(x+B*D)):=by
 have k1:P*(d+B*e)=P*d+P*B*e:=by rw[zC,zO]
 have k2:P*(o+x*T)=P*o+P*(T*x):=by rw[zC,zW x]
 have k4:P*(o+T*(x+B*D))=P*o+(P*(T*x)+P*B*(T*D)):=by
  rw[zC,zC T,zC P (T*x),zW1 T B D,zO P B]
 have k5:P*B*(e+T*D)=P*B*e+P*B*(T*D):=zC ..;rw[hde]at k1;rw[k5]at g;rw[k4];omega
def qkw (m:Nat) {a:LI} {N w p:Nat} (ha:Lm a) (hl:a.length<=1000000) (hw:w<=1000000) (hp:p<32) (hN:Int.tmod (N:Int) 32=(p:Int)): ∀(n k:Nat) (out:LI) (o:Nat),a.length-k<n->k<=a.length->Lm out->out.length=w+k->o<2^p->
 ∃out' o',g128L0 m n a (N:Int) out (o:Int) (k:Int)=some (.inl (out',((o':Nat):Int),()))/\Lm out'/\out'.length=w+a.length/\o'<2^p/\vl out'+4294967296^(w+a.length)*o'=vl out+4294967296^(w+k)*(o+2^p*vl (a.drop k)):=by
 intro n;induction n with
 |zero=>intro k out o h;omega
 |succ n ih=>
  intro k out o h hk0 ho hol hop;rw[g128L0,hN];by_cases hk:k<a.length
  . have h1:((k:Int)<(a.length:Int)):=O;have c1:(0:Int)<=(k:Int)/\(k:Int)<(a.length:Int):=O;obtain⟨x,ex,hx,dx⟩:=ha.get' k;obtain⟨d,e,hd,he,hde,q1,q2⟩:=ql5 hx hp hop;rw[bQ,iP h1,iP c1,iP O,tN,ex,w64n O,q1,q2,iP (by show out.length+1<=_;omega),show wI ((k:Int)+1)=((k+1:Nat):Int)from wsucc O]
    obtain⟨out',o',g1,g2,g3,g4,g5⟩:=ih (k+1) (out++[(d:Int)]) e O O (Jj ho hd) (by simp[hol];omega) he
    refine⟨out',o',g1,g2,g3,g4,?_⟩;rw[Jm,hol,<-Nat.add_assoc w k 1,zh]at g5;rw[dx];exact qmw g5 hde
  . rw[bQ,iN' O];have:k=a.length:=O;subst this;refine⟨out,o,rfl,ho,hol,hop,?_⟩;rw[qo O,zX,zL]
def qp7 {m:Nat} (hm:3000000<m) {a:LI} (ha:Lm a) (hl:a.length<=500000) {n:Nat} (hn:n<=10000000):
 ∃r,g128 m a (n:Int)=some (r,(),(),())/\Lm r/\r.length<=a.length+n/32+1/\vl r=vl a*2^n:=by
 have w0:wI (Int.tdiv (n:Int) 32)=((n/32:Nat):Int):=by rw[qcn,wQ,wi O O]
 have hple:2^(n%32)<=2^31:=zq O O;obtain⟨out,c,e,h1,h2,h3,h4⟩:=qkw m (N:=n) (w:=n/32) (p:=n%32) ha O O O qd0 m 0 (List.replicate (n/32) 0) 0 O O Qn (by simp) (zC1 O)
 rw[nZ]at e;have w:wK (c:Int)=(c:Int):=by rw[w32,zu O]
 refine⟨out++[(c:Int)],?_,Jj h1 O,by simp[h2];omega,?_⟩
 . rw[g128,w0,iP O,tN,e,bS];dsimp only;rw[w,iP (by rw[h2];show n/32+a.length+1<=_;omega)]
 . rw[Jm,h2,h4,Qv,zT1,zF,zF,zL,<-Nat.mul_assoc,pow32,show 32*(n/32)+n%32=n by omega,zW]
def qkq {x y p:Nat} (hx:x<4294967296) (hy:y<4294967296) (hp:p<32):wK (shr_ .u64 (b_or_ .u64 (x:Int) (shl_ .u64 (y:Int) 32)) (p:Int))=(((x+4294967296*y)/2^p%4294967296:Nat):Int):=by
 have e1:shl_ .u64 (y:Int) 32=((y*4294967296:Nat):Int):=shl64 (a:=y) (k:=32) O O
 have e2:x|||y*4294967296=x+4294967296*y:=by
  rw[zF4,zW,show(4294967296:Nat)=2^32 by decide,<-Nat.two_pow_add_eq_or_of_lt O,zq1]
 rw[e1,or64 O O,e2,shr64 O,w32]
def qq4 (m:Nat) {a:LI} {N w:Nat} (ha:Lm a) (hl:a.length<=1000000) (hw:w<=1000000) (hN:wI (Int.tdiv (N:Int) 32)=(w:Int)): ∀(n k:Nat),min w a.length-k<n->k<=min w a.length->
 g129L0 m n a (N:Int) (decide (vl (a.take k)≠0)) (k:Int)=some (.inl (a,(N:Int),decide (vl (a.take w)≠0),())):=by
 intro n;induction n with
 |zero=>intro k h;omega
 |succ n ih=>
  intro k h hk0;rw[g129L0,hN,bQ,bQ];by_cases hk:k<min w a.length
  . obtain⟨x,ex,hx⟩:=ha.get (show k<a.length by omega)
    rw[iP O,iP O,tN,ex,iP O,show wI ((k:Int)+1)=((k+1:Nat):Int)from wsucc O]
    have hv:vl (a.take (k+1))=vl (a.take k)+4294967296^k*x:=by
     have:a.take (k+1)=a.take k++[(x:Int)]:=by
      rw[List.take_add_one,<-ex,List.getD,List.getElem?_eq_getElem (show k<a.length by omega)];rfl
     rw[this,Jm,zf,show min k a.length=k by omega]
    have hP:0<4294967296^k:=zC1 O;have ih:=ih (k+1) O O;by_cases e:vl (a.take k)=0
    . rw[show decide (vl (a.take k)≠0)=false by simpa using e,cond_false]
      rw[e,zF]at hv
      have:decide (vl (a.take (k+1))≠0)=((x:Int) !=0):=by
       rw[hv];by_cases e2:x=0
       . subst e2;simp
       . have:=zp3 hP (zM2 e2);rw[show decide (4294967296^k*x≠0)=true by rw[decide_eq_true_eq];omega]
         symm
         rw[bne_iff_ne];omega
      rw[this]at ih;exact ih
    . rw[show decide (vl (a.take k)≠0)=true by simpa using e,cond_true]
      rw[show decide (vl (a.take (k+1))≠0)=true by rw[decide_eq_true_eq];omega]at ih
      exact ih
  . have ht:a.take w=a.take k:=by
     by_cases hwl:w<=a.length
     . rw[show k=w by omega]
     . rw[zg1 O,zg1 O]
    rw[ht];by_cases c:(k:Int)<(w:Int)
    . rw[iP c,iN' O]
    . rw[iN' c]
def qpj (m:Nat) {a:LI} {N w p:Nat} (ha:Lm a) (hl:a.length<=1000000) (hw:w<=1000000) (hp:p<32) (hN:wI (Int.tdiv (N:Int) 32)=(w:Int)): ∀(n k:Nat) (lost:Bool) (out:LI),a.length-k<n->w<=k->(k<=a.length\/k=w)->Lm out->out.length+w=k->
 ∃out',g129L1 m n a (N:Int) lost out (p:Int) (k:Int)=some (.inl (if k=w then(lost||decide ((a.getD w 0).toNat%2^p≠0))else lost,out',()))/\Lm out'/\out'.length<=out.length+(a.length-k)/\vl out'=vl out+4294967296^out.length*(vl (a.drop k)/2^p):=by
 intro n;induction n with
 |zero=>intro k lost out h;omega
 |succ n ih=>
  intro k lost out h hwk hk0 ho hol;rw[g129L1,hN];by_cases hk:k<a.length
  . obtain⟨x,ex,hx,dx⟩:=ha.get' k;obtain⟨y,ey,hy,dy⟩:=ha.get' (k+1);have c2: ∀y:Int,out.length+([y]:LI).length<=1073741824:=λy=>by show out.length+1<=_;omega
    have ws:wI ((k:Int)+1)=((k+1:Nat):Int):=wsucc O;have w1:wJ (x:Int)=(x:Int):=w64n O;have w2:wJ (y:Int)=(y:Int):=w64n O;have q:=qkq hx hy hp
    have step: ∀l2:Bool,∃out',g129L1 m n a (N:Int) l2 (out++[(((x+4294967296*y)/2^p%4294967296:Nat):Int)]) (p:Int) ((k+1:Nat):Int)=some (.inl (l2,out',()))/\Lm out'/\out'.length<=out.length+(a.length-k)/\vl out'=vl out+4294967296^out.length*(vl (a.drop k)/2^p):=by
     intro l2;obtain⟨out',g1,g2,g3,g4⟩:=ih (k+1) l2 (out++[(((x+4294967296*y)/2^p%4294967296:Nat):Int)]) O O O (Jj ho O) (by simp;omega)
     rw[iN' O]at g1;refine⟨out',g1,g2,by simp at g3;omega,?_⟩
     rw[g4,Jm,zi,zQ1];have hs:=qjl (y:=y) (R:=vl (a.drop (k+1+1))) hp hx;rw[<-dy,<-dx]at hs;rw[<-hs,zC,zH1,zO];rfl
    have m32:=mask32 hx hp
    have hb:(((x%2^p:Nat):Int) !=0)=decide (x%2^p≠0):=by
     by_cases e:x%2^p=0
     . rw[e];rfl
     . rw[show decide (x%2^p≠0)=true by simpa using e,bne_iff_ne];omega
    rw[bQ,iP O,iP O,bQ,tN,ex,w1,ws,tN,bif_eq];by_cases kw:k=w
    . have hex:(a.getD w 0).toNat=x:=by rw[<-kw,ex,tN]
      rw[iP kw,hex];by_cases k1:k+1<a.length
      . rw[iP O,iP O,iP O,iP O,iP O,m32,hb,ey,w2,q];by_cases e:x%2^p=0
        . rw[show decide (x%2^p≠0)=false by simpa using e,cond_false,iP O,iP (c2 _),zI4]
          exact step lost
        . rw[show decide (x%2^p≠0)=true by simpa using e,cond_true,iP O,iP (c2 _),zU3]
          exact step true
      . have y0:y=0:=by rw[Yn O]at ey;omega
        have q0:wK (shr_ .u64 (x:Int) (p:Int))=(((x+4294967296*y)/2^p%4294967296:Nat):Int):=by
         rw[shr64 O,w32,y0,zX,zL]
        rw[iN' O,bif_eq,iP O,iP O,iP O,m32,hb,q0];by_cases e:x%2^p=0
        . rw[show decide (x%2^p≠0)=false by simpa using e,cond_false,iP O,iP (c2 _),zI4]
          exact step lost
        . rw[show decide (x%2^p≠0)=true by simpa using e,cond_true,iP O,iP (c2 _),zU3]
          exact step true
    . rw[iN' kw];by_cases k1:k+1<a.length
      . rw[iP O,iP O,iN' O,iP O,ey,w2,q,iP (c2 _)];exact step lost
      . have y0:y=0:=by rw[Yn O]at ey;omega
        have q0:wK (shr_ .u64 (x:Int) (p:Int))=(((x+4294967296*y)/2^p%4294967296:Nat):Int):=by
         rw[shr64 O,w32,y0,zX,zL]
        rw[iN' O,bif_eq,iN' O,iP O,q0,iP (c2 _)];exact step lost
  . rw[bQ,iN' O];refine⟨out,?_,ho,O,?_⟩
    . by_cases kw:k=w
      . rw[iP kw,Yn O];simp
      . rw[iN' kw]
    . rw[qo O,zB4];simp
def qen {m:Nat} (hm:3000000<m) {a:LI} (ha:Lm a) (hl:a.length<=1000000) {n:Nat} (hn:n<=10000000):
 ∃r,g129 m a (n:Int)=some ((r,decide (vl a%2^n≠0),()),(),(),())/\Lm r/\r.length<=a.length/\vl r=vl a/2^n:=by
 have w0:wI (Int.tdiv (n:Int) 32)=((n/32:Nat):Int):=by rw[qcn,wQ,wi O O]
 have e0:=qq4 m (N:=n) (w:=n/32) ha hl O w0 m 0 O O;rw[zz2,nZ]at e0;obtain⟨r,e1,h1,h2,h3⟩:=qpj m (N:=n) (w:=n/32) (p:=n%32) ha hl O O w0 m (n/32) (decide (vl (a.take (n/32))≠0)) [] O O O (λx hx=>by cases hx) (by simp)
 rw[iP rfl]at e1;have hpw:2^n=4294967296^(n/32)*2^(n%32):=by rw[pow32,show 32*(n/32)+n%32=n by omega]
 have hT:0<2^(n%32):=zC1 O;have hP:0<4294967296^(n/32):=zC1 O;obtain⟨x,ex,hx,dx⟩:=ha.get' (n/32)
 have key:vl a/2^n=vl (a.drop (n/32))/2^(n%32)/\vl a%2^n=vl (a.take (n/32))+4294967296^(n/32)*(x%2^(n%32)):=by
  have hB:(4294967296:Nat)=2^(n%32)*2^(32-n%32):=by rw[<-Nat.pow_add,show n%32+(32-n%32)=32 by omega]
  have hxm:(x+4294967296*vl (a.drop (n/32+1)))%2^(n%32)=x%2^(n%32):=by
   conv=>lhs;rw[hB,zO,zF2]
  by_cases hw:n/32<=a.length
  . have hL:=vl_lt (l:=a.take (n/32)) λy hy=>ha y (zJ1 hy)
    rw[zf,show min (n/32) a.length=n/32 by omega]at hL
    have hv:=Z4 (l:=a) (k:=n/32) hw;constructor
    . conv=>lhs;rw[hv,hpw]
      exact qby hL
    . conv=>lhs;rw[hv,hpw]
      rw[qcb hL hT,dx,hxm]
  . have hL:=vl_lt ha;have h2:4294967296^a.length<=4294967296^(n/32):=zq O O;have h3:4294967296^(n/32)*1<=4294967296^(n/32)*2^(n%32):=zT _ hT;have hlt:vl a<2^n:=by rw[hpw];omega
    have x0:x=0:=by rw[Yn O]at ex;omega
    rw[zx1 hlt,zu hlt,qo O,zg1 O,x0];simp
 refine⟨r,?_,h1,by simp at h2;omega,?_⟩
 . rw[g129];rw[show(decide (vl []≠0))=false from rfl]at e0
   rw[e0,bS];dsimp only;rw[qd0,w0,e1,bS];dsimp only;rw[ex,tN,key.2];congr 3;by_cases e:vl (a.take (n/32))=0
   . rw[e];by_cases e2:x%2^(n%32)=0
     . rw[e2];simp
     . have:=zp3 hP (zM2 e2);rw[show decide (x%2^(n%32)≠0)=true by simpa using e2,show decide (0+4294967296^(n/32)*(x%2^(n%32))≠0)=true by rw[decide_eq_true_eq];omega]
       simp
   . rw[show decide (vl (a.take (n/32))≠0)=true by simpa using e,show decide (vl (a.take (n/32))+4294967296^(n/32)*(x%2^(n%32))≠0)=true by rw[decide_eq_true_eq];omega]
     simp
 . rw[h3,key.1];simp[vl]
def qfl {m:Nat} (hm:3000000<m) {neg:Bool} {l:LI} (h:Sz l) {n:Nat} (hn:n<=10000000):g171 m neg l (n:Int)=some (decide (vl l%2^n≠0),(),(),()):=by
 obtain⟨r,e,_,_,_⟩:=qen hm (Q7 (vl l)) h.lim hn;rw[g171,Yf h.1 (by have:=h.2;omega) (by have:=h.2;omega),bS]
 dsimp only;rw[e,bS,qw]
def q1q {m:Nat} (hm:2000000<m) {neg:Bool} {l:LI} (h:Sz l):g130 m neg l=some (((blen (vl l):Nat):Int),(),()):=by
 rw[g130,Yf h.1 (by have:=h.2;omega) (by have:=h.2;omega),bS,bif_eq]
 dsimp only;have hl:=h.lim;by_cases e:vl l=0
 . rw[e,iP (q0l.2 rfl)];rfl
 . obtain⟨k,x,y,h1,h2,h3,h4,h5,h6⟩:=qg6 e;have w1:wI (((lim (vl l)).length:Int)-1)=(k:Int):=by rw[wQ,wi O O];omega
   have w2:wI (32*(k:Int))=((32*k:Nat):Int):=by rw[wQ,wi O O];omega
   have hb:blen x<=32:=by
    have:x.log2<32:=(zB3 h4).2 h3;rw[Qq h4];omega
   have w3:wI (((32*k:Nat):Int)+((blen x:Nat):Int))=((32*k+blen x:Nat):Int):=by rw[wQ,wi O O];omega
   rw[iN' (λh=>e (q0l.1 h)),w1,iP O,tN,zF,h2,q5m h3,bS]
   dsimp only;rw[w2,w3,<-Ju h4 h5,<-h6]
def qni (m:Nat) {l:LI} (hl:Lm l) (hlen:l.length<=1000000): ∀(n k:Nat),l.length-k<n->k<=l.length->vl (l.drop k)≠0->
 g135L0 m n l (k:Int)=some (.inl (((32*k+tz (vl (l.drop k)):Nat):Int),()))
 |0,k,h,_,_=>O
 |n+1,k,h,hk0,hv=>by
  rw[g135L0];by_cases hk:k<l.length
  . obtain⟨x,ex,hx⟩:=hl.get hk;have hd:=X4 hk;rw[ex,tN]at hd;rw[bQ,iP O,iP O,tN,zF,ex,bif_ne];by_cases e:x=0
    . subst e;rw[iP (by rfl),show wI ((k:Int)+1)=((k+1:Nat):Int)from wsucc O,qni m hl hlen n (k+1) O O O]
      have hb:(4294967296:Nat)=2^32:=by decide
      have:tz (vl (l.drop k))=32+tz (vl (l.drop (k+1))):=by
       rw[hd,zF,hb,qal O]
      rw[this];congr 4;omega
    . have h2:=(q9n e hx).2;have w2:wI (32*(k:Int))=((32*k:Nat):Int):=by rw[wQ,wi O O];omega
      have w3:wI (((32*k:Nat):Int)+((tz x:Nat):Int))=((32*k+tz x:Nat):Int):=by rw[wQ,wi O O];omega
      rw[iN' O,iP O,qky e hx,bS];dsimp only;rw[w2,w3,hd,qk2 e hx]
  . exact absurd (qo O) hv
def Yv {m:Nat} (hm:2000000<m) {neg:Bool} {l:LI} (h:Sz l):g135 m neg l=some (((tz (vl l):Nat):Int),(),()):=by
 have hl:=h.lim;rw[g135,Yf h.1 (by have:=h.2;omega) (by have:=h.2;omega),bS]
 dsimp only;by_cases e:vl l=0
 . obtain⟨m',rfl⟩: ∃m',m=m'+1:=⟨m-1,O⟩;rw[e,Q8,g135L0,bQ,iN' (by simp),bS,qea];rfl
 . have:=qni m (Q7 (vl l)) hl m 0 O O (by rw[zT1,qw];exact e)
   rw[nZ,zT1,zX,zF,qw]at this;rw[this,bS]
def qb5 {m:Nat} (hm:3000000<m) {neg:Bool} {l:LI} (h:Lm l) (hl:l.length<=500000) {n:Nat} (hn:n<=1048576):g80 m neg l (n:Int)=some (zB (zv neg l*2^n),(),(),()):=by
 have b:=Qy h;have hS:Sz l:=⟨h,O⟩;have hz:(lim (zv neg l).natAbs).length<=500000:=by rw[Z9];omega
 obtain⟨r,e,h1,h2,h3⟩:=qp7 hm (Q7 (zv neg l).natAbs) hz (n:=n) O;rw[g80,q3b O hS,bS,bQ,iP O];dsimp only;show(Option.bind (g128 m (lim (zv neg l).natAbs) _) _)=_;rw[e,bS];dsimp only;rw[Xr O h1 O,bS]
 have:zv (zB (zv neg l)).1 r=zv neg l*2^n:=by
  show zv (decide (zv neg l<0)) r=_
  rw[qw]at h3;unfold zv;rw[h3,zR1,zY1];show(if decide (zv neg l<0)=true then-(((zv neg l).natAbs:Int)*2^n)else(((zv neg l).natAbs:Int)*2^n))=zv neg l*2^n
  by_cases c:zv neg l<0
  . rw[iP (by simpa using c),<-Int.neg_mul,show-((zv neg l).natAbs:Int)=zv neg l by omega]
  . rw[iN' (by simpa using c),show((zv neg l).natAbs:Int)=zv neg l by omega]
 rw[this]
def qe1 {m:Nat} (hm:3000000<m) {neg:Bool} {l:LI} (h:Lm l) (hl:l.length<=500000) {n:Nat} (h0:0<n) (hn:n<=10000000):g80 m neg l (-(n:Int))=some (zB (zv neg l/((2^n:Nat):Int)),(),(),()):=by
 have b:=Qy h;have hS:Sz l:=⟨h,O⟩;have hz:(lim (zv neg l).natAbs).length<=500000:=by rw[Z9];omega
 have hT:0<2^n:=zC1 O;have w:wI (0- -(n:Int))=(n:Int):=by rw[wQ,wi O O];omega
 obtain⟨r,e,h1,h2,h3⟩:=qen hm (Q7 (zv neg l).natAbs) O (n:=n) O;rw[g80,q3b O hS,bS,bQ,iN' O,w];dsimp only;show(Option.bind (g129 m (lim (zv neg l).natAbs) _) _)=_;rw[e,bS];dsimp only;rw[qw]at h3;rw[qw,Xr O h1 O,bS];dsimp only;show(bif decide (zv neg l<0)then _ else _)=_
 rw[bQ];generalize 2^n=T at*;by_cases c:zv neg l<0
 . rw[iP c]
   have hv:zv (zB (zv neg l)).1 r= -((((zv neg l).natAbs/T:Nat)):Int):=by
    have hz: ∀b l,zv b l=if b then-(vl l:Int)else(vl l:Int):=λ_ _=>rfl
    show zv (decide (zv neg l<0)) r=_
    rw[hz (decide _) r,iP (by simpa using c),h3]
   have ev:=qav (v:=(zv neg l).natAbs) hT;rw[show-((zv neg l).natAbs:Int)=zv neg l by omega]at ev
   have hlen:zlen (-((((zv neg l).natAbs/T:Nat)):Int))<=1000000:=by
    unfold zlen;rw[zm1,zV];have:=q66 (v:=(zv neg l).natAbs) (T:=T);omega
   rw[hv];by_cases d:(zv neg l).natAbs%T=0
   . rw[iN' O]at ev;rw[show decide ((zv neg l).natAbs%T≠0)=false by simpa using d,cond_false,ev]
   . rw[iP d]at ev;have s1:Sz (zB 1).2.1:=⟨Lm_zB 1,by have:=q14 (z:=1) (k:=1) (by decide);omega⟩
     rw[show decide ((zv neg l).natAbs%T≠0)=true by simpa using d,cond_true,q2l O O O,bS]
     dsimp only;rw[qdy O (Sz_zB hlen) s1,zv_zB,zv_zB,bS,ev,show-((((zv neg l).natAbs/T+1:Nat)):Int)= -((((zv neg l).natAbs/T:Nat)):Int)-1 by omega]
 . rw[iN' c]
   have hv:zv (zB (zv neg l)).1 r=zv neg l/(T:Int):=by
    have hz: ∀b l,zv b l=if b then-(vl l:Int)else(vl l:Int):=λ_ _=>rfl
    show zv (decide (zv neg l<0)) r=_
    rw[hz (decide _) r,iN' (by simpa using c),h3,zR3]
    rw[show((zv neg l).natAbs:Int)=zv neg l by omega]
   rw[hv]
def q0p {m:Nat} (hm:3000000<m) {z:Int} (hz:blen z.natAbs<=1000000) {k:Int} (h0:0<=k) (hk:k<=1048576):g80 m (zB z).1 (zB z).2.1 k=some (zB (z*2^k.toNat),(),(),()):=by
 have hl:=q14 hz;obtain⟨n,rfl⟩: ∃n:Nat,k=(n:Int):=⟨k.toNat,O⟩;rw[qb5 hm (Lm_zB z) O O,zv_zB];rfl
def q9s {m:Nat} (hm:3000000<m) {z:Int} (hz:blen z.natAbs<=1000000) {k:Nat} (hk:k<=1048576):g136 m (zB z).1 (zB z).2.1 (k:Int)=some (zB (z/2^k),(),(),()):=by
 have hl:=q14 hz;obtain⟨m',rfl⟩: ∃m',m=m'+1:=⟨m-1,O⟩;rw[g136,g136L0,bQ,iN' O,bS];dsimp only;by_cases h0:k=0
 . subst h0;rw[show wI (0-((0:Nat):Int))=((0:Nat):Int)from by decide,qb5 hm (Lm_zB z) O O,bS,zv_zB]
   dsimp only;rw[show z*2^0=z/2^0 by rw[Int.pow_zero,zq3,Int.ediv_one]]
 . rw[show wI (0-(k:Int))= -(k:Int) by rw[wQ,wi O O];omega,qe1 hm (Lm_zB z) O O O,bS,zv_zB,zY1]
   rfl
def q2h {v k:Nat}:(v:Int)/2^k=((v/2^k:Nat):Int):=by rw[zR3,zY1];rfl
def qab {m:Nat} (hm:3000000<m) {n:Bool} {l:LI} (h:Lm l) (hl:l.length<=28000) {e:Int} (h1: -1000000000<=e) (h2:e<=1000000000):g84 m n l e=some (mkD (zv n l) e,(),(),()):=by
 have hz:blen (zv n l).natAbs<=900000:=by
  rw[Z9];have:=qgj (Qy h);omega
 have hS:Sz l:=⟨h,O⟩;have hSz:Sz (zB (zv n l)).2.1:=SzB O;rw[g84,q3b O hS,bS,bif_eq];dsimp only
 have hnil:(((zB (zv n l)).2.1.length:Nat):Int)=0↔zv n l=0:=by
  show(((lim (zv n l).natAbs).length:Nat):Int)=0↔_
  rw[q0l];omega
 have hvl:vl (zB (zv n l)).2.1=(zv n l).natAbs:=qw _
 have hneg:zv n l≠0->decide (zv n l<0)=n:=by
  intro h;unfold zv at*;cases n
  . simp
  . simp at h⊢;omega
 generalize zv n l=z at*
 by_cases c:z=0
 . rw[iP (hnil.2 c),c];rfl
 . have hn:z.natAbs≠0:=O;have hb:1<=blen z.natAbs:=by rw[Qq hn];omega
   rw[iN' (λh=>c (hnil.1 h)),bQ]
   by_cases c1:e>65536
   . rw[iP c1,q4e (λh=>by rcases Ym.1 h with h|h<;>omega)];rfl
   . have ht:=q26 (n:=z.natAbs);have hbt:=qe3 hn;rw[iN' c1,Yv O hSz,bS,hvl,q4f O hSz,zv_zB,bS];dsimp only;rw[q9s hm (by rw[zV];omega) O,bS,q2h]
     dsimp only;have bd:blen (z.natAbs/2^tz z.natAbs)<=900000:=zK q3d hz;rw[q1q O (SzN O),bS];dsimp only;rw[show vl (zB ((z.natAbs/2^tz z.natAbs:Nat):Int)).2.1=z.natAbs/2^tz z.natAbs by rw[Y4];exact qw _]
     rw[show wI (e+((tz z.natAbs:Nat):Int))=e+((tz z.natAbs:Nat):Int) by rw[wQ,wi O O],
      show wI (e+((tz z.natAbs:Nat):Int)+((blen (z.natAbs/2^tz z.natAbs):Nat):Int))=e+((tz z.natAbs:Nat):Int)+((blen (z.natAbs/2^tz z.natAbs):Nat):Int) by rw[wQ,wi O O],
      bQ,bQ]
     by_cases hk:OkD z e
     . rcases Ym.1 hk with h0|⟨k1,k2⟩
       . exact absurd h0 c
       . rw[iN' O,iN' O];unfold mkD;rw[iN' c,iN' O,hneg c,Y4]
     . have hk2: ¬(e+(blen z.natAbs:Int)<=65536/\ -65536<=e+(tz z.natAbs:Int)):=λc=>hk (Ym.2 (Or.inr c))
       rw[q4e hk];by_cases d:e+((tz z.natAbs:Nat):Int)< -65536
       . rw[iP d];rfl
       . rw[iN' d,iP O];rfl
def q2y {m:Nat} (hm:3000000<m) {z:Int} (hz:blen z.natAbs<=800000) {e:Int} (h1: -1000000000<=e) (h2:e<=1000000000):g84 m (zB z).1 (zB z).2.1 e=some (mkD z e,(),(),()):=by
 have:=q14 hz;rw[qab hm (Lm_zB z) O h1 h2,zv_zB]
def X0 {m:Nat} (hm:3000000<m) {z e:Int}:g68 m (mkD z e).1 (mkD z e).2.1 (mkD z e).2.2.1 (mkD z e).2.2.2.1=some (mkD z e,(),()):=by
 by_cases h:OkD z e
 . obtain⟨w,f,k⟩:=h.nf;rw[k.md,g68,cond_false];dsimp only;have:=q2y hm (z:=w) (by have:=k.len;omega) (e:=f) (by have:=k.lo;omega) (by have:=k.hi;omega)
   rw[zB_1,zB_2]at this;rw[this,k.eq.mk,k.md];rfl
 . rw[q4e h];rfl
def qnn {m:Nat} (neg:Bool) (half:Int) (odd:Bool) (mode:Int):g172 m neg half odd mode=some (upB neg half odd mode,(),(),(),(),()):=by
 rw[g172,bif_eq,bif_eq,bif_eq,bQ,bif_eq];unfold upB;by_cases m1:mode=1
 . rw[iP m1,iP m1]
 . by_cases m2:mode=2
   . rw[iN' m1,iN' m1,iP m2,iP m2]
   . by_cases m3:mode=3
     . rw[iN' m1,iN' m1,iN' m2,iN' m2,iP m3,iP m3]
     . rw[iN' m1,iN' m1,iN' m2,iN' m2,iN' m3,iN' m3];by_cases c:half>0
       . rw[iP c,show decide (0<half)=true by simpa using c];rfl
       . rw[iN' c,show decide (0<half)=false by simpa using c]
         by_cases d:half=0
         . rw[iP d,decide_eq_true d];simp
         . rw[iN' d,decide_eq_false d];simp
def qmz {a b H:Nat} (hb:b<2) (ha:a<H):(b=1↔ ¬2*(a+H*b)<2*H)/\(b=1->(a=0↔2*(a+H*b)=2*H)):=by
 have:b=0\/b=1:=O;rcases this with rfl|rfl
 . simp only[zX];exact⟨⟨λh=>O,λh=>O⟩,λh=>O⟩
 . simp only[zP1];exact⟨⟨λh=>O,λh=>by trivial⟩,λ_=>⟨λh=>O,λh=>O⟩⟩
def qcd {v n:Nat} {more:Bool} (h: ¬2*(v%2^n)<2^n) (h2: ¬(2*(v%2^n)=2^n/\more=false)):halfC v n more=1:=by unfold halfC;rw[iN' h,iN' h2]
def qi6 {v n:Nat} (h: ¬2*(v%2^n)<2^n) (h2:2*(v%2^n)=2^n):halfC v n false=0:=by unfold halfC;rw[iN' h,iP ⟨h2,rfl⟩]
def qpv {m:Nat} (hm:3000000<m) (neg:Bool) {v:Nat} (hb:blen v<=300000) (more:Bool) {k:Nat} (mode:Int) (hk:k<=500000):
 g132 m neg (zB (v:Int)).1 (zB (v:Int)).2.1 (k:Int) more mode=some (zB ((cutN neg v k more mode:Nat):Int),(),(),(),(),(),()):=by
 have hS:Sz (zB (v:Int)).2.1:=SzN O;have hvl:vl (zB (v:Int)).2.1=v:=by rw[Y4];exact qw v
 have bd:blen (v/2^k)<=300000:=zK q3d hb;have hS0:=SzN (v:=v/2^k) O;have hvl0:vl (zB ((v/2^k:Nat):Int)).2.1=v/2^k:=by rw[Y4];exact qw _
 have h1S:Sz (zB 1).2.1:=SzB (by decide)
 have add1:((g123 m 1).bind λy9=>(g163 m (zB ((v/2^k:Nat):Int)).1 (zB ((v/2^k:Nat):Int)).2.1 y9.1.1 y9.1.2.1).bind λy10=>
  (some ((y10.1.1,y10.1.2.1,()),((),(),(),(),(),())):Option ((Bool×LI×Unit)×Unit×Unit×Unit×Unit×Unit×Unit)))=some (zB ((v/2^k+1:Nat):Int),((),(),(),(),(),())):=by
  rw[q2l O O O,bS];dsimp only;rw[qe8 O hS0 h1S,zv_zB,zv_zB];rfl
 have hr:zB ((v/2^k+0:Nat):Int)=zB ((v/2^k:Nat):Int):=rfl
 have fin: ∀h:Int,((g69 m (zB ((v/2^k:Nat):Int)).1 (zB ((v/2^k:Nat):Int)).2.1).bind λy6=>
  bif y6.1 !=0 then
   (g135 m (zB ((v/2^k:Nat):Int)).1 (zB ((v/2^k:Nat):Int)).2.1).bind λy7=>
   (g172 m neg h (y7.1==0) mode).bind λy8=>
   bif y8.1 then
    (g123 m 1).bind λy9=>
    (g163 m (zB ((v/2^k:Nat):Int)).1 (zB ((v/2^k:Nat):Int)).2.1 y9.1.1 y9.1.2.1).bind λy10=>
    (some ((y10.1.1,y10.1.2.1,()),((),(),(),(),(),())):Option ((Bool×LI×Unit)×Unit×Unit×Unit×Unit×Unit×Unit))
   else
    some (((zB ((v/2^k:Nat):Int)).1,(zB ((v/2^k:Nat):Int)).2.1,()),((),(),(),(),(),()))
  else
   (g172 m neg h false mode).bind λy11=>
   bif y11.1 then
    (g123 m 1).bind λy12=>
    (g163 m (zB ((v/2^k:Nat):Int)).1 (zB ((v/2^k:Nat):Int)).2.1 y12.1.1 y12.1.2.1).bind λy13=>
    some ((y13.1.1,y13.1.2.1,()),((),(),(),(),(),()))
   else
    some (((zB ((v/2^k:Nat):Int)).1,(zB ((v/2^k:Nat):Int)).2.1,()),((),(),(),(),(),())))=
  some (zB ((v/2^k+(if upB neg h (v/2^k%2==1) mode then 1 else 0):Nat):Int),((),(),(),(),(),())):=by
  intro h;rw[Yx O hS0,bS,zv_zB,bif_ne,add1,Yv O hS0,hvl0];dsimp only;by_cases z:v/2^k=0
  . rw[iP (by rw[Qm];omega),qnn,bS,z]
    dsimp only;rw[show(0%2==1)=false from rfl]
    cases upB neg h false mode<;>rfl
  . rw[iN' (by rw[Qm];omega),bS]
    dsimp only;rw[qnn,bS]
    have:(((tz (v/2^k):Nat):Int)==0)=(v/2^k%2==1):=by
     by_cases o:v/2^k%2=1
     . rw[(q4m z).2 o,show(v/2^k%2==1)=true by simpa using o];rfl
     . rw[show(v/2^k%2==1)=false by simpa using o]
       have:=mt (q4m z).1 o;simp;omega
    rw[this];cases upB neg h (v/2^k%2==1) mode<;>rfl
 have hpk:0<k->2^k=2*2^(k-1):=λh=>by
  have:2^(k-1+1)=2*2^(k-1):=by rw[zh,zW]
  rwa [show k-1+1=k by omega]at this
 have half:0<k->(v/2^(k-1)%2=1↔ ¬2*(v%2^k)<2^k)/\(v/2^(k-1)%2=1->(v%2^(k-1)=0↔2*(v%2^k)=2^k)):=by
  intro h0;have hp:=hpk h0;have hP:0<2^(k-1):=zC1 O
  have e1:v%2^k=v%2^(k-1)+2^(k-1)*(v/2^(k-1)%2):=by
   rw[hp,zW 2,Nat.mod_mul]
  have e2:=zV1 v hP;rw[e1,hp];exact qmz (zV1 _ O) e2
 have b1:blen (v/2^(k-1))<=300000:=zK q3d hb;have hS1:=SzN (v:=v/2^(k-1)) O;have hvl1:vl (zB ((v/2^(k-1):Nat):Int)).2.1=v/2^(k-1):=by rw[Y4];exact qw _
 have w1:0<k->wI ((k:Int)-1)=((k-1:Nat):Int):=λh=>by rw[wQ,wi O O];omega
 rw[g132,q9s hm (by rw[zV];omega) O,bS,q2h]
 dsimp only;rw[qfl hm hS O,bS,hvl];dsimp only;simp only[fin];unfold cutN
 have tail: ¬(v%2^k=0/\more=false)->(bif decide ((k:Int)>0)then
       (g136 m (zB (v:Int)).1 (zB (v:Int)).2.1 (wI ((k:Int)-1))).bind λy3=>
       (g135 m y3.1.1 y3.1.2.1).bind λy4=>
       bif y4.1==0 then
        (g69 m y3.1.1 y3.1.2.1).bind λy5=>
        bif y5.1 !=0 then
         bif more then
          (some (zB ((v/2^k+(if upB neg 1 (v/2^k%2==1) mode then 1 else 0):Nat):Int),((),(),(),(),(),())):Option ((Bool×LI×Unit)×Unit×Unit×Unit×Unit×Unit×Unit))
         else
          (g171 m (zB (v:Int)).1 (zB (v:Int)).2.1 (wI ((k:Int)-1))).bind λy14=>
          bif y14.1 then
           some (zB ((v/2^k+(if upB neg 1 (v/2^k%2==1) mode then 1 else 0):Nat):Int),((),(),(),(),(),()))
          else
           some (zB ((v/2^k+(if upB neg 0 (v/2^k%2==1) mode then 1 else 0):Nat):Int),((),(),(),(),(),()))
        else
         some (zB ((v/2^k+(if upB neg (-1) (v/2^k%2==1) mode then 1 else 0):Nat):Int),((),(),(),(),(),()))
       else
        some (zB ((v/2^k+(if upB neg (-1) (v/2^k%2==1) mode then 1 else 0):Nat):Int),((),(),(),(),(),()))
  else
   some (zB ((v/2^k+(if upB neg (-1) (v/2^k%2==1) mode then 1 else 0):Nat):Int),((),(),(),(),(),())))=
  some (zB ((v/2^k+(if upB neg (halfC v k more) (v/2^k%2==1) mode then 1 else 0):Nat):Int),((),(),(),(),(),())):=by
  intro hne;rw[bQ];by_cases h0:0<k
  . obtain⟨q1,q2⟩:=half h0;rw[iP O,w1 h0,q9s hm (by rw[zV];omega) O,bS,q2h]
    dsimp only;rw[Yv O hS1,bS,hvl1,bif_eq,Yx O hS1,zv_zB];dsimp only;rw[bS,bif_ne];dsimp only;by_cases c:v/2^(k-1)%2=1
    . have z1:v/2^(k-1)≠0:=by intro h;rw[h]at c;omega
      rw[iP (by rw[(q4m z1).2 c];rfl),iN' (by rw[Qm];omega)]
      cases more with
      |true=>rw[cond_true,qcd (q1.1 c) (λh=>by cases h.2)]
      |false=>
       rw[cond_false,qfl hm hS O,bS,hvl];dsimp only;by_cases d:v%2^(k-1)=0
       . rw[show decide (v%2^(k-1)≠0)=false by simpa using d,cond_false,qi6 (q1.1 c) ((q2 c).1 d)]
       . rw[show decide (v%2^(k-1)≠0)=true by simpa using d,cond_true,qcd (q1.1 c) (λh=>d ((q2 c).2 h.1))]
    . rw[q46 (zj3.1 (mt q1.2 c))];by_cases z1:v/2^(k-1)=0
      . rw[z1,qea,iP (show((0:Nat):Int)=0 from rfl),iP (show sgn ((0:Nat):Int)=0 from rfl)]
      . rw[iN' (by have:=mt (q4m z1).1 c;omega)]
  . have k0:k=0:=O;subst k0;rw[iN' O,q46 (by rw[za2,Nat.mod_one];omega)]
 by_cases hl:v%2^k=0
 . rw[show decide (v%2^k≠0)=false by simpa using hl,zf1,cond_true]
   cases more with
   |false=>rw[zf1,cond_true,iP ⟨hl,rfl⟩]
   |true=>
    rw[zG1,cond_false,iN' (show¬(v%2^k=0/\true=false)from λh=>by cases h.2)]
    exact tail (λh=>by cases h.2)
 . rw[show decide (v%2^k≠0)=true by simpa using hl,zG1,cond_false,iN' (show¬(v%2^k=0/\more=false)from λh=>hl h.1)]
   exact tail (λh=>hl h.1)
def qm7 {m:Nat} (hm:3000000<m) {a B w f:Int} (k:NF a B w f):g84 m (zB w).1 (zB w).2.1 f=some (mkD a B,(),(),()):=by
 rw[q2y hm (by have:=k.len;omega) (by have:=k.lo;omega) (by have:=k.hi;omega),k.eq.mk]
def qco {m:Nat} (hm:3000000<m) {z e:Int} (h:OkD z e):g69 m (mkD z e).2.1 (mkD z e).2.2.1=some (sgn z,(),()):=by
 obtain⟨w,f,k,k1,k2,k3⟩:=Xe h;rw[k1,k2,Yx O k.Sz,zv_zB,k.sgn]
def qn2 {m:Nat} (hm:3000000<m) {z e:Int}:g116 m (mkD z e).1 (mkD z e).2.1 (mkD z e).2.2.1 (mkD z e).2.2.2.1=some (mkD (-z) e,(),()):=by
 rw[g116,X0 hm,bS];dsimp only;by_cases h:OkD z e
 . obtain⟨w,f,k,k1,k2,k3⟩:=Xe h;have h1:(mkD z e).1=false:=h;rw[h1,cond_false,k1,k2,k3,qdx O k.Sz,zv_zB,bS];dsimp only;rw[q2y hm (by rw[zm1];have:=k.len;omega) (by have:=k.lo;omega) (by have:=k.hi;omega),k.eq.neg.mk];rfl
 . rw[q1d (mt q69.1 h),q1d h];rfl
def qbe {m:Nat} (hm:3000000<m) {a B b C w f x h:Int} (k:NF a B w f) (l:NF b C x h) (b1 b2:Bool):
 ∃p q c,g118 m b1 (zB w).1 (zB w).2.1 f b2 (zB x).1 (zB x).2.1 h=some ((zB p,zB q,c,()),(),(),())/\EqD p c a B/\EqD q c b C/\blen p.natAbs<=300000/\blen q.natAbs<=300000/\ -65536<=c/\c<=65536:=by
 have hb1:=k.lo;have hb2:=k.hi;have hb3:=l.lo;have hb4:=l.hi;have hl1:=k.len;have hl2:=l.len;rw[g118,Yx O k.Sz,bS,zv_zB,Yx O l.Sz,zv_zB,bif_eq];dsimp only;by_cases c1:sgn w=0
 . have w0:w=0:=Qm.1 c1;rw[iP c1];refine⟨w,x,h,rfl,?_,l.eq,O,O,O,O⟩;subst w0;exact(EqD.zero h f).trans k.eq
 . rw[iN' c1,bS,bif_eq];dsimp only;by_cases c2:sgn x=0
   . have x0:x=0:=Qm.1 c2;rw[iP c2];refine⟨w,x,f,rfl,k.eq,?_,O,O,O,O⟩;subst x0;exact(EqD.zero f h).trans l.eq
   . rw[iN' c2,bQ];by_cases c3:f>h
     . have w1:wI (f-h)=f-h:=by rw[wQ,wi O O]
       have e1:w*2^(f-h).toNat=sc w f h:=rfl;rw[iP c3,w1,q0p hm O O O,bS,e1];exact⟨sc w f h,x,h,rfl,(EqD.sc O).trans k.eq,l.eq,sc_bd k O O,O,O,O⟩
     . have w1:wI (h-f)=h-f:=by rw[wQ,wi O O]
       have e1:x*2^(h-f).toNat=sc x h f:=rfl;rw[iN' c3,w1,q0p hm O O O,bS,e1];exact⟨w,sc x h f,f,rfl,k.eq,(EqD.sc O).trans l.eq,O,sc_bd l O O,O,O⟩
def qn0 {m:Nat} (hm:3000000<m) {a b B:Int}:
 g115 m (mkD a B).1 (mkD a B).2.1 (mkD a B).2.2.1 (mkD a B).2.2.2.1 (mkD b B).1 (mkD b B).2.1 (mkD b B).2.2.1 (mkD b B).2.2.2.1=some (if OkD a B/\OkD b B then mkD (a+b) B else badD,(),(),()):=by
 rw[g115,X0 hm,bS,X0 hm,bS];dsimp only;by_cases h1:OkD a B
 . by_cases h2:OkD b B
   . obtain⟨w,f,k,k1,k2,k3⟩:=Xe h1;obtain⟨x,g,l,l1,l2,l3⟩:=Xe h2;obtain⟨p,q,c,e1,e2,e3,e4,e5,e6,e7⟩:=qbe hm k l (mkD a B).1 (mkD b B).1;have i1:(mkD a B).1=false:=h1;have i2:(mkD b B).1=false:=h2;rw[iP ⟨h1,h2⟩,k1,k2,k3,l1,l2,l3,e1,i1,i2,cond_false,cond_false,bS];dsimp only;rw[qe8 O (SzB O) (SzB O),zv_zB,zv_zB,bS];dsimp only;rw[q2y hm (zK (q3p e4 e5) O) O O,(EqD.add (c:=0) (g:=0) e2 e3).mk];rfl
   . have i1:(mkD a B).1=false:=h1;rw[iN' (λh=>h2 h.2),i1,cond_false,q1d h2];rfl
 . rw[iN' (λh=>h1 h.1),q1d h1];rfl
def qgi {m:Nat} (hm:3000000<m) {a b B:Int}:
 g67 m (mkD a B).1 (mkD a B).2.1 (mkD a B).2.2.1 (mkD a B).2.2.2.1 (mkD b B).1 (mkD b B).2.1 (mkD b B).2.2.1 (mkD b B).2.2.2.1=some (if OkD a B/\OkD b B then mkD (a-b) B else badD,(),(),()):=by
 rw[g67,qn2 hm,bS];dsimp only;rw[qn0 hm,bS,<-Int.sub_eq_add_neg];simp only[q69]
def qbq {f:Int} (h:U64 f):qp .u64 (shr_ .u64 f 52) 2047=fexp f/\qp .u64 f 4503599627370495=ffrac f:=by
 have:=parts_eq (m:=0) h;rw[g103]at this;simp only[zS,Prod.mk.injEq,and_true]at this;have hl:=q4d f;refine⟨?_,this.2⟩;have h2:=qny (x:=shr_ .u64 f 52);have:=this.1
 rwa [wQ,wi O O]at this
def q5n {m:Nat} {f:Int} (h:U64 f):g23 m f=some (decide (FinF f),(),()):=by
 rw[g23,(qbq h).1];by_cases c:FinF f
 . rw[decide_eq_true c,show(fexp f !=2047)=true by simpa [FinF]using c]
 . rw[decide_eq_false c,show(fexp f !=2047)=false by simpa [FinF]using c]
def qj9 {m:Nat} {f:Int} (h:U64 f):g85 m f=some (fneg f,(),()):=by
 have:=q6t (m:=m) h
 rwa [g110]at this
def qo9 {m:Nat} (hm:3000000<m) {f:Int} (h:U64 f):g49 m f=some (ofD f,(),()):=by
 have h1:=q4d f;have h2:=q9m f;have hl:=qad f;have he:=q8g (f:=f)
 have run: ∀q:Int,0<=q->q<9007199254740992->ofZ f=(if fneg f then-1 else 1)*q-> ∀ex,ofE f=ex->
  g84 m (fneg f) [wK q,wK (shr_ .u64 q 32)] ex=some (mkD (ofZ f) (ofE f),(),(),()):=by
  intro q q1 q2 eq ex ee;obtain⟨u,rfl⟩: ∃u:Nat,q=(u:Int):=⟨q.toNat,O⟩;have e2:shr_ .u64 (u:Int) 32=((u/4294967296:Nat):Int):=shr64 (a:=u) (k:=32) O
  rw[e2,w32,w32,zu (show u/4294967296<4294967296 by omega),qab hm (by
   intro x hx;simp only[zU,zy,or_false]at hx;omega) (by simp) O O,<-ee]
  have:zv (fneg f) [((u%4294967296:Nat):Int),((u/4294967296:Nat):Int)]=ofZ f:=by
   have hv:vl [((u%4294967296:Nat):Int),((u/4294967296:Nat):Int)]=u:=by
    simp only[vl,tN];omega
   rw[zv,hv,eq];cases fneg f<;>simp
  rw[this]
 rw[g49,q5n h,bS,(qbq h).1,(qbq h).2];dsimp only;unfold ofD;by_cases c:FinF f
 . have w1:wI (fexp f)=fexp f:=by rw[wQ,wi O O]
   have w2:wI (fexp f-1075)=fexp f-1075:=by rw[wQ,wi O O]
   rw[decide_eq_true c,zG1,cond_false,iP c,bQ,w1,w2,qj9 h,qcv h2.1 h2.2,bS,bS];dsimp only;by_cases c0:fexp f=0
   . rw[iN' O,run _ h2.1 O (by unfold ofZ;rw[iP c0]) _ (by unfold ofE;rw[iP c0])];rfl
   . rw[iP O,run _ O O (by unfold ofZ;rw[iN' c0]) _ (by unfold ofE;rw[iN' c0])];rfl
 . rw[decide_eq_false c,zf1,cond_true,iN' c];rfl
end Go.Vs.F
