/-The document's integers:trimming,sign,negation. The document's integers:sums,differences,comparing. The document's integers:shifting. The document's dyads:Make,Norm;its rounding to a float. The document's dyads:Sign,Neg,Add,Sub,Cmp,Scale,over a common exponent. The document's rounding to a float and its reading of a float. -/
import Derived.Test.YtkbgfnhdfmmfcaaGreatDoorLc
set_option linter.unusedVariables false
set_option linter.unusedSimpArgs false
namespace Go.Vs.F
theorem qa5 (m:Nat) {l:LI} (hl:l.length<=1000000000): ∀(k n:Nat),k<n->k<=l.length->
 ∃j:Nat,g132L0 m n l (k:Int)=some (.inl (l,(j:Int),()))/\j<=k/\(∀i,j<=i->i<k->l.getD i 0=0)/\(j=0\/l.getD (j-1) 0≠0)
 |0,n,h,_=>by
  obtain⟨n,rfl⟩: ∃n',n=n'+1:=⟨n-1,O⟩;rw[g132L0,bQ,iN' O];exact⟨0,rfl,Nat.le_refl _,fun i a b=>O,.inl rfl⟩
 |k+1,n,h,hk=>by
  obtain⟨n,rfl⟩: ∃n',n=n'+1:=⟨n-1,O⟩;have w1:wI (((k+1:Nat):Int)-1)=(k:Int):=by rw[wQ,wi O O];omega
  rw[g132L0,bQ,iP O,w1,iP O,tN,bif_eq];by_cases e:l.getD k 0=0
  . rw[iP e];obtain⟨j,g1,g2,g3,g4⟩:=qa5 m hl k n O O;refine⟨j,g1,O,fun i a b=> ?_,g4⟩
    by_cases ei:i=k
    . subst ei;exact e
    . exact g3 i a O
  . rw[iN' e];exact⟨k+1,rfl,Nat.le_refl _,fun i a b=>O,.inr (by simpa using e)⟩
theorem qa1 (m:Nat) {l:LI} {j:Nat} (hj:j<=l.length) (hl:l.length<=1000000000): ∀(n k:Nat),j-k<n->k<=j->
 g132L1 m n l (j:Int) (l.take k) (k:Int)=some (.inl (l.take j,()))
 |0,k,h,_=>O
 |n+1,k,h,hk=>by
  rw[g132L1];by_cases e:k<j
  . rw[bQ,iP O,iP O,iP (by rw[List.length_take];show min k l.length+1<=_;omega),tN,show wI ((k:Int)+1)=((k+1:Nat):Int)from wsucc O]
    have:l.take k++[l.getD k 0]=l.take (k+1):=by
     rw[List.take_add_one,List.getD,List.getElem?_eq_getElem (show k<l.length by omega)];rfl
    rw[this];exact qa1 m hj hl n (k+1) O O
  . rw[bQ,iN' O,show k=j by omega]
theorem Zx {m:Nat} {l:LI} (h:Lm l) (hm:l.length<m) (hl:l.length<=1000000000):g132 m l=some (lim (vl l),(),()):=by
 obtain⟨j,e,h1,h2,h3⟩:=qa5 m hl l.length m hm (Nat.le_refl _);have e2:=qa1 m h1 hl m 0 O O;rw[List.take_zero,nZ]at e2;rw[g132,e,bS];dsimp only;rw[e2,bS];dsimp only
 have hv:vl (l.take j)=vl l:=by
  conv=>rhs;rw[<-List.take_append_drop j l,q7t]
  rw[q2k (l:=l.drop j)]
  . omega
  . intro x hx;obtain⟨i,hi,rfl⟩:=List.getElem_of_mem hx;simp only[List.length_drop]at hi;have:=h2 (j+i) O O;rw[List.getElem_drop];rw[List.getD,List.getElem?_eq_getElem O]at this;exact this
 rw[<-hv];congr 2;refine qdx (fun x hx=>h x (List.mem_of_mem_take hx)) fun hne=> ?_
 rcases h3 with h3|h3
 . subst h3;exact absurd (List.take_zero ..) hne
 . obtain⟨j,rfl⟩: ∃j',j=j'+1:=⟨j-1,by
    have:j≠0:=by rintro rfl;exact hne (List.take_zero ..)
    omega⟩
   rw[getLast_take O];simpa using h3
theorem Xc {m:Nat} (hm:2000000<m) {l:LI} (h:Lm l) (hl:l.length<=1000001) (neg:Bool):g130 m neg l=some (zB (zv neg l),(),(),()):=by
 rw[g130,Zx h O O,bS,zv,qfz];dsimp only[bigM]
 have e:decide (((lim (vl l)).length:Int)>0)=(vl l !=0):=by
  by_cases e:vl l=0
  . rw[e,Qd];rfl
  . have: ¬((lim (vl l)).length:Int)=0:=fun h=>e (q68.1 (List.length_eq_zero_iff.1 O))
    rw[show(vl l !=0)=true by simpa using e]
    simp only[decide_eq_true_eq];omega
 rw[e];cases neg<;>rfl
theorem q2r {m:Nat} (hm:2000000<m) {neg:Bool} {l:LI} (h:Sz l):g126 m neg l=some (zB (zv neg l),(),()):=by
 rw[g126,Xc hm h.1 (by have:=h.2;omega)];rfl
theorem qcd {m:Nat} (hm:2000000<m) {neg:Bool} {l:LI} (h:Sz l):g134 m neg l=some (zB (-zv neg l),(),()):=by
 rw[g134,Xc hm h.1 (by have:=h.2;omega),qfn];rfl
theorem qd0 {m:Nat} (hm:2000000<m) {neg:Bool} {l:LI} (h:Sz l):g66 m neg l=some (zB ((zv neg l).natAbs:Int),(),()):=by
 rw[g66,Xc hm h.1 (by have:=h.2;omega),Y2];rfl
theorem q0j {m:Nat} (hm:2000000<m) {neg:Bool} {l:LI} (h:Sz l):g69 m neg l=some (sgn (zv neg l),(),()):=by
 rw[g69,q2r hm h,bS,bif_eq];dsimp only;unfold sgn
 have e:(((zB (zv neg l)).2.1.length:Nat):Int)=0↔zv neg l=0:=by
  show(((lim (zv neg l).natAbs).length:Nat):Int)=0↔_
  rw[Zn];omega
 by_cases z:zv neg l=0
 . rw[iP (e.2 z),iN' O,iN' O]
 . rw[iN' (fun h=>z (e.1 h))]
   show(bif decide (zv neg l<0)then _ else _)=_
   rw[bQ];by_cases z2:zv neg l<0
   . rw[iP z2,iP z2]
   . rw[iN' z2,iN' z2,iP O]
theorem q3m {m:Nat} (hm:2000000<m) {n:Int} (h1: -9223372036854775808<=n) (h2:n<9223372036854775808):g72 m n=some (zB n,(),()):=by
 have lo: ∀u:Nat,u<18446744073709551616-> ∀neg:Bool,g130 m neg [wK (u:Int),wK (shr_ .u64 (u:Int) 32)]=some (zB (if neg then-(u:Int)else(u:Int)),(),(),()):=by
  intro u hu neg;have e2:shr_ .u64 (u:Int) 32=((u/4294967296:Nat):Int):=shr64 (a:=u) (k:=32) O;rw[w32,e2,w32,Nat.mod_eq_of_lt (show u/4294967296<4294967296 by omega),Xc hm,zv]
  . have:vl [((u%4294967296:Nat):Int),((u/4294967296:Nat):Int)]=u:=by
     simp only[vl,tN];omega
    rw[this]
  . intro x hx;simp only[List.mem_cons,List.not_mem_nil,or_false]at hx;omega
  . simp
 rw[g72,bQ];by_cases h:n<0
 . have w:wJ (wJ (wI (0-wI (n+1)))+1)=((n.natAbs:Nat):Int):=by
    rw[show wI (n+1)=n+1 by rw[wQ,wi O O],show wI (0-(n+1))=0-(n+1) by rw[wQ,wi O O],w64m,w64m];omega
   rw[iP h,w,lo _ O,bS,show decide (n<0)=true by simpa using h,iP rfl,show-(n.natAbs:Int)=n by omega]
 . have w:wJ n=((n.natAbs:Nat):Int):=by rw[w64m];omega
   rw[iN' h,w,lo _ O,bS,show decide (n<0)=false by simpa using h,iN' (by simp),show(n.natAbs:Int)=n by omega]
theorem Lm.get' {l:LI} (h:Lm l) (k:Nat): ∃x:Nat,l.getD k 0=(x:Int)/\x<4294967296/\vl (l.drop k)=x+4294967296*vl (l.drop (k+1)):=by
 by_cases hk:k<l.length
 . obtain⟨x,ex,hx⟩:=h.get hk;exact⟨x,ex,hx,by rw[Qp hk,ex,tN]⟩
 . exact⟨0,by rw[Xx O];rfl,O,by rw[qp O,qp O]⟩
theorem rmax {a b:Nat}:(if(b:Int)>(a:Int)then(b:Int)else(a:Int))=((max a b:Nat):Int):=by
 split<;>omega
theorem qhd (m:Nat) {a b:LI} (ha:Lm a) (hb:Lm b) (hl:max a.length b.length<=1000000): ∀(n k:Nat) (out:LI) (c:Nat),max a.length b.length-k<n->k<=max a.length b.length->Lm out->out.length=k->c<2->
 ∃out' c',g135L0 m n a b out (c:Int) (k:Int)=some (.inl (out',((c':Nat):Int),()))/\Lm out'/\out'.length=max a.length b.length/\c'<2/\
  vl out'+4294967296^(max a.length b.length)*c'=vl out+4294967296^k*(c+vl (a.drop k)+vl (b.drop k)):=by
 intro n;induction n with
 |zero=>intro k out c h;omega
 |succ n ih=>
  intro k out c h hk0 ho hol hc;rw[g135L0,rmax];by_cases hk:k<max a.length b.length
  . have h1:((k:Int)<((max a.length b.length:Nat):Int)):=O;obtain⟨x,ex,hx,dx⟩:=ha.get' k;obtain⟨y,ey,hy,dy⟩:=hb.get' k;have c2: ∀y:Int,out.length+([y]:LI).length<=1073741824:=fun y=>by show out.length+1<=_;omega
    have w1:wJ (x:Int)=(x:Int):=w64n O;have w3:wJ (y:Int)=(y:Int):=w64n O;have ws:wI ((k:Int)+1)=((k+1:Nat):Int):=wsucc O;have w2: ∀u v:Nat,u+v<18446744073709551616->wJ ((u:Int)+(v:Int))=((u+v:Nat):Int):=fun u v h=>by rw[show(u:Int)+(v:Int)=((u+v:Nat):Int) by omega,w64n h]
    have e2: ∀t:Nat,shr_ .u64 (t:Int) 32=((t/4294967296:Nat):Int):=fun t=>shr64 (a:=t) (k:=32) O
    have step: ∃out' c',g135L0 m n a b (out++[(((c+x+y)%4294967296:Nat):Int)]) (((c+x+y)/4294967296:Nat):Int) ((k+1:Nat):Int)=some (.inl (out',((c':Nat):Int),()))/\Lm out'/\out'.length=max a.length b.length/\c'<2/\
     vl out'+4294967296^(max a.length b.length)*c'=vl out+4294967296^k*(c+vl (a.drop k)+vl (b.drop k)):=by
     obtain⟨out',c',g1,g2,g3,g4,g5⟩:=ih (k+1) (out++[(((c+x+y)%4294967296:Nat):Int)]) ((c+x+y)/4294967296) O O (Zu ho O) (by simp[hol]) O
     refine⟨out',c',g1,g2,g3,g4,?_⟩
     have hp:4294967296^(k+1)*((c+x+y)/4294967296+vl (a.drop (k+1))+vl (b.drop (k+1)))=4294967296^k*(4294967296*((c+x+y)/4294967296+vl (a.drop (k+1))+vl (b.drop (k+1)))):=by
      rw[Nat.pow_succ,Nat.mul_assoc]
     rw[g5,Zi,hol,hp,Nat.add_assoc,<-Nat.mul_add,dx,dy];congr 2;omega
    rw[bQ,iP h1,bQ,bQ,tN,ex,ey,w1,w3,ws];by_cases ka:(k:Int)<(a.length:Int)
    . rw[iP ka,iP (show(0:Int)<=(k:Int)/\(k:Int)<(a.length:Int) by omega),w2 _ _ O]
      by_cases kb:(k:Int)<(b.length:Int)
      . rw[iP kb,iP (show(0:Int)<=(k:Int)/\(k:Int)<(b.length:Int) by omega),w2 _ _ O,w32,e2,iP (c2 _)]
        exact step
      . have y0:y=0:=by rw[Xx O]at ey;omega
        subst y0;rw[iN' kb,w32,e2,iP (c2 _)];exact step
    . have x0:x=0:=by rw[Xx O]at ex;omega
      subst x0;rw[iN' ka];by_cases kb:(k:Int)<(b.length:Int)
      . rw[bQ,iP kb,iP (show(0:Int)<=(k:Int)/\(k:Int)<(b.length:Int) by omega),w2 _ _ O,w32,e2,iP (c2 _)]
        exact step
      . omega
  . rw[bQ,iN' O];refine⟨out,c,rfl,ho,O,hc,?_⟩;rw[qp (l:=a) O,qp (l:=b) O,show k=max a.length b.length by omega]
    rfl
theorem qbl {m:Nat} (hm:2000000<m) {a b:LI} (ha:Lm a) (hb:Lm b) (hla:a.length<=1000000) (hlb:b.length<=1000000):
 ∃r,g135 m a b=some (r,(),(),())/\Lm r/\r.length=max a.length b.length+1/\vl r=vl a+vl b:=by
 obtain⟨out,c,e,h1,h2,h3,h4⟩:=qhd m ha hb O m 0 [] 0 O O (fun x hx=>by cases hx) rfl O
 rw[nZ]at e;have w:wK (c:Int)=(c:Int):=by rw[w32];congr 1;omega
 refine⟨out++[(c:Int)],?_,Zu h1 O,by simp[h2],?_⟩
 . rw[g135,e,bS];dsimp only;rw[w,iP (by rw[h2];show max a.length b.length+1<=_;omega)]
 . rw[Zi,h2,h4];simp[vl]
theorem q8t {x y c:Nat} (hx:x<4294967296) (hy:y<4294967296) (hc:c<2): ∃d e:Nat,d<4294967296/\e<2/\d+y+c=x+4294967296*e/\
 wK (wJ ((wJ ((x:Int)-(c:Int)))-(y:Int)))=(d:Int)/\shr_ .u64 (wJ ((wJ ((x:Int)-(c:Int)))-(y:Int))) 63=(e:Int):=by
 have key: ∀t:Nat,t<18446744073709551616->wJ ((wJ ((x:Int)-(c:Int)))-(y:Int))=(t:Int)->
  wK (wJ ((wJ ((x:Int)-(c:Int)))-(y:Int)))=((t%4294967296:Nat):Int)/\shr_ .u64 (wJ ((wJ ((x:Int)-(c:Int)))-(y:Int))) 63=((t/9223372036854775808:Nat):Int):=by
  intro t ht e;rw[e,w32];exact⟨rfl,shr64 (a:=t) (k:=63) O⟩
 by_cases h:y+c<=x
 . have e:wJ ((wJ ((x:Int)-(c:Int)))-(y:Int))=((x-c-y:Nat):Int):=by
    rw[w64m,w64m];omega
   obtain⟨k1,k2⟩:=key (x-c-y) O e;exact⟨_,_,O,O,O,k1,k2⟩
 . have e:wJ ((wJ ((x:Int)-(c:Int)))-(y:Int))=((18446744073709551616+x-c-y:Nat):Int):=by
    rw[w64m,w64m];omega
   obtain⟨k1,k2⟩:=key (18446744073709551616+x-c-y) O e;exact⟨_,_,O,O,O,k1,k2⟩
theorem qgu {B P V0 V1 d y c x e Av Bv Q R:Nat} (g:V1+P*B*(e+Bv)=(V0+P*d)+P*B*Av+Q) (hde:d+y+c=x+B*e):V1+P*(c+(y+B*Bv))=V0+P*(x+B*Av)+Q:=by
 have k1:P*(d+y+c)=P*d+P*y+P*c:=by rw[Nat.mul_add,Nat.mul_add]
 have k2:P*(x+B*e)=P*x+P*B*e:=by rw[Nat.mul_add,Nat.mul_assoc]
 have k3:P*B*(e+Bv)=P*B*e+P*(B*Bv):=by rw[Nat.mul_add,Nat.mul_assoc P B Bv]
 have k4:P*(c+(y+B*Bv))=P*c+(P*y+P*(B*Bv)):=by rw[Nat.mul_add,Nat.mul_add]
 have k5:P*(x+B*Av)=P*x+P*(B*Av):=by rw[Nat.mul_add]
 have k6:P*B*Av=P*(B*Av):=Nat.mul_assoc ..;rw[hde]at k1;rw[k3,k6]at g;rw[k4,k5];omega
theorem qgm (m:Nat) {a b:LI} (ha:Lm a) (hb:Lm b) (hl:a.length<=1000000) (hba:b.length<=a.length): ∀(n k:Nat) (out:LI) (c:Nat),a.length-k<n->k<=a.length->Lm out->out.length=k->c<2->
 ∃out' c',g137L0 m n a b out (c:Int) (k:Int)=some (.inl (out',()))/\Lm out'/\out'.length=a.length/\c'<2/\
  vl out'+4294967296^k*(c+vl (b.drop k))=vl out+4294967296^k*vl (a.drop k)+4294967296^a.length*c':=by
 intro n;induction n with
 |zero=>intro k out c h;omega
 |succ n ih=>
  intro k out c h hk0 ho hol hc;rw[g137L0];by_cases hk:k<a.length
  . have h1:((k:Int)<(a.length:Int)):=O;have c1:(0:Int)<=(k:Int)/\(k:Int)<(a.length:Int):=O;obtain⟨x,ex,hx,dx⟩:=ha.get' k;obtain⟨y,ey,hy,dy⟩:=hb.get' k;have c2: ∀y:Int,out.length+([y]:LI).length<=1073741824:=fun y=>by show out.length+1<=_;omega
    have w1:wJ (x:Int)=(x:Int):=w64n O;have w3:wJ (y:Int)=(y:Int):=w64n O;have ws:wI ((k:Int)+1)=((k+1:Nat):Int):=wsucc O;obtain⟨d,e,hd,he,hde,q1,q2⟩:=q8t hx hy hc
    have step: ∃out' c',g137L0 m n a b (out++[(d:Int)]) (e:Int) ((k+1:Nat):Int)=some (.inl (out',()))/\Lm out'/\out'.length=a.length/\c'<2/\
     vl out'+4294967296^k*(c+vl (b.drop k))=vl out+4294967296^k*vl (a.drop k)+4294967296^a.length*c':=by
     obtain⟨out',c',g1,g2,g3,g4,g5⟩:=ih (k+1) (out++[(d:Int)]) e O O (Zu ho hd) (by simp[hol]) he
     refine⟨out',c',g1,g2,g3,g4,?_⟩;rw[Zi,hol,Nat.pow_succ]at g5;rw[dx,dy];exact qgu (R:=0) g5 hde
    rw[bQ,iP h1,iP c1,bQ,tN,ex,ey,w1,w3,ws];by_cases kb:(k:Int)<(b.length:Int)
    . rw[iP kb,iP (show(0:Int)<=(k:Int)/\(k:Int)<(b.length:Int) by omega),q1,q2,iP (c2 _)]
      exact step
    . have y0:y=0:=by rw[Xx O]at ey;omega
      subst y0
      have w4:wJ (wJ ((x:Int)-(c:Int))-((0:Nat):Int))=wJ ((x:Int)-(c:Int)):=by
       rw[w64m,w64m];omega
      rw[w4]at q1 q2;rw[iN' kb,q1,q2,iP (c2 _)];exact step
  . rw[bQ,iN' O];refine⟨out,c,rfl,ho,O,hc,?_⟩;rw[qp (l:=a) O,qp (l:=b) O,show k=a.length by omega]
    simp
theorem q4x {m:Nat} (hm:2000000<m) {a b:LI} (ha:Lm a) (hb:Lm b) (hla:a.length<=1000000) (hba:b.length<=a.length) (hv:vl b<=vl a):
 ∃r,g137 m a b=some (r,(),(),())/\Lm r/\r.length=a.length/\vl r=vl a-vl b:=by
 obtain⟨out,c,e,h1,h2,h3,h4⟩:=qgm m ha hb hla hba m 0 [] 0 O O (fun x hx=>by cases hx) rfl O
 rw[nZ]at e;refine⟨out,?_,h1,h2,?_⟩
 . rw[g137,e,bS]
 . have hlt:=vl_lt h1;rw[h2]at hlt;simp only[List.drop_zero,Nat.pow_zero,Nat.one_mul,Nat.zero_add,vl]at h4
   have hc:c=0:=by
    rcases Nat.lt_or_ge c 1 with h|h
    . omega
    . have:c=1:=O;subst this;omega
   subst hc;omega
theorem qd7 (m:Nat) {a b:LI} (ha:Lm a) (hb:Lm b) (hl:a.length<=1000000) (hlen:a.length=b.length): ∀(k n:Nat),k<n->k<=a.length->vl (a.drop k)=vl (b.drop k)->
 ∃r,g136L0 m n a b ((k:Int)-1)=some r/\(r= .inl (cmpN (vl a) (vl b),())\/r= .inr (.inl ())/\vl a=vl b)
 |0,n,h,_,hd=>by
  obtain⟨n,rfl⟩: ∃n',n=n'+1:=⟨n-1,O⟩;rw[g136L0,bQ,iN' O];exact⟨_,rfl,.inr ⟨rfl,hd⟩⟩
 |k+1,n,h,hk,hd=>by
  obtain⟨n,rfl⟩: ∃n',n=n'+1:=⟨n-1,O⟩;have e0:((k+1:Nat):Int)-1=(k:Int):=O;have c1:(0:Int)<=(k:Int)/\(k:Int)<(a.length:Int):=O;have c2:(0:Int)<=(k:Int)/\(k:Int)<(b.length:Int):=O;have w:wI ((k:Int)-1)=(k:Int)-1:=by rw[wQ,wi O O]
  obtain⟨x,ex,hx⟩:=ha.get (show k<a.length by omega)
  obtain⟨y,ey,hy⟩:=hb.get (show k<b.length by omega)
  have d1:=Qp (l:=a) (k:=k) O;have d2:=Qp (l:=b) (k:=k) O;rw[ex,tN]at d1;rw[ey,tN,<-hd]at d2;rw[e0,g136L0,bQ,iP O,iP c1,iP c2,tN,ex,ey,bif_ne,bQ];by_cases e:(x:Int)=(y:Int)
  . rw[iP e,w];have:x=y:=O;subst this;exact qd7 m ha hb hl hlen k n O O O
  . rw[iN' e,iP c1,iP c2];by_cases hxy:x<y
    . have:=Yi (a:=a) (b:=b) ha (k:=k) O O O;rw[iP O];exact⟨_,rfl,.inl (by unfold cmpN;rw[iP this])⟩
    . have:=Yi (a:=b) (b:=a) hb (k:=k) O O O;rw[iN' O];exact⟨_,rfl,.inl (by unfold cmpN;rw[iN' O,iP this])⟩
theorem qb9 {m:Nat} (hm:2000000<m) {x y:Nat} (hx:(lim x).length<=1000000) (hy:(lim y).length<=1000000):g136 m (lim x) (lim y)=some (cmpN x y,(),(),()):=by
 rw[g136,bif_ne];by_cases e:((lim x).length:Int)=((lim y).length:Int)
 . rw[iP e];have w:wI (((lim x).length:Int)-1)=((lim x).length:Int)-1:=by rw[wQ,wi O O]
   obtain⟨r,g,hr⟩:=qd7 m (Qe x) (Qe y) hx O (lim x).length m O (Nat.le_refl _) (by rw[qp (Nat.le_refl _),qp O])
   rw[w,g,bS];rw[Q5,Q5]at hr;rcases hr with rfl|⟨rfl,h⟩
   . rfl
   . subst h;simp[cmpN]
 . rw[iN' e,bQ];unfold cmpN;by_cases h:x<y
   . have:=Qi (Nat.le_of_lt h);rw[iP O,iP h]
   . have:=Qi (Nat.le_of_not_lt h)
     have hne:y<x:=by
      rcases Nat.lt_or_ge y x with h2|h2
      . exact h2
      . have:x=y:=O;subst this;exact absurd rfl e
     rw[iN' O,iN' h,iP hne]
theorem q5p {m:Nat} (hm:2000000<m) {n1 n2:Bool} {l1 l2:LI} (h1:Sz l1) (h2:Sz l2):g70 m n1 l1 n2 l2=some (zB (zv n1 l1+zv n2 l2),(),(),()):=by
 have b1:=h1.lim;have b2:=h2.lim;rw[g70,Zx h1.1 (by have:=h1.2;omega) (by have:=h1.2;omega),bS,Zx h2.1 (by have:=h2.2;omega) (by have:=h2.2;omega),bS]
 dsimp only;by_cases hn:n1=n2
 . subst hn;obtain⟨r,e,k1,k2,k3⟩:=qbl hm (Qe (vl l1)) (Qe (vl l2)) b1 b2;rw[show(n1==n1)=true by simp,cond_true,e,bS]
   dsimp only;rw[Xc hm k1 O,bS]
   have:zv n1 r=zv n1 l1+zv n1 l2:=by
    rw[Q5,Q5]at k3;unfold zv;cases n1<;>simp<;>omega
   rw[this]
 . rw[show(n1==n2)=false by simpa using hn,cond_false,qb9 hm b1 b2,bS,bQ]
   dsimp only;unfold cmpN
   have ev:zv n1 l1+zv n2 l2=if n1 then(vl l2:Int)-vl l1 else(vl l1:Int)-vl l2:=by
    unfold zv;cases n1<;>cases n2<;>simp at hn⊢ <;>omega
   by_cases hlt:vl l1<vl l2
   . have k:(if vl l1<vl l2 then(-1:Int)else if vl l2<vl l1 then 1 else 0)= -1:=iP hlt
     obtain⟨r,e,k1,k2,k3⟩:=q4x hm (Qe (vl l2)) (Qe (vl l1)) b2 (Qi (Nat.le_of_lt hlt)) (by rw[Q5,Q5];exact Nat.le_of_lt hlt)
     rw[k,iN' O,e,bS];dsimp only;rw[Xc hm k1 O,bS]
     have:zv n2 r=zv n1 l1+zv n2 l2:=by
      rw[Q5,Q5]at k3;rw[ev];unfold zv;cases n1<;>cases n2<;>simp at hn⊢ <;>omega
     rw[this]
   . have k:(if vl l1<vl l2 then(-1:Int)else if vl l2<vl l1 then 1 else 0)>=0:=by
      rw[iN' hlt];split<;>omega
     obtain⟨r,e,k1,k2,k3⟩:=q4x hm (Qe (vl l1)) (Qe (vl l2)) b1 (Qi (Nat.le_of_not_lt hlt)) (by rw[Q5,Q5];exact Nat.le_of_not_lt hlt)
     rw[iP k,e,bS];dsimp only;rw[Xc hm k1 O,bS]
     have:zv n1 r=zv n1 l1+zv n2 l2:=by
      rw[Q5,Q5]at k3;rw[ev];unfold zv;cases n1<;>cases n2<;>simp at hn⊢ <;>omega
     rw[this]
theorem qdn {m:Nat} (hm:2000000<m) {n1 n2:Bool} {l1 l2:LI} (h1:Sz l1) (h2:Sz l2):g140 m n1 l1 n2 l2=some (zB (zv n1 l1-zv n2 l2),(),(),()):=by
 have hz:zlen (-zv n2 l2)<=1000000:=by
  unfold zlen;rw[Int.natAbs_neg,Y2];exact h2.lim
 rw[g140,qcd hm h2,bS];dsimp only;rw[q5p hm h1 (Sz_zB hz),zv_zB,<-Int.sub_eq_add_neg];rfl
theorem qe7 {x p o:Nat} (hx:x<4294967296) (hp:p<32) (ho:o<2^p): ∃d e:Nat,d<4294967296/\e<2^p/\d+4294967296*e=o+x*2^p/\
 wK (b_or_ .u64 (o:Int) (shl_ .u64 (x:Int) (p:Int)))=(d:Int)/\shr_ .u64 (b_or_ .u64 (o:Int) (shl_ .u64 (x:Int) (p:Int))) 32=(e:Int):=by
 have hple:2^p<=2^31:=Nat.pow_le_pow_right O O;have h1:x*2^p<=4294967295*2^p:=Nat.mul_le_mul_right _ O;have h2:4294967295*2^p<=4294967295*2^31:=Nat.mul_le_mul_left _ hple
 have hx2:o+x*2^p<18446744073709551616:=by
  have:(4294967295:Nat)*2^31+2^31<18446744073709551616:=by decide
  omega
 have hor:o|||x*2^p=o+x*2^p:=by
  rw[Nat.or_comm,Nat.mul_comm,<-Nat.two_pow_add_eq_or_of_lt ho,Nat.add_comm]
 have e2:shr_ .u64 ((o+x*2^p:Nat):Int) 32=(((o+x*2^p)/4294967296:Nat):Int):=shr64 (a:=o+x*2^p) (k:=32) O
 have he:(o+x*2^p)/4294967296<2^p:=by
  rw[Nat.div_lt_iff_lt_mul O];omega
 refine⟨(o+x*2^p)%4294967296,(o+x*2^p)/4294967296,O,he,O,?_,?_⟩
 . rw[shl64 O O,or64 O O,hor,w32]
 . rw[shl64 O O,or64 O O,hor,e2]
theorem qet {B P T V0 V1 x d e o D Q:Nat} (g:V1+Q=(V0+P*d)+P*B*(e+T*D)) (hde:d+B*e=o+x*T):V1+Q=V0+P*(o+T*(x+B*D)):=by
 have k1:P*(d+B*e)=P*d+P*B*e:=by rw[Nat.mul_add,Nat.mul_assoc]
 have k2:P*(o+x*T)=P*o+P*(T*x):=by rw[Nat.mul_add,Nat.mul_comm x]
 have k4:P*(o+T*(x+B*D))=P*o+(P*(T*x)+P*B*(T*D)):=by
  rw[Nat.mul_add,Nat.mul_add T,Nat.mul_add P (T*x),Nat.mul_left_comm T B D,Nat.mul_assoc P B]
 have k5:P*B*(e+T*D)=P*B*e+P*B*(T*D):=Nat.mul_add ..;rw[hde]at k1;rw[k5]at g;rw[k4];omega
theorem qgk (m:Nat) {a:LI} {N w p:Nat} (ha:Lm a) (hl:a.length<=1000000) (hw:w<=1000000) (hp:p<32) (hN:Int.tmod (N:Int) 32=(p:Int)): ∀(n k:Nat) (out:LI) (o:Nat),a.length-k<n->k<=a.length->Lm out->out.length=w+k->o<2^p->
 ∃out' o',g138L0 m n a (N:Int) out (o:Int) (k:Int)=some (.inl (out',((o':Nat):Int),()))/\Lm out'/\out'.length=w+a.length/\o'<2^p/\vl out'+4294967296^(w+a.length)*o'=vl out+4294967296^(w+k)*(o+2^p*vl (a.drop k)):=by
 intro n;induction n with
 |zero=>intro k out o h;omega
 |succ n ih=>
  intro k out o h hk0 ho hol hop;rw[g138L0,hN];by_cases hk:k<a.length
  . have h1:((k:Int)<(a.length:Int)):=O;have c1:(0:Int)<=(k:Int)/\(k:Int)<(a.length:Int):=O;obtain⟨x,ex,hx,dx⟩:=ha.get' k;obtain⟨d,e,hd,he,hde,q1,q2⟩:=qe7 hx hp hop;rw[bQ,iP h1,iP c1,iP O,tN,ex,w64n O,q1,q2,iP (by show out.length+1<=_;omega),show wI ((k:Int)+1)=((k+1:Nat):Int)from wsucc O]
    obtain⟨out',o',g1,g2,g3,g4,g5⟩:=ih (k+1) (out++[(d:Int)]) e O O (Zu ho hd) (by simp[hol];omega) he
    refine⟨out',o',g1,g2,g3,g4,?_⟩;rw[Zi,hol,<-Nat.add_assoc w k 1,Nat.pow_succ]at g5;rw[dx];exact qet g5 hde
  . rw[bQ,iN' O];have:k=a.length:=O;subst this;refine⟨out,o,rfl,ho,hol,hop,?_⟩;rw[qp O,Nat.mul_zero,Nat.add_zero]
theorem qge {m:Nat} (hm:3000000<m) {a:LI} (ha:Lm a) (hl:a.length<=500000) {n:Nat} (hn:n<=10000000):
 ∃r,g138 m a (n:Int)=some (r,(),(),())/\Lm r/\r.length<=a.length+n/32+1/\vl r=vl a*2^n:=by
 have w0:wI (Int.tdiv (n:Int) 32)=((n/32:Nat):Int):=by rw[q9y,wQ,wi O O]
 have hple:2^(n%32)<=2^31:=Nat.pow_le_pow_right O O;obtain⟨out,c,e,h1,h2,h3,h4⟩:=qgk m (N:=n) (w:=n/32) (p:=n%32) ha O O O qal m 0 (List.replicate (n/32) 0) 0 O O Xi (by simp) (Nat.pow_pos O)
 rw[nZ]at e;have w:wK (c:Int)=(c:Int):=by rw[w32,Nat.mod_eq_of_lt O]
 refine⟨out++[(c:Int)],?_,Zu h1 O,by simp[h2];omega,?_⟩
 . rw[g138,w0,iP O,tN,e,bS];dsimp only;rw[w,iP (by rw[h2];show n/32+a.length+1<=_;omega)]
 . rw[Zi,h2,h4,Xn,List.drop_zero,Nat.zero_add,Nat.zero_add,Nat.add_zero,<-Nat.mul_assoc,pow32,show 32*(n/32)+n%32=n by omega,Nat.mul_comm]
theorem qdd {x y p:Nat} (hx:x<4294967296) (hy:y<4294967296) (hp:p<32):wK (shr_ .u64 (b_or_ .u64 (x:Int) (shl_ .u64 (y:Int) 32)) (p:Int))=(((x+4294967296*y)/2^p%4294967296:Nat):Int):=by
 have e1:shl_ .u64 (y:Int) 32=((y*4294967296:Nat):Int):=shl64 (a:=y) (k:=32) O O
 have e2:x|||y*4294967296=x+4294967296*y:=by
  rw[Nat.or_comm,Nat.mul_comm,show(4294967296:Nat)=2^32 by decide,<-Nat.two_pow_add_eq_or_of_lt O,Nat.add_comm]
 rw[e1,or64 O O,e2,shr64 O,w32]
theorem qh1 (m:Nat) {a:LI} {N w:Nat} (ha:Lm a) (hl:a.length<=1000000) (hw:w<=1000000) (hN:wI (Int.tdiv (N:Int) 32)=(w:Int)): ∀(n k:Nat),min w a.length-k<n->k<=min w a.length->
 g139L0 m n a (N:Int) (decide (vl (a.take k)≠0)) (k:Int)=some (.inl (a,(N:Int),decide (vl (a.take w)≠0),())):=by
 intro n;induction n with
 |zero=>intro k h;omega
 |succ n ih=>
  intro k h hk0;rw[g139L0,hN,bQ,bQ];by_cases hk:k<min w a.length
  . obtain⟨x,ex,hx⟩:=ha.get (show k<a.length by omega)
    rw[iP O,iP O,tN,ex,iP O,show wI ((k:Int)+1)=((k+1:Nat):Int)from wsucc O]
    have hv:vl (a.take (k+1))=vl (a.take k)+4294967296^k*x:=by
     have:a.take (k+1)=a.take k++[(x:Int)]:=by
      rw[List.take_add_one,<-ex,List.getD,List.getElem?_eq_getElem (show k<a.length by omega)];rfl
     rw[this,Zi,List.length_take,show min k a.length=k by omega]
    have hP:0<4294967296^k:=Nat.pow_pos O;have ih:=ih (k+1) O O;by_cases e:vl (a.take k)=0
    . rw[show decide (vl (a.take k)≠0)=false by simpa using e,cond_false]
      rw[e,Nat.zero_add]at hv
      have:decide (vl (a.take (k+1))≠0)=((x:Int) !=0):=by
       rw[hv];by_cases e2:x=0
       . subst e2;simp
       . have:=Nat.mul_pos hP (Nat.pos_of_ne_zero e2);rw[show decide (4294967296^k*x≠0)=true by rw[decide_eq_true_eq];omega]
         symm
         rw[bne_iff_ne];omega
      rw[this]at ih;exact ih
    . rw[show decide (vl (a.take k)≠0)=true by simpa using e,cond_true]
      rw[show decide (vl (a.take (k+1))≠0)=true by rw[decide_eq_true_eq];omega]at ih
      exact ih
  . have ht:a.take w=a.take k:=by
     by_cases hwl:w<=a.length
     . rw[show k=w by omega]
     . rw[List.take_of_length_le O,List.take_of_length_le O]
    rw[ht];by_cases c:(k:Int)<(w:Int)
    . rw[iP c,iN' O]
    . rw[iN' c]
theorem qgg (m:Nat) {a:LI} {N w p:Nat} (ha:Lm a) (hl:a.length<=1000000) (hw:w<=1000000) (hp:p<32) (hN:wI (Int.tdiv (N:Int) 32)=(w:Int)): ∀(n k:Nat) (lost:Bool) (out:LI),a.length-k<n->w<=k->(k<=a.length\/k=w)->Lm out->out.length+w=k->
 ∃out',g139L1 m n a (N:Int) lost out (p:Int) (k:Int)=some (.inl (if k=w then(lost||decide ((a.getD w 0).toNat%2^p≠0))else lost,out',()))/\Lm out'/\out'.length<=out.length+(a.length-k)/\vl out'=vl out+4294967296^out.length*(vl (a.drop k)/2^p):=by
 intro n;induction n with
 |zero=>intro k lost out h;omega
 |succ n ih=>
  intro k lost out h hwk hk0 ho hol;rw[g139L1,hN];by_cases hk:k<a.length
  . obtain⟨x,ex,hx,dx⟩:=ha.get' k;obtain⟨y,ey,hy,dy⟩:=ha.get' (k+1);have c2: ∀y:Int,out.length+([y]:LI).length<=1073741824:=fun y=>by show out.length+1<=_;omega
    have ws:wI ((k:Int)+1)=((k+1:Nat):Int):=wsucc O;have w1:wJ (x:Int)=(x:Int):=w64n O;have w2:wJ (y:Int)=(y:Int):=w64n O;have q:=qdd hx hy hp
    have step: ∀l2:Bool,∃out',g139L1 m n a (N:Int) l2 (out++[(((x+4294967296*y)/2^p%4294967296:Nat):Int)]) (p:Int) ((k+1:Nat):Int)=some (.inl (l2,out',()))/\Lm out'/\out'.length<=out.length+(a.length-k)/\vl out'=vl out+4294967296^out.length*(vl (a.drop k)/2^p):=by
     intro l2;obtain⟨out',g1,g2,g3,g4⟩:=ih (k+1) l2 (out++[(((x+4294967296*y)/2^p%4294967296:Nat):Int)]) O O O (Zu ho O) (by simp;omega)
     rw[iN' O]at g1;refine⟨out',g1,g2,by simp at g3;omega,?_⟩
     rw[g4,Zi,List.length_append,Nat.pow_add];have hs:=qdg (y:=y) (R:=vl (a.drop (k+1+1))) hp hx;rw[<-dy,<-dx]at hs;rw[<-hs,Nat.mul_add,Nat.add_assoc,Nat.mul_assoc];rfl
    have m32:=mask32 hx hp
    have hb:(((x%2^p:Nat):Int) !=0)=decide (x%2^p≠0):=by
     by_cases e:x%2^p=0
     . rw[e];rfl
     . rw[show decide (x%2^p≠0)=true by simpa using e,bne_iff_ne];omega
    rw[bQ,iP O,iP O,bQ,tN,ex,w1,ws,tN,bif_eq];by_cases kw:k=w
    . have hex:(a.getD w 0).toNat=x:=by rw[<-kw,ex,tN]
      rw[iP kw,hex];by_cases k1:k+1<a.length
      . rw[iP O,iP O,iP O,iP O,iP O,m32,hb,ey,w2,q];by_cases e:x%2^p=0
        . rw[show decide (x%2^p≠0)=false by simpa using e,cond_false,iP O,iP (c2 _),Bool.or_false]
          exact step lost
        . rw[show decide (x%2^p≠0)=true by simpa using e,cond_true,iP O,iP (c2 _),Bool.or_true]
          exact step true
      . have y0:y=0:=by rw[Xx O]at ey;omega
        have q0:wK (shr_ .u64 (x:Int) (p:Int))=(((x+4294967296*y)/2^p%4294967296:Nat):Int):=by
         rw[shr64 O,w32,y0,Nat.mul_zero,Nat.add_zero]
        rw[iN' O,bif_eq,iP O,iP O,iP O,m32,hb,q0];by_cases e:x%2^p=0
        . rw[show decide (x%2^p≠0)=false by simpa using e,cond_false,iP O,iP (c2 _),Bool.or_false]
          exact step lost
        . rw[show decide (x%2^p≠0)=true by simpa using e,cond_true,iP O,iP (c2 _),Bool.or_true]
          exact step true
    . rw[iN' kw];by_cases k1:k+1<a.length
      . rw[iP O,iP O,iN' O,iP O,ey,w2,q,iP (c2 _)];exact step lost
      . have y0:y=0:=by rw[Xx O]at ey;omega
        have q0:wK (shr_ .u64 (x:Int) (p:Int))=(((x+4294967296*y)/2^p%4294967296:Nat):Int):=by
         rw[shr64 O,w32,y0,Nat.mul_zero,Nat.add_zero]
        rw[iN' O,bif_eq,iN' O,iP O,q0,iP (c2 _)];exact step lost
  . rw[bQ,iN' O];refine⟨out,?_,ho,O,?_⟩
    . by_cases kw:k=w
      . rw[iP kw,Xx O];simp
      . rw[iN' kw]
    . rw[qp O,Nat.zero_div];simp
theorem qhg {m:Nat} (hm:3000000<m) {a:LI} (ha:Lm a) (hl:a.length<=1000000) {n:Nat} (hn:n<=10000000):
 ∃r,g139 m a (n:Int)=some ((r,decide (vl a%2^n≠0),()),(),(),())/\Lm r/\r.length<=a.length/\vl r=vl a/2^n:=by
 have w0:wI (Int.tdiv (n:Int) 32)=((n/32:Nat):Int):=by rw[q9y,wQ,wi O O]
 have e0:=qh1 m (N:=n) (w:=n/32) ha hl O w0 m 0 O O;rw[List.take_zero,nZ]at e0;obtain⟨r,e1,h1,h2,h3⟩:=qgg m (N:=n) (w:=n/32) (p:=n%32) ha hl O O w0 m (n/32) (decide (vl (a.take (n/32))≠0)) [] O O O (fun x hx=>by cases hx) (by simp)
 rw[iP rfl]at e1;have hpw:2^n=4294967296^(n/32)*2^(n%32):=by rw[pow32,show 32*(n/32)+n%32=n by omega]
 have hT:0<2^(n%32):=Nat.pow_pos O;have hP:0<4294967296^(n/32):=Nat.pow_pos O;obtain⟨x,ex,hx,dx⟩:=ha.get' (n/32)
 have key:vl a/2^n=vl (a.drop (n/32))/2^(n%32)/\vl a%2^n=vl (a.take (n/32))+4294967296^(n/32)*(x%2^(n%32)):=by
  have hB:(4294967296:Nat)=2^(n%32)*2^(32-n%32):=by rw[<-Nat.pow_add,show n%32+(32-n%32)=32 by omega]
  have hxm:(x+4294967296*vl (a.drop (n/32+1)))%2^(n%32)=x%2^(n%32):=by
   conv=>lhs;rw[hB,Nat.mul_assoc,Nat.add_mul_mod_self_left]
  by_cases hw:n/32<=a.length
  . have hL:=vl_lt (l:=a.take (n/32)) fun y hy=>ha y (List.mem_of_mem_take hy)
    rw[List.length_take,show min (n/32) a.length=n/32 by omega]at hL
    have hv:=Y7 (l:=a) (k:=n/32) hw;constructor
    . conv=>lhs;rw[hv,hpw]
      exact q79 hL
    . conv=>lhs;rw[hv,hpw]
      rw[q7m hL hT,dx,hxm]
  . have hL:=vl_lt ha;have h2:4294967296^a.length<=4294967296^(n/32):=Nat.pow_le_pow_right O O;have h3:4294967296^(n/32)*1<=4294967296^(n/32)*2^(n%32):=Nat.mul_le_mul_left _ hT;have hlt:vl a<2^n:=by rw[hpw];omega
    have x0:x=0:=by rw[Xx O]at ex;omega
    rw[Nat.div_eq_of_lt hlt,Nat.mod_eq_of_lt hlt,qp O,List.take_of_length_le O,x0];simp
 refine⟨r,?_,h1,by simp at h2;omega,?_⟩
 . rw[g139];rw[show(decide (vl []≠0))=false from rfl]at e0
   rw[e0,bS];dsimp only;rw[qal,w0,e1,bS];dsimp only;rw[ex,tN,key.2];congr 3;by_cases e:vl (a.take (n/32))=0
   . rw[e];by_cases e2:x%2^(n%32)=0
     . rw[e2];simp
     . have:=Nat.mul_pos hP (Nat.pos_of_ne_zero e2);rw[show decide (x%2^(n%32)≠0)=true by simpa using e2,show decide (0+4294967296^(n/32)*(x%2^(n%32))≠0)=true by rw[decide_eq_true_eq];omega]
       simp
   . rw[show decide (vl (a.take (n/32))≠0)=true by simpa using e,show decide (vl (a.take (n/32))+4294967296^(n/32)*(x%2^(n%32))≠0)=true by rw[decide_eq_true_eq];omega]
     simp
 . rw[h3,key.1];simp[vl]
theorem qb6 {m:Nat} (hm:2000000<m) {neg:Bool} {l:LI} (h:Sz l):g129 m neg l=some (((blen (vl l):Nat):Int),(),()):=by
 rw[g129,Zx h.1 (by have:=h.2;omega) (by have:=h.2;omega),bS,bif_eq]
 dsimp only;have hl:=h.lim;by_cases e:vl l=0
 . rw[e,iP (Zn.2 rfl)];rfl
 . obtain⟨k,x,y,h1,h2,h3,h4,h5,h6⟩:=qar e;have w1:wI (((lim (vl l)).length:Int)-1)=(k:Int):=by rw[wQ,wi O O];omega
   have w2:wI (32*(k:Int))=((32*k:Nat):Int):=by rw[wQ,wi O O];omega
   have hb:blen x<=32:=by
    have:x.log2<32:=(Nat.log2_lt h4).2 h3;rw[Qz h4];omega
   have w3:wI (((32*k:Nat):Int)+((blen x:Nat):Int))=((32*k+blen x:Nat):Int):=by rw[wQ,wi O O];omega
   rw[iN' (fun h=>e (Zn.1 h)),w1,iP O,tN,Nat.zero_add,h2,qa6 h3,bS]
   dsimp only;rw[w2,w3,<-Jj h4 h5,<-h6]
theorem qft (m:Nat) {l:LI} (hl:Lm l) (hlen:l.length<=1000000): ∀(n k:Nat),l.length-k<n->k<=l.length->vl (l.drop k)≠0->
 g127L0 m n l (k:Int)=some (.inl (((32*k+tz (vl (l.drop k)):Nat):Int),()))
 |0,k,h,_,_=>O
 |n+1,k,h,hk0,hv=>by
  rw[g127L0];by_cases hk:k<l.length
  . obtain⟨x,ex,hx⟩:=hl.get hk;have hd:=Qp hk;rw[ex,tN]at hd;rw[bQ,iP O,iP O,tN,Nat.zero_add,ex,bif_ne];by_cases e:x=0
    . subst e;rw[iP (by rfl),show wI ((k:Int)+1)=((k+1:Nat):Int)from wsucc O,qft m hl hlen n (k+1) O O O]
      have hb:(4294967296:Nat)=2^32:=by decide
      have:tz (vl (l.drop k))=32+tz (vl (l.drop (k+1))):=by
       rw[hd,Nat.zero_add,hb,q6i O]
      rw[this];congr 4;omega
    . have h2:=(q63 e hx).2;have w2:wI (32*(k:Int))=((32*k:Nat):Int):=by rw[wQ,wi O O];omega
      have w3:wI (((32*k:Nat):Int)+((tz x:Nat):Int))=((32*k+tz x:Nat):Int):=by rw[wQ,wi O O];omega
      rw[iN' O,iP O,qec e hx,bS];dsimp only;rw[w2,w3,hd,qcs e hx]
  . exact absurd (qp O) hv
theorem q1m {m:Nat} (hm:2000000<m) {neg:Bool} {l:LI} (h:Sz l):g127 m neg l=some (((tz (vl l):Nat):Int),(),()):=by
 have hl:=h.lim;rw[g127,Zx h.1 (by have:=h.2;omega) (by have:=h.2;omega),bS]
 dsimp only;by_cases e:vl l=0
 . obtain⟨m',rfl⟩: ∃m',m=m'+1:=⟨m-1,O⟩;rw[e,Qd,g127L0,bQ,iN' (by simp),bS,qcw];rfl
 . have:=qft m (Qe (vl l)) hl m 0 O O (by rw[List.drop_zero,Q5];exact e)
   rw[nZ,List.drop_zero,Nat.mul_zero,Nat.zero_add,Q5]at this;rw[this,bS]
theorem q6w {m:Nat} (hm:3000000<m) {neg:Bool} {l:LI} (h:Lm l) (hl:l.length<=500000) {n:Nat} (hn:n<=1048576):g71 m neg l (n:Int)=some (zB (zv neg l*2^n),(),(),()):=by
 have b:=Qw h;have hS:Sz l:=⟨h,O⟩;have hz:(lim (zv neg l).natAbs).length<=500000:=by rw[Y2];omega
 obtain⟨r,e,h1,h2,h3⟩:=qge hm (Qe (zv neg l).natAbs) hz (n:=n) O;rw[g71,q2r O hS,bS,bQ,iP O];dsimp only;show(Option.bind (g138 m (lim (zv neg l).natAbs) _) _)=_;rw[e,bS];dsimp only;rw[Xc O h1 O,bS]
 have:zv (zB (zv neg l)).1 r=zv neg l*2^n:=by
  show zv (decide (zv neg l<0)) r=_
  rw[Q5]at h3;unfold zv;rw[h3,Int.natCast_mul,Int.natCast_pow];show(if decide (zv neg l<0)=true then-(((zv neg l).natAbs:Int)*2^n)else(((zv neg l).natAbs:Int)*2^n))=zv neg l*2^n
  by_cases c:zv neg l<0
  . rw[iP (by simpa using c),<-Int.neg_mul,show-((zv neg l).natAbs:Int)=zv neg l by omega]
  . rw[iN' (by simpa using c),show((zv neg l).natAbs:Int)=zv neg l by omega]
 rw[this]
theorem q9n {m:Nat} (hm:3000000<m) {neg:Bool} {l:LI} (h:Lm l) (hl:l.length<=500000) {n:Nat} (h0:0<n) (hn:n<=10000000):g71 m neg l (-(n:Int))=some (zB (zv neg l/((2^n:Nat):Int)),(),(),()):=by
 have b:=Qw h;have hS:Sz l:=⟨h,O⟩;have hz:(lim (zv neg l).natAbs).length<=500000:=by rw[Y2];omega
 have hT:0<2^n:=Nat.pow_pos O;have w:wI (0- -(n:Int))=(n:Int):=by rw[wQ,wi O O];omega
 obtain⟨r,e,h1,h2,h3⟩:=qhg hm (Qe (zv neg l).natAbs) O (n:=n) O;rw[g71,q2r O hS,bS,bQ,iN' O,w];dsimp only;show(Option.bind (g139 m (lim (zv neg l).natAbs) _) _)=_;rw[e,bS];dsimp only;rw[Q5]at h3;rw[Q5,Xc O h1 O,bS];dsimp only;show(bif decide (zv neg l<0)then _ else _)=_
 rw[bQ];generalize 2^n=T at*;by_cases c:zv neg l<0
 . rw[iP c]
   have hv:zv (zB (zv neg l)).1 r= -((((zv neg l).natAbs/T:Nat)):Int):=by
    have hz: ∀b l,zv b l=if b then-(vl l:Int)else(vl l:Int):=fun _ _=>rfl
    show zv (decide (zv neg l<0)) r=_
    rw[hz (decide _) r,iP (by simpa using c),h3]
   have ev:=q6t (v:=(zv neg l).natAbs) hT;rw[show-((zv neg l).natAbs:Int)=zv neg l by omega]at ev
   have hlen:zlen (-((((zv neg l).natAbs/T:Nat)):Int))<=1000000:=by
    unfold zlen;rw[Int.natAbs_neg,Int.natAbs_natCast];have:=q38 (v:=(zv neg l).natAbs) (T:=T);omega
   rw[hv];by_cases d:(zv neg l).natAbs%T=0
   . rw[iN' O]at ev;rw[show decide ((zv neg l).natAbs%T≠0)=false by simpa using d,cond_false,ev]
   . rw[iP d]at ev;have s1:Sz (zB 1).2.1:=⟨Lm_zB 1,by have:=q02 (z:=1) (k:=1) (by decide);omega⟩
     rw[show decide ((zv neg l).natAbs%T≠0)=true by simpa using d,cond_true,q3m O O O,bS]
     dsimp only;rw[qdn O (Sz_zB hlen) s1,zv_zB,zv_zB,bS,ev,show-((((zv neg l).natAbs/T+1:Nat)):Int)= -((((zv neg l).natAbs/T:Nat)):Int)-1 by omega]
 . rw[iN' c]
   have hv:zv (zB (zv neg l)).1 r=zv neg l/(T:Int):=by
    have hz: ∀b l,zv b l=if b then-(vl l:Int)else(vl l:Int):=fun _ _=>rfl
    show zv (decide (zv neg l<0)) r=_
    rw[hz (decide _) r,iN' (by simpa using c),h3,Int.natCast_ediv]
    rw[show((zv neg l).natAbs:Int)=zv neg l by omega]
   rw[hv]
theorem Zr {m:Nat} (hm:3000000<m) {z:Int} (hz:blen z.natAbs<=1000000) {k:Int} (h0:0<=k) (hk:k<=1048576):g71 m (zB z).1 (zB z).2.1 k=some (zB (z*2^k.toNat),(),(),()):=by
 have hl:=q02 hz;obtain⟨n,rfl⟩: ∃n:Nat,k=(n:Int):=⟨k.toNat,O⟩;rw[q6w hm (Lm_zB z) O O,zv_zB];rfl
theorem qf9 {m:Nat} (hm:3000000<m) {z:Int} (hz:blen z.natAbs<=1000000) {k:Nat} (hk:k<=1048576):g128 m (zB z).1 (zB z).2.1 (k:Int)=some (zB (z/2^k),(),(),()):=by
 have hl:=q02 hz;obtain⟨m',rfl⟩: ∃m',m=m'+1:=⟨m-1,O⟩;rw[g128,g128L0,bQ,iN' O,bS];dsimp only;by_cases h0:k=0
 . subst h0;rw[show wI (0-((0:Nat):Int))=((0:Nat):Int)from by decide,q6w hm (Lm_zB z) O O,bS,zv_zB]
   dsimp only;rw[show z*2^0=z/2^0 by rw[Int.pow_zero,Int.mul_one,Int.ediv_one]]
 . rw[show wI (0-(k:Int))= -(k:Int) by rw[wQ,wi O O];omega,q9n hm (Lm_zB z) O O O,bS,zv_zB,Int.natCast_pow]
   rfl
theorem q8l {v k:Nat}:(v:Int)/2^k=((v/2^k:Nat):Int):=by rw[Int.natCast_ediv,Int.natCast_pow];rfl
theorem qa9 {m:Nat} (hm:3000000<m) {n:Bool} {l:LI} (h:Lm l) (hl:l.length<=28000) {e:Int} (h1: -1000000000<=e) (h2:e<=1000000000):g63 m n l e=some (mkD (zv n l) e,(),(),()):=by
 have hz:blen (zv n l).natAbs<=900000:=by
  rw[Y2];have:=qeh (Qw h);omega
 have hS:Sz l:=⟨h,O⟩;have hSz:Sz (zB (zv n l)).2.1:=SzB O;rw[g63,q2r O hS,bS,bif_eq];dsimp only
 have hnil:(((zB (zv n l)).2.1.length:Nat):Int)=0↔zv n l=0:=by
  show(((lim (zv n l).natAbs).length:Nat):Int)=0↔_
  rw[Zn];omega
 have hvl:vl (zB (zv n l)).2.1=(zv n l).natAbs:=Q5 _
 have hneg:zv n l≠0->decide (zv n l<0)=n:=by
  intro h;unfold zv at*;cases n
  . simp
  . simp at h⊢;omega
 generalize zv n l=z at*
 by_cases c:z=0
 . rw[iP (hnil.2 c),c];rfl
 . have hn:z.natAbs≠0:=O;have hb:1<=blen z.natAbs:=by rw[Qz hn];omega
   rw[iN' (fun h=>c (hnil.1 h)),bQ]
   by_cases c1:e>65536
   . rw[iP c1,q1g (fun h=>by rcases Xv.1 h with h|h<;>omega)];rfl
   . have ht:=q1h (n:=z.natAbs);have hbt:=q99 hn;rw[iN' c1,q1m O hSz,bS,hvl,qd0 O hSz,zv_zB,bS];dsimp only;rw[qf9 hm (by rw[Int.natAbs_natCast];omega) O,bS,q8l]
     dsimp only;have bd:blen (z.natAbs/2^tz z.natAbs)<=900000:=Nat.le_trans qey hz;rw[qb6 O (SzN O),bS];dsimp only;rw[show vl (zB ((z.natAbs/2^tz z.natAbs:Nat):Int)).2.1=z.natAbs/2^tz z.natAbs by rw[qg5];exact Q5 _]
     rw[show wI (e+((tz z.natAbs:Nat):Int))=e+((tz z.natAbs:Nat):Int) by rw[wQ,wi O O],
      show wI (e+((tz z.natAbs:Nat):Int)+((blen (z.natAbs/2^tz z.natAbs):Nat):Int))=e+((tz z.natAbs:Nat):Int)+((blen (z.natAbs/2^tz z.natAbs):Nat):Int) by rw[wQ,wi O O],
      bQ,bQ]
     by_cases hk:OkD z e
     . rcases Xv.1 hk with h0|⟨k1,k2⟩
       . exact absurd h0 c
       . rw[iN' O,iN' O];unfold mkD;rw[iN' c,iN' O,hneg c,qg5]
     . have hk2: ¬(e+(blen z.natAbs:Int)<=65536/\ -65536<=e+(tz z.natAbs:Int)):=fun c=>hk (Xv.2 (Or.inr c))
       rw[q1g hk];by_cases d:e+((tz z.natAbs:Nat):Int)< -65536
       . rw[iP d];rfl
       . rw[iN' d,iP O];rfl
theorem Zv {m:Nat} (hm:3000000<m) {z:Int} (hz:blen z.natAbs<=800000) {e:Int} (h1: -1000000000<=e) (h2:e<=1000000000):g63 m (zB z).1 (zB z).2.1 e=some (mkD z e,(),(),()):=by
 have:=q02 hz;rw[qa9 hm (Lm_zB z) O h1 h2,zv_zB]
theorem Xa {m:Nat} (hm:3000000<m) {z e:Int}:g61 m (mkD z e).1 (mkD z e).2.1 (mkD z e).2.2.1 (mkD z e).2.2.2.1=some (mkD z e,(),()):=by
 by_cases h:OkD z e
 . obtain⟨w,f,k⟩:=h.nf;rw[k.md,g61,cond_false];dsimp only;have:=Zv hm (z:=w) (by have:=k.len;omega) (e:=f) (by have:=k.lo;omega) (by have:=k.hi;omega)
   rw[zB_1,zB_2]at this;rw[this,k.eq.mk,k.md];rfl
 . rw[q1g h];rfl
theorem qdh {m:Nat} (hm:3000000<m) {z e:Int} (h:OkD z e):g69 m (mkD z e).2.1 (mkD z e).2.2.1=some (sgn z,(),()):=by
 obtain⟨w,f,k,k1,k2,k3⟩:=Qm h;rw[k1,k2,q0j O k.Sz,zv_zB,k.sgn]
theorem qel {m:Nat} (hm:3000000<m) {z e:Int}:g68 m (mkD z e).1 (mkD z e).2.1 (mkD z e).2.2.1 (mkD z e).2.2.2.1=some (mkD (-z) e,(),()):=by
 rw[g68,Xa hm,bS];dsimp only;by_cases h:OkD z e
 . obtain⟨w,f,k,k1,k2,k3⟩:=Qm h;have h1:(mkD z e).1=false:=h;rw[h1,cond_false,k1,k2,k3,qcd O k.Sz,zv_zB,bS];dsimp only;rw[Zv hm (by rw[Int.natAbs_neg];have:=k.len;omega) (by have:=k.lo;omega) (by have:=k.hi;omega),k.eq.neg.mk];rfl
 . rw[Ja (mt q3q.1 h),Ja h];rfl
theorem q89 {m:Nat} (hm:3000000<m) {a B b C w f x h:Int} (k:NF a B w f) (l:NF b C x h) (b1 b2:Bool):
 ∃p q c,g133 m b1 (zB w).1 (zB w).2.1 f b2 (zB x).1 (zB x).2.1 h=some ((zB p,zB q,c,()),(),(),())/\EqD p c a B/\EqD q c b C/\blen p.natAbs<=300000/\blen q.natAbs<=300000/\ -65536<=c/\c<=65536:=by
 have hb1:=k.lo;have hb2:=k.hi;have hb3:=l.lo;have hb4:=l.hi;have hl1:=k.len;have hl2:=l.len;rw[g133,q0j O k.Sz,bS,zv_zB,q0j O l.Sz,zv_zB,bif_eq];dsimp only;by_cases c1:sgn w=0
 . have w0:w=0:=Yu.1 c1;rw[iP c1];refine⟨w,x,h,rfl,?_,l.eq,O,O,O,O⟩;subst w0;exact(EqD.zero h f).trans k.eq
 . rw[iN' c1,bS,bif_eq];dsimp only;by_cases c2:sgn x=0
   . have x0:x=0:=Yu.1 c2;rw[iP c2];refine⟨w,x,f,rfl,k.eq,?_,O,O,O,O⟩;subst x0;exact(EqD.zero f h).trans l.eq
   . rw[iN' c2,bQ];by_cases c3:f>h
     . have w1:wI (f-h)=f-h:=by rw[wQ,wi O O]
       have e1:w*2^(f-h).toNat=sc w f h:=rfl;rw[iP c3,w1,Zr hm O O O,bS,e1];exact⟨sc w f h,x,h,rfl,(EqD.sc O).trans k.eq,l.eq,sc_bd k O O,O,O,O⟩
     . have w1:wI (h-f)=h-f:=by rw[wQ,wi O O]
       have e1:x*2^(h-f).toNat=sc x h f:=rfl;rw[iN' c3,w1,Zr hm O O O,bS,e1];exact⟨w,sc x h f,f,rfl,k.eq,(EqD.sc O).trans l.eq,O,sc_bd l O O,O,O⟩
theorem qfg {m:Nat} (hm:3000000<m) {a b B:Int}:
 g67 m (mkD a B).1 (mkD a B).2.1 (mkD a B).2.2.1 (mkD a B).2.2.2.1 (mkD b B).1 (mkD b B).2.1 (mkD b B).2.2.1 (mkD b B).2.2.2.1=some (if OkD a B/\OkD b B then mkD (a+b) B else badD,(),(),()):=by
 rw[g67,Xa hm,bS,Xa hm,bS];dsimp only;by_cases h1:OkD a B
 . by_cases h2:OkD b B
   . obtain⟨w,f,k,k1,k2,k3⟩:=Qm h1;obtain⟨x,g,l,l1,l2,l3⟩:=Qm h2;obtain⟨p,q,c,e1,e2,e3,e4,e5,e6,e7⟩:=q89 hm k l (mkD a B).1 (mkD b B).1;have i1:(mkD a B).1=false:=h1;have i2:(mkD b B).1=false:=h2;rw[iP ⟨h1,h2⟩,k1,k2,k3,l1,l2,l3,e1,i1,i2,cond_false,cond_false,bS];dsimp only;rw[q5p O (SzB O) (SzB O),zv_zB,zv_zB,bS];dsimp only;rw[Zv hm (Nat.le_trans (Y0 e4 e5) O) O O,(EqD.add (c:=0) (g:=0) e2 e3).mk];rfl
   . have i1:(mkD a B).1=false:=h1;rw[iN' (fun h=>h2 h.2),i1,cond_false,Ja h2];rfl
 . rw[iN' (fun h=>h1 h.1),Ja h1];rfl
theorem qf4 {m:Nat} (hm:3000000<m) {a b B:Int}:
 g20 m (mkD a B).1 (mkD a B).2.1 (mkD a B).2.2.1 (mkD a B).2.2.2.1 (mkD b B).1 (mkD b B).2.1 (mkD b B).2.2.1 (mkD b B).2.2.2.1=some (if OkD a B/\OkD b B then mkD (a-b) B else badD,(),(),()):=by
 rw[g20,qel hm,bS];dsimp only;rw[qfg hm,bS,<-Int.sub_eq_add_neg];simp only[q3q]
theorem qh4 {m:Nat} (hm:2000000<m) {a b:Int} (ha:blen a.natAbs<=300000) (hb:blen b.natAbs<=300000):g141 m (zB a).1 (zB a).2.1 (zB b).1 (zB b).2.1=some (cmpZ a b,(),(),()):=by
 have hs:blen (a-b).natAbs<=1000000:=by
  have:=Y0 (a:=a) (b:= -b) ha (by rw[Int.natAbs_neg];exact hb)
  rw[<-Int.sub_eq_add_neg]at this;omega
 rw[g141,qdn O (SzB O) (SzB O),zv_zB,zv_zB,bS];dsimp only;rw[q0j O (SzB hs),zv_zB,bS]
 have:sgn (a-b)=cmpZ a b:=by unfold sgn cmpZ;repeat' split
                             all_goals omega
 rw[this]
theorem q9z {m:Nat} (hm:3000000<m) {a b B:Int}:
 g73 m (mkD a B).1 (mkD a B).2.1 (mkD a B).2.2.1 (mkD a B).2.2.2.1 (mkD b B).1 (mkD b B).2.1 (mkD b B).2.2.1 (mkD b B).2.2.2.1=some (if OkD a B/\OkD b B then(cmpZ a b,true,())else(0,false,()),(),(),()):=by
 rw[g73,Xa hm,bS,Xa hm,bS];dsimp only;by_cases h1:OkD a B
 . by_cases h2:OkD b B
   . obtain⟨w,f,k,k1,k2,k3⟩:=Qm h1;obtain⟨x,g,l,l1,l2,l3⟩:=Qm h2;obtain⟨p,q,c,e1,e2,e3,e4,e5,e6,e7⟩:=q89 hm k l (mkD a B).1 (mkD b B).1;have i1:(mkD a B).1=false:=h1;have i2:(mkD b B).1=false:=h2;rw[iP ⟨h1,h2⟩,k1,k2,k3,l1,l2,l3,e1,i1,i2,cond_false,cond_false,bS];dsimp only;rw[qh4 O e4 e5,bS,EqD.cmp e2 e3]
   . have i1:(mkD a B).1=false:=h1;rw[iN' (fun h=>h2 h.2),i1,cond_false,Ja h2];rfl
 . rw[iN' (fun h=>h1 h.1),Ja h1];rfl
theorem qef {f:Int} (h:U64 f):qw .u64 (shr_ .u64 f 52) 2047=fexp f/\qw .u64 f 4503599627370495=ffrac f:=by
 have:=parts_eq (m:=0) h;rw[g110]at this;simp only[Option.some.injEq,Prod.mk.injEq,and_true]at this;have hl:=q2x f;refine⟨?_,this.2⟩;have h2:=qhp (x:=shr_ .u64 f 52);have:=this.1
 rwa [wQ,wi O O]at this
theorem q66 {m:Nat} {f:Int} (h:U64 f):g53 m f=some (decide (FinF f),(),()):=by
 rw[g53,(qef h).1];by_cases c:FinF f
 . rw[decide_eq_true c,show(fexp f !=2047)=true by simpa [FinF]using c]
 . rw[decide_eq_false c,show(fexp f !=2047)=false by simpa [FinF]using c]
theorem qdo {m:Nat} {f:Int} (h:U64 f):g65 m f=some (fneg f,(),()):=by
 have:=q49 (m:=m) h
 rwa [g211]at this
theorem qfq {m:Nat} (hm:3000000<m) {f:Int} (h:U64 f):g18 m f=some (ofD f,(),()):=by
 have h1:=q2x f;have h2:=q6r f;have hl:=q60 f;have he:=q54 (f:=f)
 have run: ∀q:Int,0<=q->q<9007199254740992->ofZ f=(if fneg f then-1 else 1)*q-> ∀ex,ofE f=ex->
  g63 m (fneg f) [wK q,wK (shr_ .u64 q 32)] ex=some (mkD (ofZ f) (ofE f),(),(),()):=by
  intro q q1 q2 eq ex ee;obtain⟨u,rfl⟩: ∃u:Nat,q=(u:Int):=⟨q.toNat,O⟩;have e2:shr_ .u64 (u:Int) 32=((u/4294967296:Nat):Int):=shr64 (a:=u) (k:=32) O
  rw[e2,w32,w32,Nat.mod_eq_of_lt (show u/4294967296<4294967296 by omega),qa9 hm (by
   intro x hx;simp only[List.mem_cons,List.not_mem_nil,or_false]at hx;omega) (by simp) O O,<-ee]
  have:zv (fneg f) [((u%4294967296:Nat):Int),((u/4294967296:Nat):Int)]=ofZ f:=by
   have hv:vl [((u%4294967296:Nat):Int),((u/4294967296:Nat):Int)]=u:=by
    simp only[vl,tN];omega
   rw[zv,hv,eq];cases fneg f<;>simp
  rw[this]
 rw[g18,q66 h,bS,(qef h).1,(qef h).2];dsimp only;unfold ofD;by_cases c:FinF f
 . have w1:wI (fexp f)=fexp f:=by rw[wQ,wi O O]
   have w2:wI (fexp f-1075)=fexp f-1075:=by rw[wQ,wi O O]
   rw[decide_eq_true c,Bool.not_true,cond_false,iP c,bQ,w1,w2,qdo h,q86 h2.1 h2.2,bS,bS];dsimp only;by_cases c0:fexp f=0
   . rw[iN' O,run _ h2.1 O (by unfold ofZ;rw[iP c0]) _ (by unfold ofE;rw[iP c0])];rfl
   . rw[iP O,run _ O O (by unfold ofZ;rw[iN' c0]) _ (by unfold ofE;rw[iN' c0])];rfl
 . rw[decide_eq_false c,Bool.not_false,cond_true,iN' c];rfl
end Go.Vs.F
