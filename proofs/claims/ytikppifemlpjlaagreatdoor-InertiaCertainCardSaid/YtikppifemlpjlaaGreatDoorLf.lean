/-The document's division of magnitudes:the subtraction of a multiple. The document's division of magnitudes. The document's fractions are rational numbers in lowest terms. Matrices of the document's fractions;the search for a pivot. The document's elimination:the loops over the pairs of remaining rows. The document's inertia of a symmetric matrix of integers counts the signs of a diagonal form. -/
import Derived.Test.YtikppifemlpjlaaGreatDoorLd
import Derived.Test.YtikppifemlpjlaaGreatDoorLe
set_option linter.unusedVariables false
set_option linter.unusedSimpArgs false
namespace Go.Vs.F
theorem qdw {m:Nat} (hm:3000000<m) {a:LI} (ha:Lm a) (hl:a.length<=500000) {n:Nat} (hn:n<=10000000):
 ∃r,g128 m a (n:Int)=some (r,(),(),())/\Lm r/\r.length=a.length+n/32+1/\vl r=vl a*2^n:=by
 have w0:wI (Int.tdiv (n:Int) 32)=((n/32:Nat):Int):=by rw[q9g,wQ,wi O O]
 have hple:2^(n%32)<=2^31:=Nat.pow_le_pow_right O O;obtain⟨out,c,e,h1,h2,h3,h4⟩:=qi5 m (N:=n) (w:=n/32) (p:=n%32) ha O O O q9p m 0 (List.replicate (n/32) 0) 0 O O Qh (by simp) (Nat.pow_pos O)
 rw[nZ]at e;have w:wK (c:Int)=(c:Int):=by rw[w32,Nat.mod_eq_of_lt O]
 refine⟨out++[(c:Int)],?_,Zv h1 O,by simp[h2];omega,?_⟩
 . rw[g128,w0,iP O,tN,e,bS];dsimp only;rw[w,iP (by rw[h2];show n/32+a.length+1<=_;omega)]
 . rw[Zw,h2,h4,Qm,List.drop_zero,Nat.zero_add,Nat.zero_add,Nat.add_zero,<-Nat.mul_assoc,pow32,show 32*(n/32)+n%32=n by omega,Nat.mul_comm]
theorem qj5 {P B d x e b c g y Dv Dw V0 V1 V2 Q R c' lo:Nat} (h1:V1+P*B*(e+c'+g*Dv)+R=V2+P*B*Dw+Q) (h2:V2=V0+P*d) (h3:d+lo+b=x+B*e) (h4:c+g*y=lo+B*c'):
 V1+P*(b+c+g*(y+B*Dv))+R=V0+P*(x+B*Dw)+Q:=by
 have k1:P*(d+lo+b)=P*d+P*lo+P*b:=by rw[Nat.mul_add,Nat.mul_add]
 have k2:P*(x+B*e)=P*x+P*B*e:=by rw[Nat.mul_add,Nat.mul_assoc]
 have k3:P*B*(e+c'+g*Dv)=P*B*e+P*B*c'+P*B*(g*Dv):=by rw[Nat.mul_add,Nat.mul_add]
 have k4:P*(b+c+g*(y+B*Dv))=P*b+P*(c+g*y)+P*B*(g*Dv):=by
  rw[show b+c+g*(y+B*Dv)=b+(c+g*y)+B*(g*Dv) by rw[Nat.mul_add,Nat.mul_left_comm g B];omega,Nat.mul_add,Nat.mul_add,Nat.mul_assoc]
 have k5:P*(lo+B*c')=P*lo+P*B*c':=by rw[Nat.mul_add,Nat.mul_assoc]
 have k6:P*(x+B*Dw)=P*x+P*B*Dw:=by rw[Nat.mul_add,Nat.mul_assoc]
 rw[h4]at k4;rw[h3]at k1;rw[k4,k6,k5];rw[k3]at h1;omega
theorem qm0 (m:Nat) {u v:LI} (hu:Lm u) (hv:Lm v) (hl:u.length<=1000001) {j g:Nat} (hj:j+v.length<u.length) (hg:g<4294967296): ∀(N k:Nat) (out:LI) (b c:Nat),v.length+1-k<N->k<=v.length+1->Lm out->out.length=v.length+1->(∀p,k<=p->out.getD p 0=0)->b<2->c<4294967296->(k=v.length+1->c=0)->
 ∃out' b',g212L0 m N u v (j:Int) (g:Int) (v.length:Int) out (b:Int) (c:Int) (k:Int)=some (.inl (u,(j:Int),(v.length:Int),out',((b':Nat):Int),()))/\Lm out'/\out'.length=v.length+1/\b'<2/\
  vl out'+4294967296^k*(b+c+g*vl (v.drop k))+4294967296^(v.length+1)*vl (u.drop (j+v.length+1))=vl out+4294967296^k*vl (u.drop (j+k))+4294967296^(v.length+1)*b':=by
 intro N;induction N with
 |zero=>intro k out b c h;omega
 |succ N ih=>
  intro k out b c h hk0 ho hol hz hb hc hlast;rw[g212L0];by_cases hk:k<=v.length
  . obtain⟨x,ex,hx,dx⟩:=hu.get' (j+k);have w0:wI ((k:Int)+(j:Int))=((j+k:Nat):Int):=by rw[wQ,wi O O];omega
    have c2:(0:Int)<=((j+k:Nat):Int)/\((j+k:Nat):Int)<(u.length:Int):=O;have c3:(0:Int)<=(k:Int)/\(k:Int)<(out.length:Int):=O;have w1:wJ (x:Int)=(x:Int):=w64n O;have ws:wI ((k:Int)+1)=((k+1:Nat):Int):=wsucc O;have oz:out.getD k 0=0:=hz k (Nat.le_refl _)
    have hset: ∀d:Nat,vl (out.set k (d:Int))=vl out+4294967296^k*d:=by
     intro d;have:=Yv (l:=out) (p:=k) (y:=(d:Int)) O;rw[oz,Int.toNat_zero,Nat.mul_zero,tN]at this;omega
    have hzs: ∀d:Nat,∀p,k+1<=p->(out.set k (d:Int)).getD p 0=0:=fun d p hp=>by rw[getD_set_ne O];exact hz p O
    have fin: ∀(t y:Nat),t<18446744073709551616->c+g*y=t->(k=v.length->t<4294967296)->vl (v.drop k)=y+4294967296*vl (v.drop (k+1))->
     ∃out' b',g212L0 m N u v (j:Int) (g:Int) (v.length:Int) (out.set k (wK (wJ ((wJ ((x:Int)-(b:Int)))-(qo .u64 (t:Int) 4294967295))))) (shr_ .u64 (wJ ((wJ ((x:Int)-(b:Int)))-(qo .u64 (t:Int) 4294967295))) 63) (shr_ .u64 (t:Int) 32) ((k+1:Nat):Int)=some (.inl (u,(j:Int),(v.length:Int),out',((b':Nat):Int),()))/\Lm out'/\out'.length=v.length+1/\b'<2/\
      vl out'+4294967296^k*(b+c+g*vl (v.drop k))+4294967296^(v.length+1)*vl (u.drop (j+v.length+1))=vl out+4294967296^k*vl (u.drop (j+k))+4294967296^(v.length+1)*b':=by
     intro t y ht hty htl hvd;obtain⟨d,e,hd,he,hde,q1,q2⟩:=q4c hx (show t%4294967296<4294967296 by omega) hb
     have e2:shr_ .u64 (t:Int) 32=((t/4294967296:Nat):Int):=shr64 (a:=t) (k:=32) O;rw[low32 ht,q1,q2,e2];obtain⟨out',b',g1,g2,g3,g4,g5⟩:=ih (k+1) (out.set k (d:Int)) e (t/4294967296) O O (Yq ho hd) (by rw[List.length_set];exact hol) (hzs d) he O (fun hh=>by have:=htl O;omega)
     refine⟨out',b',g1,g2,g3,g4,?_⟩;rw[Nat.pow_succ,<-Nat.add_assoc j k 1]at g5;rw[dx,hvd];exact qj5 g5 (hset d) hde (by rw[hty];omega)
    rw[bQ,iP O,bQ];by_cases kv:k<v.length
    . obtain⟨y,ey,hy,dy⟩:=hv.get' k;have hm:=qh9 hg hy;have w3:wJ (y:Int)=(y:Int):=w64n O;have w4:wJ ((g:Int)*(y:Int))=((g*y:Nat):Int):=by rw[show(g:Int)*(y:Int)=((g*y:Nat):Int) by rw[Int.natCast_mul],w64n O]
      have w5:wJ ((c:Int)+((g*y:Nat):Int))=((c+g*y:Nat):Int):=by rw[show(c:Int)+((g*y:Nat):Int)=((c+g*y:Nat):Int) by rw[Int.natCast_add c],w64n O]
      rw[iP O,iP O,w0,iP c2,iP c3,ws];simp only[tN,Nat.zero_add];rw[ex,ey,w1,w3,w4,w5];exact fin _ y O rfl (fun h=>O) dy
    . have hkv:k=v.length:=O;rw[iN' O,w0,iP c2,iP c3,ws];simp only[tN,Nat.zero_add];rw[ex,w1];have hd0:vl (v.drop k)=0+4294967296*vl (v.drop (k+1)):=by rw[qm O,qm O]
      exact fin c 0 O (by rw[Nat.mul_zero,Nat.add_zero]) (fun _=>hc) hd0
  . have hkv:k=v.length+1:=O;rw[bQ,iN' O];refine⟨out,b,rfl,ho,hol,hb,?_⟩;have e0:b+0+0=b:=rfl;rw[hlast hkv,hkv,qm (l:=v) O,Nat.mul_zero,e0,<-Nat.add_assoc j];omega
theorem qla (m:Nat) {u:LI} {j n:Nat} (hl:u.length<=1000001) (hj:j+n<u.length) {out:LI} (ho:out.length=n+1): ∀(N k:Nat),n+1-k<N->k<=n+1->
 g212L1 m N (u.take j++out.take k++u.drop (j+k)) (j:Int) (n:Int) out (k:Int)=some (.inl (u.take j++out++u.drop (j+n+1),())):=by
 intro N;induction N with
 |zero=>intro k h;omega
 |succ N ih=>
  intro k h hk;rw[g212L1];by_cases c:k<=n
  . have hlen:(u.take j++out.take k++u.drop (j+k)).length=u.length:=by simp only[List.length_append,List.length_take,List.length_drop];omega
    have w0:wI ((k:Int)+(j:Int))=((j+k:Nat):Int):=by rw[wQ,wi O O];omega
    have ws:wI ((k:Int)+1)=((k+1:Nat):Int):=wsucc O;rw[bQ,iP O,iP O,w0,hlen,iP O,ws];simp only[tN,Nat.zero_add]
    have e:(u.take j++out.take k++u.drop (j+k)).set (j+k) (out.getD k 0)=u.take j++out.take (k+1)++u.drop (j+(k+1)):=by
     have l1:(u.take j++out.take k).length=j+k:=by simp only[List.length_append,List.length_take];omega
     rw[List.set_append_right _ _ (by rw[l1];exact Nat.le_refl _),l1,Nat.sub_self,List.drop_eq_getElem_cons (by omega:j+k<u.length),List.set_cons_zero,take_snoc (l:=out) (k:=k) O rfl,<-Nat.add_assoc]
     simp[List.append_assoc]
    rw[e];exact ih (k+1) O O
  . have hk':k=n+1:=O;rw[bQ,iN' O,hk',List.take_of_length_le (l:=out) O,<-Nat.add_assoc]
theorem qlx {m:Nat} (hm:2000000<m) {u v:LI} (hu:Lm u) (hv:Lm v) (hl:u.length<=1000001) {j g:Nat} (hj:j+v.length<u.length) (hg:g<4294967296) (hz:vl (u.drop (j+v.length+1))=0):
 (g*vl v<=vl (u.drop j)-> ∃u',g212 m u v (j:Int) (g:Int)=some (true,u',(),(),(),())/\Lm u'/\u'.length=u.length/\vl u'+4294967296^j*(g*vl v)=vl u/\vl (u'.drop j)=vl (u.drop j)-g*vl v)/\
 (vl (u.drop j)<g*vl v->g212 m u v (j:Int) (g:Int)=some (false,u,(),(),(),())):=by
 have w:wI ((v.length:Int)+1)=((v.length+1:Nat):Int):=wsucc O;obtain⟨out,b,e,h1,h2,h3,h4⟩:=qm0 m hu hv hl hj hg m 0 (List.replicate (v.length+1) 0) 0 0 O O Qh (List.length_replicate ..) (fun p _=>by simp[List.getD,List.getElem?_replicate];split<;>rfl) O O (fun h=>O)
 rw[nZ]at e;have hlt:=vl_lt h1;rw[h2]at hlt;rw[Qm,hz,List.drop_zero,Nat.pow_zero,Nat.one_mul,Nat.one_mul,Nat.mul_zero,Nat.add_zero,Nat.add_zero,Nat.zero_add,Nat.zero_add,Nat.add_zero]at h4
 have start:g212 m u v (j:Int) (g:Int)=bif ((b:Nat):Int) !=0 then some (false,u,(),(),(),())else(g212L1 m m u (j:Int) (v.length:Int) out 0).bind fun y3=>match y3 with
  | .inl z4=>some (true,(z4.1,(),(),(),()))
  | .inr e=>e.elim:=by
  rw[g212,w,iP O,tN,e,bS];rfl
 constructor
 . intro hle
   have hb:b=0:=by
    rcases Nat.lt_or_ge b 1 with h|h
    . omega
    . have:b=1:=O;subst this;rw[Nat.mul_one]at h4;omega
   subst hb;have e1:=qla m hl hj h2 m 0 O O;rw[List.take_zero,List.append_nil,Nat.add_zero,List.take_append_drop]at e1;rw[nZ]at e1;rw[start,nZ,show((0:Int) !=0)=false from rfl,cond_false,e1,bS]
   have d1:(u.take j++out++u.drop (j+v.length+1)).drop j=out++u.drop (j+v.length+1):=by
    rw[List.append_assoc,List.drop_append,List.drop_eq_nil_of_le (by rw[List.length_take];omega),List.nil_append,List.length_take,show j-min j u.length=0 by omega,List.drop_zero]
   have v1:vl (out++u.drop (j+v.length+1))=vl out:=by rw[Jb,hz,Nat.mul_zero,Nat.add_zero]
   have lt1:(u.take j).length=j:=by rw[List.length_take];omega
   refine⟨_,rfl,?_,?_,?_,?_⟩
   . intro x hx;rcases List.mem_append.1 hx with hx|hx
     . rcases List.mem_append.1 hx with hx|hx
       . exact hu x (List.mem_of_mem_take hx)
       . exact h1 x hx
     . exact hu x (List.mem_of_mem_drop hx)
   . simp only[List.length_append,List.length_take,List.length_drop];omega
   . have hsplit:vl u=vl (u.take j)+4294967296^j*vl (u.drop j):=by
      conv=>lhs;rw[<-List.take_append_drop j u]
      rw[Jb,lt1]
     rw[List.append_assoc,Jb,v1,lt1,hsplit];rw[Nat.mul_zero]at h4;have:vl (u.drop j)=vl out+g*vl v:=O;rw[this,Nat.mul_add];omega
   . rw[d1,v1];rw[Nat.mul_zero]at h4;omega
 . intro hlt2
   have hb:b=1:=by
    rcases Nat.lt_or_ge b 1 with h|h
    . have:b=0:=O;subst this;rw[Nat.mul_zero]at h4;omega
    . omega
   subst hb;rw[start];rfl
theorem Qu (l:LI) (k:Nat) (h:k<=l.length):vl l=vl (l.take k)+4294967296^k*vl (l.drop k):=by
 conv=>lhs;rw[<-List.take_append_drop k l]
 rw[Jb,List.length_take,Nat.min_eq_left h]
theorem Lm.take {l:LI} (h:Lm l) (k:Nat):Lm (l.take k):=fun x hx=>h x (List.mem_of_mem_take hx)
theorem Lm.drop {l:LI} (h:Lm l) (k:Nat):Lm (l.drop k):=fun x hx=>h x (List.mem_of_mem_drop hx)
theorem Xa {l:LI} (h:Lm l) {k:Nat} (hk:k<=l.length):vl (l.take k)<4294967296^k:=by
 have:=vl_lt (h.take k)
 rwa [List.length_take,Nat.min_eq_left hk]at this
theorem Zk {l:LI} {k:Nat} (hk:k<=l.length) (hlt:vl l<4294967296^k):vl (l.drop k)=0:=by
 have:=Qu l k hk;rcases Nat.eq_zero_or_pos (vl (l.drop k))with h|h
 . exact h
 . have:=Nat.le_mul_of_pos_right (4294967296^k) h;omega
theorem qdn {W lo P t V lo' y d:Nat} (hW:W=lo+P*t) (hlo:lo<P) (hV:V=lo'+P*y) (hy:0<y) (hd:d*V<=W):d<=t/y:=by
 rw[Nat.le_div_iff_mul_le hy];have h1:d*(P*y)<=d*V:=Nat.mul_le_mul_left _ O
 have h2:P*(d*y)<P*(t+1):=by
  rw[Nat.mul_left_comm P d y,Nat.mul_add,Nat.mul_one];omega
 have:=Nat.lt_of_mul_lt_mul_left h2;omega
theorem qij {m:Nat} (hm:2000000<m) {u v:LI} (hu:Lm u) (hv:Lm v) (hl:u.length<=1000001) {j:Nat} (hj:j+v.length<u.length) (hz:vl (u.drop (j+v.length+1))=0) (hV:0<vl v) (n s:Int) (q:LI) {d:Nat} (hd:d=vl (u.drop j)/vl v):
 ∀(N k:Nat),k<N->d+k<4294967296-> ∃u',g206L1 m N n s u v q (j:Int) ((d+k:Nat):Int)=some (.inl (n,s,u',v,q,(j:Int),(d:Int),()))/\Lm u'/\u'.length=u.length/\vl u'+4294967296^j*(d*vl v)=vl u/\vl (u'.drop j)=vl (u.drop j)%vl v:=by
 intro N;induction N with
 |zero=>intro k h;omega
 |succ N ih=>
  intro k hk hb;obtain⟨t1,t2⟩:=qlx hm hu hv hl hj hb hz;have hdm:=Nat.div_add_mod (vl (u.drop j)) (vl v);have hml:=Nat.mod_lt (vl (u.drop j)) hV;rw[<-hd]at hdm;rw[g206L1];by_cases c:k=0
  . subst c;obtain⟨u',e,h1,h2,h3,h4⟩:=t1 (by rw[Nat.add_zero,Nat.mul_comm];omega)
    rw[Nat.add_zero]at*;refine⟨u',?_,h1,h2,h3,?_⟩
    . rw[e,bS];rfl
    . rw[h4,Nat.mul_comm];omega
  . have hlt:vl (u.drop j)<(d+k)*vl v:=by
     have:(d+1)*vl v<=(d+k)*vl v:=Nat.mul_le_mul_right _ O;rw[Nat.add_mul,Nat.one_mul,Nat.mul_comm]at this;omega
    rw[t2 hlt,bS];dsimp only;rw[Bool.not_false,cond_true];have w:wJ (((d+k:Nat):Int)-1)=((d+(k-1):Nat):Int):=by rw[w64m];omega
    rw[w];exact ih (k-1) O O
theorem q98 {m:Nat} (hm:5000000000<=m) {v:LI} (hv:Lm v) (h1:1<=v.length) {y:Nat} (ey:v.getD (v.length-1) 0=(y:Int)) (hy:0<y) (s:Int): ∀(k N:Nat) (u q:LI),k<N->Lm u->Lm q->u.length<=1000001->k+v.length<=u.length->k<=q.length->(∀p,p<k->q.getD p 0=0)->vl (u.drop k)<vl v->
 ∃u' q',g206L0 m N (v.length:Int) s u v q ((k:Int)-1)=some (.inl (s,u',q',()))/\Lm u'/\Lm q'/\u'.length=u.length/\q'.length=q.length/\vl u'=vl u%vl v/\vl q'=vl q+vl u/vl v
 |0,N+1,u,q,_,hu,hq,hl,hk,hkq,hz,hlt=>by
  rw[List.drop_zero]at hlt;refine⟨u,q,?_,hu,hq,rfl,rfl,(Nat.mod_eq_of_lt hlt).symm,by rw[Nat.div_eq_of_lt hlt,Nat.add_zero]⟩
  rw[g206L0,bQ,iN' O]
 |k+1,N+1,u,q,hN,hu,hq,hl,hk,hkq,hz,hlt=>by
  have wk:((k+1:Nat):Int)-1=(k:Int):=O;have hVb:=vl_lt hv;obtain⟨x,ex,hx,dx⟩:=hu.get' k;obtain⟨x0,ex0,hx0,dx0⟩:=hu.get' (k+v.length);obtain⟨x1,ex1,hx1,dx1⟩:=hu.get' (k+v.length-1)
  have hW:vl (u.drop k)<4294967296^(v.length+1):=by
   rw[dx,Nat.pow_succ,Nat.mul_comm (4294967296^v.length)];omega
  have hz0:vl (u.drop (k+v.length+1))=0:=by
   have:=Zk (l:=u.drop k) (k:=v.length+1) (by rw[List.length_drop];omega) hW
   rwa [List.drop_drop,<-Nat.add_assoc]at this
  have hWsp:vl (u.drop k)=vl ((u.drop k).take (v.length-1))+4294967296^(v.length-1)*(x0*4294967296+x1):=by
   rw[Qu (u.drop k) (v.length-1) (by rw[List.length_drop];omega),List.drop_drop,show k+(v.length-1)=k+v.length-1 by omega,dx1,show k+v.length-1+1=k+v.length by omega,dx0,hz0]
   congr 2;omega
  have hlo:vl ((u.drop k).take (v.length-1))<4294967296^(v.length-1):=Xa (hu.drop k) (by rw[List.length_drop];omega)
  have hyl:y<4294967296:=by
   obtain⟨y',ey',hy',_⟩:=hv.get' (v.length-1);rw[ey]at ey';omega
  have hVsp:vl v=vl (v.take (v.length-1))+4294967296^(v.length-1)*y:=by
   rw[Qu v (v.length-1) O,Qw O,ey,tN,qm (l:=v) O,Nat.mul_zero,Nat.add_zero]
  have hV:0<vl v:=by
   rw[hVsp];exact Nat.lt_of_lt_of_le (Nat.mul_pos (Nat.pow_pos O) hy) (Nat.le_add_left _ _)
  have hdle:vl (u.drop k)/vl v*vl v<=vl (u.drop k):=Nat.div_mul_le_self ..;have hg:=qdn hWsp hlo hVsp hy hdle
  have hdB:vl (u.drop k)/vl v<4294967296:=by
   rw[Nat.div_lt_iff_lt_mul hV,dx];omega
  generalize hd:vl (u.drop k)/vl v=d at*
  have t64:x0*4294967296+x1<18446744073709551616:=O;have htd:(x0*4294967296+x1)/y<18446744073709551616:=Nat.lt_of_le_of_lt (Nat.div_le_self ..) t64;rw[g206L0,wk];have w1:wI ((k:Int)+(v.length:Int))=((k+v.length:Nat):Int):=by rw[wQ,wi O O];omega
  have w2:wI (((k+v.length:Nat):Int)-1)=((k+v.length-1:Nat):Int):=by rw[wQ,wi O O];omega
  have w3:wI ((v.length:Int)-1)=((v.length-1:Nat):Int):=by rw[wQ,wi O O];omega
  have w4:wJ (y:Int)=(y:Int):=w64n O;have w5:wJ (x0:Int)=(x0:Int):=w64n O;have w6:wJ (x1:Int)=(x1:Int):=w64n O;rw[bQ,iP O,w1,w2,w3,iP O,iP O,iP O];simp only[tN,Nat.zero_add];rw[ey,ex0,ex1,w4,w5,w6,iP O,qgp hx0 hx1,td,w64n htd]
  obtain⟨g,eg,hg1,hg2⟩: ∃g:Nat,(if(4294967295:Int)<(((x0*4294967296+x1)/y:Nat):Int)then(4294967295:Int)else(((x0*4294967296+x1)/y:Nat):Int))=((d+g:Nat):Int)/\d+g<4294967296/\g<4294967296:=by
   by_cases c:(4294967295:Int)<(((x0*4294967296+x1)/y:Nat):Int)
   . rw[iP c];exact⟨4294967295-d,O,O,O⟩
   . rw[iN' c];exact⟨(x0*4294967296+x1)/y-d,O,O,O⟩
  rw[eg];obtain⟨u1,e1,f1,f2,f3,f4⟩:=qij (m:=m) O hu hv hl (j:=k) O hz0 hV (v.length:Int) s q hd.symm m g O hg1;rw[e1,bS];dsimp only;have w7:wK (d:Int)=(d:Int):=by rw[w32,Nat.mod_eq_of_lt hdB]
  have w8:wI ((k:Int)-1)=(k:Int)-1:=by rw[wQ,wi O O]
  rw[iP O,w7,w8,tN]
  have hq1:vl (q.set k (d:Int))=vl q+4294967296^k*d:=by
   have:=Yv (l:=q) (p:=k) (y:=(d:Int)) O;rw[hz k O,Int.toNat_zero,Nat.mul_zero,tN]at this;omega
  obtain⟨u',q',e2,g1,g2,g3,g4,g5,g6⟩:=q98 hm hv h1 ey hy s k N u1 (q.set k (d:Int)) O f1 (Yq hq hdB) O O (by rw[List.length_set];omega) (fun p hp=>by rw[getD_set_ne O];exact hz p O) (by rw[f4];exact Nat.mod_lt _ hV)
  have hsum:vl u=vl u1+vl v*(4294967296^k*d):=by rw[<-f3,Nat.mul_comm d,Nat.mul_left_comm]
  refine⟨u',q',e2,g1,g2,O,by rw[g4,List.length_set],?_,?_⟩
  . rw[g5,hsum,Nat.add_mul_mod_self_left]
  . rw[g6,hq1,hsum,Nat.add_mul_div_left _ _ hV];omega
theorem qbk {B:Nat} (h:B≠0):4294967296^((lim B).length-1)<=B:=by
 refine Nat.le_of_not_lt fun hlt=> ?_
 have h1:=Xk hlt;have:lim B≠[]:=fun h2=>h (q06.1 h2)
 have:=List.length_pos_iff.2 this;omega
theorem qh0 {m:Nat} (hm:5000000000<=m) {A B:Nat} (hB:B≠0) (hA:(lim A).length<=400000) (hBl:(lim B).length<=400000):
 g206 m (lim A) (lim B)=some ((lim (A/B),lim (A%B),()),(),(),()):=by
 rw[g206,q6q O O O,bS,bQ];dsimp only;by_cases c:A<B
 . have hc:cmpN A B= -1:=by unfold cmpN;rw[iP c]
   rw[hc,iP O,Nat.div_eq_of_lt c,Nat.mod_eq_of_lt c,Q9]
 . have hc: ¬cmpN A B<0:=by unfold cmpN;rw[iN' c];split<;>omega
   have hn:1<=(lim B).length:=List.length_pos_iff.2 fun h2=>hB (q06.1 h2)
   have hLn:(lim B).length<=(lim A).length:=Q5 O;obtain⟨t,et,ht,dt⟩:=(qy B).get' ((lim B).length-1);have w1:wI (((lim B).length:Int)-1)=(((lim B).length-1:Nat):Int):=by rw[wQ,wi O O];omega
   have hbt:blen t<=32:=Y6 O;have w2:wI (32-((blen t:Nat):Int))=((32-blen t:Nat):Int):=by rw[wQ,wi O O];omega
   have ht0:t≠0:=by
    intro h0;have h2:=qbk hB;have h3:=Qu (lim B) ((lim B).length-1) O;rw[qw,dt,show(lim B).length-1+1=(lim B).length by omega,qm (Nat.le_refl _),h0]at h3
    have h4:=Xa (qy B) (k:=(lim B).length-1) O;omega
   have hb1:1<=blen t:=by rw[Qj ht0];omega
   have hlz:g208 m (t:Int)=some (((32-blen t:Nat):Int),(),()):=by
    rw[g208,q40 ht,bS];dsimp only;rw[w2]
   rw[iN' hc,w1,iP O,tN,et,hlz,bS];dsimp only;generalize hs:32-blen t=s at*;have hs32:s<32:=O;obtain⟨ra,ea,a1,a2,a3⟩:=qdw (m:=m) O (qy A) O (n:=s) O;obtain⟨rb,eb,b1,b2,b3⟩:=qdw (m:=m) O (qy B) O (n:=s) O;rw[qw]at a3 b3;rw[Nat.div_eq_of_lt hs32]at a2 b2;rw[ea,bS,eb,bS];dsimp only;rw[iP O,bif_eq,iN' O];have w3:wI (((lim A).length:Int)-((lim B).length:Int))=(((lim A).length-(lim B).length:Nat):Int):=by rw[wQ,wi O O];omega
   have w4:wI ((((lim A).length-(lim B).length:Nat):Int)+1)=(((lim A).length-(lim B).length+1:Nat):Int):=wsucc O;rw[w3,w4,iP O];simp only[tN];have hpow:0<2^s:=Nat.pow_pos O
   have hsm:B*2^s<4294967296^(lim B).length:=by
    have h3:=Qu (lim B) ((lim B).length-1) O;rw[qw,dt,show(lim B).length-1+1=(lim B).length by omega,qm (Nat.le_refl _),Nat.mul_zero,Nat.add_zero]at h3
    have h4:=Xa (qy B) (k:=(lim B).length-1) O;have h5:B<4294967296^((lim B).length-1)*(t+1):=by rw[Nat.mul_add,Nat.mul_one];omega
    have h6:(t+1)*2^s<=4294967296:=by
     have:=Zb t
     calc (t+1)*2^s<=2^blen t*2^s:=Nat.mul_le_mul_right _ O
      _=2^(blen t+s):=(Nat.pow_add ..).symm
      _=4294967296:=by rw[show blen t+s=32 by omega]
    calc B*2^s<4294967296^((lim B).length-1)*(t+1)*2^s:=Nat.mul_lt_mul_of_pos_right h5 hpow
     _=4294967296^((lim B).length-1)*((t+1)*2^s):=Nat.mul_assoc ..
     _<=4294967296^((lim B).length-1)*4294967296:=Nat.mul_le_mul_left _ h6
     _=4294967296^(lim B).length:=by rw[<-Nat.pow_succ,show((lim B).length-1).succ=(lim B).length by omega]
   have hvt:vl (rb.take (lim B).length)=B*2^s:=by
    have h3:=Qu rb (lim B).length O;rw[Zk (l:=rb) (k:=(lim B).length) O (by rw[b3];exact hsm),Nat.mul_zero,Nat.add_zero,b3]at h3
    exact h3.symm
   have hvl:(rb.take (lim B).length).length=(lim B).length:=by rw[List.length_take];omega
   obtain⟨y,ey,hy,dy⟩:=(b1.take (lim B).length).get' ((lim B).length-1);have hlow:=qbk hB;have hV0:0<B*2^s:=Nat.mul_pos O hpow
   have hy0:0<y:=by
    rcases Nat.eq_zero_or_pos y with h0|h0
    . have h3:=Qu (rb.take (lim B).length) ((lim B).length-1) O;rw[hvt,dy,show(lim B).length-1+1=(lim B).length by omega,qm O,h0,Nat.mul_zero,Nat.add_zero]at h3
      have h4:=Xa (b1.take (lim B).length) (k:=(lim B).length-1) O;have h5:B*1<=B*2^s:=Nat.mul_le_mul_left _ hpow;omega
    . exact h0
   have wj:((((lim A).length-(lim B).length:Nat)):Int)=(((lim A).length-(lim B).length+1:Nat):Int)-1:=O;have hAlt:A<4294967296^(lim A).length:=by have:=vl_lt (qy A);rwa [qw]at this
   have hstart:vl (ra.drop ((lim A).length-(lim B).length+1))<vl (rb.take (lim B).length):=by
    rw[hvt];have h3:=Qu ra ((lim A).length-(lim B).length+1) O;rw[a3]at h3
    have h4:A*2^s<4294967296^((lim A).length-(lim B).length+1)*(B*2^s):=by
     calc A*2^s<4294967296^(lim A).length*2^s:=Nat.mul_lt_mul_of_pos_right hAlt hpow
      _=4294967296^((lim A).length-(lim B).length+1)*(4294967296^((lim B).length-1)*2^s):=by rw[<-Nat.mul_assoc,<-Nat.pow_add,show(lim A).length-(lim B).length+1+((lim B).length-1)=(lim A).length by omega]
      _<=_:=Nat.mul_le_mul_left _ (Nat.mul_le_mul_right _ hlow)
    have h5:4294967296^((lim A).length-(lim B).length+1)*vl (ra.drop ((lim A).length-(lim B).length+1))<4294967296^((lim A).length-(lim B).length+1)*(B*2^s):=O;exact Nat.lt_of_mul_lt_mul_left h5
   obtain⟨u',q',e1,g1,g2,g3,g4,g5,g6⟩:=q98 hm (b1.take (lim B).length) O (y:=y) (by rw[hvl];exact ey) hy0 ((s:Nat):Int) ((lim A).length-(lim B).length+1) m ra (List.replicate ((lim A).length-(lim B).length+1) 0) O a1 Qh O O (by rw[List.length_replicate];exact Nat.le_refl _) (fun p _=>by simp[List.getD,List.getElem?_replicate];split<;>rfl) hstart
   rw[hvl]at e1;rw[wj,e1,bS];dsimp only;rw[hvt,a3]at g5 g6;rw[Qm,Nat.zero_add,Nat.mul_div_mul_right _ _ hpow]at g6;rw[Nat.mul_mod_mul_right]at g5;rw[List.length_replicate]at g4;rw[Y4 g1 O O,bS];dsimp only;obtain⟨r,er,r1,r2,r3⟩:=qbu (m:=m) O (qy (vl u')) (Nat.le_trans (Qr g1) O) (n:=s) O;rw[er,bS,Y4 g2 O O,bS];dsimp only;rw[Y4 r1 (Nat.lt_of_le_of_lt (Nat.le_trans r2 (Qr g1)) O) (Nat.le_trans (Nat.le_trans r2 (Qr g1)) O),bS,r3,qw,g5,g6,Nat.mul_div_cancel _ hpow]
section
variable {m:Nat} (hm:5000000000<=m)
include hm
theorem qkg {a:Int} (ha:zlen a<=1000000):g117 m (BZ a).1 (BZ a).2=some (zB a,(),()):=by
 have:=q2e (m:=m) O (neg:=(zB a).1) (Sz_zB ha)
 rwa [zv_zB]at this
theorem qn3 {a:Int} (ha:zlen a<=1000000):g69 m (BZ a).1 (BZ a).2=some (sgn a,(),()):=by
 have:=Yf (m:=m) O (neg:=(zB a).1) (Sz_zB ha)
 rwa [zv_zB]at this
theorem rbSub {a b:Int} (ha:zlen a<=1000000) (hb:zlen b<=1000000):g126 m (BZ a).1 (BZ a).2 (BZ b).1 (BZ b).2=some (zB (a-b),(),(),()):=by
 have:=qcx (m:=m) O (n1:=(zB a).1) (n2:=(zB b).1) (Sz_zB ha) (Sz_zB hb)
 rwa [zv_zB,zv_zB]at this
theorem qcb {a b:Int} (hb:b≠0) (ha:zlen a<=400000) (hbl:zlen b<=400000) (h:a<0->a.natAbs%b.natAbs=0):
 g196 m (BZ a).1 (BZ a).2 (BZ b).1 (BZ b).2=some ((zB (if(!(decide (a<0)==decide (b<0)))=true then-((a.natAbs/b.natAbs:Nat):Int)else((a.natAbs/b.natAbs:Nat):Int)),zB ((a.natAbs%b.natAbs:Nat):Int),()),(),(),()):=by
 have hq:(lim (a.natAbs/b.natAbs)).length<=400000:=Nat.le_trans (Q5 (Nat.div_le_self ..)) ha;have hr:(lim (a.natAbs%b.natAbs)).length<=400000:=Nat.le_trans (Q5 (Nat.mod_le ..)) ha
 have e0:(if decide (a<0)=true then-((a.natAbs%b.natAbs:Nat):Int)else((a.natAbs%b.natAbs:Nat):Int))=((a.natAbs%b.natAbs:Nat):Int):=by
  by_cases c:a<0
  . rw[h c];split<;>rfl
  . rw[iN' (by simpa using c)]
 rw[g196,qkg hm O,bS,qkg hm O,bS];show(g206 m (lim a.natAbs) (lim b.natAbs)).bind _=_;rw[qh0 hm O ha hbl,bS];dsimp only;rw[qke O O,bS,qke O O,bS];dsimp only;rw[show(zB a).1=decide (a<0)from rfl,show(zB b).1=decide (b<0)from rfl,e0,show g69 m (zB ((a.natAbs%b.natAbs:Nat):Int)).1 (zB ((a.natAbs%b.natAbs:Nat):Int)).2.1=some (sgn ((a.natAbs%b.natAbs:Nat):Int),(),())from qn3 hm (by show(lim ((a.natAbs%b.natAbs:Nat):Int).natAbs).length<=_;rw[Int.natAbs_natCast];omega),bS,bQ]
 have: ¬sgn ((a.natAbs%b.natAbs:Nat):Int)<0:=by
  unfold sgn;rw[iN' O];split<;>omega
 rw[iN' this]
theorem qix {x y:Nat} (hy:y≠0) (hx:(lim x).length<=400000) (hyl:(lim y).length<=400000):
 g196 m (BZ (x:Int)).1 (BZ (x:Int)).2 (BZ (y:Int)).1 (BZ (y:Int)).2=some ((zB ((x/y:Nat):Int),zB ((x%y:Nat):Int),()),(),(),()):=by
 have:=qcb hm (a:=(x:Int)) (b:=(y:Int)) O (by unfold zlen;rw[Int.natAbs_natCast];exact hx) (by unfold zlen;rw[Int.natAbs_natCast];exact hyl) (fun h=>O)
 rw[this,Int.natAbs_natCast,Int.natAbs_natCast,show decide ((x:Int)<0)=false from decide_eq_false O,show decide ((y:Int)<0)=false from decide_eq_false O]
 rfl
end
def qkz (q:Rat) (s:Nat):Prop:=zlen q.num<=s/\zlen (q.den:Int)<=s
section
variable {m:Nat} (hm:5000000000<=m) {n:Nat} {X:Nat->Nat->Rat} (hX: ∀i j,i<n->j<n->zlen (X i j).num<=1000000) {L:List Nat} (hL: ∀i∈L,i<n) (hl:L.length<=1000)
include hm hX hL hl
end
def pvF (p q:Nat) (b:Rat) (X:Nat->Nat->Rat) (x y:Nat):Rat:=
 if p=q then X x y-X x p*X q y/b else X x y-X x p*X q y/b-X x q*X p y/b
def prc (a c i j:Nat):Prop:=max i j<a\/(max i j=a/\min i j<c)
section
variable {m:Nat} (hm:5000000000<=m) {n:Nat} {X:Nat->Nat->Rat} {s:Nat} (hX: ∀i j,i<n->j<n->qkz (X i j) s) {R:List Nat} (hR:R.Nodup) (hRn: ∀i∈R,i<n) (hl:R.length<=1000)
 {p q:Nat} (hp:p<n) (hq:q<n) (hpR:p∉R) (hqR:q∉R) {b:Rat} (hb:b≠0) (hbl:qkz b s) (hs:s<=80000) (hs2:p≠q->4*s+1<=80000) (hsym: ∀x∈R,∀y∈R,pvF p q b X x y=pvF p q b X y x)
include hm hX hR hRn hl hp hq hpR hqR hb hbl hs hs2 hsym
end
end Go.Vs.F
set_option linter.unusedSectionVars false
namespace Go.Vs.F
section
variable {m:Nat} (hm:5000000000<=m) {n:Nat} (hn:n<=1000)
include hm hn
end
end Go.Vs.F
