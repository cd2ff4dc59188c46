import Derived.Test.YtikppifemlpjlaaGreatDoorLd
import Derived.Test.YtikppifemlpjlaaGreatDoorLe
set_option linter.unusedVariables false
set_option linter.unusedSimpArgs false
set_option linter.defProp false
namespace Go.Vs.F
def qff {m:Nat} (hm:3000000<m) {a:LI} (ha:Lm a) (hl:a.length<=500000) {n:Nat} (hn:n<=10000000):
 ∃r,g128 m a (n:Int)=some (r,(),(),())/\Lm r/\r.length=a.length+n/32+1/\vl r=vl a*2^n:=by
 have w0:wI (Int.tdiv (n:Int) 32)=((n/32:Nat):Int):=by rw[qcn,wQ,wi O O]
 have hple:2^(n%32)<=2^31:=zq O O;obtain⟨out,c,e,h1,h2,h3,h4⟩:=qkw m (N:=n) (w:=n/32) (p:=n%32) ha O O O qd0 m 0 (List.replicate (n/32) 0) 0 O O Qn (by simp) (zC1 O)
 rw[nZ]at e;have w:wK (c:Int)=(c:Int):=by rw[w32,zu O]
 refine⟨out++[(c:Int)],?_,Jj h1 O,by simp[h2];omega,?_⟩
 . rw[g128,w0,iP O,tN,e,bS];dsimp only;rw[w,iP (by rw[h2];show n/32+a.length+1<=_;omega)]
 . rw[Jm,h2,h4,Qv,zT1,zF,zF,zL,<-Nat.mul_assoc,pow32,show 32*(n/32)+n%32=n by omega,zW]
def qm0 {P B d x e b c g y Dv Dw V0 V1 V2 Q R c' lo:Nat} (h1:V1+P*B*(e+c'+g*Dv)+R=V2+P*B*Dw+Q) (h2:V2=V0+P*d) (h3:d+lo+b=x+B*e) (h4:c+g*y=lo+B*c'):
 V1+P*(b+c+g*(y+B*Dv))+R=V0+P*(x+B*Dw)+Q:=by
 have k1:P*(d+lo+b)=P*d+P*lo+P*b:=by rw[zC,zC]
 have k2:P*(x+B*e)=P*x+P*B*e:=by rw[zC,zO]
 have k3:P*B*(e+c'+g*Dv)=P*B*e+P*B*c'+P*B*(g*Dv):=by rw[zC,zC]
 have k4:P*(b+c+g*(y+B*Dv))=P*b+P*(c+g*y)+P*B*(g*Dv):=by
  rw[show b+c+g*(y+B*Dv)=b+(c+g*y)+B*(g*Dv) by rw[zC,zW1 g B];omega,zC,zC,zO]
 have k5:P*(lo+B*c')=P*lo+P*B*c':=by rw[zC,zO]
 have k6:P*(x+B*Dw)=P*x+P*B*Dw:=by rw[zC,zO]
 rw[h4]at k4;rw[h3]at k1;rw[k4,k6,k5];rw[k3]at h1;omega
def qot (m:Nat) {u v:LI} (hu:Lm u) (hv:Lm v) (hl:u.length<=1000001) {j g:Nat} (hj:j+v.length<u.length) (hg:g<4294967296): ∀(N k:Nat) (out:LI) (b c:Nat),v.length+1-k<N->k<=v.length+1->Lm out->out.length=v.length+1->(∀p,k<=p->out.getD p 0=0)->b<2->c<4294967296->(k=v.length+1->c=0)->
 ∃out' b',g212L0 m N u v (j:Int) (g:Int) (v.length:Int) out (b:Int) (c:Int) (k:Int)=some (.inl (u,(j:Int),(v.length:Int),out',((b':Nat):Int),()))/\Lm out'/\out'.length=v.length+1/\b'<2/\
  vl out'+4294967296^k*(b+c+g*vl (v.drop k))+4294967296^(v.length+1)*vl (u.drop (j+v.length+1))=vl out+4294967296^k*vl (u.drop (j+k))+4294967296^(v.length+1)*b':=by
 intro N;induction N with
 |zero=>intro k out b c h;omega
 |succ N ih=>
  intro k out b c h hk0 ho hol hz hb hc hlast;rw[g212L0];by_cases hk:k<=v.length
  . obtain⟨x,ex,hx,dx⟩:=hu.get' (j+k);have w0:wI ((k:Int)+(j:Int))=((j+k:Nat):Int):=by rw[wQ,wi O O];omega
    have c2:(0:Int)<=((j+k:Nat):Int)/\((j+k:Nat):Int)<(u.length:Int):=O;have c3:(0:Int)<=(k:Int)/\(k:Int)<(out.length:Int):=O;have w1:wJ (x:Int)=(x:Int):=w64n O;have ws:wI ((k:Int)+1)=((k+1:Nat):Int):=wsucc O;have oz:out.getD k 0=0:=hz k (zH _)
    have hset: ∀d:Nat,vl (out.set k (d:Int))=vl out+4294967296^k*d:=by
     intro d;have:=Zl (l:=out) (p:=k) (y:=(d:Int)) O;rw[oz,zO3,zX,tN]at this;omega
    have hzs: ∀d:Nat,∀p,k+1<=p->(out.set k (d:Int)).getD p 0=0:=λd p hp=>by rw[getD_set_ne O];exact hz p O
    have fin: ∀(t y:Nat),t<18446744073709551616->c+g*y=t->(k=v.length->t<4294967296)->vl (v.drop k)=y+4294967296*vl (v.drop (k+1))->
     ∃out' b',g212L0 m N u v (j:Int) (g:Int) (v.length:Int) (out.set k (wK (wJ ((wJ ((x:Int)-(b:Int)))-(qp .u64 (t:Int) 4294967295))))) (shr_ .u64 (wJ ((wJ ((x:Int)-(b:Int)))-(qp .u64 (t:Int) 4294967295))) 63) (shr_ .u64 (t:Int) 32) ((k+1:Nat):Int)=some (.inl (u,(j:Int),(v.length:Int),out',((b':Nat):Int),()))/\Lm out'/\out'.length=v.length+1/\b'<2/\
      vl out'+4294967296^k*(b+c+g*vl (v.drop k))+4294967296^(v.length+1)*vl (u.drop (j+v.length+1))=vl out+4294967296^k*vl (u.drop (j+k))+4294967296^(v.length+1)*b':=by
     intro t y ht hty htl hvd;obtain⟨d,e,hd,he,hde,q1,q2⟩:=q6k hx (show t%4294967296<4294967296 by omega) hb
     have e2:shr_ .u64 (t:Int) 32=((t/4294967296:Nat):Int):=shr64 (a:=t) (k:=32) O;rw[low32 ht,q1,q2,e2];obtain⟨out',b',g1,g2,g3,g4,g5⟩:=ih (k+1) (out.set k (d:Int)) e (t/4294967296) O O (Za ho hd) (by rw[zZ];exact hol) (hzs d) he O (λhh=>by have:=htl O;omega)
     refine⟨out',b',g1,g2,g3,g4,?_⟩;rw[zh,<-Nat.add_assoc j k 1]at g5;rw[dx,hvd];exact qm0 g5 (hset d) hde (by rw[hty];omega)
    rw[bQ,iP O,bQ];by_cases kv:k<v.length
    . obtain⟨y,ey,hy,dy⟩:=hv.get' k;have hm:=qjr hg hy;have w3:wJ (y:Int)=(y:Int):=w64n O;have w4:wJ ((g:Int)*(y:Int))=((g*y:Nat):Int):=by rw[show(g:Int)*(y:Int)=((g*y:Nat):Int) by rw[zR1],w64n O]
      have w5:wJ ((c:Int)+((g*y:Nat):Int))=((c+g*y:Nat):Int):=by rw[show(c:Int)+((g*y:Nat):Int)=((c+g*y:Nat):Int) by rw[za1 c],w64n O]
      rw[iP O,iP O,w0,iP c2,iP c3,ws];simp only[tN,zF];rw[ex,ey,w1,w3,w4,w5];exact fin _ y O rfl (λh=>O) dy
    . have hkv:k=v.length:=O;rw[iN' O,w0,iP c2,iP c3,ws];simp only[tN,zF];rw[ex,w1];have hd0:vl (v.drop k)=0+4294967296*vl (v.drop (k+1)):=by rw[qo O,qo O]
      exact fin c 0 O (by rw[zX,zL]) (λ_=>hc) hd0
  . have hkv:k=v.length+1:=O;rw[bQ,iN' O];refine⟨out,b,rfl,ho,hol,hb,?_⟩;have e0:b+0+0=b:=rfl;rw[hlast hkv,hkv,qo (l:=v) O,zX,e0,<-Nat.add_assoc j];omega
def qpa (m:Nat) {u:LI} {j n:Nat} (hl:u.length<=1000001) (hj:j+n<u.length) {out:LI} (ho:out.length=n+1): ∀(N k:Nat),n+1-k<N->k<=n+1->
 g212L1 m N (u.take j++out.take k++u.drop (j+k)) (j:Int) (n:Int) out (k:Int)=some (.inl (u.take j++out++u.drop (j+n+1),())):=by
 intro N;induction N with
 |zero=>intro k h;omega
 |succ N ih=>
  intro k h hk;rw[g212L1];by_cases c:k<=n
  . have hlen:(u.take j++out.take k++u.drop (j+k)).length=u.length:=by simp only[zi,zf,zU1];omega
    have w0:wI ((k:Int)+(j:Int))=((j+k:Nat):Int):=by rw[wQ,wi O O];omega
    have ws:wI ((k:Int)+1)=((k+1:Nat):Int):=wsucc O;rw[bQ,iP O,iP O,w0,hlen,iP O,ws];simp only[tN,zF]
    have e:(u.take j++out.take k++u.drop (j+k)).set (j+k) (out.getD k 0)=u.take j++out.take (k+1)++u.drop (j+(k+1)):=by
     have l1:(u.take j++out.take k).length=j+k:=by simp only[zi,zf];omega
     rw[List.set_append_right _ _ (by rw[l1];exact zH _),l1,zD3,zU2 (by omega:j+k<u.length),List.set_cons_zero,take_snoc (l:=out) (k:=k) O rfl,<-Nat.add_assoc]
     simp[zo1]
    rw[e];exact ih (k+1) O O
  . have hk':k=n+1:=O;rw[bQ,iN' O,hk',zg1 (l:=out) O,<-Nat.add_assoc]
def qqa {m:Nat} (hm:2000000<m) {u v:LI} (hu:Lm u) (hv:Lm v) (hl:u.length<=1000001) {j g:Nat} (hj:j+v.length<u.length) (hg:g<4294967296) (hz:vl (u.drop (j+v.length+1))=0):
 (g*vl v<=vl (u.drop j)-> ∃u',g212 m u v (j:Int) (g:Int)=some (true,u',(),(),(),())/\Lm u'/\u'.length=u.length/\vl u'+4294967296^j*(g*vl v)=vl u/\vl (u'.drop j)=vl (u.drop j)-g*vl v)/\
 (vl (u.drop j)<g*vl v->g212 m u v (j:Int) (g:Int)=some (false,u,(),(),(),())):=by
 have w:wI ((v.length:Int)+1)=((v.length+1:Nat):Int):=wsucc O;obtain⟨out,b,e,h1,h2,h3,h4⟩:=qot m hu hv hl hj hg m 0 (List.replicate (v.length+1) 0) 0 0 O O Qn (zF1 ..) (λp _=>by simp[List.getD,List.getElem?_replicate];split<;>rfl) O O (λh=>O)
 rw[nZ]at e;have hlt:=vl_lt h1;rw[h2]at hlt;rw[Qv,hz,zT1,za2,zT2,zT2,zX,zL,zL,zF,zF,zL]at h4
 have start:g212 m u v (j:Int) (g:Int)=bif ((b:Nat):Int) !=0 then some (false,u,(),(),(),())else(g212L1 m m u (j:Int) (v.length:Int) out 0).bind λy3=>match y3 with
  | .inl z4=>some (true,(z4.1,(),(),(),()))
  | .inr e=>e.elim:=by
  rw[g212,w,iP O,tN,e,bS];rfl
 constructor
 . intro hle
   have hb:b=0:=by
    rcases zE1 b 1 with h|h
    . omega
    . have:b=1:=O;subst this;rw[zP1]at h4;omega
   subst hb;have e1:=qpa m hl hj h2 m 0 O O;rw[zz2,zb1,zL,zK1]at e1;rw[nZ]at e1;rw[start,nZ,show((0:Int) !=0)=false from rfl,cond_false,e1,bS]
   have d1:(u.take j++out++u.drop (j+v.length+1)).drop j=out++u.drop (j+v.length+1):=by
    rw[zo1,List.drop_append,zg2 (by rw[zf];omega),zI3,zf,show j-min j u.length=0 by omega,zT1]
   have v1:vl (out++u.drop (j+v.length+1))=vl out:=by rw[Jr,hz,zX,zL]
   have lt1:(u.take j).length=j:=by rw[zf];omega
   refine⟨_,rfl,?_,?_,?_,?_⟩
   . intro x hx;rcases zY.1 hx with hx|hx
     . rcases zY.1 hx with hx|hx
       . exact hu x (zJ1 hx)
       . exact h1 x hx
     . exact hu x (zh1 hx)
   . simp only[zi,zf,zU1];omega
   . have hsplit:vl u=vl (u.take j)+4294967296^j*vl (u.drop j):=by
      conv=>lhs;rw[<-List.take_append_drop j u]
      rw[Jr,lt1]
     rw[zo1,Jr,v1,lt1,hsplit];rw[zX]at h4;have:vl (u.drop j)=vl out+g*vl v:=O;rw[this,zC];omega
   . rw[d1,v1];rw[zX]at h4;omega
 . intro hlt2
   have hb:b=1:=by
    rcases zE1 b 1 with h|h
    . have:b=0:=O;subst this;rw[zX]at h4;omega
    . omega
   subst hb;rw[start];rfl
def Qz (l:LI) (k:Nat) (h:k<=l.length):vl l=vl (l.take k)+4294967296^k*vl (l.drop k):=by
 conv=>lhs;rw[<-List.take_append_drop k l]
 rw[Jr,zf,Nat.min_eq_left h]
def Lm.take {l:LI} (h:Lm l) (k:Nat):Lm (l.take k):=λx hx=>h x (zJ1 hx)
def Lm.drop {l:LI} (h:Lm l) (k:Nat):Lm (l.drop k):=λx hx=>h x (zh1 hx)
def Xk {l:LI} (h:Lm l) {k:Nat} (hk:k<=l.length):vl (l.take k)<4294967296^k:=by
 have:=vl_lt (h.take k)
 rwa [zf,Nat.min_eq_left hk]at this
def Jf {l:LI} {k:Nat} (hk:k<=l.length) (hlt:vl l<4294967296^k):vl (l.drop k)=0:=by
 have:=Qz l k hk;rcases zd3 (vl (l.drop k))with h|h
 . exact h
 . have:=Nat.le_mul_of_pos_right (4294967296^k) h;omega
def qgg {W lo P t V lo' y d:Nat} (hW:W=lo+P*t) (hlo:lo<P) (hV:V=lo'+P*y) (hy:0<y) (hd:d*V<=W):d<=t/y:=by
 rw[zV2 hy];have h1:d*(P*y)<=d*V:=zT _ O
 have h2:P*(d*y)<P*(t+1):=by
  rw[zW1 P d y,zC,zP1];omega
 have:=zE2 h2;omega
def qic {m:Nat} (hm:2000000<m) {u v:LI} (hu:Lm u) (hv:Lm v) (hl:u.length<=1000001) {j:Nat} (hj:j+v.length<u.length) (hz:vl (u.drop (j+v.length+1))=0) (hV:0<vl v) (n s:Int) (q:LI) {d:Nat} (hd:d=vl (u.drop j)/vl v):
 ∀(N k:Nat),k<N->d+k<4294967296-> ∃u',g206L1 m N n s u v q (j:Int) ((d+k:Nat):Int)=some (.inl (n,s,u',v,q,(j:Int),(d:Int),()))/\Lm u'/\u'.length=u.length/\vl u'+4294967296^j*(d*vl v)=vl u/\vl (u'.drop j)=vl (u.drop j)%vl v:=by
 intro N;induction N with
 |zero=>intro k h;omega
 |succ N ih=>
  intro k hk hb;obtain⟨t1,t2⟩:=qqa hm hu hv hl hj hb hz;have hdm:=ze1 (vl (u.drop j)) (vl v);have hml:=zV1 (vl (u.drop j)) hV;rw[<-hd]at hdm;rw[g206L1];by_cases c:k=0
  . subst c;obtain⟨u',e,h1,h2,h3,h4⟩:=t1 (by rw[zL,zW];omega)
    rw[zL]at*;refine⟨u',?_,h1,h2,h3,?_⟩
    . rw[e,bS];rfl
    . rw[h4,zW];omega
  . have hlt:vl (u.drop j)<(d+k)*vl v:=by
     have:(d+1)*vl v<=(d+k)*vl v:=zN _ O;rw[zI1,zT2,zW]at this;omega
    rw[t2 hlt,bS];dsimp only;rw[zf1,cond_true];have w:wJ (((d+k:Nat):Int)-1)=((d+(k-1):Nat):Int):=by rw[w64m];omega
    rw[w];exact ih (k-1) O O
def qcs {m:Nat} (hm:5000000000<=m) {v:LI} (hv:Lm v) (h1:1<=v.length) {y:Nat} (ey:v.getD (v.length-1) 0=(y:Int)) (hy:0<y) (s:Int): ∀(k N:Nat) (u q:LI),k<N->Lm u->Lm q->u.length<=1000001->k+v.length<=u.length->k<=q.length->(∀p,p<k->q.getD p 0=0)->vl (u.drop k)<vl v->
 ∃u' q',g206L0 m N (v.length:Int) s u v q ((k:Int)-1)=some (.inl (s,u',q',()))/\Lm u'/\Lm q'/\u'.length=u.length/\q'.length=q.length/\vl u'=vl u%vl v/\vl q'=vl q+vl u/vl v
 |0,N+1,u,q,_,hu,hq,hl,hk,hkq,hz,hlt=>by
  rw[zT1]at hlt;refine⟨u,q,?_,hu,hq,rfl,rfl,(zu hlt).symm,by rw[zx1 hlt,zL]⟩
  rw[g206L0,bQ,iN' O]
 |k+1,N+1,u,q,hN,hu,hq,hl,hk,hkq,hz,hlt=>by
  have wk:((k+1:Nat):Int)-1=(k:Int):=O;have hVb:=vl_lt hv;obtain⟨x,ex,hx,dx⟩:=hu.get' k;obtain⟨x0,ex0,hx0,dx0⟩:=hu.get' (k+v.length);obtain⟨x1,ex1,hx1,dx1⟩:=hu.get' (k+v.length-1)
  have hW:vl (u.drop k)<4294967296^(v.length+1):=by
   rw[dx,zh,zW (4294967296^v.length)];omega
  have hz0:vl (u.drop (k+v.length+1))=0:=by
   have:=Jf (l:=u.drop k) (k:=v.length+1) (by rw[zU1];omega) hW
   rwa [zQ2,<-Nat.add_assoc]at this
  have hWsp:vl (u.drop k)=vl ((u.drop k).take (v.length-1))+4294967296^(v.length-1)*(x0*4294967296+x1):=by
   rw[Qz (u.drop k) (v.length-1) (by rw[zU1];omega),zQ2,show k+(v.length-1)=k+v.length-1 by omega,dx1,show k+v.length-1+1=k+v.length by omega,dx0,hz0]
   congr 2;omega
  have hlo:vl ((u.drop k).take (v.length-1))<4294967296^(v.length-1):=Xk (hu.drop k) (by rw[zU1];omega)
  have hyl:y<4294967296:=by
   obtain⟨y',ey',hy',_⟩:=hv.get' (v.length-1);rw[ey]at ey';omega
  have hVsp:vl v=vl (v.take (v.length-1))+4294967296^(v.length-1)*y:=by
   rw[Qz v (v.length-1) O,X4 O,ey,tN,qo (l:=v) O,zX,zL]
  have hV:0<vl v:=by
   rw[hVsp];exact zN2 (zp3 (zC1 O) hy) (Nat.le_add_left _ _)
  have hdle:vl (u.drop k)/vl v*vl v<=vl (u.drop k):=zZ3 ..;have hg:=qgg hWsp hlo hVsp hy hdle
  have hdB:vl (u.drop k)/vl v<4294967296:=by
   rw[z01 hV,dx];omega
  generalize hd:vl (u.drop k)/vl v=d at*
  have t64:x0*4294967296+x1<18446744073709551616:=O;have htd:(x0*4294967296+x1)/y<18446744073709551616:=zA2 (zl1 ..) t64;rw[g206L0,wk];have w1:wI ((k:Int)+(v.length:Int))=((k+v.length:Nat):Int):=by rw[wQ,wi O O];omega
  have w2:wI (((k+v.length:Nat):Int)-1)=((k+v.length-1:Nat):Int):=by rw[wQ,wi O O];omega
  have w3:wI ((v.length:Int)-1)=((v.length-1:Nat):Int):=by rw[wQ,wi O O];omega
  have w4:wJ (y:Int)=(y:Int):=w64n O;have w5:wJ (x0:Int)=(x0:Int):=w64n O;have w6:wJ (x1:Int)=(x1:Int):=w64n O;rw[bQ,iP O,w1,w2,w3,iP O,iP O,iP O];simp only[tN,zF];rw[ey,ex0,ex1,w4,w5,w6,iP O,qj7 hx0 hx1,td,w64n htd]
  obtain⟨g,eg,hg1,hg2⟩: ∃g:Nat,(if(4294967295:Int)<(((x0*4294967296+x1)/y:Nat):Int)then(4294967295:Int)else(((x0*4294967296+x1)/y:Nat):Int))=((d+g:Nat):Int)/\d+g<4294967296/\g<4294967296:=by
   by_cases c:(4294967295:Int)<(((x0*4294967296+x1)/y:Nat):Int)
   . rw[iP c];exact⟨4294967295-d,O,O,O⟩
   . rw[iN' c];exact⟨(x0*4294967296+x1)/y-d,O,O,O⟩
  rw[eg];obtain⟨u1,e1,f1,f2,f3,f4⟩:=qic (m:=m) O hu hv hl (j:=k) O hz0 hV (v.length:Int) s q hd.symm m g O hg1;rw[e1,bS];dsimp only;have w7:wK (d:Int)=(d:Int):=by rw[w32,zu hdB]
  have w8:wI ((k:Int)-1)=(k:Int)-1:=by rw[wQ,wi O O]
  rw[iP O,w7,w8,tN]
  have hq1:vl (q.set k (d:Int))=vl q+4294967296^k*d:=by
   have:=Zl (l:=q) (p:=k) (y:=(d:Int)) O;rw[hz k O,zO3,zX,tN]at this;omega
  obtain⟨u',q',e2,g1,g2,g3,g4,g5,g6⟩:=qcs hm hv h1 ey hy s k N u1 (q.set k (d:Int)) O f1 (Za hq hdB) O O (by rw[zZ];omega) (λp hp=>by rw[getD_set_ne O];exact hz p O) (by rw[f4];exact zV1 _ hV)
  have hsum:vl u=vl u1+vl v*(4294967296^k*d):=by rw[<-f3,zW d,zW1]
  refine⟨u',q',e2,g1,g2,O,by rw[g4,zZ],?_,?_⟩
  . rw[g5,hsum,zF2]
  . rw[g6,hq1,hsum,Nat.add_mul_div_left _ _ hV];omega
def qdr {B:Nat} (h:B≠0):4294967296^((lim B).length-1)<=B:=by
 refine zD2 λhlt=> ?_
 have h1:=Xi hlt;have:lim B≠[]:=λh2=>h (q0v.1 h2)
 have:=zY3.2 this;omega
def qj3 {m:Nat} (hm:5000000000<=m) {A B:Nat} (hB:B≠0) (hA:(lim A).length<=400000) (hBl:(lim B).length<=400000):
 g206 m (lim A) (lim B)=some ((lim (A/B),lim (A%B),()),(),(),()):=by
 rw[g206,q8m O O O,bS,bQ];dsimp only;by_cases c:A<B
 . have hc:cmpN A B= -1:=by unfold cmpN;rw[iP c]
   rw[hc,iP O,zx1 c,zu c,Q8]
 . have hc: ¬cmpN A B<0:=by unfold cmpN;rw[iN' c];split<;>omega
   have hn:1<=(lim B).length:=zY3.2 λh2=>hB (q0v.1 h2)
   have hLn:(lim B).length<=(lim A).length:=Q5 O;obtain⟨t,et,ht,dt⟩:=(Q7 B).get' ((lim B).length-1);have w1:wI (((lim B).length:Int)-1)=(((lim B).length-1:Nat):Int):=by rw[wQ,wi O O];omega
   have hbt:blen t<=32:=Yh O;have w2:wI (32-((blen t:Nat):Int))=((32-blen t:Nat):Int):=by rw[wQ,wi O O];omega
   have ht0:t≠0:=by
    intro h0;have h2:=qdr hB;have h3:=Qz (lim B) ((lim B).length-1) O;rw[qw,dt,show(lim B).length-1+1=(lim B).length by omega,qo (zH _),h0]at h3
    have h4:=Xk (Q7 B) (k:=(lim B).length-1) O;omega
   have hb1:1<=blen t:=by rw[Qq ht0];omega
   have hlz:g208 m (t:Int)=some (((32-blen t:Nat):Int),(),()):=by
    rw[g208,q5m ht,bS];dsimp only;rw[w2]
   rw[iN' hc,w1,iP O,tN,et,hlz,bS];dsimp only;generalize hs:32-blen t=s at*;have hs32:s<32:=O;obtain⟨ra,ea,a1,a2,a3⟩:=qff (m:=m) O (Q7 A) O (n:=s) O;obtain⟨rb,eb,b1,b2,b3⟩:=qff (m:=m) O (Q7 B) O (n:=s) O;rw[qw]at a3 b3;rw[zx1 hs32]at a2 b2;rw[ea,bS,eb,bS];dsimp only;rw[iP O,bif_eq,iN' O];have w3:wI (((lim A).length:Int)-((lim B).length:Int))=(((lim A).length-(lim B).length:Nat):Int):=by rw[wQ,wi O O];omega
   have w4:wI ((((lim A).length-(lim B).length:Nat):Int)+1)=(((lim A).length-(lim B).length+1:Nat):Int):=wsucc O;rw[w3,w4,iP O];simp only[tN];have hpow:0<2^s:=zC1 O
   have hsm:B*2^s<4294967296^(lim B).length:=by
    have h3:=Qz (lim B) ((lim B).length-1) O;rw[qw,dt,show(lim B).length-1+1=(lim B).length by omega,qo (zH _),zX,zL]at h3
    have h4:=Xk (Q7 B) (k:=(lim B).length-1) O;have h5:B<4294967296^((lim B).length-1)*(t+1):=by rw[zC,zP1];omega
    have h6:(t+1)*2^s<=4294967296:=by
     have:=Yw t
     calc (t+1)*2^s<=2^blen t*2^s:=zN _ O
      _=2^(blen t+s):=(zQ1 ..).symm
      _=4294967296:=by rw[show blen t+s=32 by omega]
    calc B*2^s<4294967296^((lim B).length-1)*(t+1)*2^s:=zi2 h5 hpow
     _=4294967296^((lim B).length-1)*((t+1)*2^s):=zO ..
     _<=4294967296^((lim B).length-1)*4294967296:=zT _ h6
     _=4294967296^(lim B).length:=by rw[<-Nat.pow_succ,show((lim B).length-1).succ=(lim B).length by omega]
   have hvt:vl (rb.take (lim B).length)=B*2^s:=by
    have h3:=Qz rb (lim B).length O;rw[Jf (l:=rb) (k:=(lim B).length) O (by rw[b3];exact hsm),zX,zL,b3]at h3
    exact h3.symm
   have hvl:(rb.take (lim B).length).length=(lim B).length:=by rw[zf];omega
   obtain⟨y,ey,hy,dy⟩:=(b1.take (lim B).length).get' ((lim B).length-1);have hlow:=qdr hB;have hV0:0<B*2^s:=zp3 O hpow
   have hy0:0<y:=by
    rcases zd3 y with h0|h0
    . have h3:=Qz (rb.take (lim B).length) ((lim B).length-1) O;rw[hvt,dy,show(lim B).length-1+1=(lim B).length by omega,qo O,h0,zX,zL]at h3
      have h4:=Xk (b1.take (lim B).length) (k:=(lim B).length-1) O;have h5:B*1<=B*2^s:=zT _ hpow;omega
    . exact h0
   have wj:((((lim A).length-(lim B).length:Nat)):Int)=(((lim A).length-(lim B).length+1:Nat):Int)-1:=O;have hAlt:A<4294967296^(lim A).length:=by have:=vl_lt (Q7 A);rwa [qw]at this
   have hstart:vl (ra.drop ((lim A).length-(lim B).length+1))<vl (rb.take (lim B).length):=by
    rw[hvt];have h3:=Qz ra ((lim A).length-(lim B).length+1) O;rw[a3]at h3
    have h4:A*2^s<4294967296^((lim A).length-(lim B).length+1)*(B*2^s):=by
     calc A*2^s<4294967296^(lim A).length*2^s:=zi2 hAlt hpow
      _=4294967296^((lim A).length-(lim B).length+1)*(4294967296^((lim B).length-1)*2^s):=by rw[<-Nat.mul_assoc,<-Nat.pow_add,show(lim A).length-(lim B).length+1+((lim B).length-1)=(lim A).length by omega]
      _<=_:=zT _ (zN _ hlow)
    have h5:4294967296^((lim A).length-(lim B).length+1)*vl (ra.drop ((lim A).length-(lim B).length+1))<4294967296^((lim A).length-(lim B).length+1)*(B*2^s):=O;exact zE2 h5
   obtain⟨u',q',e1,g1,g2,g3,g4,g5,g6⟩:=qcs hm (b1.take (lim B).length) O (y:=y) (by rw[hvl];exact ey) hy0 ((s:Nat):Int) ((lim A).length-(lim B).length+1) m ra (List.replicate ((lim A).length-(lim B).length+1) 0) O a1 Qn O O (by rw[zF1];exact zH _) (λp _=>by simp[List.getD,List.getElem?_replicate];split<;>rfl) hstart
   rw[hvl]at e1;rw[wj,e1,bS];dsimp only;rw[hvt,a3]at g5 g6;rw[Qv,zF,Nat.mul_div_mul_right _ _ hpow]at g6;rw[Nat.mul_mod_mul_right]at g5;rw[zF1]at g4;rw[Yf g1 O O,bS];dsimp only;obtain⟨r,er,r1,r2,r3⟩:=qen (m:=m) O (Q7 (vl u')) (zK (Qy g1) O) (n:=s) O;rw[er,bS,Yf g2 O O,bS];dsimp only;rw[Yf r1 (zA2 (zK r2 (Qy g1)) O) (zK (zK r2 (Qy g1)) O),bS,r3,qw,g5,g6,ze3 _ hpow]
section
variable {m:Nat} (hm:5000000000<=m)
include hm
theorem qkb {a:Int} (ha:zlen a<=1000000):g117 m (BZ a).1 (BZ a).2=some (zB a,(),()):=by
 have:=q3b (m:=m) O (neg:=(zB a).1) (Sz_zB ha)
 rwa [zv_zB]at this
theorem rbNeg {a:Int} (ha:zlen a<=1000000):g164 m (BZ a).1 (BZ a).2=some (zB (-a),(),()):=by
 have:=qdx (m:=m) O (neg:=(zB a).1) (Sz_zB ha)
 rwa [zv_zB]at this
theorem rbAbs {a:Int} (ha:zlen a<=1000000):g82 m (BZ a).1 (BZ a).2=some (zB (a.natAbs:Int),(),()):=by
 have:=q4f (m:=m) O (neg:=(zB a).1) (Sz_zB ha)
 rwa [zv_zB]at this
theorem q71 {a:Int} (ha:zlen a<=1000000):g69 m (BZ a).1 (BZ a).2=some (sgn a,(),()):=by
 have:=Yx (m:=m) O (neg:=(zB a).1) (Sz_zB ha)
 rwa [zv_zB]at this
theorem rbSub {a b:Int} (ha:zlen a<=1000000) (hb:zlen b<=1000000):g126 m (BZ a).1 (BZ a).2 (BZ b).1 (BZ b).2=some (zB (a-b),(),(),()):=by
 have:=qdy (m:=m) O (n1:=(zB a).1) (n2:=(zB b).1) (Sz_zB ha) (Sz_zB hb)
 rwa [zv_zB,zv_zB]at this
theorem rbMul {a b:Int} (h:zlen a+zlen b<=400000):g120 m (BZ a).1 (BZ a).2 (BZ b).1 (BZ b).2=some (zB (a*b),(),(),()):=by
 have:=qja (m:=m) O (n1:=(zB a).1) (n2:=(zB b).1) (l1:=(zB a).2.1) (l2:=(zB b).2.1) (Q7 _) (Q7 _) h
 rwa [zv_zB,zv_zB]at this
theorem q6s {a b:Int} (hb:b≠0) (ha:zlen a<=400000) (hbl:zlen b<=400000) (h:a<0->a.natAbs%b.natAbs=0):
 g196 m (BZ a).1 (BZ a).2 (BZ b).1 (BZ b).2=some ((zB (if(!(decide (a<0)==decide (b<0)))=true then-((a.natAbs/b.natAbs:Nat):Int)else((a.natAbs/b.natAbs:Nat):Int)),zB ((a.natAbs%b.natAbs:Nat):Int),()),(),(),()):=by
 have hq:(lim (a.natAbs/b.natAbs)).length<=400000:=zK (Q5 (zl1 ..)) ha;have hr:(lim (a.natAbs%b.natAbs)).length<=400000:=zK (Q5 (zJ4 ..)) ha
 have e0:(if decide (a<0)=true then-((a.natAbs%b.natAbs:Nat):Int)else((a.natAbs%b.natAbs:Nat):Int))=((a.natAbs%b.natAbs:Nat):Int):=by
  by_cases c:a<0
  . rw[h c];split<;>rfl
  . rw[iN' (by simpa using c)]
 rw[g196,qkb hm O,bS,qkb hm O,bS];show(g206 m (lim a.natAbs) (lim b.natAbs)).bind _=_;rw[qj3 hm O ha hbl,bS];dsimp only;rw[qo1 O O,bS,qo1 O O,bS];dsimp only;rw[show(zB a).1=decide (a<0)from rfl,show(zB b).1=decide (b<0)from rfl,e0,show g69 m (zB ((a.natAbs%b.natAbs:Nat):Int)).1 (zB ((a.natAbs%b.natAbs:Nat):Int)).2.1=some (sgn ((a.natAbs%b.natAbs:Nat):Int),(),())from q71 hm (by show(lim ((a.natAbs%b.natAbs:Nat):Int).natAbs).length<=_;rw[zV];omega),bS,bQ]
 have: ¬sgn ((a.natAbs%b.natAbs:Nat):Int)<0:=by
  unfold sgn;rw[iN' O];split<;>omega
 rw[iN' this]
theorem q9t {x y:Nat} (hy:y≠0) (hx:(lim x).length<=400000) (hyl:(lim y).length<=400000):
 g196 m (BZ (x:Int)).1 (BZ (x:Int)).2 (BZ (y:Int)).1 (BZ (y:Int)).2=some ((zB ((x/y:Nat):Int),zB ((x%y:Nat):Int),()),(),(),()):=by
 have:=q6s hm (a:=(x:Int)) (b:=(y:Int)) O (by unfold zlen;rw[zV];exact hx) (by unfold zlen;rw[zV];exact hyl) (λh=>O)
 rw[this,zV,zV,show decide ((x:Int)<0)=false from decide_eq_false O,show decide ((y:Int)<0)=false from decide_eq_false O]
 rfl
theorem q82 {q g:Int} (hg:g≠0) (ha:zlen (q*g)<=400000) (hgl:zlen g<=400000):
 g169 m (BZ (q*g)).1 (BZ (q*g)).2 (BZ g).1 (BZ g).2=some ((zB q,true,()),(),(),()):=by
 have hN:(q*g).natAbs=q.natAbs*g.natAbs:=zI2 ..;have hm0:(q*g).natAbs%g.natAbs=0:=by rw[hN];exact Nat.mul_mod_left ..
 have hd0:(q*g).natAbs/g.natAbs=q.natAbs:=by rw[hN];exact ze3 _ O
 rw[g169,q6s hm hg ha hgl (λ_=>hm0),bS,hm0,hd0]
 have e1:(if(!(decide (q*g<0)==decide (g<0)))=true then-((q.natAbs:Nat):Int)else((q.natAbs:Nat):Int))=q:=by
  rcases zL3 q 0 with h1|h1|h1
  . rcases zL3 g 0 with h2|h2|h2
    . have:=Int.mul_pos_of_neg_of_neg h1 h2;rw[decide_eq_false O,decide_eq_true h2,iP (by decide)];omega
    . exact absurd h2 hg
    . have:=Int.mul_neg_of_neg_of_pos h1 h2;rw[decide_eq_true this,decide_eq_false O,iP (by decide)];omega
  . subst h1;split<;>rfl
  . rcases zL3 g 0 with h2|h2|h2
    . have:=Int.mul_neg_of_pos_of_neg h1 h2;rw[decide_eq_true this,decide_eq_true h2,iN' (by decide)];omega
    . exact absurd h2 hg
    . have:=Int.mul_pos h1 h2;rw[decide_eq_false O,decide_eq_false O,iN' (by decide)];omega
 rw[e1];show(g69 m (BZ ((0:Nat):Int)).1 (BZ ((0:Nat):Int)).2).bind _=_;rw[q71 hm (by show zlen 0<=_;unfold zlen;rw[show(0:Int).natAbs=0 from rfl,Q8];exact zS2 _),bS]
 rfl
theorem qji (t0:Bool) (t1:LI): ∀(N k x y:Nat),k+1<N->y<=x->x*y<2^k->(lim x).length<=400000->(lim y).length<=400000->
 g168L0 m N t0 t1 (BZ (x:Int)).1 (BZ (x:Int)).2 (BZ (y:Int)).1 (BZ (y:Int)).2=some (.inl ((t0,t1,()),zB ((Nat.gcd x y:Nat):Int),())):=by
 intro N;induction N with
 |zero=>intro k x y h;omega
 |succ N ih=>
  intro k x y hk hle hlt hx hy;rw[g168L0,q71 hm (by unfold zlen;rw[zV];omega),bS]
  by_cases c:y=0
  . subst c;rw[Nat.gcd_zero_right];rfl
  . have hs:sgn (y:Int)=1:=by unfold sgn;rw[iN' O,iP O]
    rw[hs,show((1:Int) !=0)=true from rfl,cond_true,q9t hm c hx hy,bS]
    have hmod:x%y<y:=zV1 _ O;have hdm:=ze1 x y;have hq:1<=x/y:=(zV2 O).2 O
    have h2:y+x%y<=x:=by
     have:y*1<=y*(x/y):=zT _ hq;omega
    have hprod:2*(y*(x%y))<=x*y:=by
     have a1:(y+x%y)*y<=x*y:=zN _ h2;have a2:y*(x%y)<=y*y:=zT _ O;rw[zI1,zW (x%y)]at a1;omega
    obtain⟨k',rfl⟩: ∃k',k=k'+1:=by
     cases k with
     |zero=>
      have:1*1<=x*y:=zt1 O O;omega
     |succ k'=>exact⟨k',rfl⟩
    have:=ih k' y (x%y) O O (by rw[zh]at hlt;omega) hy (zK (Q5 (zJ4 ..)) hx)
    rw[Nat.gcd_comm x y,Nat.gcd_rec y x,Nat.gcd_comm];exact this
theorem qqb {a b:Int} (ha:zlen a<=400000) (hb:zlen b<=400000):g168 m (BZ a).1 (BZ a).2 (BZ b).1 (BZ b).2=some (zB ((Int.gcd a b:Nat):Int),(),(),()):=by
 rw[g168,rbAbs hm O,bS,rbAbs hm O,bS];show(g168L0 m m false [] (BZ (a.natAbs:Int)).1 (BZ (a.natAbs:Int)).2 (BZ (b.natAbs:Int)).1 (BZ (b.natAbs:Int)).2).bind _=_;have bd: ∀x:Nat,(lim x).length<=400000->blen x<=12800000:=λx hx=>zK (qgj hx) O
 have bd2: ∀x y:Nat,x*y<2^(blen x+blen y):=λx y=>by
  have:=Nat.mul_lt_mul'' (Yw x) (Yw y)
  rwa [<-Nat.pow_add]at this
 have key: ∀x y:Nat,(lim x).length<=400000->(lim y).length<=400000->g168L0 m m false [] (BZ (x:Int)).1 (BZ (x:Int)).2 (BZ (y:Int)).1 (BZ (y:Int)).2=some (.inl ((false,[],()),zB ((Nat.gcd x y:Nat):Int),())):=by
  intro x y hx hy;by_cases c:y<=x
  . exact qji hm false [] m (blen x+blen y) x y (by have:=bd x hx;have:=bd y hy;omega) c (bd2 x y) hx hy
  . obtain⟨m',hm'⟩: ∃m',m=m'+1:=⟨m-1,O⟩;have e1:=qji hm false [] m' (blen y+blen x) y x (by have:=bd x hx;have:=bd y hy;omega) O (bd2 y x) hy hx
    conv=>lhs;arg 2;rw[hm']
    rw[g168L0,q71 hm (by unfold zlen;rw[zV];omega),bS]
    have hs:sgn (y:Int)=1:=by unfold sgn;rw[iN' O,iP O]
    rw[hs,show((1:Int) !=0)=true from rfl,cond_true,q9t hm O hx hy,bS,zu O,Nat.gcd_comm x y]
    exact e1
 rw[key _ _ ha hb,bS];rfl
end
abbrev FQ (q:Rat):(Bool×LI)×Bool×LI:=(BZ q.num,BZ (q.den:Int))
abbrev FT (q:Rat):Bool×LI×Bool×LI×Unit:=((BZ q.num).1,(BZ q.num).2,(BZ (q.den:Int)).1,(BZ (q.den:Int)).2,())
def qln {a b:Int} (hb:b≠0): ∃g:Int,g≠0/\a=((a:Rat)/(b:Rat)).num*g/\b=(((a:Rat)/(b:Rat)).den:Int)*g/\g=if b<0 then-((Int.gcd a b:Nat):Int)else((Int.gcd a b:Nat):Int):=by
 have hg:=Int.gcd_pos_of_ne_zero_right a hb;obtain⟨u,hu⟩:=Int.gcd_dvd_left a b;obtain⟨v,hv⟩:=Int.gcd_dvd_right a b;generalize hG:Int.gcd a b=G at*;have hGi:(G:Int)≠0:=O
 have co:u.natAbs.Coprime v.natAbs:=by
  have h1:Nat.gcd a.natAbs b.natAbs=G:=hG;have h2:a.natAbs=G*u.natAbs:=by rw[hu,zI2,zV]
  have h3:b.natAbs=G*v.natAbs:=by rw[hv,zI2,zV]
  rw[h2,h3,Nat.gcd_mul_left]at h1;have h4:G*Nat.gcd u.natAbs v.natAbs=G*1:=by rw[h1,zP1]
  exact Nat.eq_of_mul_eq_mul_left hg h4
 have hv0:v≠0:=λh=>hb (by rw[hv,h,Int.mul_zero])
 have key: ∀(n d g:Int),n.natAbs.Coprime d.natAbs->0<d->g≠0->a=n*g->b=d*g->a=((a:Rat)/(b:Rat)).num*g/\b=(((a:Rat)/(b:Rat)).den:Int)*g:=by
  intro n d g c hd hg0 ha hb'
  have e:(a:Rat)/(b:Rat)=⟨n,d.natAbs,O,c⟩:=by
   rw[<-Rat.divInt_eq_div,ha,hb',Rat.divInt_mul_right hg0,Rat.mk_eq_divInt];congr 1;omega
  rw[e];refine⟨ha,?_⟩;show b=((d.natAbs:Nat):Int)*g;rw[hb'];congr 1;omega
 by_cases c:b<0
 . have hvn:v<0:=by
    rcases zL3 v 0 with h|h|h
    . exact h
    . exact absurd h hv0
    . have:=Int.mul_pos (show(0:Int)<G by omega) h
      omega
   have:=key (-u) (-v) (-(G:Int)) (by rw[zm1,zm1];exact co) O O (by rw[Int.neg_mul_neg,zT3];exact hu) (by rw[Int.neg_mul_neg,zT3];exact hv)
   exact⟨-(G:Int),O,this.1,this.2,by rw[iP c]⟩
 . have hvp:0<v:=by
    rcases zL3 v 0 with h|h|h
    . have:=Int.mul_neg_of_pos_of_neg (show(0:Int)<G by omega) h
      omega
    . exact absurd h hv0
    . exact h
   have:=key u v (G:Int) co hvp hGi (by rw[zT3];exact hu) (by rw[zT3];exact hv)
   exact⟨(G:Int),hGi,this.1,this.2,by rw[iN' c]⟩
def qg8 {a b:Int} (h:a.natAbs<=b.natAbs):zlen a<=zlen b:=Q5 h
def q5w {a b:Int} (h:a.natAbs=b.natAbs):zlen a=zlen b:=by unfold zlen;rw[h]
def qfi {a n g:Int} (hg:g≠0) (h:a=n*g):zlen n<=zlen a:=qg8 (by
 rw[h,zI2];exact Nat.le_mul_of_pos_right _ O)
def qiu {a n g:Int} (ha:a≠0) (h:a=n*g):zlen g<=zlen a:=qg8 (by
 rw[h,zI2];have:n≠0:=λh0=>ha (by rw[h,h0,zS3])
 exact zP2 _ O)
def qf6 {a b:Int} (hb:b≠0):zlen ((a:Rat)/(b:Rat)).num<=zlen a/\zlen (((a:Rat)/(b:Rat)).den:Int)<=zlen b:=by
 obtain⟨g,h0,h1,h2,_⟩:=qln (a:=a) hb;exact⟨qfi h0 h1,qfi h0 h2⟩
def qg2 {m:Nat} (hm:5000000000<=m) {a b:Int} (hb:b≠0) (ha:zlen a<=400000) (hbl:zlen b<=400000):
 g125 m (BZ a).1 (BZ a).2 (BZ b).1 (BZ b).2=some (FT ((a:Rat)/(b:Rat)),(),(),()):=by
 obtain⟨g,h0,h1,h2,h3⟩:=qln (a:=a) hb;have hgl:zlen g<=400000:=zK (qiu hb h2) hbl
 have hGl:zlen ((Int.gcd a b:Nat):Int)<=400000:=by
  rw[<-q5w (a:=g) (b:=((Int.gcd a b:Nat):Int)) (by rw[h3];split<;>simp)];exact hgl
 have q1:g169 m (BZ a).1 (BZ a).2 (BZ g).1 (BZ g).2=some ((zB ((a:Rat)/(b:Rat)).num,true,()),(),(),()):=by
  have:=q82 hm (q:=((a:Rat)/(b:Rat)).num) h0 (by rw[<-h1];exact ha) hgl
  rwa [<-h1]at this
 have q2:g169 m (BZ b).1 (BZ b).2 (BZ g).1 (BZ g).2=some ((zB (((a:Rat)/(b:Rat)).den:Int),true,()),(),(),()):=by
  have:=q82 hm (q:=(((a:Rat)/(b:Rat)).den:Int)) h0 (by rw[<-h2];exact hbl) hgl
  rwa [<-h2]at this
 rw[g125,qqb hm ha hbl,bS,q71 hm O,bS,bQ];dsimp only;by_cases c:b<0
 . have hs:sgn b= -1:=by unfold sgn;rw[iP c]
   rw[hs,iP (by decide)]
   rw[iP c]at h3;rw[show g164 m (zB ((Int.gcd a b:Nat):Int)).1 (zB ((Int.gcd a b:Nat):Int)).2.1=some (zB g,(),()) by rw[h3];exact rbNeg hm O,bS]
   show(g169 m (BZ a).1 (BZ a).2 (BZ g).1 (BZ g).2).bind _=_
   rw[q1,bS];show(g169 m (BZ b).1 (BZ b).2 (BZ g).1 (BZ g).2).bind _=_;rw[q2,bS];rfl
 . have hs: ¬sgn b<0:=by unfold sgn;rw[iN' c];split<;>omega
   rw[iN' hs];rw[iN' c]at h3;rw[<-h3];show(g169 m (BZ a).1 (BZ a).2 (BZ g).1 (BZ g).2).bind _=_;rw[q1,bS];show(g169 m (BZ b).1 (BZ b).2 (BZ g).1 (BZ g).2).bind _=_;rw[q2,bS];rfl
def Y2 (q:Rat) (s:Nat):Prop:=zlen q.num<=s/\zlen (q.den:Int)<=s
def qbc (q:Rat):q=(q.num:Rat)/((q.den:Int):Rat):=by rw[<-Rat.divInt_eq_div];exact(Rat.num_divInt_den q).symm
def q3m {m:Nat} (hm:5000000000<=m) {x y z w:Rat} (hw:w≠0) {s:Nat} (hs:s<=80000) (hx:Y2 x s) (hy:Y2 y s) (hz:Y2 z s) (hwl:Y2 w s):
 g79 m (FQ x).1.1 (FQ x).1.2 (FQ x).2.1 (FQ x).2.2 (FQ y).1.1 (FQ y).1.2 (FQ y).2.1 (FQ y).2.2 (FQ z).1.1 (FQ z).1.2 (FQ z).2.1 (FQ z).2.2 (FQ w).1.1 (FQ w).1.2 (FQ w).2.1 (FQ w).2.2=some (FT (x-y*z/w),(),(),(),(),())/\Y2 (x-y*z/w) (4*s+1):=by
 have wn:w.num≠0:=λh=>hw (Rat.num_eq_zero.1 h)
 have dn: ∀q:Rat,(q.den:Int)≠0:=λq=>by have:=q.den_nz;omega
 have dq: ∀q:Rat,((q.den:Int):Rat)≠0:=λq h=>dn q (by rw[<-Rat.intCast_zero]at h;exact zv3.1 h)
 have wq:((w.num:Int):Rat)≠0:=λh=>wn (by rw[<-Rat.intCast_zero]at h;exact zv3.1 h)
 obtain⟨x1,x2⟩:=hx;obtain⟨y1,y2⟩:=hy;obtain⟨z1,z2⟩:=hz;obtain⟨w1,w2⟩:=hwl;have l1:zlen (y.num*z.num)<=2*s:=zK Ye O;have l2:zlen (y.num*z.num*(w.den:Int))<=3*s:=zK Ye O;have l3:zlen ((y.den:Int)*(z.den:Int))<=2*s:=zK Ye O;have l4:zlen ((y.den:Int)*(z.den:Int)*w.num)<=3*s:=zK Ye O;have nz:(y.den:Int)*(z.den:Int)*w.num≠0:=zs3 (zs3 (dn y) (dn z)) wn
 have hp:((y.num*z.num*(w.den:Int):Int):Rat)/(((y.den:Int)*(z.den:Int)*w.num:Int):Rat)=y*z/w:=by
  have ey:=qbc y;have ez:=qbc z;have ew:=qbc w;have:=dq y;have:=dq z;have:=dq w;rw[zu1,zu1,zu1,zu1];generalize ((y.den:Int):Rat)=yd at*;generalize ((z.den:Int):Rat)=zd at*;generalize ((w.den:Int):Rat)=wd at*;generalize ((y.num:Int):Rat)=yn at*;generalize ((z.num:Int):Rat)=zn at*;generalize ((w.num:Int):Rat)=wn' at*;subst ey ez ew
  grind
 obtain⟨p1,p2⟩:=qf6 (a:=y.num*z.num*(w.den:Int)) nz;have f1:=qg2 hm (a:=y.num*z.num*(w.den:Int)) nz O O;rw[hp]at p1 p2 f1;generalize hpp:y*z/w=p at*;have l5:zlen (x.num*(p.den:Int))<=4*s:=zK Ye O;have l6:zlen (p.num*(x.den:Int))<=4*s:=zK Ye O
 have l7:zlen (x.num*(p.den:Int)-p.num*(x.den:Int))<=4*s+1:=by
  rw[zO2];exact q2t l5 (by rw[q5w (a:= -(p.num*(x.den:Int))) (b:=p.num*(x.den:Int)) (zm1 _)];exact l6)
 have l8:zlen ((x.den:Int)*(p.den:Int))<=4*s:=zK Ye O;have nz2:(x.den:Int)*(p.den:Int)≠0:=zs3 (dn x) (dn p)
 have hq:((x.num*(p.den:Int)-p.num*(x.den:Int):Int):Rat)/(((x.den:Int)*(p.den:Int):Int):Rat)=x-p:=by
  have ex:=qbc x;have ep:=qbc p;have:=dq x;have:=dq p;rw[zx3,zu1,zu1,zu1];generalize ((x.den:Int):Rat)=xd at*;generalize ((p.den:Int):Rat)=pd at*;generalize ((x.num:Int):Rat)=xn at*;generalize ((p.num:Int):Rat)=pn at*;clear hpp;subst ex ep
  grind
 obtain⟨r1,r2⟩:=qf6 (a:=x.num*(p.den:Int)-p.num*(x.den:Int)) nz2;have f2:=qg2 hm (a:=x.num*(p.den:Int)-p.num*(x.den:Int)) nz2 O O;rw[hq]at r1 r2 f2;refine⟨?_,O,O⟩;rw[g79,rbMul hm O,bS];rw[show g120 m (zB (y.num*z.num)).1 (zB (y.num*z.num)).2.1 (BZ (w.den:Int)).1 (BZ (w.den:Int)).2=_ from rbMul hm O,bS]
 rw[rbMul hm O,bS];rw[show g120 m (zB ((y.den:Int)*(z.den:Int))).1 (zB ((y.den:Int)*(z.den:Int))).2.1 (BZ w.num).1 (BZ w.num).2=_ from rbMul hm O,bS]
 rw[show g125 m (zB (y.num*z.num*(w.den:Int))).1 (zB (y.num*z.num*(w.den:Int))).2.1 (zB ((y.den:Int)*(z.den:Int)*w.num)).1 (zB ((y.den:Int)*(z.den:Int)*w.num)).2.1=_ from f1,bS]
 dsimp only;rw[rbMul hm O,bS,rbMul hm O,bS];rw[show g126 m (zB (x.num*(p.den:Int))).1 (zB (x.num*(p.den:Int))).2.1 (zB (p.num*(x.den:Int))).1 (zB (p.num*(x.den:Int))).2.1=_ from rbSub hm O O,bS]
 rw[rbMul hm O,bS];rw[show g125 m (zB (x.num*(p.den:Int)-p.num*(x.den:Int))).1 (zB (x.num*(p.den:Int)-p.num*(x.den:Int))).2.1 (zB ((x.den:Int)*(p.den:Int))).1 (zB ((x.den:Int)*(p.den:Int))).2.1=_ from f2,bS]
abbrev FrL:=(Bool×LI)×Bool×LI
def rowQ (n:Nat) (f:Nat->Rat):List FrL:=mr n λj=>FQ (f j)
def matQ (n:Nat) (X:Nat->Nat->Rat):List (List FrL):=mr n λi=>rowQ n (X i)
abbrev nL (L:List Nat):LI:=L.map Int.ofNat
def qbb {L:List Nat} (h:L.Nodup) {i j:Nat} (hi:i<L.length) (hj:j<L.length):L[i]=L[j]↔i=j:=by
 constructor
 . intro e;rcases Nat.lt_trichotomy i j with c|c|c
   . exact absurd e (List.pairwise_iff_getElem.1 h i j hi hj c)
   . exact c
   . exact absurd e.symm (List.pairwise_iff_getElem.1 h j i hj hi c)
 . intro e;subst e;rfl
def q2d {L:List Nat}:(nL L).length=L.length:=ze2 ..
def q43 {L:List Nat} {k:Nat} (h:k<L.length):(nL L).getD k 0=((L[k]:Nat):Int):=by simp[List.getD,h]
def q1s {n:Nat} {X:Nat->Nat->Rat}:(matQ n X).length=n:=Q9
def q1l {n:Nat} {f:Nat->Rat}:(rowQ n f).length=n:=Q9
def Ja {n i:Nat} {X:Nat->Nat->Rat} (h:i<n):(matQ n X).getD i []=rowQ n (X i):=Ql h
def J9 {n j:Nat} {f:Nat->Rat} (h:j<n):(rowQ n f).getD j ((false,[]),(false,[]))=FQ (f j):=Ql h
def up2 (X:Nat->Nat->Rat) (i j:Nat) (v:Rat):Nat->Nat->Rat:=λa b=>if a=i/\b=j then v else X a b
def qnc {n j:Nat} {f:Nat->Rat} {v:Rat}:(rowQ n f).set j (FQ v)=rowQ n (λk=>if k=j then v else f k):=by
 unfold rowQ;rw[Zi];refine qy λk hk=> ?_
 show(if k=j then FQ v else FQ (f k))=FQ (if k=j then v else f k)
 by_cases c:k=j
 . rw[iP c,iP c]
 . rw[iN' c,iN' c]
def qfc {n i j:Nat} {X:Nat->Nat->Rat} {v:Rat} (h:i<n):(matQ n X).set i ((rowQ n (X i)).set j (FQ v))=matQ n (up2 X i j v):=by
 unfold matQ;rw[Zi,qnc];refine qy λk hk=> ?_
 by_cases c:k=i
 . subst c;rw[iP rfl];refine qy λl hl=> ?_
   show FQ (if l=j then v else X k l)=FQ (if k=k/\l=j then v else X k l)
   by_cases d:l=j
   . rw[iP d,iP ⟨rfl,d⟩]
   . rw[iN' d,iN' (λh=>d h.2)]
 . rw[iN' c];refine qy λl hl=> ?_
   show FQ (X k l)=FQ (if k=i/\l=j then v else X k l)
   rw[iN' (λh=>c h.1)]
def qfq {m:Nat} (hm:5000000000<=m) {q:Rat} (h:zlen q.num<=1000000):g124 m (FQ q).1.1 (FQ q).1.2 (FQ q).2.1 (FQ q).2.2=some (decide (q=0),(),()):=by
 rw[g124,q71 hm h,bS]
 have e:(sgn q.num==0)=decide (q=0):=by
  rw[Bool.eq_iff_iff,decide_eq_true_eq,beq_iff_eq,<-Rat.num_eq_zero];unfold sgn;constructor
  . intro h;by_cases c:q.num<0
    . rw[iP c]at h;omega
    . rw[iN' c]at h;by_cases d:0<q.num
      . rw[iP d]at h;omega
      . omega
  . intro h;rw[h];rfl
 dsimp only;rw[e]
section
variable {m:Nat} (hm:5000000000<=m) {n:Nat} {X:Nat->Nat->Rat} (hX: ∀i j,i<n->j<n->zlen (X i j).num<=1000000) {L:List Nat} (hL: ∀i∈L,i<n) (hl:L.length<=1000)
include hm hX hL hl
theorem qly: ∀(N k:Nat),L.length-k<N->k<=L.length->(∀i (h:i<L.length),i<k->X L[i] L[i]=0)->
 (∃p∈L,X p p≠0/\g78L0 m N (matQ n X) (nL L) (k:Int)=some (.inl ((p:Int),(p:Int),())))\/
 ((∀i (h:i<L.length),X L[i] L[i]=0)/\g78L0 m N (matQ n X) (nL L) (k:Int)=some (.inr (.inl (matQ n X,nL L,())))):=by
 intro N;induction N with
 |zero=>intro k h;omega
 |succ N ih=>
  intro k h hk hz;rw[g78L0,q2d];by_cases c:k<L.length
  . have hx:L[k]<n:=hL _ (zJ _);simp only[tN,q43 c,q1s,Ja hx,q1l,J9 hx];rw[bQ,iP O,iP O,iP O,iP O,iP O,qfq hm (hX _ _ hx hx),bS];dsimp only;by_cases z:X L[k] L[k]=0
    . rw[decide_eq_true z]
      have:=ih (k+1) O O (λi hi hik=>by
       by_cases d:i=k
       . subst d;exact z
       . exact hz i hi O)
      rw[show wI ((k:Int)+1)=((k+1:Nat):Int)from wsucc O]
      exact this
    . rw[decide_eq_false z];refine .inl ⟨L[k],zJ _,z,?_⟩;rw[zf1,cond_true,iP O,iP O]
  . rw[bQ,iN' O];exact .inr ⟨λi hi=>hz i hi O,rfl⟩
theorem qm2 {i:Nat} (hi:i<L.length): ∀(N k:Nat),i-k<N->k<=i->(∀j (h:j<L.length),j<k->X L[i] L[j]=0)->
 (∃j,∃hj:j<i,X L[i] (L[j]'(O))≠0/\g78L2 m N (matQ n X) (nL L) (i:Int) (k:Int)=some (.inl ((L[i]:Int),((L[j]'(O):Nat):Int),())))\/
 ((∀j (h:j<L.length),j<i->X L[i] L[j]=0)/\g78L2 m N (matQ n X) (nL L) (i:Int) (k:Int)=some (.inr (.inl (matQ n X,nL L,(i:Int),())))):=by
 intro N;induction N with
 |zero=>intro k h;omega
 |succ N ih=>
  intro k h hk hz;rw[g78L2,q2d];by_cases c:k<i
  . have hx:L[i]<n:=hL _ (zJ _);have hkl:k<L.length:=O;have hy:L[k]<n:=hL _ (zJ _);simp only[tN,q43 hi,q43 hkl,q1s,Ja hx,q1l,J9 hy];rw[bQ,iP O,iP O,iP O,iP O,iP O,qfq hm (hX _ _ hx hy),bS];dsimp only;by_cases z:X L[i] L[k]=0
    . rw[decide_eq_true z]
      have:=ih (k+1) O O (λj hj hjk=>by
       by_cases d:j=k
       . subst d;exact z
       . exact hz j hj O)
      rw[show wI ((k:Int)+1)=((k+1:Nat):Int)from wsucc O]
      exact this
    . rw[decide_eq_false z];refine .inl ⟨k,c,z,?_⟩;rw[zf1,cond_true,iP O,iP O]
  . rw[bQ,iN' O];exact .inr ⟨λj hj hji=>hz j hj O,rfl⟩
theorem qmg: ∀(N k:Nat),L.length-k<N->k<=L.length->(∀i (h:i<L.length),i<k-> ∀j (g:j<L.length),j<i->X L[i] L[j]=0)->
 (∃i j,∃hi:i<L.length,∃hj:j<i,X L[i] (L[j]'(O))≠0/\g78L1 m N (matQ n X) (nL L) (k:Int)=some (.inl ((L[i]:Int),((L[j]'(O):Nat):Int),())))\/
 ((∀i (h:i<L.length),∀j (g:j<L.length),j<i->X L[i] L[j]=0)/\g78L1 m N (matQ n X) (nL L) (k:Int)=some (.inr (.inl ()))):=by
 intro N;induction N with
 |zero=>intro k h;omega
 |succ N ih=>
  intro k h hk hz;rw[g78L1,q2d];by_cases c:k<L.length
  . rw[bQ,iP O];rcases qm2 hm hX hL hl c m 0 O O (λj _ hj=>O)with⟨j,hj,z,e⟩|⟨z,e⟩
    . rw[nZ]at e;rw[e,bS];exact .inl ⟨k,j,c,hj,z,rfl⟩
    . rw[nZ]at e;rw[e,bS];dsimp only;rw[show wI ((k:Int)+1)=((k+1:Nat):Int)from wsucc O]
      refine ih (k+1) O O (λi hi hik j hj hji=> ?_)
      by_cases d:i=k
      . subst d;exact z j hj hji
      . exact hz i hi O j hj hji
  . rw[bQ,iN' O];exact .inr ⟨λi hi=>hz i hi O,rfl⟩
theorem qia (hnd:L.Nodup) (hs: ∀i∈L,∀j∈L,X i j=X j i):
 (∃p∈L,X p p≠0/\g78 m (matQ n X) (nL L)=some (((p:Int),(p:Int),()),(),(),()))\/
 (∃p∈L,∃q∈L,p≠q/\X p p=0/\X q q=0/\X p q≠0/\g78 m (matQ n X) (nL L)=some (((p:Int),(q:Int),()),(),(),()))\/
 ((∀i∈L,∀j∈L,X i j=0)/\g78 m (matQ n X) (nL L)=some ((-1,-1,()),(),(),())):=by
 rw[g78];rcases qly hm hX hL hl m 0 O O (λi _ h=>O)with⟨p,hp,z,e⟩|⟨z,e⟩
 . rw[nZ]at e;exact .inl ⟨p,hp,z,by rw[e,bS]⟩
 . rw[nZ]at e;rw[e,bS];dsimp only;rcases qmg hm hX hL hl m 0 O O (λi _ h=>O)with⟨i,j,hi,hj,z2,e2⟩|⟨z2,e2⟩
   . rw[nZ]at e2;have hj':j<L.length:=O;refine .inr (.inl ⟨L[i],zJ _,L[j],zJ _,?_,z i hi,z j hj',z2,by rw[e2,bS]⟩)
     intro h;have:=(qbb hnd hi hj').1 h;omega
   . rw[nZ]at e2;refine .inr (.inr ⟨?_,by rw[e2,bS]⟩)
     intro x hx y hy;obtain⟨i,hi,rfl⟩:=zx hx;obtain⟨j,hj,rfl⟩:=zx hy;rcases Nat.lt_trichotomy i j with h|h|h
     . rw[hs _ hx _ hy];exact z2 j hj i hi h
     . subst h;exact z i hi
     . exact z2 i hi j hj h
end
def pvF (p q:Nat) (b:Rat) (X:Nat->Nat->Rat) (x y:Nat):Rat:=
 if p=q then X x y-X x p*X q y/b else X x y-X x p*X q y/b-X x q*X p y/b
def prc (a c i j:Nat):Prop:=max i j<a\/(max i j=a/\min i j<c)
structure St (R:List Nat) (G X Y:Nat->Nat->Rat) (a c:Nat):Prop where
 done: ∀i j (hi:i<R.length) (hj:j<R.length),prc a c i j->Y R[i] R[j]=G R[i] R[j]
 todo: ∀i j (hi:i<R.length) (hj:j<R.length),¬prc a c i j->Y R[i] R[j]=X R[i] R[j]
 rest: ∀x y,(x∉R\/y∉R)->Y x y=X x y
def St.step {R:List Nat} (hR:R.Nodup) {G X Y:Nat->Nat->Rat} {a c:Nat} (h:St R G X Y a c) (ha:a<R.length) (hc:c<=a) (hs: ∀x∈R,∀y∈R,G x y=G y x) {v:Rat} (hv:v=G R[a] (R[c]'(O))):
 St R G X (up2 (up2 Y R[a] (R[c]'(O)) v) (R[c]'(O)) R[a] v) a (c+1):=by
 have hc':c<R.length:=O
 have key: ∀i j (hi:i<R.length) (hj:j<R.length),up2 (up2 Y R[a] (R[c]'(O)) v) (R[c]'(O)) R[a] v R[i] R[j]=if(i=a/\j=c)\/(i=c/\j=a)then v else Y R[i] R[j]:=by
  intro i j hi hj;unfold up2;simp only[qbb hR hi hc',qbb hR hj ha,qbb hR hi ha,qbb hR hj hc'];by_cases c1:i=c/\j=a
  . rw[iP c1,iP (.inr c1)]
  . rw[iN' c1];by_cases c2:i=a/\j=c
    . rw[iP c2,iP (.inl c2)]
    . rw[iN' c2,iN' (λh=>h.elim c2 c1)]
 refine⟨λi j hi hj hp=> ?_,λi j hi hj hp=> ?_,λx y hxy=> ?_⟩
 . rw[key i j hi hj];by_cases c1:(i=a/\j=c)\/(i=c/\j=a)
   . rw[iP c1,hv];rcases c1 with⟨rfl,rfl⟩|⟨rfl,rfl⟩
     . rfl
     . exact hs _ (zJ _) _ (zJ _)
   . rw[iN' c1];refine h.done i j hi hj ?_;unfold prc at hp⊢;omega
 . rw[key i j hi hj,iN' (by unfold prc at hp;omega)]
   exact h.todo i j hi hj (by unfold prc at hp⊢;omega)
 . have hm1:R[a]∈R:=zJ _;have hm2:R[c]∈R:=zJ _;unfold up2;rw[iN',iN']
   . exact h.rest x y hxy
   . rintro ⟨rfl,rfl⟩;exact hxy.elim (λh=>h hm1) (λh=>h hm2)
   . rintro ⟨rfl,rfl⟩;exact hxy.elim (λh=>h hm2) (λh=>h hm1)
section
variable {m:Nat} (hm:5000000000<=m) {n:Nat} {X:Nat->Nat->Rat} {s:Nat} (hX: ∀i j,i<n->j<n->Y2 (X i j) s) {R:List Nat} (hR:R.Nodup) (hRn: ∀i∈R,i<n) (hl:R.length<=1000)
 {p q:Nat} (hp:p<n) (hq:q<n) (hpR:p∉R) (hqR:q∉R) {b:Rat} (hb:b≠0) (hbl:Y2 b s) (hs:s<=80000) (hs2:p≠q->4*s+1<=80000) (hsym: ∀x∈R,∀y∈R,pvF p q b X x y=pvF p q b X y x)
include hm hX hR hRn hl hp hq hpR hqR hb hbl hs hs2 hsym
theorem qmp (neg pos:Int) {a:Nat} (ha:a<R.length): ∀(N c:Nat) (Y:Nat->Nat->Rat),a+1-c<N->c<=a+1->St R (pvF p q b X) X Y a c->
 ∃Y',g43L4 m N (matQ n Y) neg pos (p:Int) (q:Int) (nL R) (FQ b).1.1 (FQ b).1.2 (FQ b).2.1 (FQ b).2.2 (a:Int) (c:Int)=some (.inl (matQ n Y',neg,pos,(p:Int),(q:Int),nL R,FT b,(a:Int),()))/\St R (pvF p q b X) X Y' a (a+1):=by
 intro N;induction N with
 |zero=>intro c Y h;omega
 |succ N ih=>
  intro c Y h hc hst;rw[g43L4];by_cases hca:c<=a
  . have hcl:c<R.length:=O;have hxm:R[a]∈R:=zJ _;have hym:R[c]∈R:=zJ _;have hx:R[a]<n:=hRn _ hxm;have hy:R[c]<n:=hRn _ hym;have e1:Y R[a] R[c]=X R[a] R[c]:=hst.todo a c ha hcl (by unfold prc;omega)
    have e2:Y R[a] p=X R[a] p:=hst.rest _ _ (.inr hpR);have e3:Y q R[c]=X q R[c]:=hst.rest _ _ (.inl hqR);have e4:Y R[a] q=X R[a] q:=hst.rest _ _ (.inr hqR);have e5:Y p R[c]=X p R[c]:=hst.rest _ _ (.inl hpR);obtain⟨m1,l1⟩:=q3m hm (x:=X R[a] R[c]) (y:=X R[a] p) (z:=X q R[c]) hb hs (hX _ _ hx hy) (hX _ _ hx hp) (hX _ _ hq hy) hbl;have hstep:=hst.step hR ha hca hsym (v:=pvF p q b X R[a] R[c]) rfl;have wc:wI ((c:Int)+1)=((c+1:Nat):Int):=wsucc O;have cx:(0:Int)<=((R[a]:Nat):Int)/\((R[a]:Nat):Int)<(n:Int):=O;have cy:(0:Int)<=((R[c]:Nat):Int)/\((R[c]:Nat):Int)<(n:Int):=O;have cp:(0:Int)<=(p:Int)/\(p:Int)<(n:Int):=O;have cq:(0:Int)<=(q:Int)/\(q:Int)<(n:Int):=O;have gx:(nL R).getD (0+a) 0=((R[a]:Nat):Int):=by rw[zF];exact q43 ha
    have gy:(nL R).getD (0+c) 0=((R[c]:Nat):Int):=by rw[zF];exact q43 hcl
    have put: ∀v:Rat,v=pvF p q b X R[a] R[c]->(if(0:Int)<=((R[a]:Nat):Int)/\((R[a]:Nat):Int)<(n:Int)then
     if(0:Int)<=((R[c]:Nat):Int)/\((R[c]:Nat):Int)<(n:Int)then
     if(0:Int)<=((R[c]:Nat):Int)/\((R[c]:Nat):Int)<(((matQ n Y).set R[a] ((rowQ n (Y R[a])).set R[c] (FQ v))).length:Int)then
     if(0:Int)<=((R[a]:Nat):Int)/\((R[a]:Nat):Int)<((((matQ n Y).set R[a] ((rowQ n (Y R[a])).set R[c] (FQ v))).getD R[c] []).length:Int)then
     g43L4 m N (((matQ n Y).set R[a] ((rowQ n (Y R[a])).set R[c] (FQ v))).set R[c] ((((matQ n Y).set R[a] ((rowQ n (Y R[a])).set R[c] (FQ v))).getD R[c] []).set R[a] (FQ v))) neg pos (p:Int) (q:Int) (nL R) (FQ b).1.1 (FQ b).1.2 (FQ b).2.1 (FQ b).2.2 (a:Int) ((c+1:Nat):Int)
     else none else none else none else none)=g43L4 m N (matQ n (up2 (up2 Y R[a] R[c] (pvF p q b X R[a] R[c])) R[c] R[a] (pvF p q b X R[a] R[c]))) neg pos (p:Int) (q:Int) (nL R) (FQ b).1.1 (FQ b).1.2 (FQ b).2.1 (FQ b).2.2 (a:Int) ((c+1:Nat):Int):=by
     intro v hv;rw[qfc hx,q1s,Ja hy,q1l,iP cx,iP cy,iP cy,iP cx,qfc hy,hv]
    rw[bQ,iP O,q2d,iP O,iP O];simp only[tN,gx,gy,q1s,Ja hx,Ja hq,Ja hp,q1l,J9 hx,J9 hy,J9 hp,J9 hq];rw[iP cx,iP cy,iP cx,iP cp,iP cq,iP cy,e1,e2,e3,m1,bS,bif_ne,wc];by_cases d:p=q
    . rw[iP O];have:=put (X R[a] R[c]-X R[a] p*X q R[c]/b) (by unfold pvF;rw[iP d])
      rw[show(if(0:Int)<=((R[a]:Nat):Int)/\((R[a]:Nat):Int)<(n:Int)then _ else none)=_ from this]
      exact ih (c+1) _ O O hstep
    . rw[iN' O];have up: ∀{r:Rat},Y2 r s->Y2 r (4*s+1):=λh=>⟨by have:=h.1;omega,by have:=h.2;omega⟩
      obtain⟨m2,l2⟩:=q3m hm (x:=X R[a] R[c]-X R[a] p*X q R[c]/b) (y:=X R[a] q) (z:=X p R[c]) hb (hs2 d) l1 (up (hX _ _ hx hq)) (up (hX _ _ hp hy)) (up hbl);rw[iP cx,iP cq,iP cp,iP cy,e4,e5];rw[show g79 m (FT (X R[a] R[c]-X R[a] p*X q R[c]/b)).1 (FT (X R[a] R[c]-X R[a] p*X q R[c]/b)).2.1 (FT (X R[a] R[c]-X R[a] p*X q R[c]/b)).2.2.1 (FT (X R[a] R[c]-X R[a] p*X q R[c]/b)).2.2.2.1 (FQ (X R[a] q)).1.1 (FQ (X R[a] q)).1.2 (FQ (X R[a] q)).2.1 (FQ (X R[a] q)).2.2 (FQ (X p R[c])).1.1 (FQ (X p R[c])).1.2 (FQ (X p R[c])).2.1 (FQ (X p R[c])).2.2 (FQ b).1.1 (FQ b).1.2 (FQ b).2.1 (FQ b).2.2=_ from m2,bS]
      have:=put (X R[a] R[c]-X R[a] p*X q R[c]/b-X R[a] q*X p R[c]/b) (by unfold pvF;rw[iN' d])
      rw[show(if(0:Int)<=((R[a]:Nat):Int)/\((R[a]:Nat):Int)<(n:Int)then _ else none)=_ from this]
      exact ih (c+1) _ O O hstep
  . rw[bQ,iN' O];refine⟨Y,rfl,?_⟩;rw[show a+1=c by omega];exact hst
theorem qfy (neg pos:Int): ∀(N a:Nat) (Y:Nat->Nat->Rat),R.length-a<N->a<=R.length->St R (pvF p q b X) X Y a 0->
 ∃Y',g43L3 m N (matQ n Y) neg pos (p:Int) (q:Int) (nL R) (FQ b).1.1 (FQ b).1.2 (FQ b).2.1 (FQ b).2.2 (a:Int)=some (.inl (matQ n Y',neg,pos,nL R,()))/\St R (pvF p q b X) X Y' R.length 0:=by
 intro N;induction N with
 |zero=>intro a Y h;omega
 |succ N ih=>
  intro a Y h ha hst;rw[g43L3,q2d];by_cases c:a<R.length
  . obtain⟨Y1,e,h1⟩:=qmp hm hX hR hRn hl hp hq hpR hqR hb hbl hs hs2 hsym neg pos c m 0 Y O O hst;rw[nZ]at e;rw[bQ,iP O,e,bS];dsimp only;rw[show wI ((a:Int)+1)=((a+1:Nat):Int)from wsucc O]
    refine ih (a+1) Y1 O O ⟨λi j hi hj hp=>h1.done i j hi hj ?_,λi j hi hj hp=>h1.todo i j hi hj ?_,h1.rest⟩
    . unfold prc at hp⊢;omega
    . unfold prc at hp⊢;omega
  . rw[bQ,iN' O];exact⟨Y,rfl,by rw[show R.length=a by omega];exact hst⟩
end
def qje {p q:Nat} {b:Rat} {X:Nat->Nat->Rat} {s:Nat} {x y:Nat} (m:Nat) (hm:5000000000<=m) (hb:b≠0) (hs:s<=80000) (hs2:p≠q->4*s+1<=80000) (hbl:Y2 b s) (h1:Y2 (X x y) s) (h2:Y2 (X x p) s) (h3:Y2 (X q y) s) (h4:Y2 (X x q) s) (h5:Y2 (X p y) s):
 Y2 (pvF p q b X x y) (if p=q then 4*s+1 else 16*s+5):=by
 obtain⟨_,l1⟩:=q3m hm (x:=X x y) (y:=X x p) (z:=X q y) hb hs h1 h2 h3 hbl;unfold pvF;by_cases d:p=q
 . rw[iP d,iP d];exact l1
 . rw[iN' d,iN' d];have up: ∀{r:Rat},Y2 r s->Y2 r (4*s+1):=λh=>⟨by have:=h.1;omega,by have:=h.2;omega⟩
   obtain⟨_,l2⟩:=q3m hm (x:=X x y-X x p*X q y/b) (y:=X x q) (z:=X p y) hb (hs2 d) l1 (up h4) (up h5) (up hbl);exact⟨by have:=l2.1;omega,by have:=l2.2;omega⟩
end Go.Vs.F
set_option linter.unusedSectionVars false
namespace Go.Vs.F
def keepP (p q i:Nat):Bool:= !decide (i=p)&& !decide (i=q)
def Xo {p q i:Nat}:keepP p q i=true↔i≠p/\i≠q:=by
 unfold keepP;simp
def qfr (m:Nat) {L:List Nat} (hl:L.length<=1000) (A:List (List FrL)) (neg pos:Int) (p q:Nat): ∀(N k:Nat),L.length-k<N->k<=L.length->
 g43L2 m N A neg pos (nL L) (p:Int) (q:Int) (nL ((L.take k).filter (keepP p q))) (k:Int)=some (.inl (A,neg,pos,(p:Int),(q:Int),nL (L.filter (keepP p q)),())):=by
 intro N;induction N with
 |zero=>intro k h;omega
 |succ N ih=>
  intro k h hk;rw[g43L2,q2d];by_cases c:k<L.length
  . have g:(nL L).getD (0+k) 0=((L[k]:Nat):Int):=by rw[zF];exact q43 c
    have ht:L.take (k+1)=L.take k++[L[k]]:=(List.take_append_getElem c).symm
    have hf:(L.take (k+1)).filter (keepP p q)=(L.take k).filter (keepP p q)++if keepP p q L[k]then [L[k]]else []:=by
     rw[ht,List.filter_append,zV3,List.filter_nil]
    have hlen:((L.take k).filter (keepP p q)).length<=1000:=zK (List.length_filter_le ..) (by rw[zf];omega)
    have ws:wI ((k:Int)+1)=((k+1:Nat):Int):=wsucc O;have hi:=ih (k+1) O O;rw[hf]at hi;rw[bQ,iP O,iP O];simp only[tN,g,ws];rw[bif_ne];by_cases c1:L[k]=p
    . have hk0: ¬(keepP p q L[k]=true):=λh=>(Xo.1 h).1 c1
      rw[iN' hk0,zb1]at hi;rw[iP O];exact hi
    . rw[iN' O,iP O,bif_ne];by_cases c2:L[k]=q
      . have hk0: ¬(keepP p q L[k]=true):=λh=>(Xo.1 h).2 c2
        rw[iN' hk0,zb1]at hi;rw[iP O];exact hi
      . have hk1:keepP p q L[k]=true:=Xo.2 ⟨c1,c2⟩;rw[iP hk1]at hi;rw[iN' O,iP O,q2d,iP (by show _+1<=_;omega)]
        have:nL ((L.take k).filter (keepP p q))++[((L[k]:Nat):Int)]=nL ((L.take k).filter (keepP p q)++[L[k]]):=by
         unfold nL;rw[zr2];rfl
        rw[this];exact hi
  . rw[bQ,iN' O,zg1 O]
def q40 {L M:List Nat} (h:L.Perm M) {b:Nat->Rat}:npos L b=npos M b:=(h.filter _).length_eq
def q05 {i:Nat} {L:List Nat} {b:Nat->Rat}:npos (i::L) b=(if 0<b i then 1 else 0)+npos L b:=by
 unfold npos;rw[zV3];by_cases c:0<b i
 . rw[iP (decide_eq_true c),iP c,zw1,zq1]
 . rw[iN' (by simpa using c),iN' c,zF]
def Yo {L:List Nat} {b c:Nat->Rat} (h: ∀i∈L,b i=c i):npos L b=npos L c:=by
 unfold npos;rw[List.filter_congr λi hi=>by rw[h i hi]]
def q3s {L:List Nat}:npos L (λ_=>0)=0:=by
 unfold npos;rw[List.filter_eq_nil_iff.2 (λi _=>by simp)];rfl
def qbr {L:List Nat} (hn:L.Nodup) {p:Nat} (hp:p∈L):L.Perm (p::L.filter (keepP p p)):=by
 rw[List.perm_ext_iff_of_nodup hn (zA1.2 ⟨λh=>(Xo.1 (zO1.1 h).2).1 rfl,hn.sublist za3⟩)]
 intro a;rw[zU,zO1,Xo];constructor
 . intro h;by_cases c:a=p
   . exact .inl c
   . exact .inr ⟨h,c,c⟩
 . rintro (rfl|h)
   . exact hp
   . exact h.1
def qb3 {L:List Nat} (hn:L.Nodup) {p q:Nat} (hp:p∈L) (hq:q∈L) (hpq:p≠q):L.Perm (p::q::L.filter (keepP p q)):=by
 rw[List.perm_ext_iff_of_nodup hn (zA1.2 ⟨λh=> ?_,zA1.2 ⟨λh=>(Xo.1 (zO1.1 h).2).2 rfl,hn.sublist za3⟩⟩)]
 . intro a;rw[zU,zU,zO1,Xo];constructor
   . intro h;by_cases c:a=p
     . exact .inl c
     . by_cases d:a=q
       . exact .inr (.inl d)
       . exact .inr (.inr ⟨h,c,d⟩)
   . rintro (rfl|rfl|h)
     . exact hp
     . exact hq
     . exact h.1
 . rcases mC h with h|h
   . exact hpq h
   . exact(Xo.1 (zO1.1 h).2).1 rfl
def rsgn {q:Rat}:(sgn q.num<0↔q<0):=by
 have:=Rat.num_nonneg (q:=q);unfold sgn;constructor
 . intro h;by_cases c:q.num<0
   . by_cases d:0<=q
     . have:=this.2 d;omega
     . grind
   . rw[iN' c]at h;split at h<;>omega
 . intro h;by_cases c:q.num<0
   . rw[iP c];omega
   . have:=this.1 O;grind
def some3 {a a' b b':Nat} {c:LI} (ha:a=a') (hb:b=b'):(some (Sum.inl ((a:Int),(b:Int),c,())):Option ((Int×Int×LI×Unit)⊕Empty))=some (Sum.inl ((a':Int),(b':Int),c,())):=by
 subst ha hb;rfl
def twoS {v:Rat} (h:v≠0):(if 0<2*v then 1 else 0)+(if 0< -(2*v)then 1 else 0)=1:=by
 by_cases c:0<v
 . rw[iP (by grind),iN' (by grind)]
 . rw[iN' (by grind),iP (by grind)]
def twoT {v:Rat} (h:v≠0):(if 0< -(2*v)then 1 else 0)+(if 0< - -(2*v)then 1 else 0)=1:=by
 by_cases c:0<v
 . rw[iN' (by grind),iP (by grind)]
 . rw[iP (by grind),iN' (by grind)]
section
variable {m:Nat} (hm:5000000000<=m) {n:Nat} (hn:n<=1000)
include hm hn
theorem qmj: ∀(k:Nat) (L:List Nat) (N:Nat) (X:Nat->Nat->Rat) (neg pos s:Nat),L.length=k->k<N->k<=1000->L.Nodup->(∀i∈L,i<n)->(∀i∈L,∀j∈L,X i j=X j i)->(∀i j,i<n->j<n->Y2 (X i j) s)->4^k*(s+1)<=80000->neg+pos+k<=1000000->
 ∃V d L',Dg L X V d/\g43L1 m N (matQ n X) (neg:Int) (pos:Int) (nL L)=some (.inl (((neg+npos L (λi=> -d i):Nat):Int),((pos+npos L d:Nat):Int),nL L',()))/\L'.length+npos L d+npos L (λi=> -d i)=k:=by
 intro k;induction k using Nat.strongRecOn with
 |ind k IH=>
 intro L N X neg pos s hlk hkN hk hnd hL hs hX hsz hnp;obtain⟨N,rfl⟩: ∃N',N=N'+1:=⟨N-1,O⟩;rw[g43L1,q2d,bQ];by_cases c0:k=0
 . have:L=[]:=z81.1 O;subst this;rw[iN' (by simp)]
   refine⟨λi j=>if i=j then 1 else 0,λ_=>0,[],qj2 hnd (λi hi=>by cases hi),rfl,?_⟩
   rw[<-hlk];rfl
 . have hs1:s+1<=20000:=by
    obtain⟨k',rfl⟩: ∃k',k=k'+1:=⟨k-1,O⟩;rw[zh,zO]at hsz;have:=zP2 (4*(s+1)) (zC1 (n:=k') (show 0<4 by decide))
    omega
   rw[iP O];rcases qia hm (X:=X) (λi j hi hj=>by have:=(hX i j hi hj).1;omega) hL O hnd hs with⟨p,hp,hpp,e⟩|⟨p,hp,q,hq,hpq,hp0,hq0,hb,e⟩|⟨hz,e⟩
   ·
    have hR:=qbr hnd hp;have hlen:=hR.length_eq;rw[zw1]at hlen;have hRnd:(L.filter (keepP p p)).Nodup:=hnd.sublist za3;have hRn: ∀i∈L.filter (keepP p p),i<n:=λi hi=>hL i (zO1.1 hi).1
    have hpR:p∉L.filter (keepP p p):=λh=>(Xo.1 (zO1.1 h).2).1 rfl
    have e2:=qfr m (L:=L) O (matQ n X) (neg:Int) (pos:Int) p p m 0 O O;have hsub: ∀i∈L.filter (keepP p p),i∈L:=λi hi=>(zO1.1 hi).1
    have hsym: ∀x∈L.filter (keepP p p),∀y∈L.filter (keepP p p),pvF p p (X p p) X x y=pvF p p (X p p) X y x:=by
     intro x hx y hy;unfold pvF;rw[iP rfl,iP rfl,hs x (hsub x hx) y (hsub y hy),hs x (hsub x hx) p hp,hs p hp y (hsub y hy)]
     grind
    have hpn:=hL p hp;have cp:(0:Int)<=(p:Int)/\(p:Int)<(n:Int):=O
    have run: ∀ng ps:Nat,ng+ps+(k-1)<=1000000-> ∃Y V g L',Dg (L.filter (keepP p p)) Y V g/\(∀i∈L.filter (keepP p p),∀j∈L.filter (keepP p p),Y i j=X i j-X i p*X p j/X p p)/\
     (g43L3 m m (matQ n X) (ng:Int) (ps:Int) (p:Int) (p:Int) (nL (L.filter (keepP p p))) (FQ (X p p)).1.1 (FQ (X p p)).1.2 (FQ (X p p)).2.1 (FQ (X p p)).2.2 0).bind (λy5=>match y5 with
       | .inl z6=>g43L1 m N z6.1 z6.2.1 z6.2.2.1 z6.2.2.2.1
       | .inr e=>e.elim)=some (.inl (((ng+npos (L.filter (keepP p p)) (λi=> -g i):Nat):Int),((ps+npos (L.filter (keepP p p)) g:Nat):Int),nL L',()))/\L'.length+npos (L.filter (keepP p p)) g+npos (L.filter (keepP p p)) (λi=> -g i)=k-1:=by
     intro ng ps hng;obtain⟨Y,e3,h3⟩:=qfy hm hX hRnd hRn O hpn hpn hpR hpR hpp (hX p p hpn hpn) (s:=s) O (λh=>absurd rfl h) hsym (ng:Int) (ps:Int) m 0 X O O ⟨λi j _ _ h=>by unfold prc at h;omega,λ_ _ _ _ _=>rfl,λ_ _ _=>rfl⟩
     rw[nZ]at e3
     have hY: ∀i∈L.filter (keepP p p),∀j∈L.filter (keepP p p),Y i j=pvF p p (X p p) X i j:=by
      intro x hx y hy;obtain⟨i,hi,rfl⟩:=zx hx;obtain⟨j,hj,rfl⟩:=zx hy;exact h3.done i j hi hj (by unfold prc;omega)
     have hYl: ∀i j,i<n->j<n->Y2 (Y i j) (4*s+1):=by
      intro i j hi hj;by_cases c:i∈L.filter (keepP p p)/\j∈L.filter (keepP p p)
      . rw[hY i c.1 j c.2];have:=qje (p:=p) (q:=p) (b:=X p p) (X:=X) (s:=s) (x:=i) (y:=j) m hm hpp O (λh=>absurd rfl h) (hX _ _ hpn hpn) (hX _ _ hi hj) (hX _ _ hi hpn) (hX _ _ hpn hj) (hX _ _ hi hpn) (hX _ _ hpn hj)
        rwa [iP rfl]at this
      . rw[h3.rest i j (by by_cases d:i∈L.filter (keepP p p)
                           . exact .inr λh=>c ⟨d,h⟩
                           . exact .inl d)]
        have:=hX i j hi hj;exact⟨by have:=this.1;omega,by have:=this.2;omega⟩
     have hk1:4^(k-1)*(4*s+1+1)<=80000:=by
      have h1:4^k=4^(k-1)*4:=by rw[<-Nat.pow_succ,show(k-1).succ=k by omega]
      rw[h1,zO]at hsz;refine zK (zT _ ?_) hsz;omega
     obtain⟨V,g,L',d1,d2,d3⟩:=IH (k-1) O (L.filter (keepP p p)) N Y ng ps (4*s+1) O O O hRnd hRn (λi hi j hj=>by rw[hY i hi j hj,hY j hj i hi];exact hsym i hi j hj) hYl hk1 O
     refine⟨Y,V,g,L',d1,λi hi j hj=>by rw[hY i hi j hj];unfold pvF;rw[iP rfl],?_,d3⟩
     rw[e3,bS];exact d2
    have fin: ∀(Y V:Nat->Nat->Rat) (g:Nat->Rat),Dg (L.filter (keepP p p)) Y V g->(∀i∈L.filter (keepP p p),∀j∈L.filter (keepP p p),Y i j=X i j-X i p*X p j/X p p)->
     Dg L X (q0t p (L.filter (keepP p p)) X V) (λi=>if i=p then X p p else g i)/\npos L (λi=>if i=p then X p p else g i)=(if 0<X p p then 1 else 0)+npos (L.filter (keepP p p)) g/\
     npos L (λi=> -(if i=p then X p p else g i))=(if 0< -X p p then 1 else 0)+npos (L.filter (keepP p p)) (λi=> -g i):=by
     intro Y V g h1 h2;refine⟨(qlv (hR.nodup_iff.1 hnd) (λi hi j hj=>hs i (hR.mem_iff.2 hi) j (hR.mem_iff.2 hj)) hpp h2 h1).perm hR.symm,?_,?_⟩
     . rw[q40 hR,q05,iP rfl,Yo (b:=λi=>if i=p then X p p else g i) (c:=g) λi hi=>iN' (Xo.1 (zO1.1 hi).2).1]
     . rw[q40 hR,q05,iP rfl,Yo (b:=λi=> -(if i=p then X p p else g i)) (c:=λi=> -g i) λi hi=>by rw[iN' (Xo.1 (zO1.1 hi).2).1]]
    rw[e,bS,bQ,iN' (by show¬(p:Int)<0;omega)]
    dsimp only;rw[show nL ((L.take 0).filter (keepP p p))=[]from rfl,nZ]at e2
    rw[e2,bS];dsimp only;rw[bif_eq,iP rfl];simp only[tN,q1s,Ja hpn,q1l,J9 hpn];rw[iP cp,iP cp,q71 hm (by have:=(hX p p hpn hpn).1;omega),bS,bQ]
    by_cases c1:X p p<0
    . rw[iP (rsgn.2 c1),iP cp,iP cp,wQ,wsucc O];obtain⟨Y,V,g,L',d1,d2,d3,d4⟩:=run (neg+1) pos O;obtain⟨f1,f2,f3⟩:=fin Y V g d1 d2;refine⟨_,_,L',f1,?_,?_⟩
      . refine Eq.trans d3 (some3 ?_ ?_)
        . rw[f3,iP (by grind)];omega
        . rw[f2,iN' (by grind)];omega
      . rw[f2,f3,iN' (by grind),iP (by grind)];omega
    . have c2:0<X p p:=by grind
      rw[iN' (λh=>c1 (rsgn.1 h)),iP cp,iP cp,wQ,wsucc O]
      obtain⟨Y,V,g,L',d1,d2,d3,d4⟩:=run neg (pos+1) O;obtain⟨f1,f2,f3⟩:=fin Y V g d1 d2;refine⟨_,_,L',f1,?_,?_⟩
      . refine Eq.trans d3 (some3 ?_ ?_)
        . rw[f3,iN' (by grind)];omega
        . rw[f2,iP c2];omega
      . rw[f2,f3,iP c2,iN' (by grind)];omega
   ·
    have hR:=qb3 hnd hp hq hpq;have hlen:=hR.length_eq;rw[zw1,zw1]at hlen;have hRnd:(L.filter (keepP p q)).Nodup:=hnd.sublist za3;have hRn: ∀i∈L.filter (keepP p q),i<n:=λi hi=>hL i (zO1.1 hi).1
    have hpR:p∉L.filter (keepP p q):=λh=>(Xo.1 (zO1.1 h).2).1 rfl
    have hqR:q∉L.filter (keepP p q):=λh=>(Xo.1 (zO1.1 h).2).2 rfl
    have e2:=qfr m (L:=L) O (matQ n X) (neg:Int) (pos:Int) p q m 0 O O;have hsub: ∀i∈L.filter (keepP p q),i∈L:=λi hi=>(zO1.1 hi).1
    have hsym: ∀x∈L.filter (keepP p q),∀y∈L.filter (keepP p q),pvF p q (X p q) X x y=pvF p q (X p q) X y x:=by
     intro x hx y hy;unfold pvF;rw[iN' hpq,iN' hpq,hs x (hsub x hx) y (hsub y hy),hs x (hsub x hx) p hp,hs q hq y (hsub y hy),hs x (hsub x hx) q hq,hs p hp y (hsub y hy)]
     grind
    have hpn:=hL p hp;have hqn:=hL q hq;have cp:(0:Int)<=(p:Int)/\(p:Int)<(n:Int):=O;have cq:(0:Int)<=(q:Int)/\(q:Int)<(n:Int):=O
    have h16:4^k=4^(k-2)*16:=by
     conv=>lhs;rw[show k=(k-2)+1+1 by omega]
     rw[zh,zh,zO]
    have hs16:16*(s+1)<=80000:=by
     rw[h16,zO]at hsz;have:=zP2 (16*(s+1)) (zC1 (n:=k-2) (show 0<4 by decide))
     omega
    obtain⟨Y,e3,h3⟩:=qfy hm hX hRnd hRn O hpn hqn hpR hqR hb (hX p q hpn hqn) (s:=s) O (λ_=>O) hsym ((neg+1:Nat):Int) ((pos+1:Nat):Int) m 0 X O O ⟨λi j _ _ h=>by unfold prc at h;omega,λ_ _ _ _ _=>rfl,λ_ _ _=>rfl⟩
    rw[nZ]at e3
    have hY: ∀i∈L.filter (keepP p q),∀j∈L.filter (keepP p q),Y i j=pvF p q (X p q) X i j:=by
     intro x hx y hy;obtain⟨i,hi,rfl⟩:=zx hx;obtain⟨j,hj,rfl⟩:=zx hy;exact h3.done i j hi hj (by unfold prc;omega)
    have hYl: ∀i j,i<n->j<n->Y2 (Y i j) (16*s+5):=by
     intro i j hi hj;by_cases c:i∈L.filter (keepP p q)/\j∈L.filter (keepP p q)
     . rw[hY i c.1 j c.2];have:=qje (p:=p) (q:=q) (b:=X p q) (X:=X) (s:=s) (x:=i) (y:=j) m hm hb O (λ_=>O) (hX _ _ hpn hqn) (hX _ _ hi hj) (hX _ _ hi hpn) (hX _ _ hqn hj) (hX _ _ hi hqn) (hX _ _ hpn hj)
       rwa [iN' hpq]at this
     . rw[h3.rest i j (by by_cases d:i∈L.filter (keepP p q)
                          . exact .inr λh=>c ⟨d,h⟩
                          . exact .inl d)]
       have:=hX i j hi hj;exact⟨by have:=this.1;omega,by have:=this.2;omega⟩
    have hk1:4^(k-2)*(16*s+5+1)<=80000:=by
     rw[h16,zO]at hsz;refine zK (zT _ ?_) hsz;omega
    obtain⟨V,g,L',d1,d2,d3⟩:=IH (k-2) O (L.filter (keepP p q)) N Y (neg+1) (pos+1) (16*s+5) O O O hRnd hRn (λi hi j hj=>by rw[hY i hi j hj,hY j hj i hi];exact hsym i hi j hj) hYl hk1 O
    have f1:=(qn8 (hR.nodup_iff.1 hnd) (λi hi j hj=>hs i (hR.mem_iff.2 hi) j (hR.mem_iff.2 hj)) hp0 hq0 hb (λi hi j hj=>by rw[hY i hi j hj];unfold pvF;rw[iN' hpq]) d1).perm hR.symm
    have g1: ∀i∈L.filter (keepP p q),(if i=p then 2*X p q else if i=q then-(2*X p q)else g i)=g i:=λi hi=>by
     have:=Xo.1 (zO1.1 hi).2;rw[iN' this.1,iN' this.2]
    have f2:npos L (λi=>if i=p then 2*X p q else if i=q then-(2*X p q)else g i)=1+npos (L.filter (keepP p q)) g:=by
     rw[q40 hR,q05,q05,Yo (c:=g) g1,iP (show p=p from rfl),iN' (show¬q=p from λh=>hpq h.symm),iP (show q=q from rfl),<-Nat.add_assoc,twoS hb]
    have f3:npos L (λi=> -(if i=p then 2*X p q else if i=q then-(2*X p q)else g i))=1+npos (L.filter (keepP p q)) (λi=> -g i):=by
     rw[q40 hR,q05,q05,Yo (c:=λi=> -g i) (λi hi=>by rw[g1 i hi]),iP (show p=p from rfl),iN' (show¬q=p from λh=>hpq h.symm),iP (show q=q from rfl),<-Nat.add_assoc,twoT hb]
    rw[e,bS,bQ,iN' (by show¬(p:Int)<0;omega)]
    dsimp only;rw[show nL ((L.take 0).filter (keepP p q))=[]from rfl,nZ]at e2
    rw[e2,bS];dsimp only;rw[bif_eq,iN' O];simp only[tN,q1s,Ja hpn,q1l,J9 hqn];rw[iP cp,iP cq,show wI ((neg:Int)+1)=((neg+1:Nat):Int)from wsucc O,show wI ((pos:Int)+1)=((pos+1:Nat):Int)from wsucc O]
    rw[show g43L3 m m (matQ n X) ((neg+1:Nat):Int) ((pos+1:Nat):Int) (p:Int) (q:Int) (nL (L.filter (keepP p q))) (BZ (X p q).num).1 (BZ (X p q).num).2 (BZ ((X p q).den:Int)).1 (BZ ((X p q).den:Int)).2 0=_ from e3,bS]
    refine⟨_,_,L',f1,?_,?_⟩
    . refine Eq.trans d2 (some3 ?_ ?_)
      . rw[f3];omega
      . rw[f2];omega
    . rw[f2,f3];omega
   ·
    refine⟨λi j=>if i=j then 1 else 0,λ_=>0,L,qj2 hnd hz,?_,?_⟩
    . rw[e,bS,bQ,iP (by show(-1:Int)<0;omega),q3s,Yo (b:=λ_=> -(0:Rat)) (c:=λ_=>0) (λ_ _=>by grind),q3s]
      rfl
    . rw[q3s,Yo (b:=λ_=> -(0:Rat)) (c:=λ_=>0) (λ_ _=>by grind),q3s];exact hlk
theorem qne {M:Nat->Nat->Int} (hM: ∀i j,i<n->j<n->zlen (M i j)<=1000000) (out:List (List FrL)) {i:Nat} (hi:i<n): ∀(N j:Nat),n-j<N->j<=n->
 g77L1 m N (matB n M) out (i:Int) (mr j λj=>FQ (M i j:Rat)) (j:Int)=some (.inl (matB n M,out,(i:Int),rowQ n (λj=>(M i j:Rat)),())):=by
 intro N;induction N with
 |zero=>intro k h;omega
 |succ N ih=>
  intro j h hj;have e3:(matB n M).getD i []=rowB n (M i):=Ql hi;have hr:(rowB n (M i)).length=n:=Q9;have hlen:(matB n M).length=n:=Q9;rw[g77L1,hlen];simp only[tN,e3,hr];rw[iP O,bQ];by_cases c:j<n
  . have e5:(rowB n (M i)).getD j (false,[])=BZ (M i j):=Ql c;have hl:(mr j λj=>FQ (M i j:Rat)).length=j:=Q9
    rw[iP O,iP O,iP O,e5,qkb hm (hM i j hi c),bS,q2l O (by decide) (by decide),bS,hl,iP (by show j+1<=_;omega),wQ,wsucc O]
    have e1:(mr j λj=>FQ (M i j:Rat))++[(((zB (M i j)).1,(zB (M i j)).2.1),((zB 1).1,(zB 1).2.1))]=mr (j+1) λj=>FQ (M i j:Rat):=by
     rw[<-Y8];congr 2
    show g77L1 m N (matB n M) out (i:Int) ((mr j λj=>FQ (M i j:Rat))++[(((zB (M i j)).1,(zB (M i j)).2.1),((zB 1).1,(zB 1).2.1))]) ((j+1:Nat):Int)=_
    rw[e1];exact ih (j+1) O O
  . have:j=n:=O;subst this;rw[iN' O];rfl
theorem qn4 {M:Nat->Nat->Int} (hM: ∀i j,i<n->j<n->zlen (M i j)<=1000000): ∀(N i:Nat),n-i<N->i<=n->
 g77L0 m N (matB n M) (mr i λi=>rowQ n (λj=>(M i j:Rat))) (i:Int)=some (.inl (matQ n (qM M),())):=by
 intro N;induction N with
 |zero=>intro k h;omega
 |succ N ih=>
  intro i h hi;have hlen:(matB n M).length=n:=Q9;have hl:(mr i λi=>rowQ n (λj=>(M i j:Rat))).length=i:=Q9
  rw[g77L0,hlen,bQ];by_cases c:i<n
  . have e:=qne hm hn hM (mr i λi=>rowQ n (λj=>(M i j:Rat))) c m 0 O O
    rw[Zf,nZ]at e;rw[iP O,e,bS];dsimp only;rw[hl,iP (by show 0<1/\i+1<=_;omega),wQ,wsucc O]
    have e1:(mr i λi=>rowQ n (λj=>(M i j:Rat)))++[rowQ n (λj=>(M i j:Rat))]=mr (i+1) λi=>rowQ n (λj=>(M i j:Rat)):=Y8 (f:=λi=>rowQ n (λj=>(M i j:Rat)))
    rw[e1];exact ih (i+1) O O
  . have:i=n:=O;subst this;rw[iN' O];rfl
theorem qn9 (M:List (List Bg)) (hlen:M.length=n) (A:List (List FrL)) (x y:Int): ∀(N i:Nat),n-i<N->i<=n->g43L0 m N M A x y (nL (List.range i)) (i:Int)=some (.inl (A,x,y,nL (List.range n),())):=by
 intro N;induction N with
 |zero=>intro k h;omega
 |succ N ih=>
  intro i h hi;rw[g43L0,hlen,bQ];by_cases c:i<n
  . rw[iP O,q2d,zK3,iP (by show i+1<=_;omega),wQ,wsucc O]
    have:nL (List.range i)++[(i:Int)]=nL (List.range (i+1)):=by rw[List.range_succ];unfold nL;rw[zr2];rfl
    rw[this];exact ih (i+1) O O
  . have:i=n:=O;subst this;rw[iN' O]
theorem qef {M:Nat->Nat->Int} {s:Nat} (hM: ∀i j,i<n->j<n->zlen (M i j)<=s) (h1:1<=s) (hs: ∀i j,i<n->j<n->M i j=M j i) (hsz:4^n*(s+1)<=80000):
 ∃V d,Dg (List.range n) (qM M) V d/\g43 m (matB n M)=some ((((npos (List.range n) (λi=> -d i):Nat):Int),((n-(npos (List.range n) d+npos (List.range n) (λi=> -d i)):Nat):Int),((npos (List.range n) d:Nat):Int),()),(),()):=by
 have hs8:s+1<=80000:=zK (zP2 _ (zC1 (by decide))) hsz
 have hlen:(matB n M).length=n:=Q9;have e1:=qn4 hm hn (M:=M) (λi j hi hj=>by have:=hM i j hi hj;omega) m 0 O O
 rw[Zf,nZ]at e1;have e2:=qn9 hm hn (matB n M) hlen (matQ n (qM M)) 0 0 m 0 O O;rw[show nL (List.range 0)=[]from rfl,nZ]at e2
 obtain⟨V,d,L',d1,d2,d3⟩:=qmj hm hn n (List.range n) m (qM M) 0 0 s zK3 O hn List.nodup_range (λi hi=>zJ2.1 hi) (λi hi j hj=>by show(M i j:Rat)=(M j i:Rat);rw[hs i j (zJ2.1 hi) (zJ2.1 hj)]) (λi j hi hj=>⟨by show zlen ((M i j:Int):Rat).num<=s;rw[Rat.num_intCast];exact hM i j hi hj,by
  show zlen ((((M i j:Int):Rat).den:Nat):Int)<=s
  rw[Rat.den_intCast];exact zK (q6n (k:=1) (by decide)) h1⟩) hsz O
 rw[nZ]at d2;refine⟨V,d,d1,?_⟩;rw[g43,g77,e1,bS,bS];dsimp only;rw[e2,bS];dsimp only;rw[d2,bS];dsimp only;rw[q2d,zF,zF];congr 4;omega
end
end Go.Vs.F
