import Derived.Test.YtikppifemlpjlaaGreatDoorLf
import Derived.Test.YtikppifemlpjlaaGreatDoorLe
import Derived.Test.YtikppifemlpjlaaGreatDoorLc
import Derived.Test.YtikppifemlpjlaaGreatDoorLg
import Derived.Test.YtikppifemlpjlaaGreatDoorTa
set_option linter.unusedVariables false
set_option linter.unusedSimpArgs false
set_option linter.unusedSectionVars false
set_option linter.defProp false
namespace Go.Vs.F
def or_hi {r x:Nat} (hr:r<4294967296) (hx:x<4294967296):b_or_ .u64 (shl_ .u64 (r:Int) 32) (x:Int)=((r*4294967296+x:Nat):Int):=by
 have e1:shl_ .u64 (r:Int) 32=((r*2^32:Nat):Int):=shl64 (a:=r) (k:=32) O (by rw[show(2:Nat)^32=4294967296 by decide];omega)
 have hp:(2:Nat)^32=4294967296:=by decide
 rw[e1,or64 (by rw[hp];omega) O]
 have:=zi1 (i:=32) (b:=x) O r;rw[zW,<-this,hp,zW]
section
variable {Q top v1 v2 u2:Nat}
structure QF (Q top v1 v2 u2:Nat):Prop where
 big:Q<4294967296
 ge: ∀q r,q*v1+r=top->r*4294967296+u2<q*v2->Q<q
 fin1: ∀q r,q*v1+r=top->q<4294967296->q*v2<=r*4294967296+u2->q<=Q+1
 fin2: ∀q r,q*v1+r=top->q<=4294967296->4294967296<=r->q<=Q
def qge (m:Nat) {u v:LI} {n:Nat} (hn:v.length=n) (h2:2<=n) (hul:u.length=n+1) (hl:n<=1000000)
 (e1:v.getD (n-1) 0=(v1:Int)) (e2:v.getD (n-2) 0=(v2:Int)) (e3:u.getD (n-2) 0=(u2:Int)) (h1:2147483648<=v1) (hv1:v1<4294967296) (hv2:v2<4294967296) (hu2:u2<4294967296) (hQ:QF Q top v1 v2 u2):
 ∀(N k q r:Nat),k<N->4294967296<=r+k*2147483648->q*v1+r=top->r<4294967296->Q<=q->q<=4294967297->
  ∃q':Nat,g209L0 m N u v (n:Int) (q:Int) (r:Int)=some (.inl (u,v,(n:Int),(q':Int),()))/\Q<=q'/\q'<=Q+1/\q'<4294967296
 |0,k,q,r,h,_,_,_,_,_=>O
 |N+1,k,q,r,h,hk,hqr,hr,hQq,hq=>by
  have w1:wI ((n:Int)-1)=((n-1:Nat):Int):=by rw[wQ,wi O O];omega
  have w2:wI ((n:Int)-2)=((n-2:Nat):Int):=by rw[wQ,wi O O];omega
  have w3:wJ (v1:Int)=(v1:Int):=w64n O;have w4:wJ (v2:Int)=(v2:Int):=w64n O;have w5:wJ (u2:Int)=(u2:Int):=w64n O;have w6:wJ ((r:Int)+(v1:Int))=((r+v1:Nat):Int):=by rw[<-Int.natCast_add];exact w64n O
  have i1:(0:Int)<=((n-1:Nat):Int)/\((n-1:Nat):Int)<(v.length:Int):=O;have i2:(0:Int)<=((n-2:Nat):Int)/\((n-2:Nat):Int)<(v.length:Int):=O;have i3:(0:Int)<=((n-2:Nat):Int)/\((n-2:Nat):Int)<(u.length:Int):=O
  have down:1<=q->Q<q-> ∃q':Nat,(if(0:Int)<=((n-1:Nat):Int)/\((n-1:Nat):Int)<(v.length:Int)then
   bif decide (((r+v1:Nat):Int)>4294967295)then some (.inl (u,v,(n:Int),wJ ((q:Int)-1),()))
   else g209L0 m N u v (n:Int) (wJ ((q:Int)-1)) ((r+v1:Nat):Int)
   else none)=some (.inl (u,v,(n:Int),(q':Int),()))/\Q<=q'/\q'<=Q+1/\q'<4294967296:=by
   intro hq1 hQ1;have w7:wJ ((q:Int)-1)=((q-1:Nat):Int):=by rw[show(q:Int)-1=((q-1:Nat):Int) by omega];exact w64n O
   have hs:(q-1)*v1+(r+v1)=top:=by
    have:q*v1=(q-1)*v1+v1:=by rw[<-Nat.succ_mul];congr 1;omega
    omega
   rw[iP i1,bQ,w7];by_cases c:((r+v1:Nat):Int)>4294967295
   . rw[iP c];have:=hQ.fin2 (q-1) (r+v1) hs O O;have:=hQ.big;exact⟨q-1,rfl,O,O,O⟩
   . rw[iN' c]
     have hk1:1<=k:=by
      rcases zd3 k with e|e
      . subst e;omega
      . exact e
     exact qge m hn h2 hul hl e1 e2 e3 h1 hv1 hv2 hu2 hQ N (k-1) (q-1) (r+v1) O O hs O O O
  rw[g209L0,bQ];simp only[w1,w2,zF,tN,e1,e2,e3,w3,w4,w5,w6];by_cases c:(q:Int)>4294967295
  . rw[iP c];exact down O (by have:=hQ.big;omega)
  . have hqv:q*v2<18446744073709551616:=by
     have:q*v2<=4294967295*4294967295:=zt1 O O;omega
    have w8:wJ ((q:Int)*(v2:Int))=((q*v2:Nat):Int):=by rw[<-Int.natCast_mul];exact w64n hqv
    rw[iN' c,iP i2,iP i3,w8,or_hi hr hu2,bQ];by_cases c2:((q*v2:Nat):Int)>((r*4294967296+u2:Nat):Int)
    . rw[iP c2];have hlt:r*4294967296+u2<q*v2:=O;have:=hQ.ge q r hqr hlt;exact down O this
    . rw[iN' c2];exact⟨q,rfl,hQq,hQ.fin1 q r hqr O O,O⟩
end
def QF.mk' {U V P top v1 v2 u2 lu lv:Nat} (hP:0<P) (hU:U=lu+P*(top*4294967296+u2)) (hlu:lu<P) (hV:V=lv+P*(v1*4294967296+v2)) (hlv:lv<P) (h1:2147483648<=v1) (hv2:v2<4294967296) (hu2:u2<4294967296)
 (hUV:U<V*4294967296):QF (U/V) top v1 v2 u2:=by
 have hV0:0<V:=by
  have:P*1<=P*(v1*4294967296+v2):=zT _ O;omega
 refine⟨zP3 hUV,λq r e h=> ?_,λq r e hq h=> ?_,λq r e hq h=> ?_⟩
 ·
  rw[z01 hV0]
  have k1:top*4294967296+u2+1<=q*(v1*4294967296+v2):=by
   rw[<-e,zC,zI1,<-Nat.mul_assoc];omega
  have k2:P*(top*4294967296+u2+1)<=P*(q*(v1*4294967296+v2)):=zT _ k1;have k3:P*(q*(v1*4294967296+v2))=q*(P*(v1*4294967296+v2)):=by rw[zW1]
  have k4:q*V=q*lv+q*(P*(v1*4294967296+v2)):=by rw[hV,zC]
  rw[zC P,zP1]at k2;omega
 ·
  rcases zd3 q with h0|h0
  . rw[h0];exact zS2 _
  have k1:q*(v1*4294967296+v2)<=top*4294967296+u2:=by
   rw[<-e,zC,zI1,<-Nat.mul_assoc];omega
  have k2:P*(q*(v1*4294967296+v2))<=P*(top*4294967296+u2):=zT _ k1;have k3:P*(q*(v1*4294967296+v2))=q*(P*(v1*4294967296+v2)):=by rw[zW1]
  have k4:q*V=q*lv+q*(P*(v1*4294967296+v2)):=by rw[hV,zC]
  have k5:q*lv<=4294967296*P:=zt1 O O;have k6:P*4294967296<=P*(v1*4294967296+v2):=zT _ O
  have k7:(q-1)*V<=U:=by
   have:q*V=(q-1)*V+V:=by rw[<-Nat.succ_mul];congr 1;omega
   have:=zW P 4294967296;omega
  have:=(zV2 hV0).2 k7;omega
 . rw[zV2 hV0]
   have k1:q*(v1*4294967296+v2+1)<=top*4294967296+u2:=by
    have a1:q*(v2+1)<=4294967296*4294967296:=zt1 hq O;have a2:q*(v1*4294967296+v2+1)=q*v1*4294967296+q*(v2+1):=by rw[zH1,zC,<-Nat.mul_assoc]
    have a3:top*4294967296=q*v1*4294967296+r*4294967296:=by rw[<-e,zI1]
    have a4:4294967296*4294967296<=r*4294967296:=zN _ h;omega
   have k2:P*(q*(v1*4294967296+v2+1))<=P*(top*4294967296+u2):=zT _ k1
   have k3:P*(q*(v1*4294967296+v2+1))=q*(P*(v1*4294967296+v2))+q*P:=by
    rw[zW1,zC P,zP1,zC]
   have k4:q*V=q*lv+q*(P*(v1*4294967296+v2)):=by rw[hV,zC]
   have k5:q*lv<=q*P:=zT _ O;omega
def q9a {a:Nat} (ha:a<18446744073709551616):qp .u64 (a:Int) 4294967295=((a%4294967296:Nat):Int):=by
 have:=and64 ha (show 4294967295<18446744073709551616 by decide)
 rw[show((4294967295:Nat):Int)=4294967295 from rfl]at this
 rw[this,zM1 _ 32]
def and_one {a:Nat} (ha:a<18446744073709551616):qp .u64 (a:Int) 1=((a%2:Nat):Int):=by
 have:=and64 ha (show 1<18446744073709551616 by decide)
 rw[show((1:Nat):Int)=1 from rfl]at this
 rw[this,zM1 _ 1]
def qga {a:Nat}:shr_ .u64 (a:Int) 32=((a/4294967296:Nat):Int):=shr64 (a:=a) (k:=32) O
def qfd {x lo bor:Nat} (hx:x<4294967296) (hlo:lo<4294967296) (hb:bor<=1): ∃d e:Nat,d<4294967296/\e<=1/\x+4294967296*e=d+lo+bor/\
 wK (qp .u64 (wJ ((wJ ((x:Int)-(lo:Int)))-(bor:Int))) 4294967295)=(d:Int)/\qp .u64 (shr_ .u64 (wJ ((wJ ((x:Int)-(lo:Int)))-(bor:Int))) 32) 1=(e:Int):=by
 have hT:wJ ((wJ ((x:Int)-(lo:Int)))-(bor:Int))=((x:Int)-lo-bor)%18446744073709551616:=by
  rw[w64m,w64m];omega
 rw[hT];by_cases c:lo+bor<=x
 . rw[show((x:Int)-lo-bor)%18446744073709551616=((x-lo-bor:Nat):Int) by omega,q9a O,qga,and_one O,w32]
   refine⟨x-lo-bor,0,O,O,O,?_,?_⟩
   . congr 1;omega
   . congr 1;omega
 . rw[show((x:Int)-lo-bor)%18446744073709551616=((18446744073709551616-(lo+bor-x):Nat):Int) by omega,q9a O,qga,and_one O,w32]
   refine⟨x+4294967296-lo-bor,1,O,O,O,?_,?_⟩
   . congr 1;omega
   . congr 1;omega
def q54 {l:LI} (h:Lm l) {k y:Nat} (hk:k<l.length) (e:l.getD k 0=(y:Int)):vl (l.take (k+1))=vl (l.take k)+4294967296^k*y:=by
 have h1:=Qz l k O;have h2:=Qz l (k+1) O;have h3:=X4 hk;rw[e,tN]at h3;rw[h3,zC,<-Nat.mul_assoc]at h1;rw[zh]at h2;omega
section
variable {m n:Nat} {v:LI} (hv:Lm v) (hn:v.length=n) (hl:n<=1000000)
include hv hn hl
theorem qmv {q U:Nat} (hq:q<4294967296) (t1:LI) (t5:Int): ∀(N i:Nat) (u:LI) (car bor:Nat),n-i<N->i<=n->Lm u->u.length=n+1->car<4294967296->bor<=1->
 vl u+q*vl (v.take i)=U+4294967296^i*(bor+car)->
 ∃(u':LI) (car' bor':Nat),Lm u'/\u'.length=n+1/\car'<4294967296/\bor'<=1/\vl u'+q*vl v=U+4294967296^n*(bor'+car')/\
  g209L1 m N u t1 t5 (q:Int) (car:Int) (bor:Int) v (v.length:Int) (i:Int)=some (.inl (u',t1,t5,(q:Int),(car':Int),(bor':Int),())):=by
 intro N;induction N with
 |zero=>intro i u car bor h;omega
 |succ N ih=>
  intro i u car bor h hi hu hul hc hb hinv;rw[g209L1,bQ];by_cases c:i<n
  . obtain⟨x,ex,hx,_⟩:=hu.get' i;obtain⟨y,ey,hy,_⟩:=hv.get' i
    have hp:q*y+car<18446744073709551616:=by
     have:q*y<=4294967295*4294967295:=zt1 O O;omega
    have hqy:q*y<18446744073709551616:=O;have wx:wJ (x:Int)=(x:Int):=w64n O;have wy:wJ (y:Int)=(y:Int):=w64n O;have wq:wJ ((q:Int)*(y:Int))=((q*y:Nat):Int):=by rw[<-Int.natCast_mul];exact w64n hqy
    have wp:wJ (((q*y:Nat):Int)+(car:Int))=((q*y+car:Nat):Int):=by rw[<-Int.natCast_add];exact w64n hp
    rw[iP O,iP O,iP O,iP O];simp only[tN,zF,ex,ey,wx,wy,wq,wp,q9a hp,qga];obtain⟨d,e,hd,he,hde,g1,g2⟩:=qfd (lo:=(q*y+car)%4294967296) hx (zV1 _ (by decide)) hb
    have g2':qp .u64 (shr_ .u64 (wJ ((wJ ((x:Int)-(((q*y+car)%4294967296:Nat):Int)))-(bor:Int))) 32) 1=(e:Int):=g2;rw[g1,g2',wQ,wsucc O];refine ih (i+1) (u.set i (d:Int)) ((q*y+car)/4294967296) e O O (Za hu hd) (by rw[zZ];exact hul) (zP3 O) he ?_
    have s1:=Zl (l:=u) (p:=i) (y:=(d:Int)) O;rw[ex,tN,tN]at s1;have s2:=q54 hv (k:=i) (y:=y) O ey;have s3:=ze1 (q*y+car) 4294967296;generalize hlo:(q*y+car)%4294967296=lo at*;generalize hca:(q*y+car)/4294967296=ca at*;rw[s2,zh];generalize 4294967296^i=P at*;have k1:P*x+P*(4294967296*e)=P*d+P*lo+P*bor:=by rw[<-Nat.mul_add,hde,zC,zC]
    have k2:P*(4294967296*ca)+P*lo=P*(q*y)+P*car:=by rw[<-Nat.mul_add,s3,zC]
    have k3:q*(vl (v.take i)+P*y)=q*vl (v.take i)+P*(q*y):=by rw[zC,zW1]
    have k4:P*4294967296*(e+ca)=P*(4294967296*e)+P*(4294967296*ca):=by rw[zO,zC,zC]
    have k5:P*(bor+car)=P*bor+P*car:=zC ..;rw[k3,k4];rw[k5]at hinv;omega
  . have:i=n:=O;subst this;rw[iN' O];rw[zg1 O]at hinv;exact⟨u,car,bor,hu,hul,hc,hb,hinv,rfl⟩
theorem qmr {U:Nat} (t5 t7:Int): ∀(N i:Nat) (u:LI) (car:Nat),n-i<N->i<=n->Lm u->u.length=n+1->car<=1->
 vl u+4294967296^i*car=U+vl (v.take i)->
 ∃(u':LI) (car':Nat),Lm u'/\u'.length=n+1/\car'<=1/\vl u'+4294967296^n*car'=U+vl v/\
  g209L2 m N u t5 t7 (car:Int) v (v.length:Int) (i:Int)=some (.inl (u',t5,t7,(car':Int),())):=by
 intro N;induction N with
 |zero=>intro i u car h;omega
 |succ N ih=>
  intro i u car h hi hu hul hc hinv;rw[g209L2,bQ];by_cases c:i<n
  . obtain⟨x,ex,hx,_⟩:=hu.get' i;obtain⟨y,ey,hy,_⟩:=hv.get' i;have wx:wJ (x:Int)=(x:Int):=w64n O;have wy:wJ (y:Int)=(y:Int):=w64n O;have ws:wJ ((x:Int)+(y:Int))=((x+y:Nat):Int):=by rw[<-Int.natCast_add];exact w64n O
    have wp:wJ (((x+y:Nat):Int)+(car:Int))=((x+y+car:Nat):Int):=by rw[<-Int.natCast_add];exact w64n O
    rw[iP O,iP O,iP O,iP O];simp only[tN,zF,ex,ey,wx,wy,ws,wp,q9a (show x+y+car<18446744073709551616 by omega),qga,w32]
    rw[wQ,wsucc O];refine ih (i+1) (u.set i (((x+y+car)%4294967296%4294967296:Nat):Int)) ((x+y+car)/4294967296) O O (Za hu O) (by rw[zZ];exact hul) O ?_
    have s1:=Zl (l:=u) (p:=i) (y:=(((x+y+car)%4294967296%4294967296:Nat):Int)) O;rw[ex,tN,tN]at s1;have s2:=q54 hv (k:=i) (y:=y) O ey;have s3:4294967296*((x+y+car)/4294967296)+(x+y+car)%4294967296%4294967296=x+y+car:=O;generalize (x+y+car)%4294967296%4294967296=d at*;generalize (x+y+car)/4294967296=ca at*;rw[s2,zh];generalize 4294967296^i=P at*;have k1:P*(4294967296*ca)+P*d=P*x+P*y+P*car:=by rw[<-Nat.mul_add,s3,zC,zC]
    rw[zO];omega
  . have:i=n:=O;subst this;rw[iN' O];rw[zg1 O]at hinv;exact⟨u,car,hu,hul,hc,hinv,rfl⟩
end
end Go.Vs.F
set_option maxRecDepth 100000
namespace Go.Vs.F
def digit_eq {m:Nat} (hm:2000000<m) {u v:LI} (hu:Lm u) (hv:Lm v) {n:Nat} (hn:v.length=n) (hul:u.length=n+1) (h2:2<=n) (hl:n<=1000000) {v1:Nat} (e1:v.getD (n-1) 0=(v1:Int)) (h1:2147483648<=v1)
 (hUV:vl u<vl v*4294967296): ∃w,g209 m u v=some (((vl u/vl v:Nat):Int),w,(),())/\Lm w/\w.length=n+1/\vl w=vl u%vl v:=by
 obtain⟨un,f1,hun,g1⟩:=hu.get' n;obtain⟨um,f2,hum,g2⟩:=hu.get' (n-1);obtain⟨u2,f3,hu2,g3⟩:=hu.get' (n-2);obtain⟨v1',e1',hv1,k1⟩:=hv.get' (n-1);obtain⟨v2,e2,hv2,k2⟩:=hv.get' (n-2);have:v1'=v1:=by rw[e1']at e1;omega
 subst this;have q1:=Qz u (n-2) O;have q2:=Qz v (n-2) O;have q3:=Qz u (n-1) O;have q4:=Qz v (n-1) O;have t1:=Xk hu (k:=n-2) O;have t2:=Xk hv (k:=n-2) O;have t3:=Xk hu (k:=n-1) O;have z1:vl (u.drop (n+1))=0:=qo O;have z2:vl (v.drop n)=0:=qo O;rw[z1]at g1;rw[show n-1+1=n by omega]at g2 k1
 rw[show n-2+1=n-1 by omega]at g3 k2
 rw[g1]at g2;rw[g2]at g3 q3;rw[z2]at k1;rw[k1]at k2 q4;rw[g3]at q1;rw[k2]at q2;obtain⟨top,htop⟩: ∃top,top=un*4294967296+um:=⟨_,rfl⟩
 have hU:vl u=vl (u.take (n-2))+4294967296^(n-2)*(top*4294967296+u2):=by
  rw[q1];congr 2;omega
 have hV:vl v=vl (v.take (n-2))+4294967296^(n-2)*(v1'*4294967296+v2):=by
  rw[q2];congr 2;omega
 have hU1:vl u=vl (u.take (n-1))+4294967296^(n-1)*top:=by
  rw[q3];congr 2;omega
 have hV1:vl v=vl (v.take (n-1))+4294967296^(n-1)*v1':=by
  rw[q4,zX,zL]
 have hP0:0<4294967296^(n-2):=zC1 O;have hQF:=QF.mk' hP0 hU t1 hV t2 h1 hv2 hu2 hUV;have hP1:0<4294967296^(n-1):=zC1 O
 have hV0:0<vl v:=by
  have:4294967296^(n-1)*1<=4294967296^(n-1)*v1':=zT _ O;omega
 have hge:vl u/vl v<=top/v1':=qgg hU1 t3 hV1 O (zZ3 ..)
 have hle:top/v1'<=4294967297:=by
  have a1:4294967296^(n-1)*top<4294967296^(n-1)*((v1'+1)*4294967296):=by
   have t4:=Xk hv (k:=n-1) O;have:vl v*4294967296<=4294967296^(n-1)*(v1'+1)*4294967296:=zN _ (by rw[zC,zP1];omega)
   rw[zO]at this;omega
  have a2:=zE2 a1;rw[zI1]at a2;have h5:top<4294967298*v1':=O;have:top/v1'<4294967298:=(z01 O).2 h5;omega
 have hmod:=zV1 top (show 0<v1' by omega)
 have hdm:=ze1 top v1';have htl:top<18446744073709551616:=O;obtain⟨q,r0,b1,b2,b3⟩:=qge m hn h2 hul hl e1' e2 f3 h1 hv1 hv2 hu2 hQF m 2 (top/v1') (top%v1') O O (by rw[zW];exact hdm) O hge hle
 obtain⟨u1,car,bor,c1,c2,c3,c4,c5,c6⟩:=qmv (m:=m) hv hn hl (q:=q) (U:=vl u) b3 v (n:Int) m 0 u 0 0 O O hu hul O O (by simp[vl])
 obtain⟨x,ex,hx,_⟩:=c1.get' n;obtain⟨d,e,hd,he,hde,s1,s2⟩:=qfd hx c3 c4;have w1:wI ((n:Int)-1)=((n-1:Nat):Int):=by rw[wQ,wi O O];omega
 have w3:wJ (v1':Int)=(v1':Int):=w64n O;have w4:wJ (un:Int)=(un:Int):=w64n O;have w5:wJ (um:Int)=(um:Int):=w64n O;have wx:wJ (x:Int)=(x:Int):=w64n O;have wt:wJ ((top/v1':Nat):Int)=((top/v1':Nat):Int):=w64n O;have i1:(0:Int)<=((n:Nat):Int)/\((n:Nat):Int)<(u.length:Int):=O;have i2:(0:Int)<=((n-1:Nat):Int)/\((n-1:Nat):Int)<(u.length:Int):=O;have i3:(0:Int)<=((n-1:Nat):Int)/\((n-1:Nat):Int)<(n:Int):=O;have i4:(0:Int)<=((n:Nat):Int)/\((n:Nat):Int)<(u1.length:Int):=O;have set1:=Zl (l:=u1) (p:=n) (y:=(d:Int)) O;rw[ex,tN,tN]at set1;have l1:Lm (u1.set n (d:Int)):=Za c1 hd;have l2:(u1.set n (d:Int)).length=n+1:=by rw[zZ];exact c2
 have hsum:vl (u1.set n (d:Int))+q*vl v=vl u+4294967296^n*(4294967296*e):=by
  have k1:4294967296^n*x+4294967296^n*(4294967296*e)=4294967296^n*d+4294967296^n*car+4294967296^n*bor:=by rw[<-Nat.mul_add,hde,zC,zC]
  rw[zC]at c5;omega
 have hdiv:=ze1 (vl u) (vl v);have hml:=zV1 (vl u) hV0;rw[g209];rw[hn,tN,w1,tN,zF,zF];rw[iP i1,iP i2,iP i3,e1',w3,iP O,iP i3,iP O,f1,f2,w4,w5,or_hi hun hum,<-htop,td,tm,wt,r0,bS];dsimp only;rw[show g209L1 m m u v (n:Int) (q:Int) 0 0 v (v.length:Int) 0=_ from c6,bS]
 dsimp only;rw[iP i4,iP i4,tN,zF,ex,wx,bif_eq,s1,s2];have hr:q*vl v=vl v*q:=zW ..;by_cases he0:e=0
 . subst he0
   have hq:q=vl u/vl v:=by
    have:q<=vl u/vl v:=(zV2 hV0).2 (by simp only[zX,zL]at hsum;omega)
    omega
   rw[iP O,w32,zu b3];refine⟨_,by rw[hq],l1,l2,?_⟩
   simp only[zX,zL]at hsum;rw[hr,hq]at hsum;omega
 . have he1:e=1:=O;subst he1;have hlt1:=vl_lt l1;rw[l2,zh]at hlt1;rw[zP1]at hsum
   have hq:q=vl u/vl v+1:=by
    rcases zE1 (vl u/vl v) q with h|h
    . omega
    . exfalso;have:q*vl v<=vl u/vl v*vl v:=zN _ h;have:=zZ3 (vl u) (vl v);omega
   have hq1:1<=q:=by rw[hq];exact Nat.le_add_left 1 _
   have hq2:q-1=vl u/vl v:=by rw[hq,zC3]
   obtain⟨u3,ca,a1,a2,a3,a4,a5⟩:=qmr (m:=m) hv hn hl (U:=vl (u1.set n (d:Int))) (n:Int) (q:Int) m 0 (u1.set n (d:Int)) 0 O O l1 l2 O (by simp[vl])
   obtain⟨y,ey,hy,_⟩:=a1.get' n;have i5:(0:Int)<=((n:Nat):Int)/\((n:Nat):Int)<(u3.length:Int):=O;have wq:wJ ((q:Int)-1)=((q-1:Nat):Int):=by rw[show(q:Int)-1=((q-1:Nat):Int) by omega];exact w64n O
   have wc:wK (ca:Int)=(ca:Int):=by rw[w32,zu O]
   have wy:wK ((y:Int)+(ca:Int))=(((y+ca)%4294967296:Nat):Int):=by rw[<-Int.natCast_add];exact w32
   rw[iN' O,show g209L2 m m (u1.set n (d:Int)) (n:Int) (q:Int) 0 v (v.length:Int) 0=_ from a5,bS]
   dsimp only;rw[iP i5,iP i5,tN,zF,ey,wc,wy,wq,w32,zu (show q-1<4294967296 by omega)]
   have hml2:(y+ca)%4294967296<4294967296:=zV1 _ (by decide)
   refine⟨_,by rw[hq2],Za a1 hml2,by rw[zZ];exact a2,?_⟩
   have set2:=Zl (l:=u3) (p:=n) (y:=(((y+ca)%4294967296:Nat):Int)) O;rw[ey,tN,tN]at set2;have hlt2:=vl_lt (Za (p:=n) a1 hml2);rw[zZ,a2,zh]at hlt2;have hv4:=vl_lt hv;rw[hn]at hv4;have hdm2:=ze1 (y+ca) 4294967296
   have k1:4294967296^n*(4294967296*((y+ca)/4294967296))+4294967296^n*((y+ca)%4294967296)=4294967296^n*y+4294967296^n*ca:=by
    rw[<-Nat.mul_add,hdm2,zC]
   have k2:q*vl v=vl v*(vl u/vl v)+vl v:=by rw[hq,zW,zC,zP1]
   have hf:(y+ca)/4294967296=0\/(y+ca)/4294967296=1:=O;generalize (y+ca)/4294967296=f at*;generalize (y+ca)%4294967296=g at*;generalize 4294967296^n=P at*;rcases hf with rfl|rfl
   . exfalso;simp only[zX]at k1;omega
   . omega
end Go.Vs.F
set_option maxRecDepth 100000
namespace Go.Vs.F
def qec {a b:LI} (ha:Lm a) (hb:Lm b):Lm (a++b):=λx hx=>(zY.1 hx).elim (ha x) (hb x)
def qkl {m:Nat} (hm:2000000<m) {v:LI} (hv:Lm v) {n:Nat} (hn:v.length=n) (h2:2<=n) {v1:Nat} (e1:v.getD (n-1) 0=(v1:Int)) (h1:2147483648<=v1) {k U:Nat} (hk:k+n<=1000000) (t8:Int):
 ∀(j N:Nat) (u q:LI),j<N->j<=k->Lm u->Lm q->u.length=k+n->q.length=k->(∀p,p<j->q.getD p 0=0)->vl (u.drop j)<vl v->vl u+vl v*vl q=U->
  ∃u' q',g201L0 m N q t8 v u (n:Int) ((j:Int)-1)=some (.inl (q',t8,u',(n:Int),()))/\Lm u'/\Lm q'/\u'.length=k+n/\q'.length=k/\vl u'<vl v/\vl u'+vl v*vl q'=U:=by
 intro j;induction j with
 |zero=>
  intro N u q hN hj hu hq hul hql hz hr hs;obtain⟨N,rfl⟩: ∃M,N=M+1:=⟨N-1,O⟩;rw[g201L0,bQ,iN' O];exact⟨u,q,rfl,hu,hq,hul,hql,by rwa [zT1]at hr,hs⟩
 |succ p ih=>
  intro N u q hN hj hu hq hul hql hz hr hs;obtain⟨N,rfl⟩: ∃M,N=M+1:=⟨N-1,O⟩;have hvn:=vl_lt hv;rw[hn]at hvn;have hdu:(u.drop (p+1)).drop n=u.drop (p+(n+1)):=by rw[zQ2];congr 1;omega
  have hz0:vl (u.drop (p+(n+1)))=0:=by
   rw[<-hdu];exact Jf (by rw[zU1];omega) O
  obtain⟨x,ex,hx,dx⟩:=hu.get' p;have hwl:((u.drop p).take (n+1)).length=n+1:=by rw[zf,zU1];omega
  have hw:vl (u.drop p)=vl ((u.drop p).take (n+1)):=by
   have:=Qz (u.drop p) (n+1) (by rw[zU1];omega)
   rw[zQ2,hz0,zX,zL]at this;exact this
  have hwlt:vl ((u.drop p).take (n+1))<vl v*4294967296:=by rw[<-hw,dx];omega
  obtain⟨w,d1,d2,d3,d4⟩:=digit_eq hm ((hu.drop p).take (n+1)) hv hn hwl h2 O e1 h1 hwlt;have hV0:0<vl v:=O;have hd:vl ((u.drop p).take (n+1))/vl v<4294967296:=zP3 hwlt;generalize hd0:vl ((u.drop p).take (n+1))/vl v=d at*;have hdm:vl v*d+vl w=vl ((u.drop p).take (n+1)):=by rw[<-hd0,d4];exact ze1 ..
  have hwr:vl w<vl v:=by rw[d4];exact zV1 _ hV0
  have w0:wI ((p:Int)+(n:Int))=((p+n:Nat):Int):=by rw[wQ,wi O O];omega
  have w1:wI (((p+n:Nat):Int)+1)=((p+n+1:Nat):Int):=wsucc O;have ei:((p+1:Nat):Int)-1=(p:Int):=O;rw[g201L0,ei,bQ,iP O,w0,w1,iP O];simp only[tN,zF];rw[show p+n+1-p=n+1 by omega,iP O,d1,bS]
  dsimp only;rw[iP O,wQ,wi O O];have hu':Lm (u.take p++(w++u.drop (p+(n+1)))):=qec (hu.take p) (qec d2 (hu.drop _));have htl:(u.take p).length=p:=by rw[zf];omega
  have hul':(u.take p++(w++u.drop (p+(n+1)))).length=k+n:=by rw[zi,zi,htl,d3,zU1];omega
  have s1:=Zl (l:=q) (p:=p) (y:=(d:Int)) O;rw[hz p O,zO3,zX,zL,tN]at s1;have s2:=Qz u p O;rw[hw,<-hdm]at s2
  have s3:vl (u.take p++(w++u.drop (p+(n+1))))=vl (u.take p)+4294967296^p*vl w:=by
   rw[Jr,Jr,hz0,zX,zL,htl]
  refine ih N _ (q.set p (d:Int)) O O hu' (Za hq hd) hul' (by rw[zZ];exact hql) (λp' hp'=>by rw[getD_set_ne O];exact hz p' O) ?_ ?_
  . have e:(u.take p++(w++u.drop (p+(n+1)))).drop p=w++u.drop (p+(n+1)):=by
     rw[List.drop_append_of_le_length O,List.drop_of_length_le O,zI3]
    rw[e,Jr,hz0,zX,zL];exact hwr
  . rw[s3,s1,zC];rw[zC]at s2;have:vl v*(4294967296^p*d)=4294967296^p*(vl v*d):=zW1 ..;omega
end Go.Vs.F
set_option maxRecDepth 100000
namespace Go.Vs.F
def qio {m:Nat} (hm:5000000<=m) {A B:Nat} (hB:B≠0) (hA:(lim A).length<=400000) (hBl:(lim B).length<=1000000):
 g201 m (lim A) (lim B)=some ((lim (A/B),lim (A%B),()),(),(),()):=by
 by_cases hsmall:B<4294967296
 . exact q4p O O O hsmall
 by_cases cAB:A<B
 . have hc:cmpN A B= -1:=by unfold cmpN;rw[iP cAB]
   rw[g201,q06 O O hBl,bS,bQ];dsimp only;rw[hc,iP O,qce O,bS,zx1 cAB,zu cAB,Q8]
 . have hLn:(lim B).length<=(lim A).length:=Q5 O;have hc: ¬cmpN A B<0:=by unfold cmpN;rw[iN' cAB];split<;>omega
   obtain⟨n,hn⟩: ∃n,n=(lim B).length:=⟨_,rfl⟩;obtain⟨L,hL⟩: ∃L,L=(lim A).length:=⟨_,rfl⟩
   have h2:2<=n:=by
    rcases zE1 n 2 with h|h
    . exfalso;have:=vl_lt (Q7 B);rw[qw,<-hn]at this;have h3:4294967296^n<=4294967296^1:=zq O O;rw[Nat.pow_one]at h3;omega
    . exact h
   obtain⟨t,et,ht,dt⟩:=(Q7 B).get' (n-1);have w1:wI ((n:Int)-1)=((n-1:Nat):Int):=by rw[wQ,wi O O];omega
   have hbt:blen t<=32:=Yh O;have w2:wI (32-((blen t:Nat):Int))=((32-blen t:Nat):Int):=by rw[wQ,wi O O];omega
   have hsp:=Qz (lim B) (n-1) O;rw[qw,dt,show n-1+1=n by omega,qo O,zX,zL]at hsp
   have htk:=Xk (Q7 B) (k:=n-1) O;have hlow:=qdr hB;rw[<-hn]at hlow
   have ht0:t≠0:=by
    intro h0;rw[h0,zX,zL]at hsp;omega
   have hb1:1<=blen t:=by rw[Qq ht0];omega
   have hlz:g208 m (t:Int)=some (((32-blen t:Nat):Int),(),()):=by
    rw[g208,q5m ht,bS];dsimp only;rw[w2]
   generalize hs:32-blen t=s at*
   have hs32:s<=31:=O;have hpow:0<2^s:=zC1 O
   have htlo:2147483648<=t*2^s:=by
    have h3:=qdl ht0
    calc 2147483648=2^(blen t-1)*2^s:=by rw[<-Nat.pow_add,show blen t-1+s=31 by omega]
     _<=t*2^s:=zN _ h3
   have hthi:(t+1)*2^s<=4294967296:=by
    have:=Yw t
    calc (t+1)*2^s<=2^blen t*2^s:=zN _ O
     _=2^(blen t+s):=(zQ1 ..).symm
     _=4294967296:=by rw[show blen t+s=32 by omega]
   have hPn:4294967296^(n-1)*4294967296=4294967296^n:=by rw[<-Nat.pow_succ,show(n-1).succ=n by omega]
   have hsm:B*2^s<4294967296^n:=by
    have h5:B<4294967296^(n-1)*(t+1):=by rw[zC,zP1];omega
    calc B*2^s<4294967296^(n-1)*(t+1)*2^s:=zi2 h5 hpow
     _=4294967296^(n-1)*((t+1)*2^s):=zO ..
     _<=4294967296^(n-1)*4294967296:=zT _ hthi
     _=4294967296^n:=hPn
   have hBs:B<=B*2^s:=Nat.le_mul_of_pos_right _ hpow
   have hvl:(lim (B*2^s)).length=n:=by
    have a1:=Xi hsm;have a2:=Q5 hBs;omega
   obtain⟨v1,ev,hv1,dv⟩:=(Q7 (B*2^s)).get' (n-1);have hvs:=Qz (lim (B*2^s)) (n-1) O;rw[qw,dv,show n-1+1=n by omega,qo O,zX,zL]at hvs
   have hvt:=Xk (Q7 (B*2^s)) (k:=n-1) O
   have hv1lo:2147483648<=v1:=by
    have a1:4294967296^(n-1)*(t*2^s)<=B*2^s:=by
     rw[<-Nat.mul_assoc];exact zN _ O
    have a2:4294967296^(n-1)*(t*2^s)<4294967296^(n-1)*(v1+1):=by rw[zC _ v1,zP1];omega
    have:=zE2 a2;omega
   obtain⟨k,hk⟩: ∃k,k=L+1-n:=⟨_,rfl⟩;have hAl:=vl_lt (Q7 A);rw[qw,<-hL]at hAl;have h31:2^s<=2147483648:=zK (zq O hs32) (by decide)
   have hA31:A*2^s<4294967296^L*2147483648:=zA2 (zT _ h31) (zi2 hAl O)
   have hlenA:(lim (A*2^s)).length<=L+1:=by
    refine Xi (zN2 hA31 ?_);rw[zh];exact zT _ O
   have hA0:0<(lim (A*2^s)).length:=by
    refine zY3.2 λh=> ?_
    have h3:=q0v.1 h;rcases Nat.mul_eq_zero.1 h3 with h|h<;>omega
   obtain⟨R,hR⟩: ∃R,R=(lim (A*2^s)).take (List.replicate (L+1) (0:Int)).length++(List.replicate (L+1) (0:Int)).drop (lim (A*2^s)).length:=⟨_,rfl⟩
   have hR1:R=lim (A*2^s)++List.replicate (L+1-(lim (A*2^s)).length) (0:Int):=by
    rw[hR,zF1,zg1 hlenA,List.drop_replicate]
   have hRl:R.length=k+n:=by rw[hR1,zi,zF1];omega
   have hRL:Lm R:=by rw[hR1];exact qec (Q7 _) Qn
   have hRv:vl R=A*2^s:=by rw[hR1,Jr,Qv,zX,zL,qw]
   have hdrop:vl (R.drop k)<vl (lim (B*2^s)):=by
    rw[qw];have h3:=Qz R k O;rw[hRv]at h3
    have h4:4294967296^k*(B*2^s)>=4294967296^L*2147483648:=by
     have h5:4294967296^(n-1)*2147483648<=B*2^s:=by
      have:=zT (4294967296^(n-1)) hv1lo;omega
     have h6:=zT (4294967296^k) h5;rw[<-Nat.mul_assoc,<-Nat.pow_add,show k+(n-1)=L by omega]at h6
     exact h6
    refine zE2 (a:=4294967296^k) ?_;omega
   obtain⟨u',q',r1,r2,r3,r4,r5,r6,r7⟩:=qkl (m:=m) O (Q7 (B*2^s)) hvl h2 ev hv1lo (k:=k) (U:=A*2^s) O (s:Int) k m R (List.replicate k 0) O (zH _) hRL Qn hRl (by simp) (λp hp=>by simp[List.getD,hp]) hdrop (by rw[Qv,zX,zL];exact hRv)
   rw[qw]at r6 r7;have hV0:0<B*2^s:=O
   have hq:vl q'=A/B:=by
    have:vl q'=A*2^s/(B*2^s):=by
     rw[<-r7,zq1,Nat.mul_add_div hV0,zx1 r6,zL]
    rw[this,Nat.mul_div_mul_right _ _ hpow]
   have hr:vl u'=(A%B)*2^s:=by
    have:vl u'=A*2^s%(B*2^s):=by
     rw[<-r7,zq1,zu3,zu r6]
    rw[this,Nat.mul_mod_mul_right]
   have wL:wI ((L:Int)+1)=((L+1:Nat):Int):=wsucc O;have wk:wI (((k+n:Nat):Int)-(n:Int))=(k:Int):=by rw[wQ,wi O O];omega
   have wk1:wI ((k:Int)-1)=(k:Int)-1:=by rw[wQ,wi O O]
   have hup1:=up_eq (m:=m) O (Q7 B) O (n:=s) O;have hup2:=up_eq (m:=m) O (Q7 A) O (n:=s) O;rw[qw]at hup1 hup2;rw[g201,q06 O O hBl,bS,bQ];dsimp only;rw[iN' hc,<-hn,<-hL,bif_eq,iN' O,w1,iP O,tN,et,hlz,bS];dsimp only;rw[hup1,bS,wL,iP O,hup2,bS,tN];dsimp only;rw[iP ⟨hA0,by rw[zF1];omega⟩,<-hR,hRl,hvl,wk,iP O,tN,zF1,wk1,r1,bS]
   dsimp only
   have htn:vl (u'.take n)=vl u':=by
    have h3:=Qz u' n O;rw[Jf (l:=u') (k:=n) O O,zX,zL]at h3;exact h3.symm
   have hlu:(u'.take n).length=n:=by rw[zf];omega
   rw[iP O,tN,X3 (r2.take n) O O,bS,htn,hr];dsimp only
   rw[qki O (by
    have:=Qy (r2.take n);rw[htn,hr]at this;omega) O,bS,X3 r3 O O,bS,hq,ze3 _ hpow]
end Go.Vs.F
set_option maxRecDepth 100000
namespace Go.Vs.F
def qhc {m:Nat} (hm:5000000<=m) {A B:Nat} (hB:B≠0) (hA:(lim A).length<=400000) (hBl:(lim B).length<=400000):
 g181 m false (lim A) false (lim B)=some (((false,lim (A/B),()),(false,lim (A%B),()),0,()),(),(),()):=by
 have h1:(lim B).length≠0:=λh=>hB (q0v.1 (zb2 h))
 have l1:(lim (A/B)).length<=1000001:=zK (Q5 (zl1 ..)) O;have l2:(lim (A%B)).length<=1000001:=zK (Q5 (zh2 (zV1 _ O))) (by omega:(lim B).length<=1000001)
 have b1:=bigN (m:=m) O l1 false;have b2:=bigN (m:=m) O l2 false;rw[g181,X3 (Q7 B) O O,qw,bS,bif_eq,iN' (show¬(((lim B).length:Int)=0) by omega),X3 (Q7 A) O O,qw,bS]
 dsimp only;rw[qio hm hB hA O,bS];dsimp only;rw[cond_false,show(!(false==false))=false from rfl,b1,bS,b2,bS]
 rw[show(if(false=true)then-((A/B:Nat):Int)else((A/B:Nat):Int))=((A/B:Nat):Int)from iN' (by simp),show(if(false=true)then-((A%B:Nat):Int)else((A%B:Nat):Int))=((A%B:Nat):Int)from iN' (by simp),Y4,Y4]
def qh9 {v n j:Nat} (hn:1<=n) (more:Bool):halfC v (n+j) more=halfC (v/2^j) n (more||decide (v%2^j≠0)):=by
 have hJ:0<2^j:=zC1 O
 have e:v%2^(n+j)=2^j*(v/2^j%2^n)+v%2^j:=by
  rw[zq1 n j,zQ1,Nat.mod_mul,zq1]
 have hc:=zV1 v hJ;obtain⟨h,hh⟩: ∃h,2^n=2*h:=⟨2^(n-1),by rw[<-Nat.pow_succ',show(n-1).succ=n by omega]⟩
 have ep:2^(n+j)=2^j*(2*h):=by rw[zq1 n j,zQ1,hh]
 unfold halfC;rw[e,ep,hh];generalize v/2^j%(2*h)=a;generalize hcc:v%2^j=c at*;generalize 2^j=J at*;have k1:J*(2*h)=2*(J*h):=zW1 ..;have k2:2*(J*a+c)=2*(J*a)+2*c:=by rw[zC]
 rw[k1,k2];by_cases c1:a<h
 . have:J*(a+1)<=J*h:=zT _ c1;rw[zC,zP1]at this;rw[iP O,iP (show 2*a<2*h by omega)]
 . have h3:J*h<=J*a:=zT _ O;rw[iN' O,iN' (show¬(2*a<2*h) by omega)]
   by_cases c2:a=h
   . subst c2;by_cases c3:c=0
     . subst c3;cases more<;>simp
     . rw[iN' O,iN' (by simp[c3])]
   . have h4:J*(h+1)<=J*a:=zT _ O;rw[zC,zP1]at h4;rw[iN' O,iN' (show¬(2*a=2*h/\(more||decide (c≠0))=false)from λq=>by omega)]
def qjo {neg:Bool} {v n j:Nat} (hn:1<=n) (more:Bool) (mode:Int):cutN neg v (n+j) more mode=cutN neg (v/2^j) n (more||decide (v%2^j≠0)) mode:=by
 have hJ:0<2^j:=zC1 O
 have e:v%2^(n+j)=2^j*(v/2^j%2^n)+v%2^j:=by
  rw[zq1 n j,zQ1,Nat.mod_mul,zq1]
 have ed:v/2^(n+j)=v/2^j/2^n:=by rw[Nat.div_div_eq_div_mul,<-Nat.pow_add,zq1]
 unfold cutN;rw[qh9 hn,ed]
 have hiff:(v%2^(n+j)=0/\more=false)↔(v/2^j%2^n=0/\(more||decide (v%2^j≠0))=false):=by
  rw[e];constructor
  . rintro ⟨h1,h2⟩
    have h3:v%2^j=0:=O;have h4:2^j*(v/2^j%2^n)=0:=O;rcases Nat.mul_eq_zero.1 h4 with h|h
    . omega
    . exact⟨h,by simp[h2,h3]⟩
  . rintro ⟨h1,h2⟩
    simp only[zN3,decide_eq_false_iff_not,zj3]at h2;rw[h1,h2.2];exact⟨by simp,h2.1⟩
 by_cases c:v%2^(n+j)=0/\more=false
 . rw[iP c,iP (hiff.1 c)]
 . rw[iN' c,iN' (λh=>c (hiff.2 h))]
def q85 {X Y j:Nat} (hY:0<Y):X*2^j/Y/2^j=X/Y/\(X%Y=0↔(X*2^j%Y=0/\X*2^j/Y%2^j=0)):=by
 have hJ:0<2^j:=zC1 O;refine⟨by rw[Nat.div_div_eq_div_mul,Nat.mul_div_mul_right _ _ hJ],λh=> ?_,λ⟨h1,h2⟩=> ?_⟩
 . obtain⟨q,rfl⟩:=Nat.dvd_of_mod_eq_zero h;rw[zO,Nat.mul_mod_right,z02 _ hY,Nat.mul_mod_left];exact⟨rfl,rfl⟩
 . obtain⟨v,hv⟩:=Nat.dvd_of_mod_eq_zero h1;rw[hv,z02 _ hY]at h2;obtain⟨w,rfl⟩:=Nat.dvd_of_mod_eq_zero h2
   have:X=Y*w:=by
    refine Nat.eq_of_mul_eq_mul_right hJ ?_;rw[hv,zO,zW (2^j) w]
   rw[this,Nat.mul_mod_right]
def qpp {neg:Bool} {X Y n j:Nat} (hY:0<Y) (hn:1<=n) (mode:Int):
 cutN neg (X*2^j/Y) (n+j) (decide (X*2^j%Y≠0)) mode=cutN neg (X/Y) n (decide (X%Y≠0)) mode:=by
 obtain⟨h1,h2⟩:=q85 (X:=X) (j:=j) hY;rw[qjo hn,h1];congr 1;by_cases c:X%Y=0
 . obtain⟨a,b⟩:=h2.1 c;simp[a,b,c]
 . by_cases a:X*2^j%Y=0
   . have b:X*2^j/Y%2^j≠0:=λb=>c (h2.2 ⟨a,b⟩)
     simp[a,b,c]
   . simp[a,c]
end Go.Vs.F
set_option maxRecDepth 100000
namespace Go.Vs.F
def qra {m:Nat} (hm:2000000<m) {n1 n2:Bool} {l1 l2:LI} (h1:Sz l1) (h2:Sz l2):g213 m n1 l1 n2 l2=some (zB (zv n1 l1-zv n2 l2),(),(),()):=by
 rw[g213,qgc hm h1 h2,qkx,<-Int.sub_eq_add_neg];rfl
def qqo {m:Nat} (hm:3000000<m) (neg:Bool) {v:Nat} (hv:v≠0) (hb:blen v<=500000) (e:Int) (more:Bool) {k:Nat} (h0:0<k) (hk:k<=1000000):
 g211 m neg (zB (v:Int)).1 (zB (v:Int)).2.1 e more (k:Int)=some ((zB ((v/2^k:Nat):Int),halfC v k more,decide (v%2^k=0/\more=false),()),(),(),()):=by
 have hS:Sz (zB (v:Int)).2.1:=SzN O;have hvl:vl (zB (v:Int)).2.1=v:=by rw[Y4];exact qw v
 rw[g211,q1c O hS,bS,hvl,bQ];dsimp only;have hlt:=Yw v;by_cases c:(k:Int)>((blen v:Nat):Int)
 . have h1:2^(blen v)<=2^(k-1):=zq O O;have h2:2^k=2*2^(k-1):=by rw[show k=k-1+1 by omega,zh,zW];simp
   have hd:v/2^k=0:=zx1 O;have hmo:v%2^k=v:=zu O;rw[iP c,hd,q46 (by rw[hmo];omega),hmo]
   rw[show decide (v=0/\more=false)=false by rw[decide_eq_false_iff_not];exact λh=>hv h.1,show zB ((0:Nat):Int)=(false,[],()) by rw[Y4,Q8]]
 . have hP:0<2^k:=zC1 O;have hmod:=zV1 v hP;have hda:=zH3 v (2^k);have hle:blen (v/2^k)<=blen v:=q3d;have b1:blen (((v/2^k:Nat):Int)).natAbs<=900000:=by rw[zV];omega
   have e1:(v:Int)/2^k=((v/2^k:Nat):Int):=by rw[zR3,zY1];rfl
   have e2:((v/2^k:Nat):Int)*2^k=((v/2^k*2^k:Nat):Int):=by rw[zR1,zY1];rfl
   have b2:blen (v/2^k*2^k)<=1000000:=zK (Yd (zZ3 ..)) O
   have e3:(v:Int)-((v/2^k*2^k:Nat):Int)=((v%2^k:Nat):Int):=by
    rw[zW];omega
   have b3:blen (v%2^k)<=1000000:=zK (Yd (zJ4 ..)) O;have e4:(1:Int)*2^(k-1)=((2^(k-1):Nat):Int):=by rw[Int.one_mul,zY1];rfl
   have b4:blen (2^(k-1))<=1000000:=by rw[Xf];omega
   have w1:wI ((k:Int)-1)=((k-1:Nat):Int):=by rw[wQ,wi O O];omega
   have h2:2^k=2*2^(k-1):=by
    have:2^(k-1+1)=2*2^(k-1):=by rw[zh,zW]
    rwa [show k-1+1=k by omega]at this
   rw[iN' c,right_eq hm (by rw[zV];omega) O,bS,e1]
   dsimp only;rw[left_eq hm O O O,bS,tN,e2];dsimp only;rw[qra O hS (SzN b2),zv_zB,zv_zB,e3,bS,Jw O O O,bS];dsimp only;rw[w1,left_eq hm (by decide) O O,bS,tN,e4]
   dsimp only;rw[qko O (SzN b3) (SzN b4),zv_zB,zv_zB,bS,Zz O (SzN b3),zv_zB];dsimp only;simp only[bS];generalize hr:v%2^k=r at*;generalize 2^(k-1)=H at*;have hs:sgn (r:Int)=0↔r=0:=by rw[Qm];omega
   rw[bif_eq];unfold cmpZ halfC;rw[hr,h2];by_cases c1:(r:Int)<(H:Int)
   . rw[iP c1,iN' O,iP O,bif_eq];by_cases c2:r=0
     . rw[iP (hs.2 c2)];cases more<;>simp[c2]
     . rw[iN' (λh=>c2 (hs.1 h))]
       simp[c2]
   . by_cases c3:(H:Int)<(r:Int)
     . rw[iN' c1,iP c3,iN' O,iN' O,iN' O,bif_eq,iN' (λh=>by have:=hs.1 h;omega)]
       rw[show decide (r=0/\more=false)=false by rw[decide_eq_false_iff_not];omega]
     . have hpos:r≠0:=by
        have:0<2^k:=hP;omega
       rw[iN' c1,iN' c3,iP rfl,iN' O];cases more with
       |false=>
        rw[cond_false,bif_eq,iN' (λh=>hpos (hs.1 h)),iP ⟨O,rfl⟩]
        simp[hpos]
       |true=>
        rw[cond_true,bif_eq,iN' (λh=>hpos (hs.1 h)),iN' (λh=>by cases h.2)]
        simp
def q9r {m:Nat} (hm:3000000<m) (neg:Bool) {v:Nat} (hb:blen v<=300000) {e:Int} (more:Bool) {q:Int} (mode:Int) (h:q<=e) (he:e-q<=500000) (h1: -1000000000<=q) (h2:e<=1000000000):
 g205 m neg (zB (v:Int)).1 (zB (v:Int)).2.1 e more q mode=some (zB (sg neg (v*2^(e-q).toNat)),(),(),(),()):=by
 have w:wI (e-q)=e-q:=by rw[wQ,wi O O]
 have e1:(v:Int)*2^(e-q).toNat=((v*2^(e-q).toNat:Nat):Int):=by rw[zR1,zY1];rfl
 have b:blen (v*2^(e-q).toNat)<=1000000:=by
  have:=q7l (a:=(v:Int)) (k:=(e-q).toNat);rw[e1,zV,zV]at this;omega
 rw[g205,bQ,iP h,w,left_eq hm (by rw[zV];omega) O O,bS,e1]
 dsimp only;cases neg with
 |false=>rfl
 |true=>rw[cond_true,q89 O (SzN b),zv_zB,bS];rfl
def qd8 {m:Nat} (hm:3000000<m) (neg:Bool) {v:Nat} (hv:v≠0) (hb:blen v<=300000) {e:Int} (more:Bool) {q:Int} (mode:Int) (h:e<q) (he:q-e<=500000) (h1: -1000000000<=e) (h2:q<=1000000000):
 g205 m neg (zB (v:Int)).1 (zB (v:Int)).2.1 e more q mode=some (zB (sg neg (cutN neg v (q-e).toNat more mode)),(),(),(),()):=by
 obtain⟨k,hk⟩: ∃k:Nat,q-e=(k:Int):=⟨(q-e).toNat,O⟩;have w:wI (q-e)=(k:Int):=by rw[wQ,wi O O,hk]
 rw[g205,bQ,iN' O,w,qqo hm neg hv O e more O O,hk,tN,bS];dsimp only;have hd:v/2^k<=v:=zl1 ..;have bd:blen (v/2^k)<=300000:=zK q3d hb;have bd1:blen (v/2^k+1)<=300001:=q5c bd (by decide)
 have hS:=SzN (v:=v/2^k) O;have hS1:=SzN (v:=v/2^k+1) O;have h1S:Sz (zB 1).2.1:=SzB (by decide)
 have neg0:(g111 m (zB ((v/2^k:Nat):Int)).1 (zB ((v/2^k:Nat):Int)).2.1).bind (λy=>some ((y.1.1,y.1.2.1,()),((),(),(),())))=some (zB (-((v/2^k:Nat):Int)),(),(),(),()):=by
  rw[q89 O hS,zv_zB];rfl
 have add1:g141 m (zB ((v/2^k:Nat):Int)).1 (zB ((v/2^k:Nat):Int)).2.1 (zB 1).1 (zB 1).2.1=some (zB ((v/2^k+1:Nat):Int),(),(),()):=by
  rw[qgc O hS h1S,zv_zB,zv_zB];rfl
 have neg1:(g111 m (zB ((v/2^k+1:Nat):Int)).1 (zB ((v/2^k+1:Nat):Int)).2.1).bind (λy=>some ((y.1.1,y.1.2.1,()),((),(),(),())))=some (zB (-((v/2^k+1:Nat):Int)),(),(),(),()):=by
  rw[q89 O hS1,zv_zB];rfl
 have plain:(bif neg then(g111 m (zB ((v/2^k:Nat):Int)).1 (zB ((v/2^k:Nat):Int)).2.1).bind (λy=>some ((y.1.1,y.1.2.1,()),((),(),(),())))else some (((zB ((v/2^k:Nat):Int)).1,(zB ((v/2^k:Nat):Int)).2.1,()),((),(),(),())))=some (zB (sg neg (v/2^k)),(),(),(),()):=by
  rw[neg0];cases neg<;>rfl
 have away:((g109 m 1).bind λy5=>(g141 m (zB ((v/2^k:Nat):Int)).1 (zB ((v/2^k:Nat):Int)).2.1 y5.1.1 y5.1.2.1).bind λy6=>
  bif neg then(g111 m y6.1.1 y6.1.2.1).bind (λy=>some ((y.1.1,y.1.2.1,()),((),(),(),())))else some ((y6.1.1,y6.1.2.1,()),((),(),(),())))=some (zB (sg neg (v/2^k+1)),(),(),(),()):=by
  rw[Jw O O O,bS];dsimp only;rw[add1,bS];dsimp only;rw[neg1];cases neg<;>rfl
 unfold cutN;by_cases hex:v%2^k=0/\more=false
 . rw[decide_eq_true hex,cond_true,iP hex];exact plain
 . rw[decide_eq_false hex,cond_false,iN' hex,bif_eq,bif_eq,bif_eq];unfold upB;by_cases m1:mode=1
   . rw[iP m1,iP m1];cases neg with
     |true=>rw[cond_true,iP rfl];exact away
     |false=>rw[cond_false,iN' (by simp),zL];exact plain
   . rw[iN' m1,iN' m1];by_cases m2:mode=2
     . rw[iP m2,iP m2];cases neg with
       |true=>rw[zG1,cond_false,iN' (by simp),zL];exact plain
       |false=>rw[zf1,cond_true,iP rfl];exact away
     . rw[iN' m2,iN' m2];by_cases m3:mode=3
       . rw[iP m3,iP m3,iN' (by simp),zL];exact plain
       . rw[iN' m3,iN' m3,bQ,bif_eq];by_cases c1:halfC v k more>0
         . rw[iP c1,show decide (0<halfC v k more)=true by simpa using c1,zz3,iP rfl];exact away
         . rw[iN' c1,show decide (0<halfC v k more)=false by simpa using c1,Bool.false_or]
           by_cases c2:halfC v k more=0
           . rw[iP c2,decide_eq_true c2,zH2,Zz O hS,bS,zv_zB,bif_ne];dsimp only;by_cases z:v/2^k=0
             . rw[iP (by rw[Qm];omega),z]
               rw[z]at plain;exact plain
             . have hvl:vl (zB ((v/2^k:Nat):Int)).2.1=v/2^k:=by rw[Y4];exact qw _
               rw[iN' (by rw[Qm];omega),q0r O hS (by rw[hvl];exact z),bS,hvl,bif_eq]
               dsimp only;by_cases o:v/2^k%2=1
               . rw[iP (by rw[(q4m z).2 o];rfl),show(v/2^k%2==1)=true by simpa using o,iP rfl];exact away
               . rw[iN' (by have:=mt (q4m z).1 o;omega),show(v/2^k%2==1)=false by simpa using o,iN' (by simp),zL];exact plain
           . rw[iN' c2,decide_eq_false c2,zB2,iN' (by simp),zL];exact plain
def qq5 {m:Nat} (hm:4000000<=m) {a b B C:Int}:
 g157 m (mkD a B).1 (mkD a B).2.1 (mkD a B).2.2.1 (mkD a B).2.2.2.1 (mkD b C).1 (mkD b C).2.1 (mkD b C).2.2.1 (mkD b C).2.2.2.1=some (if OkD a B/\OkD b C then mkD (a*b) (B+C)else badD,(),(),()):=by
 rw[g157,qgh O,bS];dsimp only;by_cases h:OkD a B/\OkD b C
 . obtain⟨w,f,k,k1,k2,k3⟩:=Xe h.1;obtain⟨x,g,l,l1,l2,l3⟩:=Xe h.2;have hb1:=k.lo;have hb2:=k.hi;have hb3:=l.lo;have hb4:=l.hi;have n1:=k.len;have n2:=l.len;have hl:=k.lim;have hl2:=l.lim;have w1:wI (f+g)=f+g:=by rw[wQ,wi O O]
   rw[decide_eq_true h,zG1,cond_false,iP h,k1,k2,k3,l1,l2,l3,qo8 hm (Lm_zB w) (Lm_zB x) O,zv_zB,zv_zB,bS,w1];dsimp only;rw[q2f O (zK qau O) O O,(k.eq.mul l.eq).mk];rfl
 . rw[decide_eq_false h,iN' h];rfl
def qq6 {m:Nat} (hm:3000000<m) {a b B:Int}:
 g155 m (mkD a B).1 (mkD a B).2.1 (mkD a B).2.2.1 (mkD a B).2.2.2.1 (mkD b B).1 (mkD b B).2.1 (mkD b B).2.2.1 (mkD b B).2.2.2.1=some (if OkD a B/\OkD b B then(cmpZ a b,true,())else(0,false,()),(),(),()):=by
 rw[g155,qgh hm,bS];dsimp only;by_cases h:OkD a B/\OkD b B
 . obtain⟨w,f,k,k1,k2,k3⟩:=Xe h.1;obtain⟨x,g,l,l1,l2,l3⟩:=Xe h.2;have hb1:=k.lo;have hb3:=l.lo;have:=k.hi;rw[decide_eq_true h,zG1,cond_false,iP h,k1,k2,k3,l1,l2,l3,q7x hm k l,bS];dsimp only;have s1:=sc_bd k (b:=min f g) O O;have s2:=sc_bd l (b:=min f g) O O;have e:cmpZ (sc w f (min f g)) (sc x g (min f g))=cmpZ a b:=EqD.cmp ((EqD.sc O).trans k.eq) ((EqD.sc O).trans l.eq);rw[qko O (SzB O) (SzB O),zv_zB,zv_zB,bS,e]
 . rw[decide_eq_false h,iN' h];rfl
def qob {m:Nat} (hm:2000000<m) {a b:Int} (ha:blen a.natAbs<=300000) (hb:blen b.natAbs<=300000):g119 m (zB a).1 (zB a).2.1 (zB b).1 (zB b).2.1=some (cmpZ a b,(),(),()):=by
 have hs:blen (a-b).natAbs<=1000000:=by
  have:=q3p (a:=a) (b:= -b) ha (by rw[zm1];exact hb)
  rw[<-Int.sub_eq_add_neg]at this;omega
 rw[g119,qdy O (SzB O) (SzB O),zv_zB,zv_zB,bS];dsimp only;rw[Yx O (SzB hs),zv_zB,bS]
 have:sgn (a-b)=cmpZ a b:=by unfold sgn cmpZ;repeat' split
                             all_goals omega
 rw[this]
def qms {m:Nat} (hm:3000000<m) {a b B:Int}:
 g71 m (mkD a B).1 (mkD a B).2.1 (mkD a B).2.2.1 (mkD a B).2.2.2.1 (mkD b B).1 (mkD b B).2.1 (mkD b B).2.2.1 (mkD b B).2.2.2.1=some (if OkD a B/\OkD b B then(cmpZ a b,true,())else(0,false,()),(),(),()):=by
 rw[g71,X0 hm,bS,X0 hm,bS];dsimp only;by_cases h1:OkD a B
 . by_cases h2:OkD b B
   . obtain⟨w,f,k,k1,k2,k3⟩:=Xe h1;obtain⟨x,g,l,l1,l2,l3⟩:=Xe h2;obtain⟨p,q,c,e1,e2,e3,e4,e5,e6,e7⟩:=qbe hm k l (mkD a B).1 (mkD b B).1;have i1:(mkD a B).1=false:=h1;have i2:(mkD b B).1=false:=h2;rw[iP ⟨h1,h2⟩,k1,k2,k3,l1,l2,l3,e1,i1,i2,cond_false,cond_false,bS];dsimp only;rw[qob O e4 e5,bS,EqD.cmp e2 e3]
   . have i1:(mkD a B).1=false:=h1;rw[iN' (λh=>h2 h.2),i1,cond_false,q1d h2];rfl
 . rw[iN' (λh=>h1 h.1),q1d h1];rfl
def qmc {m:Nat} (hm:4000000<=m) {a b B C:Int}:
 g73 m (mkD a B).1 (mkD a B).2.1 (mkD a B).2.2.1 (mkD a B).2.2.2.1 (mkD b C).1 (mkD b C).2.1 (mkD b C).2.2.1 (mkD b C).2.2.2.1=some (if OkD a B/\OkD b C then mkD (a*b) (B+C)else badD,(),(),()):=by
 rw[g73,X0 O,bS,X0 O,bS];dsimp only;by_cases h1:OkD a B
 . by_cases h2:OkD b C
   . obtain⟨w,f,k,k1,k2,k3⟩:=Xe h1;obtain⟨x,g,l,l1,l2,l3⟩:=Xe h2;have hb1:=k.lo;have hb2:=k.hi;have hb3:=l.lo;have hb4:=l.hi;have n1:=k.len;have n2:=l.len;have hl:=k.lim;have hl2:=l.lim;have i1:(mkD a B).1=false:=h1;have i2:(mkD b C).1=false:=h2;have w1:wI (f+g)=f+g:=by rw[wQ,wi O O]
     rw[iP ⟨h1,h2⟩,k1,k2,k3,l1,l2,l3,i1,i2,cond_false,cond_false,qja hm (Lm_zB w) (Lm_zB x) O,zv_zB,zv_zB,bS,w1];dsimp only;rw[q2y O (zK qau O) O O,(k.eq.mul l.eq).mk];rfl
   . have i1:(mkD a B).1=false:=h1;rw[iN' (λh=>h2 h.2),i1,cond_false,q1d h2];rfl
 . rw[iN' (λh=>h1 h.1),q1d h1];rfl
end Go.Vs.F
set_option maxRecDepth 100000
namespace Go.Vs.F
def fixM (neg:Bool) (v:Nat) (e:Int) (more:Bool) (prec:Nat) (mode:Int):Bool×Bool×LI×Int×Unit:=
 mkD (sg neg (cutN neg v (blen v-prec) more mode)) (e+((blen v-prec:Nat):Int))
def kQ (X Y prec:Nat):Nat:=prec+2+blen Y-blen X
def quoM (neg:Bool) (X Y:Nat) (E:Int) (prec:Nat) (mode:Int):Bool×Bool×LI×Int×Unit:=
 fixM neg (X*2^kQ X Y prec/Y) (E-((kQ X Y prec:Nat):Int)) (decide (X*2^kQ X Y prec%Y≠0)) prec mode
def qor {v k:Nat} (h:2^k<=v):k+1<=blen v:=by
 refine zD2 λc=> ?_
 have h1:=Yw v;have h2:2^blen v<=2^k:=zq O O;omega
def qkh {X Y p k:Nat} (hX:X≠0) (hY:Y≠0) (h:p+1+blen Y<=blen X-1+k):p+2<=blen (X*2^k/Y):=by
 refine qor (k:=p+1) ?_;rw[zV2 O]
 calc 2^(p+1)*Y<=2^(p+1)*2^blen Y:=zT _ (zh2 (Yw Y))
  _=2^(p+1+blen Y):=(zQ1 ..).symm
  _<=2^(blen X-1+k):=zq O h
  _=2^(blen X-1)*2^k:=zQ1 ..
  _<=X*2^k:=zN _ (qdl hX)
def qqt {X Y p:Nat} (hX:X≠0) (hY:Y≠0):p+2<=blen (X*2^kQ X Y p/Y):=by
 refine qkh hX hY ?_;have:1<=blen X:=by rw[Qq hX];omega
 unfold kQ;omega
def qme {neg:Bool} {X Y p:Nat} (E:Int) (mode:Int) (hX:X≠0) (hY:Y≠0):
 fixM neg (X*2^(p+3+blen Y-blen X)/Y) (E-((p+3+blen Y-blen X:Nat):Int)) (decide (X*2^(p+3+blen Y-blen X)%Y≠0)) p mode=quoM neg X Y E p mode:=by
 have hb:=qqt (p:=p) hX hY;unfold quoM;by_cases c:p+3+blen Y<=blen X
 . have e:kQ X Y p=p+3+blen Y-blen X:=by unfold kQ;omega
   rw[e]
 . have e:p+3+blen Y-blen X=kQ X Y p+1:=by unfold kQ;omega
   rw[e];generalize kQ X Y p=k at*;have e1:X*2^(k+1)=X*2^k*2^1:=by rw[zh,zO,Nat.pow_one]
   have hY0:0<Y:=O;have hs:=(q85 (X:=X*2^k) (Y:=Y) (j:=1) hY0).1
   have hv0:X*2^k/Y≠0:=by
    intro h;rw[h,J7]at hb;omega
   have hbl:blen (X*2^k*2^1/Y)=1+blen (X*2^k/Y):=by
    have:=ze1 (X*2^k*2^1/Y) (2^1);rw[hs]at this;rw[<-this];exact Ju hv0 (zV1 _ (by decide))
   unfold fixM;rw[e1,hbl,show 1+blen (X*2^k/Y)-p=blen (X*2^k/Y)-p+1 by omega,qpp (X:=X*2^k) hY0 O mode]
   congr 1;omega
def qf2 {m:Nat} (hm:2000000<m) {neg:Bool} {l:LI} (h:Sz l):g187 m neg l=some (zB ((zv neg l).natAbs:Int),(),()):=by
 rw[g187,qce (by have:=h.2;omega),bS,qat hm h.1 (by have:=h.2;omega),Z9];rfl
def sg_zv {neg:Bool} {q:Nat}:zv neg (lim q)=sg neg q:=by unfold zv sg;rw[qw]
def qk9 {r:Nat}:(sgn (zv false (lim r)) !=0)=decide (r≠0):=by
 have:zv false (lim r)=(r:Int):=by unfold zv;rw[qw];rfl
 rw[this];unfold sgn;rw[iN' O];by_cases c:r=0
 . subst c;rfl
 . rw[iP O,decide_eq_true c];rfl
def SzL {q:Nat} (h:blen q<=1000000):Sz (lim q):=⟨Q7 q,by have:=X7 h;omega⟩
section
variable {m:Nat} (hm:5000000000<=m)
include hm
theorem qfu (neg:Bool) {v:Nat} (hv:v≠0) (hb:blen v<=290000) {e:Int} (h1: -800000<=e) (h2:e<=800000) (more:Bool) {p:Nat} (hp1:1<=p) (hp:p<=4096) (mode:Int) (hmore:more=true->p<blen v):
 g189 m neg false (lim v) e more (p:Int) mode=some (fixM neg v e more p mode,(),(),(),()):=by
 have hS:=SzL (q:=v) O;have w1:wI (e+((blen v:Nat):Int))=e+((blen v:Nat):Int):=by rw[wQ,wi O O]
 have w2:wI (e+((blen v:Nat):Int)-1)=e+((blen v:Nat):Int)-1:=by rw[wQ,wi O O]
 have w3:wI (e+((blen v:Nat):Int)-1+1)=e+((blen v:Nat):Int):=by rw[wQ,wi O O];omega
 have w4:wI (e+((blen v:Nat):Int)-(p:Int))=e+((blen v:Nat):Int)-(p:Int):=by rw[wQ,wi O O]
 have z1:zB (v:Int)=(false,lim v,()):=Y4 v;rw[g189,g204,q1c O hS,qw,bS,bS];dsimp only;rw[w1,w2,w3,w4];by_cases c:p<blen v
 . have hc:=qd8 (m:=m) O neg hv O (e:=e) more (q:=e+((blen v:Nat):Int)-(p:Int)) mode O O O O;rw[z1]at hc;dsimp only at hc;have e1:(e+((blen v:Nat):Int)-(p:Int)-e).toNat=blen v-p:=O;rw[e1]at hc
   have hq:blen (sg neg (cutN neg v (blen v-p) more mode)).natAbs<=900000:=by
    rw[q7z];have h3:=qjg (neg:=neg) (v:=v) (n:=blen v-p) (more:=more) (mode:=mode);have h4:v/2^(blen v-p)<=v:=zl1 ..;have:=Yd (show cutN neg v (blen v-p) more mode<=v+1 by omega)
    have:=q5c (a:=v) (b:=1) (k:=290000) hb (by decide)
    omega
   rw[hc,bS];dsimp only;rw[q2f O hq O O,bS];unfold fixM;rw[show e+((blen v:Nat):Int)-(p:Int)=e+((blen v-p:Nat):Int) by omega]
 . have hm0:more=false:=by
    cases more
    . rfl
    . exact absurd (hmore rfl) c
   subst hm0;have hc:=q9r (m:=m) O neg (v:=v) O (e:=e) false (q:=e+((blen v:Nat):Int)-(p:Int)) mode O O O O;rw[z1]at hc;dsimp only at hc;have e1:(e-(e+((blen v:Nat):Int)-(p:Int))).toNat=p-blen v:=O;rw[e1]at hc
   have hq:blen (sg neg (v*2^(p-blen v))).natAbs<=900000:=by
    rw[q7z,zW,Jg hv];omega
   have e2:sg neg (v*2^(p-blen v))=sg neg v*2^(p-blen v):=by
    have e3:((v*2^(p-blen v):Nat):Int)=(v:Int)*2^(p-blen v):=by rw[zR1,zY1];rfl
    unfold sg;cases neg
    . exact e3
    . show-((v*2^(p-blen v):Nat):Int)= -(v:Int)*2^(p-blen v)
      rw[e3,zh3]
   rw[hc,bS];dsimp only;rw[q2f O hq O O,bS];have hz:blen v-p=0:=O
   have e4:cutN neg v 0 false mode=v:=by
    unfold cutN;rw[iP ⟨by rw[za2,Nat.mod_one],rfl⟩,za2,Nat.div_one]
   unfold fixM;rw[hz,e4,e2]
   have hk:mkD (sg neg v*2^(p-blen v)) (e+((blen v:Nat):Int)-(p:Int))=mkD (sg neg v) (e+((0:Nat):Int)):=by
    have hE:EqD (sg neg v*2^(p-blen v)) (e+((blen v:Nat):Int)-(p:Int)) (sg neg v) (e+((0:Nat):Int)):=by
     refine⟨e+((blen v:Nat):Int)-(p:Int),O,O,?_⟩;unfold sc;rw[show(e+((blen v:Nat):Int)-(p:Int)-(e+((blen v:Nat):Int)-(p:Int))).toNat=0 by omega,Int.pow_zero,zq3,show(e+((0:Nat):Int)-(e+((blen v:Nat):Int)-(p:Int))).toNat=p-blen v by omega]
    exact hE.mk
   rw[hk]
theorem q4y (neg:Bool) {v:Nat} (hb:blen v<=290000) {e:Int} (h1: -800000<=e) (h2:e<=800000) (more:Bool) {p:Nat} (hp:p<=4096) (mode:Int):
 g122 m neg false (lim v) e more (p:Int) mode=some (fixM neg v e more p mode,(),(),(),(),(),(),()):=by
 have hS:=SzL (q:=v) O;have z1:zB (v:Int)=(false,lim v,()):=Y4 v;have w1:wI (((blen v:Nat):Int)-(p:Int))=((blen v:Nat):Int)-(p:Int):=by rw[wQ,wi O O]
 have e1:(if(0:Int)>((blen v:Nat):Int)-(p:Int)then 0 else((blen v:Nat):Int)-(p:Int))=((blen v-p:Nat):Int):=by split<;>omega
 have w2:wI (e+((blen v-p:Nat):Int))=e+((blen v-p:Nat):Int):=by rw[wQ,wi O O]
 have hc:=qpv (m:=m) O neg (v:=v) O more (k:=blen v-p) mode O;rw[z1]at hc;dsimp only at hc
 have hq:(lim (cutN neg v (blen v-p) more mode)).length<=28000:=by
  have h3:=qjg (neg:=neg) (v:=v) (n:=blen v-p) (more:=more) (mode:=mode);have h4:v/2^(blen v-p)<=v:=zl1 ..;have h5:=Yd (show cutN neg v (blen v-p) more mode<=v+1 by omega)
  have h6:=q5c (a:=v) (b:=1) (k:=290000) hb (by decide)
  have:=X7 (n:=cutN neg v (blen v-p) more mode) (k:=290001) O;omega
 rw[g122,q1q O hS,qw,bS];dsimp only;rw[w1,e1,w2,hc,bS,Y4];dsimp only;rw[qab O (Q7 _) hq O O,bS,sg_zv];rfl
end
end Go.Vs.F
set_option maxRecDepth 100000
namespace Go.Vs.F
abbrev D5:=Bool×Bool×LI×Int×Unit
inductive Cn:D5->Prop
 |bad:Cn badD
 |ok {w f:Int} (k:NF w f w f):Cn (mkD w f)
def NF.self {z e w f:Int} (k:NF z e w f):NF w f w f:=
 ⟨EqD.refl ..,by rw[k.eq.mk,k.md],k.zero,k.odd,k.lo,k.hi⟩
def Cn_mk (z e:Int):Cn (mkD z e):=by
 by_cases h:OkD z e
 . obtain⟨w,f,k⟩:=h.nf;rw[<-k.eq.mk];exact .ok k.self
 . rw[q1d h];exact .bad
def zD (a:D5):Int:=zv a.2.1 a.2.2.1
def eD (a:D5):Int:=a.2.2.2.1
def NF.mk_eq {w f:Int} (k:NF w f w f):mkD w f=(false,(zB w).1,(zB w).2.1,f,()):=k.md
def NF.z {w f:Int} (k:NF w f w f):zD (mkD w f)=w:=by rw[k.mk_eq];exact zv_zB w
def NF.e {w f:Int} (k:NF w f w f):eD (mkD w f)=f:=by rw[k.mk_eq];rfl
def NF.bad1 {w f:Int} (k:NF w f w f):(mkD w f).1=false:=by rw[k.mk_eq]
def Qx (a:D5) (p:Int) (mode:Int):D5:=
 if a.1=true\/p<1\/4096<p then badD else fixM (decide (zD a<0)) (zD a).natAbs (eD a) false p.toNat mode
def quoQ (a b:D5) (p:Int) (mode:Int):D5:=
 if a.1=true\/b.1=true\/p<1\/4096<p\/zD b=0 then badD
 else if zD a=0 then mkD 0 0
 else quoM (decide (zD a<0) !=decide (zD b<0)) (zD a).natAbs (zD b).natAbs (eD a-eD b) p.toNat mode
section
variable {m:Nat} (hm:5000000000<=m)
include hm
theorem qq7 {X Y:Nat} (hY:Y≠0) (hX:blen X<=400000) (hYb:blen Y<=400000):
 g181 m (zB (X:Int)).1 (zB (X:Int)).2.1 (zB (Y:Int)).1 (zB (Y:Int)).2.1=some (((false,lim (X/Y),()),(false,lim (X%Y),()),0,()),(),(),()):=by
 rw[Y4,Y4];have h1:=X7 hX;have h2:=X7 hYb;exact qhc O hY O O
theorem qmt {X Y:Nat} (hY:Y≠0) (hX:blen X<=400000) (hYb:blen Y<=400000):
 g196 m (zB (X:Int)).1 (zB (X:Int)).2.1 (zB (Y:Int)).1 (zB (Y:Int)).2.1=some (((false,lim (X/Y),()),(false,lim (X%Y),()),()),(),(),()):=by
 have h1:=X7 hX;have h2:=X7 hYb;have h:=q9t hm hY (x:=X) (y:=Y) O O;rw[Y4,Y4]at h;exact h
theorem q8z {p:Int}:g188 m p=some (decide (1<=p/\p<=4096),(),()):=by
 rw[g188,bQ];by_cases c:p>=1
 . rw[iP c];by_cases d:p<=4096
   . rw[decide_eq_true d,decide_eq_true ⟨c,d⟩]
   . rw[decide_eq_false d,decide_eq_false (λh=>d h.2)]
 . rw[iN' c,decide_eq_false (λh=>c h.1)]
theorem natAbs_pow {X k:Nat}:((X:Nat):Int)*2^k=((X*2^k:Nat):Int):=by rw[zR1,zY1];rfl
theorem qn6 {w f x g:Int} (k:NF w f w f) (l:NF x g x g) (hx:x≠0) {p:Nat} (hp:p<=4096):
 g190 m false (zB w).1 (zB w).2.1 f false (zB x).1 (zB x).2.1 g (p:Int)=
  some ((decide (w<0) !=decide (x<0),false,lim (w.natAbs*2^(p+3+blen x.natAbs-blen w.natAbs)/x.natAbs),f-((p+3+blen x.natAbs-blen w.natAbs:Nat):Int)-g,decide (w.natAbs*2^(p+3+blen x.natAbs-blen w.natAbs)%x.natAbs≠0),()),(),(),(),()):=by
 have hl1:=k.len;have hl2:=l.len;have b1:=k.lo;have b2:=k.hi;have b3:=l.lo;have b4:=l.hi;have hY:x.natAbs≠0:=O;have a1:vl (zB w).2.1=w.natAbs:=qw _;have a2:vl (zB x).2.1=x.natAbs:=qw _
 have w1:wI (wI (wI ((p:Int)+3)+((blen x.natAbs:Nat):Int))-((blen w.natAbs:Nat):Int))=(p:Int)+3+((blen x.natAbs:Nat):Int)-((blen w.natAbs:Nat):Int):=by
  simp only[wQ];rw[wi (n:=(p:Int)+3) O O,wi (n:=(p:Int)+3+_) O O,wi O O]
 rw[g190,q1c O l.Sz,a2,bS,q1c O k.Sz,a1,bS,qf2 O k.Sz,zv_zB,bS];dsimp only;rw[w1,show(if(p:Int)+3+((blen x.natAbs:Nat):Int)-((blen w.natAbs:Nat):Int)>0 then(p:Int)+3+((blen x.natAbs:Nat):Int)-((blen w.natAbs:Nat):Int)else 0)=((p+3+blen x.natAbs-blen w.natAbs:Nat):Int) by split<;>omega]
 have hk:p+3+blen x.natAbs-blen w.natAbs<=140000:=O;generalize hkk:p+3+blen x.natAbs-blen w.natAbs=j at*
 have hXb:blen (w.natAbs*2^j)<=280000:=by
  have:=q3f (a:=w.natAbs) (b:=2^j);rw[Xf]at this;omega
 have w2:wI (wI (f-(j:Int))-g)=f-(j:Int)-g:=by
  simp only[wQ];rw[wi (n:=f-(j:Int)) O O,wi O O]
 rw[left_eq O (by rw[zV];omega) O O,bS,tN,natAbs_pow hm]
 dsimp only;rw[qf2 O l.Sz,zv_zB,bS];dsimp only;rw[qq7 hm hY O O,bS];dsimp only;have hr:blen (w.natAbs*2^j%x.natAbs)<=280000:=zK (Yd (zJ4 ..)) hXb;rw[Zz O (SzL O),bS,qk9,w2];rfl
theorem qrc {w f x g:Int} (k:NF w f w f) (l:NF x g x g) {p mode:Int}:
 g159 m (mkD w f).1 (mkD w f).2.1 (mkD w f).2.2.1 (mkD w f).2.2.2.1 (mkD x g).1 (mkD x g).2.1 (mkD x g).2.2.1 (mkD x g).2.2.2.1 p mode=some (quoQ (mkD w f) (mkD x g) p mode,(),(),(),(),()):=by
 have hl1:=k.len;have hl2:=l.len;have b1:=k.lo;have b2:=k.hi;have b3:=l.lo;have b4:=l.hi;rw[g159,qgh O,bS,decide_eq_true ⟨k.ok,l.ok⟩];dsimp only;rw[zG1,cond_false,q8z hm,bS];dsimp only;unfold quoQ;rw[k.bad1,l.bad1,k.z,l.z,k.e,l.e];by_cases hp:1<=p/\p<=4096
 . rw[decide_eq_true hp,zG1,cond_false,k.mk_eq,l.mk_eq];dsimp only;rw[Zz O l.Sz,zv_zB,bS,bif_eq];dsimp only;by_cases hx:x=0
   . rw[iP (Qm.2 hx),iP (.inr (.inr (.inr (.inr hx))))];rfl
   . rw[iN' (λh=>hx (Qm.1 h)),iN' (by simp;omega),Zz O k.Sz,zv_zB,bS,bif_eq]
     dsimp only;by_cases hw:w=0
     . subst hw;rw[iP (Qm.2 rfl),iP rfl,k.zero rfl,q95];simp[zB,Q8]
     . obtain⟨q,rfl⟩: ∃q:Nat,p=(q:Int):=⟨p.toNat,O⟩;have hX:w.natAbs≠0:=O;have hY:x.natAbs≠0:=O;have hbx:1<=blen x.natAbs:=by rw[Qq hY];omega
       have hbw:1<=blen w.natAbs:=by rw[Qq hX];omega
       have hbig:=qkh (X:=w.natAbs) (Y:=x.natAbs) (p:=q) (k:=q+3+blen x.natAbs-blen w.natAbs) hX hY O
       have hXb:blen (w.natAbs*2^(q+3+blen x.natAbs-blen w.natAbs))<=280000:=by
        have:=q3f (a:=w.natAbs) (b:=2^(q+3+blen x.natAbs-blen w.natAbs));rw[Xf]at this;omega
       have hle:blen (w.natAbs*2^(q+3+blen x.natAbs-blen w.natAbs)/x.natAbs)<=280000:=zK (Yd (zl1 ..)) hXb
       have hv0:w.natAbs*2^(q+3+blen x.natAbs-blen w.natAbs)/x.natAbs≠0:=by
        intro h;rw[h,J7]at hbig;omega
       rw[iN' (λh=>hw (Qm.1 h)),iN' hw,qn6 hm k l hx O,bS]
       dsimp only;rw[qfu hm _ hv0 O O O _ O O mode (λ_=>O),bS,tN,<-qme (f-g) mode hX hY]
       have e:f-((q+3+blen x.natAbs-blen w.natAbs:Nat):Int)-g=f-g-((q+3+blen x.natAbs-blen w.natAbs:Nat):Int):=O;rw[e]
 . rw[decide_eq_false hp,zf1,cond_true,iP O];rfl
theorem qlo {X Y:Nat} (hY:Y≠0) (h1:blen X<=131072) (h2:blen Y<=131072) {p:Nat} (hp:p<=4096):
 g167 m (zB (X:Int)).1 (zB (X:Int)).2.1 (zB (Y:Int)).1 (zB (Y:Int)).2.1 (p:Int)=
  some (((false,lim (X*2^kQ X Y p/Y),()),-((kQ X Y p:Nat):Int),decide (X*2^kQ X Y p%Y≠0),()),(),(),(),()):=by
 have a1:vl (zB (X:Int)).2.1=X:=by rw[Y4];exact qw _
 have a2:vl (zB (Y:Int)).2.1=Y:=by rw[Y4];exact qw _
 have w1:wI (wI (wI ((p:Int)+2)+((blen Y:Nat):Int))-((blen X:Nat):Int))=(p:Int)+2+((blen Y:Nat):Int)-((blen X:Nat):Int):=by
  simp only[wQ];rw[wi (n:=(p:Int)+2) O O,wi (n:=(p:Int)+2+_) O O,wi O O]
 rw[g167,q1q O (SzN O),a2,bS,q1q O (SzN O),a1,bS];dsimp only;have hk:kQ X Y p<=140000:=by unfold kQ;omega
 rw[w1,show(if(0:Int)>(p:Int)+2+((blen Y:Nat):Int)-((blen X:Nat):Int)then 0 else(p:Int)+2+((blen Y:Nat):Int)-((blen X:Nat):Int))=((kQ X Y p:Nat):Int) by unfold kQ;split<;>omega]
 generalize kQ X Y p=j at*
 have hXb:blen (X*2^j)<=280000:=by
  have:=q3f (a:=X) (b:=2^j);rw[Xf]at this;omega
 have hr:blen (X*2^j%Y)<=280000:=zK (Yd (zJ4 ..)) hXb;have w2:wI (0-(j:Int))= -(j:Int):=by rw[wQ,wi O O];omega
 rw[q0p O (by rw[zV];omega) O O,bS,tN,natAbs_pow hm]
 dsimp only;rw[qmt hm hY O O,bS];dsimp only;rw[Yx O (SzL O),bS,qk9,w2]
theorem qpo {w f x g:Int} (k:NF w f w f) (l:NF x g x g) {p mode:Int}:
 g121 m (mkD w f).1 (mkD w f).2.1 (mkD w f).2.2.1 (mkD w f).2.2.2.1 (mkD x g).1 (mkD x g).2.1 (mkD x g).2.2.1 (mkD x g).2.2.2.1 p mode=some (quoQ (mkD w f) (mkD x g) p mode,(),(),(),(),()):=by
 have hl1:=k.len;have hl2:=l.len;have b1:=k.lo;have b2:=k.hi;have b3:=l.lo;have b4:=l.hi;rw[g121,X0 O,bS,X0 O,bS];unfold quoQ;rw[k.z,l.z,k.e,l.e,k.bad1,l.bad1,k.mk_eq,l.mk_eq];dsimp only;rw[cond_false,cond_false,bQ,bQ];by_cases hp1:p<1
 . rw[iP hp1,iP (.inr (.inr (.inl hp1)))];rfl
 by_cases hp2:p>4096
 . rw[iN' hp1,iP hp2,iP (.inr (.inr (.inr (.inl hp2))))];rfl
 rw[iN' hp1,iN' hp2,Yx O l.Sz,zv_zB,bS,bif_eq];dsimp only;by_cases hx:x=0
 . rw[iP (Qm.2 hx),iP (.inr (.inr (.inr (.inr hx))))];rfl
 . rw[iN' (λh=>hx (Qm.1 h)),iN' (by simp;omega),Yx O k.Sz,zv_zB,bS,bif_eq]
   dsimp only;by_cases hw:w=0
   . rw[iP (Qm.2 hw),iP hw];rfl
   . obtain⟨q,rfl⟩: ∃q:Nat,p=(q:Int):=⟨p.toNat,O⟩;have hX:w.natAbs≠0:=O;have hY:x.natAbs≠0:=O;have hbx:1<=blen x.natAbs:=by rw[Qq hY];omega
     have hbw:1<=blen w.natAbs:=by rw[Qq hX];omega
     have hkb:kQ w.natAbs x.natAbs q<=140000:=by unfold kQ;omega
     have hXb:blen (w.natAbs*2^kQ w.natAbs x.natAbs q)<=280000:=by
      have:=q3f (a:=w.natAbs) (b:=2^kQ w.natAbs x.natAbs q);rw[Xf]at this;unfold kQ at*;omega
     have hle:blen (w.natAbs*2^kQ w.natAbs x.natAbs q/x.natAbs)<=280000:=zK (Yd (zl1 ..)) hXb
     have w1:wI (wI (f-g)+ -((kQ w.natAbs x.natAbs q:Nat):Int))=f-g-((kQ w.natAbs x.natAbs q:Nat):Int):=by
      simp only[wQ];rw[wi (n:=f-g) O O,wi O O];omega
     rw[iN' (λh=>hw (Qm.1 h)),iN' hw,q4f O k.Sz,zv_zB,bS,q4f O l.Sz,zv_zB,bS]
     dsimp only;rw[qlo hm hY hl1 hl2 O,bS];dsimp only;rw[w1,q4y hm _ O O O _ O mode,bS,tN];rfl
theorem qip {w f:Int} (k:NF w f w f) {p mode:Int}:
 g160 m (mkD w f).1 (mkD w f).2.1 (mkD w f).2.2.1 (mkD w f).2.2.2.1 p mode=some (Qx (mkD w f) p mode,(),(),(),()):=by
 have hl1:=k.len;have b1:=k.lo;have b2:=k.hi;rw[g160,q0x O,bS,decide_eq_true k.ok];dsimp only;rw[zG1,cond_false,q8z hm,bS];dsimp only;unfold Qx;rw[k.bad1,k.z,k.e];by_cases hp:1<=p/\p<=4096
 . obtain⟨q,rfl⟩: ∃q:Nat,p=(q:Int):=⟨p.toNat,O⟩;rw[decide_eq_true hp,zG1,cond_false,k.mk_eq,iN' (by simp;omega)]
   dsimp only;rw[Zz O k.Sz,zv_zB,bS,bif_eq];dsimp only;by_cases hw:w=0
   . subst hw
     have hc:cutN false 0 (blen 0-q) false mode=0:=by
      unfold cutN;rw[iP ⟨Nat.zero_mod _,rfl⟩,zB4]
     rw[iP (Qm.2 rfl),k.zero rfl];unfold fixM;rw[Int.natAbs_zero,show decide ((0:Int)<0)=false by decide,tN,hc,show sg false 0=0 from rfl,q95]
     simp[zB,Q8]
   . rw[iN' (λh=>hw (Qm.1 h)),g191,qf2 O k.Sz,zv_zB,bS,Y4,bS]
     dsimp only;rw[qfu hm _ O O O O false O O mode (λh=>by cases h),bS,tN]
     rfl
 . rw[decide_eq_false hp,zf1,cond_true,iP O];rfl
theorem qh4 {w f:Int} (k:NF w f w f) {p mode:Int}:
 g75 m (mkD w f).1 (mkD w f).2.1 (mkD w f).2.2.1 (mkD w f).2.2.2.1 p mode=some (Qx (mkD w f) p mode,(),(),(),()):=by
 have hl1:=k.len;have b1:=k.lo;have b2:=k.hi;rw[g75,X0 O,bS];unfold Qx;rw[k.z,k.e,k.bad1,k.mk_eq];dsimp only;rw[cond_false,bQ,bQ];by_cases hp1:p<1
 . rw[iP hp1,iP (.inr (.inl hp1))];rfl
 by_cases hp2:p>4096
 . rw[iN' hp1,iP hp2,iP (.inr (.inr hp2))];rfl
 obtain⟨q,rfl⟩: ∃q:Nat,p=(q:Int):=⟨p.toNat,O⟩;rw[iN' hp1,iN' hp2,iN' (by simp;omega),q4f O k.Sz,zv_zB,bS,Y4]
 dsimp only;rw[q4y hm _ O O O _ O mode,bS,tN];rfl
end
end Go.Vs.F
set_option maxRecDepth 100000
namespace Go.Vs.F
def rv (a:D5):Rat:=(zD a:Rat)*2^(eD a)
def Gd (a:D5):Prop:= ∃w f,NF w f w f/\a=mkD w f
def qrb:(2:Rat)≠0:=by decide
def q8n (e:Int):(0:Rat)<2^e:=Rat.zpow_pos (by decide)
def qct (a b:Int):(2:Rat)^(a+b)=2^a*2^b:=Rat.zpow_add qrb a b
def qjv (n:Nat):(2:Rat)^((n:Nat):Int)=((2^n:Nat):Rat):=by
 rw[Rat.zpow_natCast,Rat.natCast_pow];rfl
def q86 {z e b:Int} (h:b<=e):((sc z e b:Int):Rat)*2^b=z*2^e:=by
 unfold sc;rw[zu1,Rat.intCast_pow,Rat.mul_assoc,<-Rat.zpow_natCast];show(z:Rat)*((2:Rat)^(((e-b).toNat:Nat):Int)*2^b)=_;rw[<-qct,show(((e-b).toNat:Nat):Int)+b=e by omega]
def EqD.rat {z e w f:Int}:EqD z e w f->(z:Rat)*2^e=w*2^f
 |⟨b,h1,h2,h3⟩=>by rw[<-q86 h1,<-q86 h2,h3]
def rv_nf {w f:Int} (k:NF w f w f):rv (mkD w f)=(w:Rat)*2^f:=by unfold rv;rw[k.z,k.e]
def rv_mk {z e:Int} (h:OkD z e):rv (mkD z e)=(z:Rat)*2^e:=by
 obtain⟨w,f,k⟩:=h.nf;rw[<-k.eq.mk,rv_nf k.self,k.eq.rat]
def Gd_mk {z e:Int} (h:OkD z e):Gd (mkD z e):=by
 obtain⟨w,f,k⟩:=h.nf;exact⟨w,f,k.self,k.eq.mk.symm⟩
def Gd.ok {a:D5}:Gd a->a.1=false
 |⟨w,f,k,e⟩=>by rw[e,k.bad1]
def Gd.cn {a:D5}:Gd a->Cn a
 |⟨w,f,k,e⟩=>by rw[e];exact .ok k
def Cn.gd {a:D5} (h:Cn a) (h1:a.1=false):Gd a:=by
 cases h with
 |bad=>cases h1
 |ok k=>exact⟨_,_,k,rfl⟩
def rv_lt {z x B:Int}:(z:Rat)*2^B<(x:Rat)*2^B↔z<x:=by
 rw[Rat.mul_lt_mul_right (q8n B),zE3]
def mulQ (a b:D5):D5:=if a.1=true\/b.1=true then badD else mkD (zD a*zD b) (eD a+eD b)
def subQ (a b:D5):D5:=if a.1=true\/b.1=true then badD else mkD (sc (zD a) (eD a) (min (eD a) (eD b))-sc (zD b) (eD b) (min (eD a) (eD b))) (min (eD a) (eD b))
def absQ (a:D5):D5:=if a.1=true then badD else mkD ((zD a).natAbs:Int) (eD a)
def qei {w f x g:Int} (k:NF w f w f) (l:NF x g x g):mulQ (mkD w f) (mkD x g)=mkD (w*x) (f+g):=by
 unfold mulQ;rw[k.z,l.z,k.e,l.e,k.bad1,l.bad1,iN' (by simp)]
def qe9 {w f x g:Int} (k:NF w f w f) (l:NF x g x g):subQ (mkD w f) (mkD x g)=mkD (sc w f (min f g)-sc x g (min f g)) (min f g):=by
 unfold subQ;rw[k.z,l.z,k.e,l.e,k.bad1,l.bad1,iN' (by simp)]
def qac {w f:Int} (k:NF w f w f):absQ (mkD w f)=mkD (w.natAbs:Int) f:=by
 unfold absQ;rw[k.z,k.e,k.bad1,iN' (by simp)]
def Zg (a b:D5):Cn (mulQ a b):=by unfold mulQ;split;exact .bad;exact Cn_mk ..
def q0w (a b:D5):Cn (subQ a b):=by unfold subQ;split;exact .bad;exact Cn_mk ..
def qla (neg:Bool) (v:Nat) (e:Int) (more:Bool) (p:Nat) (mode:Int):Cn (fixM neg v e more p mode):=Cn_mk ..
def Ze (a:D5) (p mode:Int):Cn (Qx a p mode):=by unfold Qx;split;exact .bad;exact qla ..
def Qs (a b:D5) (p mode:Int):Cn (quoQ a b p mode):=by
 unfold quoQ;split
 . exact .bad
 . split
   . exact Cn_mk ..
   . exact qla ..
def NF.nabs {w f:Int} (k:NF w f w f):NF (w.natAbs:Int) f (w.natAbs:Int) f:=by
 have hO:OkD (w.natAbs:Int) f:=by
  have:=k.ok;rw[Ym]at this⊢;rw[zV];omega
 have hz:(w.natAbs:Int)=0↔w=0:=O;refine⟨EqD.refl ..,?_,λh=>k.zero (hz.1 h),λh=>by rw[zV];exact k.odd (λe=>h (hz.2 e)),k.lo,by rw[zV];exact k.hi⟩
 have hm:=k.md;unfold mkD at hm⊢;by_cases h0:w=0
 . subst h0;rw[k.zero rfl];simp[Q8]
 . rw[iN' h0]at hm;rw[iN' (λh=>h0 (hz.1 h)),zV]
   split at hm
   . cases hm
   . rename_i hc;rw[iN' hc];have h3:Vs.F.lim (w.natAbs/2^tz w.natAbs)=Vs.F.lim w.natAbs:=congrArg (λx:D5=>x.2.2.1) hm
     have h4:f+(tz w.natAbs:Int)=f:=congrArg (λx:D5=>x.2.2.2.1) hm
     rw[h3,h4]
def q96 {a:D5}:Gd a->Gd (absQ a)
 |⟨w,f,k,e⟩=>by rw[e,qac k];exact⟨_,_,k.nabs,rfl⟩
def qp2 {a:D5} (h:Gd a):rv (absQ a)=if rv a<0 then-rv a else rv a:=by
 obtain⟨w,f,k,rfl⟩:=h;rw[qac k,rv_nf k.nabs,rv_nf k]
 have h0:(w:Rat)*2^f<0↔w<0:=by
  have:=rv_lt (z:=w) (x:=0) (B:=f);rw[show((0:Int):Rat)=0 from rfl,zw2]at this
  exact this
 by_cases c:w<0
 . rw[iP (h0.2 c),show((w.natAbs:Nat):Int)= -w by omega,Rat.intCast_neg,Rat.neg_mul]
 . rw[iN' (λh=>c (h0.1 h)),show((w.natAbs:Nat):Int)=w by omega]
def q93 {a b:D5} (ha:Gd a) (hb:Gd b) (h:(mulQ a b).1=false):rv (mulQ a b)=rv a*rv b:=by
 obtain⟨w,f,k,rfl⟩:=ha;obtain⟨x,g,l,rfl⟩:=hb;rw[qei k l]at h⊢;rw[rv_mk h,rv_nf k,rv_nf l,qct,zu1]
 grind
def qjm {a b:D5} (ha:Gd a) (hb:Gd b) (h:(subQ a b).1=false):rv (subQ a b)=rv a-rv b:=by
 obtain⟨w,f,k,rfl⟩:=ha;obtain⟨x,g,l,rfl⟩:=hb;rw[qe9 k l]at h⊢;rw[rv_mk h,rv_nf k,rv_nf l,zx3,Rat.sub_eq_add_neg,Rat.add_mul,Rat.neg_mul,<-Rat.sub_eq_add_neg,q86 O,q86 O]
def qgb {w f x g:Int} (k:NF w f w f) (l:NF x g x g):decide (cmpZ (sc w f (min f g)) (sc x g (min f g))<0)=decide (rv (mkD w f)<rv (mkD x g)):=by
 rw[rv_nf k,rv_nf l,<-q86 (z:=w) (e:=f) (b:=min f g) O,<-q86 (z:=x) (e:=g) (b:=min f g) O];apply decide_eq_decide.2;rw[rv_lt];unfold cmpZ
 repeat' split
 all_goals omega
def qnz {w f:Int} (k:NF w f w f):sgn w=sgq (rv (mkD w f)):=by
 rw[rv_nf k];have h1:=rv_lt (z:=w) (x:=0) (B:=f);have h2:=rv_lt (z:=0) (x:=w) (B:=f);rw[show((0:Int):Rat)=0 from rfl,zw2]at h1 h2
 unfold sgn sgq;by_cases c:w<0
 . rw[iP c,iP (h1.2 c)]
 . rw[iN' c,iN' (λh=>c (h1.1 h))]
   by_cases d:0<w
   . rw[iP d,iN' (λh=>by have:=h2.2 d;rw[h]at this;exact absurd this (by decide))]
   . rw[iN' d,iP];have:w=0:=O;rw[this];exact zw2 _
section
variable {m:Nat} (hm:5000000000<=m)
include hm
theorem pMul {a b:D5} (ha:Gd a) (hb:Gd b):g157 m a.1 a.2.1 a.2.2.1 a.2.2.2.1 b.1 b.2.1 b.2.2.1 b.2.2.2.1=some (mulQ a b,(),(),()):=by
 obtain⟨w,f,k,rfl⟩:=ha;obtain⟨x,g,l,rfl⟩:=hb;rw[qq5 O,iP ⟨k.ok,l.ok⟩,qei k l]
theorem rMul {a b:D5} (ha:Gd a) (hb:Gd b):g73 m a.1 a.2.1 a.2.2.1 a.2.2.2.1 b.1 b.2.1 b.2.2.1 b.2.2.2.1=some (mulQ a b,(),(),()):=by
 obtain⟨w,f,k,rfl⟩:=ha;obtain⟨x,g,l,rfl⟩:=hb;rw[qmc O,iP ⟨k.ok,l.ok⟩,qei k l]
theorem pSub {a b:D5} (ha:Gd a) (hb:Gd b):g66 m a.1 a.2.1 a.2.2.1 a.2.2.2.1 b.1 b.2.1 b.2.2.1 b.2.2.2.1=some (subQ a b,(),(),()):=by
 obtain⟨w,f,k,rfl⟩:=ha;obtain⟨x,g,l,rfl⟩:=hb;have e1:=q0s (z:=w) (e:=f) (b:=min f g) O;have e2:=q0s (z:=x) (e:=g) (b:=min f g) O;have h1:OkD (sc w f (min f g)) (min f g):=by unfold OkD;rw[e1];exact k.ok
 have h2:OkD (sc x g (min f g)) (min f g):=by unfold OkD;rw[e2];exact l.ok
 have h:=qiv (m:=m) O (a:=sc w f (min f g)) (b:=sc x g (min f g)) (B:=min f g);rw[e1,e2,iP ⟨h1,h2⟩]at h;rw[h,qe9 k l]
theorem rSub {a b:D5} (ha:Gd a) (hb:Gd b):g67 m a.1 a.2.1 a.2.2.1 a.2.2.2.1 b.1 b.2.1 b.2.2.1 b.2.2.2.1=some (subQ a b,(),(),()):=by
 obtain⟨w,f,k,rfl⟩:=ha;obtain⟨x,g,l,rfl⟩:=hb;have e1:=q0s (z:=w) (e:=f) (b:=min f g) O;have e2:=q0s (z:=x) (e:=g) (b:=min f g) O;have h1:OkD (sc w f (min f g)) (min f g):=by unfold OkD;rw[e1];exact k.ok
 have h2:OkD (sc x g (min f g)) (min f g):=by unfold OkD;rw[e2];exact l.ok
 have h:=qgi (m:=m) O (a:=sc w f (min f g)) (b:=sc x g (min f g)) (B:=min f g);rw[e1,e2,iP ⟨h1,h2⟩]at h;rw[h,qe9 k l]
theorem pLess {a b:D5} (ha:Gd a) (hb:Gd b):g104 m a.1 a.2.1 a.2.2.1 a.2.2.2.1 b.1 b.2.1 b.2.2.1 b.2.2.2.1=some (decide (rv a<rv b),(),(),()):=by
 obtain⟨w,f,k,rfl⟩:=ha;obtain⟨x,g,l,rfl⟩:=hb;have e1:=q0s (z:=w) (e:=f) (b:=min f g) O;have e2:=q0s (z:=x) (e:=g) (b:=min f g) O;have h1:OkD (sc w f (min f g)) (min f g):=by unfold OkD;rw[e1];exact k.ok
 have h2:OkD (sc x g (min f g)) (min f g):=by unfold OkD;rw[e2];exact l.ok
 have h:=qq6 (m:=m) O (a:=sc w f (min f g)) (b:=sc x g (min f g)) (B:=min f g);rw[e1,e2,iP ⟨h1,h2⟩]at h;rw[g104,h,bS];dsimp only;rw[qgb k l]
theorem rLess {a b:D5} (ha:Gd a) (hb:Gd b):g40 m a.1 a.2.1 a.2.2.1 a.2.2.2.1 b.1 b.2.1 b.2.2.1 b.2.2.2.1=some (decide (rv a<rv b),(),(),()):=by
 obtain⟨w,f,k,rfl⟩:=ha;obtain⟨x,g,l,rfl⟩:=hb;have e1:=q0s (z:=w) (e:=f) (b:=min f g) O;have e2:=q0s (z:=x) (e:=g) (b:=min f g) O;have h1:OkD (sc w f (min f g)) (min f g):=by unfold OkD;rw[e1];exact k.ok
 have h2:OkD (sc x g (min f g)) (min f g):=by unfold OkD;rw[e2];exact l.ok
 have h:=qms (m:=m) O (a:=sc w f (min f g)) (b:=sc x g (min f g)) (B:=min f g);rw[e1,e2,iP ⟨h1,h2⟩]at h;rw[g40,h,bS];dsimp only;rw[qgb k l]
theorem pSgn {a:D5} (ha:Gd a):g92 m a.1 a.2.1 a.2.2.1 a.2.2.2.1=some (sgq (rv a),(),()):=by
 obtain⟨w,f,k,rfl⟩:=ha;rw[qfj O k.ok,qnz k]
theorem rSgn {a:D5} (ha:Gd a):g38 m a.1 a.2.1 a.2.2.1 a.2.2.2.1=some (sgq (rv a),(),()):=by
 obtain⟨w,f,k,rfl⟩:=ha;rw[g38,X0 O,bS,k.bad1,cond_false,qco O k.ok,qnz k];rfl
theorem pAbs {a:D5} (ha:Gd a):g156 m a.1 a.2.1 a.2.2.1 a.2.2.2.1=some (absQ a,(),()):=by
 obtain⟨w,f,k,rfl⟩:=ha;rw[g156,q0x O,bS,decide_eq_true k.ok];dsimp only;rw[cond_true,qac k,k.nabs.mk_eq,k.mk_eq];dsimp only;rw[qf2 O k.Sz,zv_zB,bS]
theorem rAbs {a:D5} (ha:Gd a):g70 m a.1 a.2.1 a.2.2.1 a.2.2.2.1=some (absQ a,(),()):=by
 obtain⟨w,f,k,rfl⟩:=ha;rw[g70,X0 O,bS,qac k,k.mk_eq];dsimp only;rw[cond_false,q4f O k.Sz,zv_zB,bS];dsimp only;rw[qm7 O k.nabs,bS]
theorem q8y {a:D5} (ha:Cn a):g158 m a.1 a.2.1 a.2.2.1 a.2.2.2.1=some (!a.1,(),()):=by
 cases ha with
 |bad=>rfl
 |ok k=>rw[g158,q0x O,bS,decide_eq_true k.ok,k.bad1];rfl
theorem qi8 {a:D5} (ha:Cn a):g76 m a.1 a.2.1 a.2.2.1 a.2.2.2.1=some (!a.1,(),()):=by
 cases ha with
 |bad=>rfl
 |ok k=>rw[g76,X0 O,bS]
theorem pQuo {a b:D5} (ha:Gd a) (hb:Gd b) (p mode:Int):g159 m a.1 a.2.1 a.2.2.1 a.2.2.2.1 b.1 b.2.1 b.2.2.1 b.2.2.2.1 p mode=some (quoQ a b p mode,(),(),(),(),()):=by
 obtain⟨w,f,k,rfl⟩:=ha;obtain⟨x,g,l,rfl⟩:=hb;exact qrc hm k l
theorem rQuo {a b:D5} (ha:Gd a) (hb:Gd b) (p mode:Int):g121 m a.1 a.2.1 a.2.2.1 a.2.2.2.1 b.1 b.2.1 b.2.2.1 b.2.2.2.1 p mode=some (quoQ a b p mode,(),(),(),(),()):=by
 obtain⟨w,f,k,rfl⟩:=ha;obtain⟨x,g,l,rfl⟩:=hb;exact qpo hm k l
theorem qnm {a:D5} (ha:Cn a) (p mode:Int):g160 m a.1 a.2.1 a.2.2.1 a.2.2.2.1 p mode=some (Qx a p mode,(),(),(),()):=by
 cases ha with
 |bad=>unfold Qx;rw[iP (.inl rfl)];rfl
 |ok k=>exact qip hm k
theorem qnx {a:D5} (ha:Cn a) (p mode:Int):g75 m a.1 a.2.1 a.2.2.1 a.2.2.2.1 p mode=some (Qx a p mode,(),(),(),()):=by
 cases ha with
 |bad=>unfold Qx;rw[iP (.inl rfl)];rfl
 |ok k=>exact qh4 hm k
end
def sgr (neg:Bool):Rat:=if neg then-1 else 1
def qnq (neg:Bool) (q:Nat):((sg neg q:Int):Rat)=sgr neg*(q:Rat):=by
 unfold sg sgr;cases neg
 . show((q:Int):Rat)=1*(q:Rat);rw[Rat.one_mul];rfl
 . show((-(q:Int):Int):Rat)= -1*(q:Rat)
   rw[Rat.intCast_neg,Rat.neg_mul,Rat.one_mul];rfl
def qif {neg:Bool} {v n:Nat} {more:Bool} {mode:Int} (hu: ∀h o,upB neg h o mode=true) {t:Rat} (h1:t<((v+1:Nat):Rat)) (h2:more=false->t=((v:Nat):Rat)):
 t<=((cutN neg v n more mode:Nat):Rat)*((2^n:Nat):Rat):=by
 have hd:=ze1 v (2^n);have hlt:=zV1 v (zC1 (n:=n) (show 0<2 by omega))
 rw[<-Rat.natCast_mul];unfold cutN;by_cases c:v%2^n=0/\more=false
 . rw[iP c,h2 c.2,show v/2^n*2^n=v by rw[zW];omega]
   exact zQ3
 . rw[iN' c,hu,iP rfl];refine zW3 (Std.lt_of_lt_of_le h1 ?_);rw[Rat.natCast_le_natCast,zI1,zT2,zW];omega
def ql0 {neg:Bool} {v n:Nat} {more:Bool} {mode:Int} (hu: ∀h o,upB neg h o mode=false) {t:Rat} (h1:((v:Nat):Rat)<=t):
 ((cutN neg v n more mode:Nat):Rat)*((2^n:Nat):Rat)<=t:=by
 refine zr1 ?_ h1;rw[<-Rat.natCast_mul,Rat.natCast_le_natCast];have hd:=ze1 v (2^n)
 have e:cutN neg v n more mode=v/2^n:=by
  unfold cutN;split
  . rfl
  . rw[hu];simp
 rw[e,zW];omega
structure Tru (v:Nat) (more:Bool) (t:Rat):Prop where
 lo:((v:Nat):Rat)<=t
 hi:t<((v+1:Nat):Rat)
 ex:more=false->t=((v:Nat):Rat)
def qkk {neg:Bool} {v:Nat} {e:Int} {more:Bool} {p:Nat} {mode:Int} (h:(fixM neg v e more p mode).1=false):
 rv (fixM neg v e more p mode)=sgr neg*(((cutN neg v (blen v-p) more mode:Nat):Rat)*((2^(blen v-p):Nat):Rat))*2^e:=by
 unfold fixM at*;rw[rv_mk h,qnq,qct,qjv]
 grind
def up1 {neg:Bool} (h:Int) (o:Bool):upB neg h o 1=neg:=by unfold upB;rw[iP rfl]
def up2' {neg:Bool} (h:Int) (o:Bool):upB neg h o 2= !neg:=by unfold upB;rw[iN' (by decide),iP rfl]
def qiy {neg:Bool} {v:Nat} {e:Int} {more:Bool} {p:Nat} {t:Rat} (ht:Tru v more t) (h:(fixM neg v e more p 1).1=false):rv (fixM neg v e more p 1)<=sgr neg*t*2^e:=by
 rw[qkk h];refine zW2 ?_ (zW3 (q8n e));cases neg
 . have:=ql0 (neg:=false) (v:=v) (n:=blen v-p) (more:=more) (mode:=1) (λh o=>up1 h o) ht.lo
   show(1:Rat)*_<=1*t
   grind
 . have:=qif (neg:=true) (v:=v) (n:=blen v-p) (more:=more) (mode:=1) (λh o=>up1 h o) ht.hi ht.ex
   show(-1:Rat)*_<= -1*t
   grind
def qjc {neg:Bool} {v:Nat} {e:Int} {more:Bool} {p:Nat} {t:Rat} (ht:Tru v more t) (h:(fixM neg v e more p 2).1=false):sgr neg*t*2^e<=rv (fixM neg v e more p 2):=by
 rw[qkk h];refine zW2 ?_ (zW3 (q8n e));cases neg
 . have:=qif (neg:=false) (v:=v) (n:=blen v-p) (more:=more) (mode:=2) (λh o=>up2' h o) ht.hi ht.ex
   show(1:Rat)*t<=1*_
   grind
 . have:=ql0 (neg:=true) (v:=v) (n:=blen v-p) (more:=more) (mode:=2) (λh o=>up2' h o) ht.lo
   show(-1:Rat)*t<= -1*_
   grind
def qfe (w:Int):((w:Int):Rat)=sgr (decide (w<0))*((w.natAbs:Nat):Rat):=by
 rw[<-qnq];congr 1;unfold sg;by_cases c:w<0
 . rw[decide_eq_true c,iP rfl];omega
 . rw[decide_eq_false c,iN' (by simp)];omega
def Tru.self (v:Nat):Tru v false (v:Rat):=⟨zQ3,by rw[zF3];omega,λ_=>rfl⟩
def q3v {a:D5} (ha:Cn a) {p mode:Int} (h:(Qx a p mode).1=false):Gd a/\Qx a p mode=fixM (decide (zD a<0)) (zD a).natAbs (eD a) false p.toNat mode:=by
 unfold Qx at*;split at h
 . cases h
 . rename_i c;refine⟨ha.gd (by simpa using λe=>c (.inl e)),iN' c⟩
def qle {a:D5} (ha:Cn a) {p:Int} (h:(Qx a p 1).1=false):rv (Qx a p 1)<=rv a:=by
 obtain⟨g,e⟩:=q3v ha h;rw[e]at h⊢;have:=qiy (Tru.self (zD a).natAbs) h
 rwa [<-qfe]at this
def ql6 {a:D5} (ha:Cn a) {p:Int} (h:(Qx a p 2).1=false):rv a<=rv (Qx a p 2):=by
 obtain⟨g,e⟩:=q3v ha h;rw[e]at h⊢;have:=qjc (Tru.self (zD a).natAbs) h
 rwa [<-qfe]at this
def Tru.quo {A Y:Nat} (hY:Y≠0):Tru (A/Y) (decide (A%Y≠0)) ((A:Rat)/(Y:Rat)):=by
 have hY0:(0:Rat)<(Y:Rat):=by
  have:((0:Nat):Rat)<(Y:Rat):=zF3.2 O;exact this
 have hd:=ze1 A Y;have hlt:=zV1 A (zM2 hY);have ht:(A:Rat)/(Y:Rat)*(Y:Rat)=(A:Rat):=Rat.div_mul_cancel (zC4 hY0);refine⟨?_,?_,λh=> ?_⟩
 . refine Rat.not_lt.1 λc=> ?_
   have:=Rat.mul_lt_mul_of_pos_right c hY0;rw[ht,<-Rat.natCast_mul,zF3,zW]at this;omega
 . rw[Rat.div_lt_iff hY0,<-Rat.natCast_mul,zF3,zI1,zT2,zW];omega
 . have h0:A%Y=0:=by simpa using h
   have:(A:Rat)=((A/Y:Nat):Rat)*(Y:Rat):=by
    rw[<-Rat.natCast_mul,zW];congr 1;omega
   rw[this,Rat.mul_div_cancel (zC4 hY0)]
def qpn (a b:Bool):sgr (a !=b)=sgr a*sgr b:=by cases a<;>cases b<;>simp[sgr]<;>grind
def qrd (a:Bool):sgr a*sgr a=1:=by cases a<;>simp[sgr]<;>grind
def qqf {a b X Y P Q R k:Rat} (hb:b*b=1) (hY:Y≠0) (hQ:Q≠0) (hk:k≠0) (hP:P=R*k*Q):a*b*(X*k/Y)*R=a*X*P/(b*Y*Q):=by
 have hb0:b≠0:=by intro h;rw[h,zw2]at hb;exact absurd hb (by decide)
 have hD:b*Y*Q≠0:=λh=>(zt2.1 h).elim (λh=>(zt2.1 h).elim hb0 hY) hQ
 have h3:=Rat.inv_mul_cancel Y hY
 have h4:a*b*(X*k/Y)*R*(b*Y*Q)=a*X*P:=by
  rw[hP,zc2]
  calc a*b*(X*k*Y⁻¹)*R*(b*Y*Q)=a*(b*b)*(X*k)*R*Q*(Y⁻¹*Y):=by grind
   _=_:=by rw[hb,h3];grind
 rw[<-h4,Rat.mul_div_cancel hD]
def qim {a b:D5} (ha:Cn a) (hb:Cn b) {p mode:Int} (h:(quoQ a b p mode).1=false):
 Gd a/\Gd b/\rv b≠0/\((rv (quoQ a b p mode)=0/\rv a=0)\/ ∃v more t neg e,quoQ a b p mode=fixM neg v e more p.toNat mode/\Tru v more t/\sgr neg*t*2^e=rv a/rv b):=by
 unfold quoQ at*;split at h
 . cases h
 . rename_i c;have g1:=ha.gd (by simpa using λe=>c (.inl e))
   have g2:=hb.gd (by simpa using λe=>c (.inr (.inl e)))
   have hz:zD b≠0:=λe=>c (.inr (.inr (.inr (.inr e))))
   have hbz:((zD b:Int):Rat)≠0:=by
    intro e;exact hz (zv3.1 e)
   have hb0:rv b≠0:=λe=>(zt2.1 e).elim hbz (zC4 (q8n _))
   rw[iN' c];refine⟨g1,g2,hb0,?_⟩;by_cases c0:zD a=0
   . rw[iP c0];left;unfold rv;rw[c0];exact⟨zw2 _,zw2 _⟩
   . rw[iN' c0]at h⊢;right;have hY:(zD b).natAbs≠0:=O;refine⟨_,_,_,_,_,rfl,Tru.quo hY,?_⟩
     have hYr:(((zD b).natAbs:Nat):Rat)≠0:=by
      intro e;exact hY (Rat.natCast_inj.1 e)
     unfold rv;rw[qfe (zD a),qfe (zD b),qpn,zJ3]
     have hkr:((2^kQ (zD a).natAbs (zD b).natAbs p.toNat:Nat):Rat)≠0:=by
      rw[<-qjv];exact zC4 (q8n _)
     refine qqf (qrd _) hYr (zC4 (q8n (eD b))) hkr ?_;rw[<-qjv,<-qct,<-qct];congr 1;omega
def qa9 {a b:D5} (ha:Cn a) (hb:Cn b) {p:Int} (h:(quoQ a b p 1).1=false):rv (quoQ a b p 1)<=rv a/rv b:=by
 obtain⟨g1,g2,h0,⟨e1,e2⟩|⟨v,more,t,neg,e,e1,ht,e2⟩⟩:=qim ha hb h
 . rw[e1,e2,zc2,zw2];exact zQ3
 . rw[e1]at h⊢;rw[<-e2];exact qiy ht h
def q9f {a b:D5} (ha:Cn a) (hb:Cn b) {p:Int} (h:(quoQ a b p 2).1=false):rv a/rv b<=rv (quoQ a b p 2):=by
 obtain⟨g1,g2,h0,⟨e1,e2⟩|⟨v,more,t,neg,e,e1,ht,e2⟩⟩:=qim ha hb h
 . rw[e1,e2,zc2,zw2];exact zQ3
 . rw[e1]at h⊢;rw[<-e2];exact qjc ht h
end Go.Vs.F
