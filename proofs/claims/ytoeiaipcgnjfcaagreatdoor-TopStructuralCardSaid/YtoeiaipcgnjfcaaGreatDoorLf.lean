import Derived.Test.YtoeiaipcgnjfcaaGreatDoorLd
import Derived.Test.YtoeiaipcgnjfcaaGreatDoorLc
set_option linter.unusedVariables false
set_option linter.unusedSectionVars false
set_option linter.unusedSimpArgs false
set_option linter.unusedSimpArgs false
set_option linter.defProp false
namespace Go.Vs.F
def qmp {r x:Nat} (hr:r<4294967296) (hx:x<4294967296):b_or_ .u64 (shl_ .u64 (r:Int) 32) (x:Int)=((r*4294967296+x:Nat):Int):=by
 have e1:shl_ .u64 (r:Int) 32=((r*4294967296:Nat):Int):=by
  have h:=shl64 (a:=r) (k:=32) O (by rw[show(2:Nat)^32=4294967296 by decide];omega)
  rw[show(2:Nat)^32=4294967296 by decide]at h
  exact h
 rw[e1,or64 O O];have:=zC2 (i:=32) (b:=x) O r;rw[zx,show(4294967296:Nat)=2^32 by decide,<-this]
def drop_set_self {l:LI} {i:Nat} {x:Int} (h:i<l.length):(l.set i x).drop i=x::l.drop (i+1):=by
 rw[List.drop_eq_getElem_cons (by rw[zZ];exact h)]
 congr 1
 . simp
 . rw[List.drop_set];simp
def qef (m:Nat) {a:LI} (ha:Lm a) (hl:a.length<=1000000) {d:Nat} (hd:0<d) (hd2:d<4294967296): ∀(k n:Nat) (out:LI),k<n->k<=a.length->Lm out->out.length=a.length->vl (out.drop k)=vl (a.drop k)/d->
 ∃out',g200L0 m n a (d:Int) out ((vl (a.drop k)%d:Nat):Int) ((k:Int)-1)=some (.inl (out',((vl a%d:Nat):Int),()))/\Lm out'/\out'.length=a.length/\vl out'=vl a/d
 |0,n+1,out,_,_,h1,h2,h3=>by
  refine⟨out,?_,h1,h2,by simpa using h3⟩
  rw[g200L0,bQ,iN' O,zh1]
 |k+1,n+1,out,hn,hk,h1,h2,h3=>by
  obtain⟨x,ex,hx,hv⟩:=ha.get' k;have hr:vl (a.drop (k+1))%d<d:=zm1 _ hd;have w:((k+1:Nat):Int)-1=(k:Int):=O;rw[g200L0,w,bQ,iP O,iP O];have wd:wJ (d:Int)=(d:Int):=w64n O;rw[wd,iP O,iP O,iP O,tN,ex,w64n O,qmp O hx,td,tm]
  have hq:(vl (a.drop (k+1))%d*4294967296+x)/d<4294967296:=by
   rw[zF2 hd];have:(vl (a.drop (k+1))%d+1)*4294967296<=d*4294967296:=zK _ hr;omega
  have wq:wK (wJ (((vl (a.drop (k+1))%d*4294967296+x)/d:Nat):Int))=(((vl (a.drop (k+1))%d*4294967296+x)/d:Nat):Int):=by
   rw[w64n O,w32,zM1 hq]
  rw[wq,zI]
  have e1:vl (a.drop k)=d*(4294967296*(vl (a.drop (k+1))/d))+(vl (a.drop (k+1))%d*4294967296+x):=by
   rw[hv];have:=zz1 (vl (a.drop (k+1))) d;generalize vl (a.drop (k+1))/d=q at*;generalize vl (a.drop (k+1))%d=r at*;rw[<-this,zT,<-Nat.mul_assoc,zx 4294967296 d,zi];omega
  have e2:vl (a.drop k)/d=4294967296*(vl (a.drop (k+1))/d)+(vl (a.drop (k+1))%d*4294967296+x)/d:=by
   rw[e1,zT3 hd]
  have e3:vl (a.drop k)%d=(vl (a.drop (k+1))%d*4294967296+x)%d:=by
   rw[e1,zU3]
  rw[<-e3,wQ,wi O O];refine qef m ha hl hd hd2 k n _ O O (Jl h1 hq) (by rw[zZ];exact h2) ?_
  rw[drop_set_self O,vl,tN,h3,e2];omega
def qjy {m:Nat} (hm:2000000<m) {a:LI} (ha:Lm a) (hl:a.length<=1000000) {d:Nat} (hd:0<d) (hd2:d<4294967296):
 g200 m a (d:Int)=some ((lim (vl a/d),((vl a%d:Nat):Int),()),(),(),()):=by
 rw[g200,iP O,tN,wQ,wi O O];have h0:(a.drop a.length)=[]:=List.drop_length
 obtain⟨out,h1,h2,h3,h4⟩:=qef m ha hl hd hd2 a.length m (List.replicate a.length 0) O (zD _) Xg (zN1 ..) (by
  rw[zg2 (by rw[zN1];exact zD _),h0]
  show 0=0/d
  rw[Nat.zero_div])
 rw[h0]at h1
 have e0:((vl ([]:LI)%d:Nat):Int)=0:=by
  show((0%d:Nat):Int)=0
  rw[Nat.zero_mod];rfl
 rw[e0]at h1;rw[h1,bS];dsimp only;rw[Qx h2 O O,bS,h4,w32,zM1 (Nat.lt_trans (zm1 _ hd) hd2)]
def qa7 {d:Nat} (h0:0<d) (h:d<4294967296):lim d=[(d:Int)]:=by
 rw[q0b O,zJ2 h,Qc,zM1 h]
def qac {m:Nat} (hm:2000000<m) {A d:Nat} (hA:(lim A).length<=1000000) (h0:0<d) (h:d<4294967296):
 g126 m (lim A) (lim d)=some ((lim (A/d),lim (A%d),()),(),(),()):=by
 have hd1:(lim d).length=1:=by rw[qa7 h0 h];rfl
 rw[g126,q0r hm hA O,bS,bQ];dsimp only;by_cases c:A<d
 . have hc:cmpN A d= -1:=by unfold cmpN;rw[iP c]
   rw[hc,iP O,q4p O,bS,zJ2 c,zM1 c,Qc]
 . have hc: ¬cmpN A d<0:=by unfold cmpN;rw[iN' c];split<;>omega
   rw[iN' hc,hd1,bif_eq,iP (show((1:Nat):Int)=1 from rfl),iP O,qa7 h0 h]
   show(g200 m (lim A) (d:Int)).bind _=_
   rw[qjy hm (Qk A) hA h0 h,bS,Ql];dsimp only;have hr:A%d<4294967296:=Nat.lt_trans (zm1 _ h0) h;rw[Qx (λx hx=>by rw[zA.1 hx];omega) (by simp;omega) (by simp),bS]
   show some ((_,lim ((((A%d:Nat):Int)).toNat+4294967296*0),()),_)=_
   rw[tN,zG1,zU]
abbrev Bg:=Bool×LI
def BZ (z:Int):Bg:=((zB z).1,(zB z).2.1)
def qm7:BZ 0=(false,[]):=by show(decide ((0:Int)<0),lim 0)=_;rw[Qc];rfl
def mr {α:Type} (n:Nat) (f:Nat->α):List α:=(List.range n).map f
def q3t {α:Type} {n:Nat} {f:Nat->α}:(mr n f).length=n:=by unfold mr;rw[zc1,List.length_range]
def qcc {α:Type} {n:Nat} {f:Nat->α} {j:Nat} {d:α} (h:j<n):(mr n f).getD j d=f j:=by
 unfold mr;simp[List.getD,h]
def q2v {α:Type} {n:Nat} {f g:Nat->α} (h: ∀i,i<n->f i=g i):mr n f=mr n g:=
 zD2 λi hi=>h i (zM2.1 hi)
def qif {α:Type} {n:Nat} {f:Nat->α} {i:Nat} (h:i<(mr n f).length):(mr n f)[i]=f i:=by simp[mr]
def ql1 {α:Type} {n:Nat} {f:Nat->α} {j:Nat} {x:α}:(mr n f).set j x=mr n (λk=>if k=j then x else f k):=by
 apply zc2
 . rw[zZ,q3t,q3t]
 . intro i h1 h2;rw[List.getElem_set,qif,qif];by_cases c:j=i
   . rw[iP c,iP c.symm]
   . rw[iN' c,iN' (λh=>c h.symm)]
def qj2 {α:Type} {n:Nat} {f:Nat->α}:mr n f++[f n]=mr (n+1) f:=by
 unfold mr;rw[zP3,zy1];rfl
def qne {α:Type} {n:Nat} {x:α}:List.replicate n x=mr n (λ_=>x):=by
 apply zc2
 . rw[zN1,q3t]
 . intro i h1 h2;rw[qif];simp
def qg3 {α:Type} {f:Nat->α}:mr 0 f=[]:=rfl
def rowB (n:Nat) (f:Nat->Int):List Bg:=mr n λj=>BZ (f j)
def zs:Nat->(Nat->Int)->Int
 |0,_=>0
 |k+1,f=>zs k f+f k
def bMul {m:Nat} (hm:4000000<=m) {a b:Int} (h:zlen a+zlen b<=1000000):g282 m (BZ a).1 (BZ a).2 (BZ b).1 (BZ b).2=some (zB (a*b),(),(),()):=by
 have:=qn4 (m:=m) hm (n1:=(zB a).1) (n2:=(zB b).1) (l1:=(zB a).2.1) (l2:=(zB b).2.1) (Qk _) (Qk _) h
 rwa [zv_zB,zv_zB]at this
def bNorm {m:Nat} (hm:4000000<=m) {a:Int} (ha:zlen a<=1000000):g124 m (BZ a).1 (BZ a).2=some (zB a,(),()):=by
 have:=qgd (m:=m) O (neg:=(zB a).1) (Sz_zB ha)
 rwa [zv_zB]at this
def bNeg {m:Nat} (hm:4000000<=m) {a:Int} (ha:zlen a<=1000000):g50 m (BZ a).1 (BZ a).2=some (zB (-a),(),()):=by
 have:=ql0 (m:=m) O (neg:=(zB a).1) (Sz_zB ha)
 rwa [zv_zB]at this
def bSign {m:Nat} (hm:4000000<=m) {a:Int} (ha:zlen a<=1000000):g115 m (BZ a).1 (BZ a).2=some (sgn a,(),()):=by
 have:=qd2 (m:=m) O (neg:=(zB a).1) (Sz_zB ha)
 rwa [zv_zB]at this
def qls {m:Nat} (hm:4000000<=m) {n:Nat} (hn:n<=1000) {f:Nat->Int} (h1: ∀k,k<n->zlen (f k)<=1000000) (b:List Bg) (out:List (List Bg)) (i:Int) (t11:List (List Bg)) (t12 t13:Int): ∀(N j:Nat),n-j<N->j<=n->
 g47L1 m N b out i (mr j λj=>BZ (f j)) t11 t12 t13 (rowB n f) (n:Int) (j:Int)=some (.inl (b,out,i,rowB n f,t11,t12,t13,())):=by
 intro N;induction N with
 |zero=>intro k h;omega
 |succ N ih=>
  intro j h hj;have hr:(rowB n f).length=n:=q3t;rw[g47L1,hr];by_cases c:j<n
  . have e6:(rowB n f).getD j (false,[])=BZ (f j):=qcc c;have hl:(mr j λj=>BZ (f j)).length=j:=q3t
    simp only[tN,e6,hl];rw[bQ,iP O,iP O,bNorm hm (h1 j c),bS];dsimp only;rw[iP (by show j+1<=_;omega),wQ,wsucc O]
    have e1:(mr j λj=>BZ (f j))++[((zB (f j)).1,(zB (f j)).2.1)]=mr (j+1) λj=>BZ (f j):=qj2 (f:=λj=>BZ (f j))
    rw[e1];exact ih (j+1) O O
  . have:j=n:=O;subst this;rw[bQ,iN' O];rfl
def Xp (l:LI) (k:Nat) (h:k<=l.length):vl l=vl (l.take k)+4294967296^k*vl (l.drop k):=by
 conv=>lhs;rw[<-List.take_append_drop k l]
 rw[q2d,zA1,zm2 h]
def Lm.take {l:LI} (h:Lm l) (k:Nat):Lm (l.take k):=λx hx=>h x (zJ1 hx)
def Lm.drop {l:LI} (h:Lm l) (k:Nat):Lm (l.drop k):=λx hx=>h x (zT1 hx)
def Zg {l:LI} (h:Lm l) {k:Nat} (hk:k<=l.length):vl (l.take k)<4294967296^k:=by
 have:=vl_lt (h.take k)
 rwa [zA1,zm2 hk]at this
def q42 {l:LI} {k:Nat} (hk:k<=l.length) (hlt:vl l<4294967296^k):vl (l.drop k)=0:=by
 have:=Xp l k hk;rcases z01 (vl (l.drop k))with h|h
 . exact h
 . have:=Nat.le_mul_of_pos_right (4294967296^k) h;omega
def qjx {W lo P t V lo' y d:Nat} (hW:W=lo+P*t) (hlo:lo<P) (hV:V=lo'+P*y) (hy:0<y) (hd:d*V<=W):d<=t/y:=by
 rw[zn2 hy];have h1:d*(P*y)<=d*V:=zk _ O
 have h2:P*(d*y)<P*(t+1):=by
  rw[zt1 P d y,zT,zX1];omega
 have:=zE2 h2;omega
def ql9 {B:Nat} (h:B≠0):4294967296^((lim B).length-1)<=B:=by
 refine zB2 λhlt=> ?_
 have h1:=Xc hlt;have:lim B≠[]:=λh2=>h (q1e.1 h2)
 have:=List.length_pos_iff.2 this;omega
end Go.Vs.F
set_option linter.unusedSectionVars false
namespace Go.Vs.F
def or_hi {r x:Nat} (hr:r<4294967296) (hx:x<4294967296):b_or_ .u64 (shl_ .u64 (r:Int) 32) (x:Int)=((r*4294967296+x:Nat):Int):=by
 have e1:shl_ .u64 (r:Int) 32=((r*2^32:Nat):Int):=shl64 (a:=r) (k:=32) O (by rw[show(2:Nat)^32=4294967296 by decide];omega)
 have hp:(2:Nat)^32=4294967296:=by decide
 rw[e1,or64 (by rw[hp];omega) O]
 have:=zC2 (i:=32) (b:=x) O r;rw[zx,<-this,hp,zx]
section
variable {Q top v1 v2 u2:Nat}
structure QF (Q top v1 v2 u2:Nat):Prop where
 big:Q<4294967296
 ge: ∀q r,q*v1+r=top->r*4294967296+u2<q*v2->Q<q
 fin1: ∀q r,q*v1+r=top->q<4294967296->q*v2<=r*4294967296+u2->q<=Q+1
 fin2: ∀q r,q*v1+r=top->q<=4294967296->4294967296<=r->q<=Q
def qe3 (m:Nat) {u v:LI} {n:Nat} (hn:v.length=n) (h2:2<=n) (hul:u.length=n+1) (hl:n<=1000000)
 (e1:v.getD (n-1) 0=(v1:Int)) (e2:v.getD (n-2) 0=(v2:Int)) (e3:u.getD (n-2) 0=(u2:Int)) (h1:2147483648<=v1) (hv1:v1<4294967296) (hv2:v2<4294967296) (hu2:u2<4294967296) (hQ:QF Q top v1 v2 u2):
 ∀(N k q r:Nat),k<N->4294967296<=r+k*2147483648->q*v1+r=top->r<4294967296->Q<=q->q<=4294967297->
  ∃q':Nat,g202L0 m N u v (n:Int) (q:Int) (r:Int)=some (.inl (u,v,(n:Int),(q':Int),()))/\Q<=q'/\q'<=Q+1/\q'<4294967296
 |0,k,q,r,h,_,_,_,_,_=>O
 |N+1,k,q,r,h,hk,hqr,hr,hQq,hq=>by
  have w1:wI ((n:Int)-1)=((n-1:Nat):Int):=by rw[wQ,wi O O];omega
  have w2:wI ((n:Int)-2)=((n-2:Nat):Int):=by rw[wQ,wi O O];omega
  have w3:wJ (v1:Int)=(v1:Int):=w64n O;have w4:wJ (v2:Int)=(v2:Int):=w64n O;have w5:wJ (u2:Int)=(u2:Int):=w64n O;have w6:wJ ((r:Int)+(v1:Int))=((r+v1:Nat):Int):=by rw[<-Int.natCast_add];exact w64n O
  have i1:(0:Int)<=((n-1:Nat):Int)/\((n-1:Nat):Int)<(v.length:Int):=O;have i2:(0:Int)<=((n-2:Nat):Int)/\((n-2:Nat):Int)<(v.length:Int):=O;have i3:(0:Int)<=((n-2:Nat):Int)/\((n-2:Nat):Int)<(u.length:Int):=O
  have down:1<=q->Q<q-> ∃q':Nat,(if(0:Int)<=((n-1:Nat):Int)/\((n-1:Nat):Int)<(v.length:Int)then
   bif decide (((r+v1:Nat):Int)>4294967295)then some (.inl (u,v,(n:Int),wJ ((q:Int)-1),()))
   else g202L0 m N u v (n:Int) (wJ ((q:Int)-1)) ((r+v1:Nat):Int)
   else none)=some (.inl (u,v,(n:Int),(q':Int),()))/\Q<=q'/\q'<=Q+1/\q'<4294967296:=by
   intro hq1 hQ1;have w7:wJ ((q:Int)-1)=((q-1:Nat):Int):=by rw[show(q:Int)-1=((q-1:Nat):Int) by omega];exact w64n O
   have hs:(q-1)*v1+(r+v1)=top:=by
    have:q*v1=(q-1)*v1+v1:=by rw[<-Nat.succ_mul];congr 1;omega
    omega
   rw[iP i1,bQ,w7];by_cases c:((r+v1:Nat):Int)>4294967295
   . rw[iP c];have:=hQ.fin2 (q-1) (r+v1) hs O O;have:=hQ.big;exact⟨q-1,rfl,O,O,O⟩
   . rw[iN' c]
     have hk1:1<=k:=by
      rcases z01 k with e|e
      . subst e;omega
      . exact e
     exact qe3 m hn h2 hul hl e1 e2 e3 h1 hv1 hv2 hu2 hQ N (k-1) (q-1) (r+v1) O O hs O O O
  rw[g202L0,bQ];simp only[w1,w2,zI,tN,e1,e2,e3,w3,w4,w5,w6];by_cases c:(q:Int)>4294967295
  . rw[iP c];exact down O (by have:=hQ.big;omega)
  . have hqv:q*v2<18446744073709551616:=by
     have:q*v2<=4294967295*4294967295:=zL2 O O;omega
    have w8:wJ ((q:Int)*(v2:Int))=((q*v2:Nat):Int):=by rw[<-Int.natCast_mul];exact w64n hqv
    rw[iN' c,iP i2,iP i3,w8,or_hi hr hu2,bQ];by_cases c2:((q*v2:Nat):Int)>((r*4294967296+u2:Nat):Int)
    . rw[iP c2];have hlt:r*4294967296+u2<q*v2:=O;have:=hQ.ge q r hqr hlt;exact down O this
    . rw[iN' c2];exact⟨q,rfl,hQq,hQ.fin1 q r hqr O O,O⟩
end
def QF.mk' {U V P top v1 v2 u2 lu lv:Nat} (hP:0<P) (hU:U=lu+P*(top*4294967296+u2)) (hlu:lu<P) (hV:V=lv+P*(v1*4294967296+v2)) (hlv:lv<P) (h1:2147483648<=v1) (hv2:v2<4294967296) (hu2:u2<4294967296)
 (hUV:U<V*4294967296):QF (U/V) top v1 v2 u2:=by
 have hV0:0<V:=by
  have:P*1<=P*(v1*4294967296+v2):=zk _ O;omega
 refine⟨zN2 hUV,λq r e h=> ?_,λq r e hq h=> ?_,λq r e hq h=> ?_⟩
 ·
  rw[zF2 hV0]
  have k1:top*4294967296+u2+1<=q*(v1*4294967296+v2):=by
   rw[<-e,zT,zu,<-Nat.mul_assoc];omega
  have k2:P*(top*4294967296+u2+1)<=P*(q*(v1*4294967296+v2)):=zk _ k1;have k3:P*(q*(v1*4294967296+v2))=q*(P*(v1*4294967296+v2)):=by rw[zt1]
  have k4:q*V=q*lv+q*(P*(v1*4294967296+v2)):=by rw[hV,zT]
  rw[zT P,zX1]at k2;omega
 ·
  rcases z01 q with h0|h0
  . rw[h0];exact zU2 _
  have k1:q*(v1*4294967296+v2)<=top*4294967296+u2:=by
   rw[<-e,zT,zu,<-Nat.mul_assoc];omega
  have k2:P*(q*(v1*4294967296+v2))<=P*(top*4294967296+u2):=zk _ k1;have k3:P*(q*(v1*4294967296+v2))=q*(P*(v1*4294967296+v2)):=by rw[zt1]
  have k4:q*V=q*lv+q*(P*(v1*4294967296+v2)):=by rw[hV,zT]
  have k5:q*lv<=4294967296*P:=zL2 O O;have k6:P*4294967296<=P*(v1*4294967296+v2):=zk _ O
  have k7:(q-1)*V<=U:=by
   have:q*V=(q-1)*V+V:=by rw[<-Nat.succ_mul];congr 1;omega
   have:=zx P 4294967296;omega
  have:=(zn2 hV0).2 k7;omega
 . rw[zn2 hV0]
   have k1:q*(v1*4294967296+v2+1)<=top*4294967296+u2:=by
    have a1:q*(v2+1)<=4294967296*4294967296:=zL2 hq O;have a2:q*(v1*4294967296+v2+1)=q*v1*4294967296+q*(v2+1):=by rw[zO1,zT,<-Nat.mul_assoc]
    have a3:top*4294967296=q*v1*4294967296+r*4294967296:=by rw[<-e,zu]
    have a4:4294967296*4294967296<=r*4294967296:=zK _ h;omega
   have k2:P*(q*(v1*4294967296+v2+1))<=P*(top*4294967296+u2):=zk _ k1
   have k3:P*(q*(v1*4294967296+v2+1))=q*(P*(v1*4294967296+v2))+q*P:=by
    rw[zt1,zT P,zX1,zT]
   have k4:q*V=q*lv+q*(P*(v1*4294967296+v2)):=by rw[hV,zT]
   have k5:q*lv<=q*P:=zk _ O;omega
def q89 {a:Nat} (ha:a<18446744073709551616):qo .u64 (a:Int) 4294967295=((a%4294967296:Nat):Int):=by
 have:=and64 ha (show 4294967295<18446744073709551616 by decide)
 rw[show((4294967295:Nat):Int)=4294967295 from rfl]at this
 rw[this,zU1 _ 32]
def and_one {a:Nat} (ha:a<18446744073709551616):qo .u64 (a:Int) 1=((a%2:Nat):Int):=by
 have:=and64 ha (show 1<18446744073709551616 by decide)
 rw[show((1:Nat):Int)=1 from rfl]at this
 rw[this,zU1 _ 1]
def qdh {a:Nat}:shr_ .u64 (a:Int) 32=((a/4294967296:Nat):Int):=shr64 (a:=a) (k:=32) O
def qdt {x lo bor:Nat} (hx:x<4294967296) (hlo:lo<4294967296) (hb:bor<=1): ∃d e:Nat,d<4294967296/\e<=1/\x+4294967296*e=d+lo+bor/\
 wK (qo .u64 (wJ ((wJ ((x:Int)-(lo:Int)))-(bor:Int))) 4294967295)=(d:Int)/\qo .u64 (shr_ .u64 (wJ ((wJ ((x:Int)-(lo:Int)))-(bor:Int))) 32) 1=(e:Int):=by
 have hT:wJ ((wJ ((x:Int)-(lo:Int)))-(bor:Int))=((x:Int)-lo-bor)%18446744073709551616:=by
  rw[w64m,w64m];omega
 rw[hT];by_cases c:lo+bor<=x
 . rw[show((x:Int)-lo-bor)%18446744073709551616=((x-lo-bor:Nat):Int) by omega,q89 O,qdh,and_one O,w32]
   refine⟨x-lo-bor,0,O,O,O,?_,?_⟩
   . congr 1;omega
   . congr 1;omega
 . rw[show((x:Int)-lo-bor)%18446744073709551616=((18446744073709551616-(lo+bor-x):Nat):Int) by omega,q89 O,qdh,and_one O,w32]
   refine⟨x+4294967296-lo-bor,1,O,O,O,?_,?_⟩
   . congr 1;omega
   . congr 1;omega
def q40 {l:LI} (h:Lm l) {k y:Nat} (hk:k<l.length) (e:l.getD k 0=(y:Int)):vl (l.take (k+1))=vl (l.take k)+4294967296^k*y:=by
 have h1:=Xp l k O;have h2:=Xp l (k+1) O;have h3:=Xn hk;rw[e,tN]at h3;rw[h3,zT,<-Nat.mul_assoc]at h1;rw[zP1]at h2;omega
section
variable {m n:Nat} {v:LI} (hv:Lm v) (hn:v.length=n) (hl:n<=1000000)
include hv hn hl
theorem qj6 {q U:Nat} (hq:q<4294967296) (t1:LI) (t5:Int): ∀(N i:Nat) (u:LI) (car bor:Nat),n-i<N->i<=n->Lm u->u.length=n+1->car<4294967296->bor<=1->
 vl u+q*vl (v.take i)=U+4294967296^i*(bor+car)->
 ∃(u':LI) (car' bor':Nat),Lm u'/\u'.length=n+1/\car'<4294967296/\bor'<=1/\vl u'+q*vl v=U+4294967296^n*(bor'+car')/\
  g202L1 m N u t1 t5 (q:Int) (car:Int) (bor:Int) v (v.length:Int) (i:Int)=some (.inl (u',t1,t5,(q:Int),(car':Int),(bor':Int),())):=by
 intro N;induction N with
 |zero=>intro i u car bor h;omega
 |succ N ih=>
  intro i u car bor h hi hu hul hc hb hinv;rw[g202L1,bQ];by_cases c:i<n
  . obtain⟨x,ex,hx,_⟩:=hu.get' i;obtain⟨y,ey,hy,_⟩:=hv.get' i
    have hp:q*y+car<18446744073709551616:=by
     have:q*y<=4294967295*4294967295:=zL2 O O;omega
    have hqy:q*y<18446744073709551616:=O;have wx:wJ (x:Int)=(x:Int):=w64n O;have wy:wJ (y:Int)=(y:Int):=w64n O;have wq:wJ ((q:Int)*(y:Int))=((q*y:Nat):Int):=by rw[<-Int.natCast_mul];exact w64n hqy
    have wp:wJ (((q*y:Nat):Int)+(car:Int))=((q*y+car:Nat):Int):=by rw[<-Int.natCast_add];exact w64n hp
    rw[iP O,iP O,iP O,iP O];simp only[tN,zI,ex,ey,wx,wy,wq,wp,q89 hp,qdh];obtain⟨d,e,hd,he,hde,g1,g2⟩:=qdt (lo:=(q*y+car)%4294967296) hx (zm1 _ (by decide)) hb
    have g2':qo .u64 (shr_ .u64 (wJ ((wJ ((x:Int)-(((q*y+car)%4294967296:Nat):Int)))-(bor:Int))) 32) 1=(e:Int):=g2;rw[g1,g2',wQ,wsucc O];refine ih (i+1) (u.set i (d:Int)) ((q*y+car)/4294967296) e O O (Jl hu hd) (by rw[zZ];exact hul) (zN2 O) he ?_
    have s1:=q03 (l:=u) (p:=i) (y:=(d:Int)) O;rw[ex,tN,tN]at s1;have s2:=q40 hv (k:=i) (y:=y) O ey;have s3:=zz1 (q*y+car) 4294967296;generalize hlo:(q*y+car)%4294967296=lo at*;generalize hca:(q*y+car)/4294967296=ca at*;rw[s2,zP1];generalize 4294967296^i=P at*;have k1:P*x+P*(4294967296*e)=P*d+P*lo+P*bor:=by rw[<-Nat.mul_add,hde,zT,zT]
    have k2:P*(4294967296*ca)+P*lo=P*(q*y)+P*car:=by rw[<-Nat.mul_add,s3,zT]
    have k3:q*(vl (v.take i)+P*y)=q*vl (v.take i)+P*(q*y):=by rw[zT,zt1]
    have k4:P*4294967296*(e+ca)=P*(4294967296*e)+P*(4294967296*ca):=by rw[zi,zT,zT]
    have k5:P*(bor+car)=P*bor+P*car:=zT ..;rw[k3,k4];rw[k5]at hinv;omega
  . have:i=n:=O;subst this;rw[iN' O];rw[zr1 O]at hinv;exact⟨u,car,bor,hu,hul,hc,hb,hinv,rfl⟩
theorem qj8 {U:Nat} (t5 t7:Int): ∀(N i:Nat) (u:LI) (car:Nat),n-i<N->i<=n->Lm u->u.length=n+1->car<=1->
 vl u+4294967296^i*car=U+vl (v.take i)->
 ∃(u':LI) (car':Nat),Lm u'/\u'.length=n+1/\car'<=1/\vl u'+4294967296^n*car'=U+vl v/\
  g202L2 m N u t5 t7 (car:Int) v (v.length:Int) (i:Int)=some (.inl (u',t5,t7,(car':Int),())):=by
 intro N;induction N with
 |zero=>intro i u car h;omega
 |succ N ih=>
  intro i u car h hi hu hul hc hinv;rw[g202L2,bQ];by_cases c:i<n
  . obtain⟨x,ex,hx,_⟩:=hu.get' i;obtain⟨y,ey,hy,_⟩:=hv.get' i;have wx:wJ (x:Int)=(x:Int):=w64n O;have wy:wJ (y:Int)=(y:Int):=w64n O;have ws:wJ ((x:Int)+(y:Int))=((x+y:Nat):Int):=by rw[<-Int.natCast_add];exact w64n O
    have wp:wJ (((x+y:Nat):Int)+(car:Int))=((x+y+car:Nat):Int):=by rw[<-Int.natCast_add];exact w64n O
    rw[iP O,iP O,iP O,iP O];simp only[tN,zI,ex,ey,wx,wy,ws,wp,q89 (show x+y+car<18446744073709551616 by omega),qdh,w32]
    rw[wQ,wsucc O];refine ih (i+1) (u.set i (((x+y+car)%4294967296%4294967296:Nat):Int)) ((x+y+car)/4294967296) O O (Jl hu O) (by rw[zZ];exact hul) O ?_
    have s1:=q03 (l:=u) (p:=i) (y:=(((x+y+car)%4294967296%4294967296:Nat):Int)) O;rw[ex,tN,tN]at s1;have s2:=q40 hv (k:=i) (y:=y) O ey;have s3:4294967296*((x+y+car)/4294967296)+(x+y+car)%4294967296%4294967296=x+y+car:=O;generalize (x+y+car)%4294967296%4294967296=d at*;generalize (x+y+car)/4294967296=ca at*;rw[s2,zP1];generalize 4294967296^i=P at*;have k1:P*(4294967296*ca)+P*d=P*x+P*y+P*car:=by rw[<-Nat.mul_add,s3,zT,zT]
    rw[zi];omega
  . have:i=n:=O;subst this;rw[iN' O];rw[zr1 O]at hinv;exact⟨u,car,hu,hul,hc,hinv,rfl⟩
end
end Go.Vs.F
set_option maxRecDepth 100000
namespace Go.Vs.F
def digit_eq {m:Nat} (hm:2000000<m) {u v:LI} (hu:Lm u) (hv:Lm v) {n:Nat} (hn:v.length=n) (hul:u.length=n+1) (h2:2<=n) (hl:n<=1000000) {v1:Nat} (e1:v.getD (n-1) 0=(v1:Int)) (h1:2147483648<=v1)
 (hUV:vl u<vl v*4294967296): ∃w,g202 m u v=some (((vl u/vl v:Nat):Int),w,(),())/\Lm w/\w.length=n+1/\vl w=vl u%vl v:=by
 obtain⟨un,f1,hun,g1⟩:=hu.get' n;obtain⟨um,f2,hum,g2⟩:=hu.get' (n-1);obtain⟨u2,f3,hu2,g3⟩:=hu.get' (n-2);obtain⟨v1',e1',hv1,k1⟩:=hv.get' (n-1);obtain⟨v2,e2,hv2,k2⟩:=hv.get' (n-2);have:v1'=v1:=by rw[e1']at e1;omega
 subst this;have q1:=Xp u (n-2) O;have q2:=Xp v (n-2) O;have q3:=Xp u (n-1) O;have q4:=Xp v (n-1) O;have t1:=Zg hu (k:=n-2) O;have t2:=Zg hv (k:=n-2) O;have t3:=Zg hu (k:=n-1) O;have z1:vl (u.drop (n+1))=0:=Q5 O;have z2:vl (v.drop n)=0:=Q5 O;rw[z1]at g1;rw[show n-1+1=n by omega]at g2 k1
 rw[show n-2+1=n-1 by omega]at g3 k2
 rw[g1]at g2;rw[g2]at g3 q3;rw[z2]at k1;rw[k1]at k2 q4;rw[g3]at q1;rw[k2]at q2;obtain⟨top,htop⟩: ∃top,top=un*4294967296+um:=⟨_,rfl⟩
 have hU:vl u=vl (u.take (n-2))+4294967296^(n-2)*(top*4294967296+u2):=by
  rw[q1];congr 2;omega
 have hV:vl v=vl (v.take (n-2))+4294967296^(n-2)*(v1'*4294967296+v2):=by
  rw[q2];congr 2;omega
 have hU1:vl u=vl (u.take (n-1))+4294967296^(n-1)*top:=by
  rw[q3];congr 2;omega
 have hV1:vl v=vl (v.take (n-1))+4294967296^(n-1)*v1':=by
  rw[q4,zG1,zU]
 have hP0:0<4294967296^(n-2):=zZ1 O;have hQF:=QF.mk' hP0 hU t1 hV t2 h1 hv2 hu2 hUV;have hP1:0<4294967296^(n-1):=zZ1 O
 have hV0:0<vl v:=by
  have:4294967296^(n-1)*1<=4294967296^(n-1)*v1':=zk _ O;omega
 have hge:vl u/vl v<=top/v1':=qjx hU1 t3 hV1 O (Nat.div_mul_le_self ..)
 have hle:top/v1'<=4294967297:=by
  have a1:4294967296^(n-1)*top<4294967296^(n-1)*((v1'+1)*4294967296):=by
   have t4:=Zg hv (k:=n-1) O;have:vl v*4294967296<=4294967296^(n-1)*(v1'+1)*4294967296:=zK _ (by rw[zT,zX1];omega)
   rw[zi]at this;omega
  have a2:=zE2 a1;rw[zu]at a2;have h5:top<4294967298*v1':=O;have:top/v1'<4294967298:=(zF2 O).2 h5;omega
 have hmod:=zm1 top (show 0<v1' by omega)
 have hdm:=zz1 top v1';have htl:top<18446744073709551616:=O;obtain⟨q,r0,b1,b2,b3⟩:=qe3 m hn h2 hul hl e1' e2 f3 h1 hv1 hv2 hu2 hQF m 2 (top/v1') (top%v1') O O (by rw[zx];exact hdm) O hge hle
 obtain⟨u1,car,bor,c1,c2,c3,c4,c5,c6⟩:=qj6 (m:=m) hv hn hl (q:=q) (U:=vl u) b3 v (n:Int) m 0 u 0 0 O O hu hul O O (by simp[vl])
 obtain⟨x,ex,hx,_⟩:=c1.get' n;obtain⟨d,e,hd,he,hde,s1,s2⟩:=qdt hx c3 c4;have w1:wI ((n:Int)-1)=((n-1:Nat):Int):=by rw[wQ,wi O O];omega
 have w3:wJ (v1':Int)=(v1':Int):=w64n O;have w4:wJ (un:Int)=(un:Int):=w64n O;have w5:wJ (um:Int)=(um:Int):=w64n O;have wx:wJ (x:Int)=(x:Int):=w64n O;have wt:wJ ((top/v1':Nat):Int)=((top/v1':Nat):Int):=w64n O;have i1:(0:Int)<=((n:Nat):Int)/\((n:Nat):Int)<(u.length:Int):=O;have i2:(0:Int)<=((n-1:Nat):Int)/\((n-1:Nat):Int)<(u.length:Int):=O;have i3:(0:Int)<=((n-1:Nat):Int)/\((n-1:Nat):Int)<(n:Int):=O;have i4:(0:Int)<=((n:Nat):Int)/\((n:Nat):Int)<(u1.length:Int):=O;have set1:=q03 (l:=u1) (p:=n) (y:=(d:Int)) O;rw[ex,tN,tN]at set1;have l1:Lm (u1.set n (d:Int)):=Jl c1 hd;have l2:(u1.set n (d:Int)).length=n+1:=by rw[zZ];exact c2
 have hsum:vl (u1.set n (d:Int))+q*vl v=vl u+4294967296^n*(4294967296*e):=by
  have k1:4294967296^n*x+4294967296^n*(4294967296*e)=4294967296^n*d+4294967296^n*car+4294967296^n*bor:=by rw[<-Nat.mul_add,hde,zT,zT]
  rw[zT]at c5;omega
 have hdiv:=zz1 (vl u) (vl v);have hml:=zm1 (vl u) hV0;rw[g202];rw[hn,tN,w1,tN,zI,zI];rw[iP i1,iP i2,iP i3,e1',w3,iP O,iP i3,iP O,f1,f2,w4,w5,or_hi hun hum,<-htop,td,tm,wt,r0,bS];dsimp only;rw[show g202L1 m m u v (n:Int) (q:Int) 0 0 v (v.length:Int) 0=_ from c6,bS]
 dsimp only;rw[iP i4,iP i4,tN,zI,ex,wx,bif_eq,s1,s2];have hr:q*vl v=vl v*q:=zx ..;by_cases he0:e=0
 . subst he0
   have hq:q=vl u/vl v:=by
    have:q<=vl u/vl v:=(zn2 hV0).2 (by simp only[zG1,zU]at hsum;omega)
    omega
   rw[iP O,w32,zM1 b3];refine⟨_,by rw[hq],l1,l2,?_⟩
   simp only[zG1,zU]at hsum;rw[hr,hq]at hsum;omega
 . have he1:e=1:=O;subst he1;have hlt1:=vl_lt l1;rw[l2,zP1]at hlt1;rw[zX1]at hsum
   have hq:q=vl u/vl v+1:=by
    rcases zE1 (vl u/vl v) q with h|h
    . omega
    . exfalso;have:q*vl v<=vl u/vl v*vl v:=zK _ h;have:=Nat.div_mul_le_self (vl u) (vl v);omega
   have hq1:1<=q:=by rw[hq];exact Nat.le_add_left 1 _
   have hq2:q-1=vl u/vl v:=by rw[hq,ze2]
   obtain⟨u3,ca,a1,a2,a3,a4,a5⟩:=qj8 (m:=m) hv hn hl (U:=vl (u1.set n (d:Int))) (n:Int) (q:Int) m 0 (u1.set n (d:Int)) 0 O O l1 l2 O (by simp[vl])
   obtain⟨y,ey,hy,_⟩:=a1.get' n;have i5:(0:Int)<=((n:Nat):Int)/\((n:Nat):Int)<(u3.length:Int):=O;have wq:wJ ((q:Int)-1)=((q-1:Nat):Int):=by rw[show(q:Int)-1=((q-1:Nat):Int) by omega];exact w64n O
   have wc:wK (ca:Int)=(ca:Int):=by rw[w32,zM1 O]
   have wy:wK ((y:Int)+(ca:Int))=(((y+ca)%4294967296:Nat):Int):=by rw[<-Int.natCast_add];exact w32
   rw[iN' O,show g202L2 m m (u1.set n (d:Int)) (n:Int) (q:Int) 0 v (v.length:Int) 0=_ from a5,bS]
   dsimp only;rw[iP i5,iP i5,tN,zI,ey,wc,wy,wq,w32,zM1 (show q-1<4294967296 by omega)]
   have hml2:(y+ca)%4294967296<4294967296:=zm1 _ (by decide)
   refine⟨_,by rw[hq2],Jl a1 hml2,by rw[zZ];exact a2,?_⟩
   have set2:=q03 (l:=u3) (p:=n) (y:=(((y+ca)%4294967296:Nat):Int)) O;rw[ey,tN,tN]at set2;have hlt2:=vl_lt (Jl (p:=n) a1 hml2);rw[zZ,a2,zP1]at hlt2;have hv4:=vl_lt hv;rw[hn]at hv4;have hdm2:=zz1 (y+ca) 4294967296
   have k1:4294967296^n*(4294967296*((y+ca)/4294967296))+4294967296^n*((y+ca)%4294967296)=4294967296^n*y+4294967296^n*ca:=by
    rw[<-Nat.mul_add,hdm2,zT]
   have k2:q*vl v=vl v*(vl u/vl v)+vl v:=by rw[hq,zx,zT,zX1]
   have hf:(y+ca)/4294967296=0\/(y+ca)/4294967296=1:=O;generalize (y+ca)/4294967296=f at*;generalize (y+ca)%4294967296=g at*;generalize 4294967296^n=P at*;rcases hf with rfl|rfl
   . exfalso;simp only[zG1]at k1;omega
   . omega
end Go.Vs.F
set_option maxRecDepth 100000
namespace Go.Vs.F
def qbp {a b:LI} (ha:Lm a) (hb:Lm b):Lm (a++b):=λx hx=>(zH.1 hx).elim (ha x) (hb x)
def qg7 {m:Nat} (hm:2000000<m) {v:LI} (hv:Lm v) {n:Nat} (hn:v.length=n) (h2:2<=n) {v1:Nat} (e1:v.getD (n-1) 0=(v1:Int)) (h1:2147483648<=v1) {k U:Nat} (hk:k+n<=1000000) (t8:Int):
 ∀(j N:Nat) (u q:LI),j<N->j<=k->Lm u->Lm q->u.length=k+n->q.length=k->(∀p,p<j->q.getD p 0=0)->vl (u.drop j)<vl v->vl u+vl v*vl q=U->
  ∃u' q',g126L0 m N q t8 v u (n:Int) ((j:Int)-1)=some (.inl (q',t8,u',(n:Int),()))/\Lm u'/\Lm q'/\u'.length=k+n/\q'.length=k/\vl u'<vl v/\vl u'+vl v*vl q'=U:=by
 intro j;induction j with
 |zero=>
  intro N u q hN hj hu hq hul hql hz hr hs;obtain⟨N,rfl⟩: ∃M,N=M+1:=⟨N-1,O⟩;rw[g126L0,bQ,iN' O];exact⟨u,q,rfl,hu,hq,hul,hql,by rwa [zh1]at hr,hs⟩
 |succ p ih=>
  intro N u q hN hj hu hq hul hql hz hr hs;obtain⟨N,rfl⟩: ∃M,N=M+1:=⟨N-1,O⟩;have hvn:=vl_lt hv;rw[hn]at hvn;have hdu:(u.drop (p+1)).drop n=u.drop (p+(n+1)):=by rw[zO2];congr 1;omega
  have hz0:vl (u.drop (p+(n+1)))=0:=by
   rw[<-hdu];exact q42 (by rw[zl1];omega) O
  obtain⟨x,ex,hx,dx⟩:=hu.get' p;have hwl:((u.drop p).take (n+1)).length=n+1:=by rw[zA1,zl1];omega
  have hw:vl (u.drop p)=vl ((u.drop p).take (n+1)):=by
   have:=Xp (u.drop p) (n+1) (by rw[zl1];omega)
   rw[zO2,hz0,zG1,zU]at this;exact this
  have hwlt:vl ((u.drop p).take (n+1))<vl v*4294967296:=by rw[<-hw,dx];omega
  obtain⟨w,d1,d2,d3,d4⟩:=digit_eq hm ((hu.drop p).take (n+1)) hv hn hwl h2 O e1 h1 hwlt;have hV0:0<vl v:=O;have hd:vl ((u.drop p).take (n+1))/vl v<4294967296:=zN2 hwlt;generalize hd0:vl ((u.drop p).take (n+1))/vl v=d at*;have hdm:vl v*d+vl w=vl ((u.drop p).take (n+1)):=by rw[<-hd0,d4];exact zz1 ..
  have hwr:vl w<vl v:=by rw[d4];exact zm1 _ hV0
  have w0:wI ((p:Int)+(n:Int))=((p+n:Nat):Int):=by rw[wQ,wi O O];omega
  have w1:wI (((p+n:Nat):Int)+1)=((p+n+1:Nat):Int):=wsucc O;have ei:((p+1:Nat):Int)-1=(p:Int):=O;rw[g126L0,ei,bQ,iP O,w0,w1,iP O];simp only[tN,zI];rw[show p+n+1-p=n+1 by omega,iP O,d1,bS]
  dsimp only;rw[iP O,wQ,wi O O];have hu':Lm (u.take p++(w++u.drop (p+(n+1)))):=qbp (hu.take p) (qbp d2 (hu.drop _));have htl:(u.take p).length=p:=by rw[zA1];omega
  have hul':(u.take p++(w++u.drop (p+(n+1)))).length=k+n:=by rw[zL,zL,htl,d3,zl1];omega
  have s1:=q03 (l:=q) (p:=p) (y:=(d:Int)) O;rw[hz p O,Int.toNat_zero,zG1,zU,tN]at s1;have s2:=Xp u p O;rw[hw,<-hdm]at s2
  have s3:vl (u.take p++(w++u.drop (p+(n+1))))=vl (u.take p)+4294967296^p*vl w:=by
   rw[q2d,q2d,hz0,zG1,zU,htl]
  refine ih N _ (q.set p (d:Int)) O O hu' (Jl hq hd) hul' (by rw[zZ];exact hql) (λp' hp'=>by rw[getD_set_ne O];exact hz p' O) ?_ ?_
  . have e:(u.take p++(w++u.drop (p+(n+1)))).drop p=w++u.drop (p+(n+1)):=by
     rw[List.drop_append_of_le_length O,List.drop_of_length_le O,zx1]
    rw[e,q2d,hz0,zG1,zU];exact hwr
  . rw[s3,s1,zT];rw[zT]at s2;have:vl v*(4294967296^p*d)=4294967296^p*(vl v*d):=zt1 ..;omega
end Go.Vs.F
set_option maxRecDepth 100000
namespace Go.Vs.F
def qa8 {m:Nat} (hm:5000000<=m) {A B:Nat} (hB:B≠0) (hA:(lim A).length<=400000) (hBl:(lim B).length<=1000000):
 g126 m (lim A) (lim B)=some ((lim (A/B),lim (A%B),()),(),(),()):=by
 by_cases hsmall:B<4294967296
 . exact qac O O O hsmall
 by_cases cAB:A<B
 . have hc:cmpN A B= -1:=by unfold cmpN;rw[iP cAB]
   rw[g126,q0r O O hBl,bS,bQ];dsimp only;rw[hc,iP O,q4p O,bS,zJ2 cAB,zM1 cAB,Qc]
 . have hLn:(lim B).length<=(lim A).length:=Qi O;have hc: ¬cmpN A B<0:=by unfold cmpN;rw[iN' cAB];split<;>omega
   obtain⟨n,hn⟩: ∃n,n=(lim B).length:=⟨_,rfl⟩;obtain⟨L,hL⟩: ∃L,L=(lim A).length:=⟨_,rfl⟩
   have h2:2<=n:=by
    rcases zE1 n 2 with h|h
    . exfalso;have:=vl_lt (Qk B);rw[Ql,<-hn]at this;have h3:4294967296^n<=4294967296^1:=zQ1 O O;rw[Nat.pow_one]at h3;omega
    . exact h
   obtain⟨t,et,ht,dt⟩:=(Qk B).get' (n-1);have w1:wI ((n:Int)-1)=((n-1:Nat):Int):=by rw[wQ,wi O O];omega
   have hbt:blen t<=32:=q2b O;have w2:wI (32-((blen t:Nat):Int))=((32-blen t:Nat):Int):=by rw[wQ,wi O O];omega
   have hsp:=Xp (lim B) (n-1) O;rw[Ql,dt,show n-1+1=n by omega,Q5 O,zG1,zU]at hsp
   have htk:=Zg (Qk B) (k:=n-1) O;have hlow:=ql9 hB;rw[<-hn]at hlow
   have ht0:t≠0:=by
    intro h0;rw[h0,zG1,zU]at hsp;omega
   have hb1:1<=blen t:=by rw[J6 ht0];omega
   have hlz:g201 m (t:Int)=some (((32-blen t:Nat):Int),(),()):=by
    rw[g201,qe5 ht,bS];dsimp only;rw[w2]
   generalize hs:32-blen t=s at*
   have hs32:s<=31:=O;have hpow:0<2^s:=zZ1 O
   have htlo:2147483648<=t*2^s:=by
    have h3:=qi7 ht0
    calc 2147483648=2^(blen t-1)*2^s:=by rw[<-Nat.pow_add,show blen t-1+s=31 by omega]
     _<=t*2^s:=zK _ h3
   have hthi:(t+1)*2^s<=4294967296:=by
    have:=qbs t
    calc (t+1)*2^s<=2^blen t*2^s:=zK _ O
     _=2^(blen t+s):=(zu1 ..).symm
     _=4294967296:=by rw[show blen t+s=32 by omega]
   have hPn:4294967296^(n-1)*4294967296=4294967296^n:=by rw[<-Nat.pow_succ,show(n-1).succ=n by omega]
   have hsm:B*2^s<4294967296^n:=by
    have h5:B<4294967296^(n-1)*(t+1):=by rw[zT,zX1];omega
    calc B*2^s<4294967296^(n-1)*(t+1)*2^s:=Nat.mul_lt_mul_of_pos_right h5 hpow
     _=4294967296^(n-1)*((t+1)*2^s):=zi ..
     _<=4294967296^(n-1)*4294967296:=zk _ hthi
     _=4294967296^n:=hPn
   have hBs:B<=B*2^s:=Nat.le_mul_of_pos_right _ hpow
   have hvl:(lim (B*2^s)).length=n:=by
    have a1:=Xc hsm;have a2:=Qi hBs;omega
   obtain⟨v1,ev,hv1,dv⟩:=(Qk (B*2^s)).get' (n-1);have hvs:=Xp (lim (B*2^s)) (n-1) O;rw[Ql,dv,show n-1+1=n by omega,Q5 O,zG1,zU]at hvs
   have hvt:=Zg (Qk (B*2^s)) (k:=n-1) O
   have hv1lo:2147483648<=v1:=by
    have a1:4294967296^(n-1)*(t*2^s)<=B*2^s:=by
     rw[<-Nat.mul_assoc];exact zK _ O
    have a2:4294967296^(n-1)*(t*2^s)<4294967296^(n-1)*(v1+1):=by rw[zT _ v1,zX1];omega
    have:=zE2 a2;omega
   obtain⟨k,hk⟩: ∃k,k=L+1-n:=⟨_,rfl⟩;have hAl:=vl_lt (Qk A);rw[Ql,<-hL]at hAl;have h31:2^s<=2147483648:=zn (zQ1 O hs32) (by decide)
   have hA31:A*2^s<4294967296^L*2147483648:=z92 (zk _ h31) (Nat.mul_lt_mul_of_pos_right hAl O)
   have hlenA:(lim (A*2^s)).length<=L+1:=by
    refine Xc (z81 hA31 ?_);rw[zP1];exact zk _ O
   have hA0:0<(lim (A*2^s)).length:=by
    refine List.length_pos_iff.2 λh=> ?_
    have h3:=q1e.1 h;rcases Nat.mul_eq_zero.1 h3 with h|h<;>omega
   obtain⟨R,hR⟩: ∃R,R=(lim (A*2^s)).take (List.replicate (L+1) (0:Int)).length++(List.replicate (L+1) (0:Int)).drop (lim (A*2^s)).length:=⟨_,rfl⟩
   have hR1:R=lim (A*2^s)++List.replicate (L+1-(lim (A*2^s)).length) (0:Int):=by
    rw[hR,zN1,zr1 hlenA,List.drop_replicate]
   have hRl:R.length=k+n:=by rw[hR1,zL,zN1];omega
   have hRL:Lm R:=by rw[hR1];exact qbp (Qk _) Xg
   have hRv:vl R=A*2^s:=by rw[hR1,q2d,Y7,zG1,zU,Ql]
   have hdrop:vl (R.drop k)<vl (lim (B*2^s)):=by
    rw[Ql];have h3:=Xp R k O;rw[hRv]at h3
    have h4:4294967296^k*(B*2^s)>=4294967296^L*2147483648:=by
     have h5:4294967296^(n-1)*2147483648<=B*2^s:=by
      have:=zk (4294967296^(n-1)) hv1lo;omega
     have h6:=zk (4294967296^k) h5;rw[<-Nat.mul_assoc,<-Nat.pow_add,show k+(n-1)=L by omega]at h6
     exact h6
    refine zE2 (a:=4294967296^k) ?_;omega
   obtain⟨u',q',r1,r2,r3,r4,r5,r6,r7⟩:=qg7 (m:=m) O (Qk (B*2^s)) hvl h2 ev hv1lo (k:=k) (U:=A*2^s) O (s:Int) k m R (List.replicate k 0) O (zD _) hRL Xg hRl (by simp) (λp hp=>by simp[List.getD,hp]) hdrop (by rw[Y7,zG1,zU];exact hRv)
   rw[Ql]at r6 r7;have hV0:0<B*2^s:=O
   have hq:vl q'=A/B:=by
    have:vl q'=A*2^s/(B*2^s):=by
     rw[<-r7,zt2,zT3 hV0,zJ2 r6,zU]
    rw[this,Nat.mul_div_mul_right _ _ hpow]
   have hr:vl u'=(A%B)*2^s:=by
    have:vl u'=A*2^s%(B*2^s):=by
     rw[<-r7,zt2,zU3,zM1 r6]
    rw[this,Nat.mul_mod_mul_right]
   have wL:wI ((L:Int)+1)=((L+1:Nat):Int):=wsucc O;have wk:wI (((k+n:Nat):Int)-(n:Int))=(k:Int):=by rw[wQ,wi O O];omega
   have wk1:wI ((k:Int)-1)=(k:Int)-1:=by rw[wQ,wi O O]
   have hup1:=up_eq (m:=m) O (Qk B) O (n:=s) O;have hup2:=up_eq (m:=m) O (Qk A) O (n:=s) O;rw[Ql]at hup1 hup2;rw[g126,q0r O O hBl,bS,bQ];dsimp only;rw[iN' hc,<-hn,<-hL,bif_eq,iN' O,w1,iP O,tN,et,hlz,bS];dsimp only;rw[hup1,bS,wL,iP O,hup2,bS,tN];dsimp only;rw[iP ⟨hA0,by rw[zN1];omega⟩,<-hR,hRl,hvl,wk,iP O,tN,zN1,wk1,r1,bS]
   dsimp only
   have htn:vl (u'.take n)=vl u':=by
    have h3:=Xp u' n O;rw[q42 (l:=u') (k:=n) O O,zG1,zU]at h3;exact h3.symm
   have hlu:(u'.take n).length=n:=by rw[zA1];omega
   rw[iP O,tN,Qx (r2.take n) O O,bS,htn,hr];dsimp only
   rw[qfz O (by
    have:=Zh (r2.take n);rw[htn,hr]at this;omega) O,bS,Qx r3 O O,bS,hq,Nat.mul_div_cancel _ hpow]
end Go.Vs.F
set_option maxRecDepth 100000
namespace Go.Vs.F
end Go.Vs.F
