/-The document's products of big integers and of dyads. Exact division of a big integer by a small one. Lists and matrices of big integers:products,the characteristic polynomial. The characteristic polynomial and the inertia,as the program computes them. The inertia,as the program computes it,is that of any diagonal form. The program's inertia of a symmetric matrix of integers is that of every diagonal form. -/
import Derived.Test.YtkbgfnhdfmmfcaaGreatDoorLd
import Derived.Test.YtkbgfnhdfmmfcaaGreatDoorTa
set_option linter.unusedVariables false
set_option linter.unusedSimpArgs false
set_option maxRecDepth 100000
namespace Go.Vs.F
theorem qkl (m:Nat) {a b:LI} (hb:Lm b) (hl:b.length<=1000000) {i x:Nat} (hia:i<a.length) (hax:a.getD i 0=(x:Int)) (hx:x<4294967296) (hi:i<=1000000): ∀(n j:Nat) (out:LI) (c:Nat),b.length-j<n->j<=b.length->Lm out->i+b.length<out.length->c<4294967296->
 ∃out' c',g131L1 m n a b out (i:Int) (c:Int) (j:Int)=some (.inl (a,b,out',(i:Int),((c':Nat):Int),()))/\Lm out'/\out'.length=out.length/\c'<4294967296/\
  (∀p,i+b.length<=p->out'.getD p 0=out.getD p 0)/\vl out'+4294967296^(i+b.length)*c'=vl out+4294967296^(i+j)*(c+x*vl (b.drop j))
 |0,j,out,c,h,_,_,_,_=>O
 |n+1,j,out,c,h,hj0,ho,hol,hc=>by
  rw[g131L1];by_cases hj:j<b.length
  . have h1:((j:Int)<(b.length:Int)):=O;have c0:(0:Int)<=(i:Int)/\(i:Int)<(a.length:Int):=O;have c1:(0:Int)<=(j:Int)/\(j:Int)<(b.length:Int):=O;obtain⟨y,ey,hy⟩:=hb.get hj
    have w0:wI ((i:Int)+(j:Int))=((i+j:Nat):Int):=by
     rw[wQ,wi O O];omega
    have c2:(0:Int)<=((i+j:Nat):Int)/\((i+j:Nat):Int)<(out.length:Int):=O;obtain⟨z,ez,hz⟩:=ho.get (show i+j<out.length by omega)
    have hm:=qku hx hy;have w1:wJ (x:Int)=(x:Int):=w64n O;have w2:wJ (y:Int)=(y:Int):=w64n O;have w3:wJ (z:Int)=(z:Int):=w64n O;have w4:wJ ((x:Int)*(y:Int))=((x*y:Nat):Int):=by rw[show(x:Int)*(y:Int)=((x*y:Nat):Int) by rw[zd1],w64n O]
    have w5:wJ ((c:Int)+((x*y:Nat):Int))=((c+x*y:Nat):Int):=by rw[show(c:Int)+((x*y:Nat):Int)=((c+x*y:Nat):Int) by rw[zJ2],w64n O]
    have w6:wJ (((c+x*y:Nat):Int)+(z:Int))=((c+x*y+z:Nat):Int):=by rw[show((c+x*y:Nat):Int)+(z:Int)=((c+x*y+z:Nat):Int) by rw[zJ2 (c+x*y)],w64n O]
    have e1:wK ((c+x*y+z:Nat):Int)=(((c+x*y+z)%4294967296:Nat):Int):=w32;have e2:shr_ .u64 ((c+x*y+z:Nat):Int) 32=(((c+x*y+z)/4294967296:Nat):Int):=shr64 (a:=c+x*y+z) (k:=32) O;rw[bQ,iP h1,iP c0,iP c1,w0,iP c2,iP c2,tN,tN,tN,zF,hax,ey,ez,w1,w2,w3,w4,w5,w6,e1,e2,show wI ((j:Int)+1)=((j+1:Nat):Int)from wsucc O]
    have hlen:(out.set (i+j) (((c+x*y+z)%4294967296:Nat):Int)).length=out.length:=zh ..;obtain⟨out',c',g1,g2,g3,g4,g5,g6⟩:=qkl m hb hl hia hax hx hi n (j+1) (out.set (i+j) (((c+x*y+z)%4294967296:Nat):Int)) ((c+x*y+z)/4294967296) O O (q19 ho O) O O;refine⟨out',c',g1,g2,O,g4,fun p hp=> ?_,?_⟩
    . rw[g5 p hp,getD_set_ne O]
    . rw[g6];have hs:=q0t (l:=out) (p:=i+j) (y:=(((c+x*y+z)%4294967296:Nat):Int)) O;rw[ez,tN,tN]at hs;have hd:vl (b.drop j)=y+4294967296*vl (b.drop (j+1)):=by rw[Qw hj,ey,tN]
      rw[hd,show i+(j+1)=i+j+1 by omega,zB1]
      generalize 4294967296^(i+j)=P at*
      generalize vl (b.drop (j+1))=D at*
      generalize vl (out.set (i+j) (((c+x*y+z)%4294967296:Nat):Int))=A at*
      have ht:c+x*y+z=(c+x*y+z)%4294967296+4294967296*((c+x*y+z)/4294967296):=(zE3 _ _).symm;have k1:P*(c+x*y+z)=P*((c+x*y+z)%4294967296)+P*(4294967296*((c+x*y+z)/4294967296)):=by rw[<-Nat.mul_add,<-ht]
      have k2:P*(c+x*y+z)=P*c+P*(x*y)+P*z:=by rw[zO,zO]
      have k3:P*4294967296*((c+x*y+z)/4294967296+x*D)=P*(4294967296*((c+x*y+z)/4294967296))+P*(4294967296*(x*D)):=by rw[zO,zT,zT]
      have k4:P*(c+x*(y+4294967296*D))=P*c+(P*(x*y)+P*(4294967296*(x*D))):=by rw[zO,zO x,zO P (x*y),zQ2 x 4294967296 D]
      rw[k3,k4];omega
  . rw[bQ,iN' O];have:j=b.length:=O;subst this;refine⟨out,c,rfl,ho,rfl,hc,fun _ _=>rfl,?_⟩
    rw[qw (zJ _),zF1,zQ]
theorem qje (m:Nat) {a b:LI} (hm:2000000<m) (ha:Lm a) (hb:Lm b) (hla:a.length<=1000000) (hlb:b.length<=1000000): ∀(n i:Nat) (out:LI),a.length-i<n->i<=a.length->Lm out->out.length=a.length+b.length->(∀p,i+b.length<=p->out.getD p 0=0)->
 ∃out',g131L0 m n a b out (i:Int)=some (.inl (out',()))/\Lm out'/\out'.length=a.length+b.length/\vl out'=vl out+4294967296^i*(vl (a.drop i)*vl b)
 |0,i,out,h,_,_,_,_=>O
 |n+1,i,out,h,hi0,ho,hol,hz=>by
  rw[g131L0];by_cases hi:i<a.length
  . have h1:((i:Int)<(a.length:Int)):=O;obtain⟨x,ex,hx⟩:=ha.get hi;obtain⟨o1,c,g1,g2,g3,g4,g5,g6⟩:=qkl m (a:=a) hb hlb (i:=i) hi ex hx O m 0 out 0 O O ho O O;rw[nZ]at g1
    have w0:wI ((i:Int)+(b.length:Int))=((i+b.length:Nat):Int):=by
     rw[wQ,wi O O];omega
    have c2:(0:Int)<=((i+b.length:Nat):Int)/\((i+b.length:Nat):Int)<(o1.length:Int):=O;have w1:wK (c:Int)=(c:Int):=by rw[w32];congr 1;omega
    rw[bQ,iP h1,g1,bS];dsimp only;rw[w0,iP c2,tN,zF,w1,show wI ((i:Int)+1)=((i+1:Nat):Int)from wsucc O]
    have hs:=q0t (l:=o1) (p:=i+b.length) (y:=(c:Int)) O;rw[g5 _ (zJ _),hz _ (zJ _),tN]at hs
    obtain⟨out',q1,q2,q3,q4⟩:=qje m hm ha hb hla hlb n (i+1) (o1.set (i+b.length) (c:Int)) O O (q19 g2 g4) (by rw[zh];omega) (fun p hp=>by
     rw[getD_set_ne O,g5 p O];exact hz p O)
    refine⟨out',q1,q2,q3,?_⟩;rw[q4,Qw hi,ex,tN,zB1];simp only[zJ3,zF1,zQ,zF,zR1]at hs g6;rw[zP1,zO];have k:4294967296^i*4294967296*(vl (a.drop (i+1))*vl b)=4294967296^i*(4294967296*vl (a.drop (i+1))*vl b):=by rw[zT,zT]
    rw[k];omega
  . rw[bQ,iN' O];refine⟨out,rfl,ho,hol,?_⟩;rw[qw O,zO3,zF1,zQ]
theorem qmc {m:Nat} (hm:4000000<=m) {a b:LI} (ha:Lm a) (hb:Lm b) (hla:a.length<=400000) (hlb:b.length<=400000): ∃out,g131 m a b=some (out,(),(),())/\Lm out/\out.length=a.length+b.length/\vl out=vl a*vl b:=by
 have w:wI ((a.length:Int)+(b.length:Int))=((a.length+b.length:Nat):Int):=by rw[wQ,wi O O];omega
 obtain⟨out,e,q1,q2,q3⟩:=qje m O ha hb O O m 0 (List.replicate (a.length+b.length) 0) O O Qu (by simp) (fun p hp=>by
  by_cases h:p<a.length+b.length
  . rw[Xc h]
  . rw[Yk (by simpa using h)])
 rw[nZ]at e;refine⟨out,?_,q1,q2,?_⟩
 . rw[g131,w,iP O,tN,e];rfl
 . rw[q3,Qy];simp
theorem qp4 {m:Nat} (hm:4000000<=m) {n1 n2:Bool} {l1 l2:LI} (h1:Lm l1) (h2:Lm l2) (hl:l1.length+l2.length<=400000):g64 m n1 l1 n2 l2=some (zB (zv n1 l1*zv n2 l2),(),(),()):=by
 have b1:=Qv h1;have b2:=Qv h2;obtain⟨out,e,q1,q2,q3⟩:=qmc hm (Qa (vl l1)) (Qa (vl l2)) O O;rw[g64,Yb h1 O O,bS,Yb h2 O O,bS];dsimp only;rw[e,bS];dsimp only;rw[Xg O q1 O,bS]
 have:zv (!(n1==n2)) out=zv n1 l1*zv n2 l2:=by
  unfold zv;rw[q3,Q5,Q5];cases n1<;>cases n2<;>simp[zA3,zB4]
 rw[this]
theorem qiz {r x:Nat} (hr:r<4294967296) (hx:x<4294967296):b_or_ .u64 (shl_ .u64 (r:Int) 32) (x:Int)=((r*4294967296+x:Nat):Int):=by
 have e1:shl_ .u64 (r:Int) 32=((r*4294967296:Nat):Int):=by
  have h:=shl64 (a:=r) (k:=32) O (by rw[show(2:Nat)^32=4294967296 by decide];omega)
  rw[show(2:Nat)^32=4294967296 by decide]at h
  exact h
 rw[e1,or64 O O];have:=zU1 (i:=32) (b:=x) O r;rw[zZ,show(4294967296:Nat)=2^32 by decide,<-this]
theorem drop_set_self {l:LI} {i:Nat} {x:Int} (h:i<l.length):(l.set i x).drop i=x::l.drop (i+1):=by
 rw[zF2 (by rw[zh];exact h)]
 congr 1
 . simp
 . rw[List.drop_set];simp
theorem qf9 (m:Nat) {a:LI} (ha:Lm a) (hl:a.length<=1000000) {d:Nat} (hd:0<d) (hd2:d<4294967296): ∀(k n:Nat) (out:LI),k<n->k<=a.length->Lm out->out.length=a.length->vl (out.drop k)=vl (a.drop k)/d->
 ∃out',g294L0 m n a (d:Int) out ((vl (a.drop k)%d:Nat):Int) ((k:Int)-1)=some (.inl (out',((vl a%d:Nat):Int),()))/\Lm out'/\out'.length=a.length/\vl out'=vl a/d
 |0,n+1,out,_,_,h1,h2,h3=>by
  refine⟨out,?_,h1,h2,by simpa using h3⟩
  rw[g294L0,bQ,iN' O,zR1]
 |k+1,n+1,out,hn,hk,h1,h2,h3=>by
  obtain⟨x,ex,hx,hv⟩:=ha.get' k;have hr:vl (a.drop (k+1))%d<d:=z81 _ hd;have w:((k+1:Nat):Int)-1=(k:Int):=O;rw[g294L0,w,bQ,iP O,iP O];have wd:wJ (d:Int)=(d:Int):=w64n O;rw[wd,iP O,iP O,iP O,tN,ex,w64n O,qiz O hx,td,tm]
  have hq:(vl (a.drop (k+1))%d*4294967296+x)/d<4294967296:=by
   rw[zz1 hd];have:(vl (a.drop (k+1))%d+1)*4294967296<=d*4294967296:=zM _ hr;omega
  have wq:wK (wJ (((vl (a.drop (k+1))%d*4294967296+x)/d:Nat):Int))=(((vl (a.drop (k+1))%d*4294967296+x)/d:Nat):Int):=by
   rw[w64n O,w32,zI1 hq]
  rw[wq,zF]
  have e1:vl (a.drop k)=d*(4294967296*(vl (a.drop (k+1))/d))+(vl (a.drop (k+1))%d*4294967296+x):=by
   rw[hv];have:=zF3 (vl (a.drop (k+1))) d;generalize vl (a.drop (k+1))/d=q at*;generalize vl (a.drop (k+1))%d=r at*;rw[<-this,zO,<-Nat.mul_assoc,zZ 4294967296 d,zT];omega
  have e2:vl (a.drop k)/d=4294967296*(vl (a.drop (k+1))/d)+(vl (a.drop (k+1))%d*4294967296+x)/d:=by
   rw[e1,Nat.mul_add_div hd]
  have e3:vl (a.drop k)%d=(vl (a.drop (k+1))%d*4294967296+x)%d:=by
   rw[e1,Nat.mul_add_mod]
  rw[<-e3,wQ,wi O O];refine qf9 m ha hl hd hd2 k n _ O O (q19 h1 hq) (by rw[zh];exact h2) ?_
  rw[drop_set_self O,vl,tN,h3,e2];omega
theorem qnc {m:Nat} (hm:2000000<m) {a:LI} (ha:Lm a) (hl:a.length<=1000000) {d:Nat} (hd:0<d) (hd2:d<4294967296):
 g294 m a (d:Int)=some ((lim (vl a/d),((vl a%d:Nat):Int),()),(),(),()):=by
 rw[g294,iP O,tN,wQ,wi O O];have h0:(a.drop a.length)=[]:=List.drop_length
 obtain⟨out,h1,h2,h3,h4⟩:=qf9 m ha hl hd hd2 a.length m (List.replicate a.length 0) O (zJ _) Qu (zV1 ..) (by
  rw[zj2 (by rw[zV1];exact zJ _),h0]
  show 0=0/d
  rw[zD4])
 rw[h0]at h1
 have e0:((vl ([]:LI)%d:Nat):Int)=0:=by
  show((0%d:Nat):Int)=0
  rw[Nat.zero_mod];rfl
 rw[e0]at h1;rw[h1,bS];dsimp only;rw[X3 h2 O O,bS,h4,w32,zI1 (Nat.lt_trans (z81 _ hd) hd2)]
theorem q6b {d:Nat} (h0:0<d) (h:d<4294967296):lim d=[(d:Int)]:=by
 rw[q0s O,zM2 h,Q8,zI1 h]
theorem qav {m:Nat} (hm:2000000<m) {A d:Nat} (hA:(lim A).length<=1000000) (h0:0<d) (h:d<4294967296):
 g279 m (lim A) (lim d)=some ((lim (A/d),lim (A%d),()),(),(),()):=by
 have hd1:(lim d).length=1:=by rw[q6b h0 h];rfl
 rw[g279,q3y hm hA O,bS,bQ];dsimp only;by_cases c:A<d
 . have hc:cmpN A d= -1:=by unfold cmpN;rw[iP c]
   rw[hc,iP O,qfp O,bS,zM2 c,zI1 c,Q8]
 . have hc: ¬cmpN A d<0:=by unfold cmpN;rw[iN' c];split<;>omega
   rw[iN' hc,hd1,bif_eq,iP (show((1:Nat):Int)=1 from rfl),iP O,q6b h0 h]
   show(g294 m (lim A) (d:Int)).bind _=_
   rw[qnc hm (Qa A) hA h0 h,bS,Q5];dsimp only;have hr:A%d<4294967296:=Nat.lt_trans (z81 _ h0) h;rw[X3 (fun x hx=>by rw[zC.1 hx];omega) (by simp;omega) (by simp),bS]
   show some ((_,lim ((((A%d:Nat):Int)).toNat+4294967296*0),()),_)=_
   rw[tN,zF1,zQ]
theorem qk6 {m:Nat} (hm:2000000<m) {a:Int} {d:Nat} (h0:0<d) (h:d<4294967296) (ha:zlen ((d:Int)*a)<=1000000):
 g289 m (zB ((d:Int)*a)).1 (zB ((d:Int)*a)).2.1 (zB (d:Int)).1 (zB (d:Int)).2.1=some ((zB a,0,()),(),(),()):=by
 have hd1:(lim d).length=1:=by rw[q6b h0 h];rfl
 have hN:((d:Int)*a).natAbs=d*a.natAbs:=by rw[zR2,zW]
 have hb2:(zB (d:Int)).2.1=lim d:=by show lim (d:Int).natAbs=_;rw[zW]
 have ha2:(zB ((d:Int)*a)).2.1=lim (d*a.natAbs):=by show lim _=_;rw[hN]
 have hA:(lim (d*a.natAbs)).length<=1000000:=by rw[<-hN];exact ha
 have hq:(lim a.natAbs).length<=1000000:=zK (Q7 (zT2 _ h0)) hA
 have hs:((zB ((d:Int)*a)).1=true)↔a<0:=by
  show(decide ((d:Int)*a<0)=true)↔_
  rw[decide_eq_true_eq];constructor
  . intro hl;refine Int.not_le.1 fun hn=> ?_
    have:=Int.mul_nonneg (show(0:Int)<=d by omega) hn
    omega
  . intro hl;exact Int.mul_neg_of_pos_of_neg O hl
 have hs2:(zB (d:Int)).1=false:=by show decide ((d:Int)<0)=false;exact decide_eq_false O
 rw[g289,g258,hb2,X3 (Qa d) O O,Q5,bS,hd1,bif_eq,iN' O,ha2,
  X3 (Qa _) O O,Q5,bS]
 dsimp only;rw[qav hm hA h0 h,bS];dsimp only;rw[Nat.mul_div_cancel_left _ h0,Nat.mul_mod_right,Q8,hs2]
 have big: ∀neg:Bool,(neg=true↔a<0)->g221 m neg (lim a.natAbs)=some (zB a,(),(),()):=by
  intro neg hneg;rw[bigN hm O];congr 2;cases neg
  . have: ¬a<0:=fun h=>by have:=hneg.2 h;cases this
    rw[iN' (by decide)];congr 1;omega
  . have:a<0:=hneg.1 rfl;rw[iP rfl];congr 1;omega
 have bigz:g221 m false []=some (zB 0,(),(),()):=by
  have:=bigN hm (n:=0) (by rw[Q8];simp) false
  rw[Q8]at this;exact this
 have z0:(zB 0).2.1=[]:=Q8;cases hc:(zB ((d:Int)*a)).1
 . have hn: ¬a<0:=fun h=>by have:=hs.2 h;rw[hc]at this;cases this
   rw[cond_false,show(!(false==false))=false from rfl,big false (by simp[hn]),bS,bigz,bS,bS]
   dsimp only;rw[z0];rfl
 . have hn:a<0:=hs.1 hc;rw[cond_true,bQ];rw[iN' (show¬((([]:LI).length:Nat):Int)>0 by simp),show(!(true==false))=true from rfl,big true (by simp[hn]),bS,bigz,bS,bS]
   dsimp only;rw[z0];rfl
abbrev Bg:=Bool×LI
def BZ (z:Int):Bg:=((zB z).1,(zB z).2.1)
theorem q5p:BZ 0=(false,[]):=by show(decide ((0:Int)<0),lim 0)=_;rw[Q8];rfl
def mr {α:Type} (n:Nat) (f:Nat->α):List α:=(List.range n).map f
theorem Qb {α:Type} {n:Nat} {f:Nat->α}:(mr n f).length=n:=by unfold mr;rw[zW1,zU2]
theorem Qs {α:Type} {n:Nat} {f:Nat->α} {j:Nat} {d:α} (h:j<n):(mr n f).getD j d=f j:=by
 unfold mr;simp[List.getD,h]
theorem Q9 {α:Type} {n:Nat} {f g:Nat->α} (h: ∀i,i<n->f i=g i):mr n f=mr n g:=
 zW2 fun i hi=>h i (zY1.1 hi)
theorem qj3 {α:Type} {n:Nat} {f:Nat->α} {i:Nat} (h:i<(mr n f).length):(mr n f)[i]=f i:=by simp[mr]
theorem q0g {α:Type} {n:Nat} {f:Nat->α} {j:Nat} {x:α}:(mr n f).set j x=mr n (fun k=>if k=j then x else f k):=by
 apply List.ext_getElem
 . rw[zh,Qb,Qb]
 . intro i h1 h2;rw[zk3,qj3,qj3];by_cases c:j=i
   . rw[iP c,iP c.symm]
   . rw[iN' c,iN' (fun h=>c h.symm)]
theorem Zp {α:Type} {n:Nat} {f:Nat->α}:mr n f++[f n]=mr (n+1) f:=by
 unfold mr;rw[zy3,zn1];rfl
theorem q7x {α:Type} {n:Nat} {x:α}:List.replicate n x=mr n (fun _=>x):=by
 apply List.ext_getElem
 . rw[zV1,Qb]
 . intro i h1 h2;rw[qj3];simp
theorem Jd {α:Type} {f:Nat->α}:mr 0 f=[]:=rfl
def rowB (n:Nat) (f:Nat->Int):List Bg:=mr n fun j=>BZ (f j)
def matB (n:Nat) (M:Nat->Nat->Int):List (List Bg):=mr n fun i=>rowB n (M i)
def zs:Nat->(Nat->Int)->Int
 |0,_=>0
 |k+1,f=>zs k f+f k
theorem q8h {f:Nat->Int} {B:Nat}: ∀{k:Nat},(∀i,i<k->zlen (f i)<=B)->zlen (zs k f)<=B+k
 |0,_=>by show zlen 0<=_;unfold zlen;rw[show(0:Int).natAbs=0 from rfl,Q8];exact zG2 _
 |k+1,h=>by
  have h1:=q8h (k:=k) fun i hi=>h i O
  have h2:=h k O;exact q3q (k:=B+k) h1 O
theorem bAdd {m:Nat} (hm:4000000<=m) {a b:Int} (ha:zlen a<=1000000) (hb:zlen b<=1000000):g224 m (BZ a).1 (BZ a).2 (BZ b).1 (BZ b).2=some (zB (a+b),(),(),()):=by
 have:=qfq (m:=m) O (n1:=(zB a).1) (n2:=(zB b).1) (Sz_zB ha) (Sz_zB hb)
 rwa [zv_zB,zv_zB]at this
theorem bMul {m:Nat} (hm:4000000<=m) {a b:Int} (h:zlen a+zlen b<=1000000):g223 m (BZ a).1 (BZ a).2 (BZ b).1 (BZ b).2=some (zB (a*b),(),(),()):=by
 have:=qro (m:=m) hm (n1:=(zB a).1) (n2:=(zB b).1) (l1:=(zB a).2.1) (l2:=(zB b).2.1) (Qa _) (Qa _) h
 rwa [zv_zB,zv_zB]at this
theorem bNorm {m:Nat} (hm:4000000<=m) {a:Int} (ha:zlen a<=1000000):g229 m (BZ a).1 (BZ a).2=some (zB a,(),()):=by
 have:=qkq (m:=m) O (neg:=(zB a).1) (Sz_zB ha)
 rwa [zv_zB]at this
theorem bNeg {m:Nat} (hm:4000000<=m) {a:Int} (ha:zlen a<=1000000):g212 m (BZ a).1 (BZ a).2=some (zB (-a),(),()):=by
 have:=q82 (m:=m) O (neg:=(zB a).1) (Sz_zB ha)
 rwa [zv_zB]at this
theorem bSign {m:Nat} (hm:4000000<=m) {a:Int} (ha:zlen a<=1000000):g226 m (BZ a).1 (BZ a).2=some (sgn a,(),()):=by
 have:=q2h (m:=m) O (neg:=(zB a).1) (Sz_zB ha)
 rwa [zv_zB]at this
theorem bCmp {m:Nat} (hm:4000000<=m) {a b:Int} (ha:zlen a<=1000000) (hb:zlen b<=1000000):g153 m (BZ a).1 (BZ a).2 (BZ b).1 (BZ b).2=some (cmpZ a b,(),(),()):=by
 have:=qod (m:=m) O (n1:=(zB a).1) (n2:=(zB b).1) (Sz_zB ha) (Sz_zB hb)
 rwa [zv_zB,zv_zB]at this
theorem qi3 {m:Nat} (hm:4000000<=m) {n:Nat} (hn:n<=1000) {A B:Nat->Nat->Int} {i j:Nat} (hi:i<n) (hj:j<n) {e1 e2:Nat} (h1: ∀k,k<n->zlen (A i k)<=e1) (h2: ∀k,k<n->zlen (B k j)<=e2) (he:e1+e2<=900000)
 (out:List (List Bg)) (row l:List Bg) (t13:List (List Bg)) (t14 t15 t20:Int): ∀(N k:Nat),n-k<N->k<=n->
 g288L2 m N (matB n B) out row l (j:Int) (BZ (zs k fun k=>A i k*B k j)).1 (BZ (zs k fun k=>A i k*B k j)).2 t13 t14 t15 t20 (j:Int) (rowB n (A i)) (n:Int) (k:Int)=
  some (.inl (matB n B,out,row,l,zB (zs n fun k=>A i k*B k j),t13,t14,t15,t20,(j:Int),())):=by
 intro N;induction N with
 |zero=>intro k h;omega
 |succ N ih=>
  intro k h hk;have hr:(rowB n (A i)).length=n:=Qb;have hb:(matB n B).length=n:=Qb;rw[g288L2,hr,hb];by_cases c:k<n
  . have e3:(matB n B).getD k []=rowB n (B k):=Qs c;have e4:(rowB n (B k)).length=n:=Qb;have e5:(rowB n (B k)).getD j (false,[])=BZ (B k j):=Qs hj;have e6:(rowB n (A i)).getD k (false,[])=BZ (A i k):=Qs c;have l1:=h1 k c;have l2:=h2 k c;have l3:zlen (A i k*B k j)<=e1+e2:=zK Y5 O;have l4:zlen (zs k fun k=>A i k*B k j)<=e1+e2+k:=q8h fun q hq=>zK Y5 (by have:=h1 q O;have:=h2 q O;omega)
    simp only[tN,e3,e4,e5,e6];rw[bQ,iP O,iP O,iP O,iP O,bMul hm O,bS];dsimp only;rw[show g224 m (BZ (zs k fun k=>A i k*B k j)).1 (BZ (zs k fun k=>A i k*B k j)).2 (zB (A i k*B k j)).1 (zB (A i k*B k j)).2.1=some (zB ((zs k fun k=>A i k*B k j)+A i k*B k j),(),(),())from bAdd hm O O,bS,wQ,wsucc O]
    exact ih (k+1) O O
  . have:k=n:=O;subst this;rw[bQ,iN' O];rfl
theorem qhx {m:Nat} (hm:4000000<=m) {n:Nat} (hn:n<=1000) {A B:Nat->Nat->Int} {i:Nat} (hi:i<n) {e1 e2:Nat} (h1: ∀k,k<n->zlen (A i k)<=e1) (h2: ∀k j,k<n->j<n->zlen (B k j)<=e2) (he:e1+e2<=900000)
 (out:List (List Bg)) (t13:List (List Bg)) (t14 t15:Int): ∀(N j:Nat),n-j<N->j<=n->
 g288L1 m N (matB n B) out (rowB n (A i)) (mr j fun j=>BZ (zs n fun k=>A i k*B k j)) t13 t14 t15 (n:Int) (j:Int)=
  some (.inl (matB n B,out,rowB n (fun j=>zs n fun k=>A i k*B k j),t13,t14,t15,())):=by
 intro N;induction N with
 |zero=>intro k h;omega
 |succ N ih=>
  intro j h hj;rw[g288L1];by_cases c:j<n
  . have hr:(rowB n (A i)).length=n:=Qb;have e0:=qi3 hm hn hi c h1 (fun k hk=>h2 k j hk c) he out (rowB n (A i)) (mr j fun j=>BZ (zs n fun k=>A i k*B k j)) t13 t14 t15 (n:Int) m 0 O O
    rw[show zs 0 (fun k=>A i k*B k j)=0 from rfl,q5p]at e0
    rw[bQ,iP O,hr];rw[show g288L2 m m (matB n B) out (rowB n (A i)) (mr j fun j=>BZ (zs n fun k=>A i k*B k j)) (j:Int) false [] t13 t14 t15 (n:Int) (j:Int) (rowB n (A i)) (n:Int) 0=_ from e0,bS]
    dsimp only;have hl:(mr j fun j=>BZ (zs n fun k=>A i k*B k j)).length=j:=Qb
    rw[hl,iP (by show j+1<=_;omega),wQ,wsucc O]
    have e1:(mr j fun j=>BZ (zs n fun k=>A i k*B k j))++[((zB (zs n fun k=>A i k*B k j)).1,(zB (zs n fun k=>A i k*B k j)).2.1)]=mr (j+1) fun j=>BZ (zs n fun k=>A i k*B k j):=Zp (f:=fun j=>BZ (zs n fun k=>A i k*B k j))
    rw[e1];exact ih (j+1) O O
  . have:j=n:=O;subst this;rw[bQ,iN' O];rfl
def mulZ (n:Nat) (A B:Nat->Nat->Int):Nat->Nat->Int:=fun i j=>zs n fun k=>A i k*B k j
theorem qh3 {m:Nat} (hm:4000000<=m) {n:Nat} (hn:n<=1000) {A B:Nat->Nat->Int} {e1 e2:Nat} (h1: ∀i k,i<n->k<n->zlen (A i k)<=e1) (h2: ∀k j,k<n->j<n->zlen (B k j)<=e2) (he:e1+e2<=900000): ∀(N i:Nat),n-i<N->i<=n->
 g288L0 m N (matB n B) (mr i fun i=>rowB n (mulZ n A B i)) (matB n A) (n:Int) (i:Int)=some (.inl (matB n (mulZ n A B),())):=by
 intro N;induction N with
 |zero=>intro k h;omega
 |succ N ih=>
  intro i h hi;have ha:(matB n A).length=n:=Qb;rw[g288L0,ha];by_cases c:i<n
  . have e3:(matB n A).getD i []=rowB n (A i):=Qs c;have hr:(rowB n (A i)).length=n:=Qb;have e0:=qhx hm hn c (fun k hk=>h1 i k c hk) h2 he (mr i fun i=>rowB n (mulZ n A B i)) (matB n A) (n:Int) (i:Int) m 0 O O
    rw[Jd]at e0;simp only[tN,e3,hr];rw[bQ,iP O,iP O];rw[show g288L1 m m (matB n B) (mr i fun i=>rowB n (mulZ n A B i)) (rowB n (A i)) [] (matB n A) (n:Int) (i:Int) (n:Int) 0=_ from e0,bS]
    dsimp only;have hl:(mr i fun i=>rowB n (mulZ n A B i)).length=i:=Qb
    rw[hl,iP (by show 0<1/\i+1<=_;omega),wQ,wsucc O]
    have e1:(mr i fun i=>rowB n (mulZ n A B i))++[rowB n (fun j=>zs n fun k=>A i k*B k j)]=mr (i+1) fun i=>rowB n (mulZ n A B i):=Zp (f:=fun i=>rowB n (mulZ n A B i))
    rw[e1];exact ih (i+1) O O
  . have:i=n:=O;subst this;rw[bQ,iN' O];rfl
theorem qhc {m:Nat} (hm:4000000<=m) {n:Nat} (hn:n<=1000) {A B:Nat->Nat->Int} {e1 e2:Nat} (h1: ∀i k,i<n->k<n->zlen (A i k)<=e1) (h2: ∀k j,k<n->j<n->zlen (B k j)<=e2) (he:e1+e2<=900000):
 g288 m (matB n A) (matB n B)=some (matB n (mulZ n A B),(),(),()):=by
 have ha:(matB n A).length=n:=Qb;rw[g288,ha];have e0:=qh3 hm hn h1 h2 he m 0 O O;rw[Jd]at e0;rw[show g288L0 m m (matB n B) [] (matB n A) (n:Int) 0=_ from e0,bS]
theorem qqz {m:Nat} (hm:4000000<=m) {n:Nat} (hn:n<=1000) {f:Nat->Int} (h1: ∀k,k<n->zlen (f k)<=1000000) (b:List Bg) (out:List (List Bg)) (i:Int) (t11:List (List Bg)) (t12 t13:Int): ∀(N j:Nat),n-j<N->j<=n->
 g272L1 m N b out i (mr j fun j=>BZ (f j)) t11 t12 t13 (rowB n f) (n:Int) (j:Int)=some (.inl (b,out,i,rowB n f,t11,t12,t13,())):=by
 intro N;induction N with
 |zero=>intro k h;omega
 |succ N ih=>
  intro j h hj;have hr:(rowB n f).length=n:=Qb;rw[g272L1,hr];by_cases c:j<n
  . have e6:(rowB n f).getD j (false,[])=BZ (f j):=Qs c;have hl:(mr j fun j=>BZ (f j)).length=j:=Qb
    simp only[tN,e6,hl];rw[bQ,iP O,iP O,bNorm hm (h1 j c),bS];dsimp only;rw[iP (by show j+1<=_;omega),wQ,wsucc O]
    have e1:(mr j fun j=>BZ (f j))++[((zB (f j)).1,(zB (f j)).2.1)]=mr (j+1) fun j=>BZ (f j):=Zp (f:=fun j=>BZ (f j))
    rw[e1];exact ih (j+1) O O
  . have:j=n:=O;subst this;rw[bQ,iN' O];rfl
theorem qq6 {m:Nat} (hm:4000000<=m) {n:Nat} (hn:n<=1000) {A:Nat->Nat->Int} (h1: ∀i k,i<n->k<n->zlen (A i k)<=1000000): ∀(N i:Nat),n-i<N->i<=n->
 g272L0 m N [] (mr i fun i=>rowB n (A i)) (matB n A) (n:Int) (i:Int)=some (.inl (matB n A,())):=by
 intro N;induction N with
 |zero=>intro k h;omega
 |succ N ih=>
  intro i h hi;have ha:(matB n A).length=n:=Qb;rw[g272L0,ha];by_cases c:i<n
  . have e3:(matB n A).getD i []=rowB n (A i):=Qs c;have hr:(rowB n (A i)).length=n:=Qb;have e0:=qqz hm hn (fun k hk=>h1 i k c hk) [] (mr i fun i=>rowB n (A i)) (i:Int) (matB n A) (n:Int) (i:Int) m 0 O O
    rw[Jd]at e0;simp only[tN,e3,hr];rw[bQ,iP O,iP O];rw[show g272L1 m m [] (mr i fun i=>rowB n (A i)) (i:Int) [] (matB n A) (n:Int) (i:Int) (rowB n (A i)) (n:Int) 0=_ from e0,bS]
    dsimp only;have hl:(mr i fun i=>rowB n (A i)).length=i:=Qb
    rw[bQ,iN' (by show¬((i:Int)<((0:Nat):Int));omega),hl,iP (by show 0<1/\i+1<=_;omega),wQ,wsucc O]
    have e1:(mr i fun i=>rowB n (A i))++[rowB n (A i)]=mr (i+1) fun i=>rowB n (A i):=Zp (f:=fun i=>rowB n (A i))
    rw[e1];exact ih (i+1) O O
  . have:i=n:=O;subst this;rw[bQ,iN' O];rfl
theorem qq8 {m:Nat} (hm:4000000<=m) {n:Nat} (hn:n<=1000) {A:Nat->Nat->Int} (h1: ∀i k,i<n->k<n->zlen (A i k)<=1000000):g272 m (matB n A) []=some (matB n A,(),(),()):=by
 have ha:(matB n A).length=n:=Qb;rw[g272,ha];have e0:=qq6 hm hn h1 m 0 O O;rw[Jd]at e0;rw[show g272L0 m m [] [] (matB n A) (n:Int) 0=_ from e0,bS]
def NN (n:Nat) (M:Nat->Nat->Int) (c:Nat->Int):Nat->Nat->Nat->Int
 |0=>fun _ _=>0
 |k+1=>mulZ n M (fun i j=>NN n M c k i j+if i=j then c k else 0)
theorem qpb {m:Nat} (hm:4000000<=m) {n:Nat} (hn:n<=1000) {P:Nat->Nat->Int} {cc:Int} {k:Nat} (hk1:1<=k) (hk2:k<=n) {pl:List Bg} (hpl:pl.length=n+1) (hpk:pl.getD (n-k+1) (false,[])=BZ cc)
 (h1: ∀i,i<n->zlen (P i i)<=900000) (h2:zlen cc<=900000) (vm:List (List Bg)): ∀(N a:Nat),n-a<N->a<=n->
 g271L2 m N vm (n:Int) pl (matB n fun i j=>P i j+if i=j/\i<a then cc else 0) (k:Int) (n:Int) (a:Int)=some (.inl (vm,(n:Int),pl,matB n (fun i j=>P i j+if i=j then cc else 0),(k:Int),())):=by
 intro N;induction N with
 |zero=>intro k h;omega
 |succ N ih=>
  intro a h ha;have hl:(matB n fun i j=>P i j+if i=j/\i<a then cc else 0).length=n:=Qb
  have w:wI ((wI ((n:Int)-(k:Int)))+1)=((n-k+1:Nat):Int):=by
   rw[wQ,wQ,wi (n:=(n:Int)-(k:Int)) O O,wi O O];omega
  rw[g271L2,hl,hpl,w];by_cases c:a<n
  . have e3:(matB n fun i j=>P i j+if i=j/\i<a then cc else 0).getD a []=rowB n (fun j=>P a j+if a=j/\a<a then cc else 0):=Qs c
    have e4:(rowB n (fun j=>P a j+if a=j/\a<a then cc else 0)).length=n:=Qb
    have e5:(rowB n (fun j=>P a j+if a=j/\a<a then cc else 0)).getD a (false,[])=BZ (P a a):=by
     have:(rowB n (fun j=>P a j+if a=j/\a<a then cc else 0)).getD a (false,[])=BZ (P a a+if a=a/\a<a then cc else 0):=Qs c
     rw[this,iN' O,z03]
    simp only[tN,e3,e4,e5,zF,hpk];rw[bQ,iP O,iP O,iP O,iP O,iP O,bAdd hm (zK (h1 a c) O) O,bS];dsimp only;rw[iP O,wQ,wsucc O]
    have e6:(matB n fun i j=>P i j+if i=j/\i<a then cc else 0).set a ((rowB n (fun j=>P a j+if a=j/\a<a then cc else 0)).set a ((zB (P a a+cc)).1,(zB (P a a+cc)).2.1))=matB n fun i j=>P i j+if i=j/\i<a+1 then cc else 0:=by
     unfold matB rowB;rw[q0g,q0g];refine Q9 fun i hi=> ?_
     by_cases ci:i=a
     . subst ci;rw[iP rfl];refine Q9 fun j hj=> ?_
       dsimp only;by_cases cj:j=i
       . subst cj;rw[iP rfl];have q:(if j=j/\j<j+1 then cc else 0)=cc:=iP ⟨rfl,O⟩
         rw[q];rfl
       . rw[iN' cj,iN' O,iN' O]
     . rw[iN' ci];refine Q9 fun j hj=> ?_
       dsimp only;by_cases cj:i=j/\i<a
       . rw[iP cj,iP O]
       . rw[iN' cj,iN' O]
    rw[e6];exact ih (a+1) O O
  . have:a=n:=O;subst this;rw[bQ,iN' O]
    have:(matB a fun i j=>P i j+if i=j/\i<a then cc else 0)=matB a fun i j=>P i j+if i=j then cc else 0:=by
     refine Q9 fun i hi=>Q9 fun j hj=> ?_
     dsimp only;by_cases cj:i=j
     . rw[iP ⟨cj,hi⟩,iP cj]
     . rw[iN' O,iN' cj]
    rw[this]
theorem qp8 {m:Nat} (hm:4000000<=m) {n:Nat} (hn:n<=1000) {Q:Nat->Nat->Int} (h1: ∀i,i<n->zlen (Q i i)<=900000) (vm:List (List Bg)) (t3:Int) (pl:List Bg) (t7:Int): ∀(N a:Nat),n-a<N->a<=n->
 g271L3 m N vm t3 pl t7 (matB n Q) (BZ (zs a fun i=>Q i i)).1 (BZ (zs a fun i=>Q i i)).2 (n:Int) (a:Int)=some (.inl (vm,t3,pl,t7,matB n Q,zB (zs n fun i=>Q i i),())):=by
 intro N;induction N with
 |zero=>intro k h;omega
 |succ N ih=>
  intro a h ha;have hl:(matB n Q).length=n:=Qb;rw[g271L3,hl];by_cases c:a<n
  . have e3:(matB n Q).getD a []=rowB n (Q a):=Qs c;have e4:(rowB n (Q a)).length=n:=Qb;have e5:(rowB n (Q a)).getD a (false,[])=BZ (Q a a):=Qs c;have l4:zlen (zs a fun i=>Q i i)<=900000+a:=q8h fun q hq=>h1 q O
    have:=h1 a c;simp only[tN,e3,e4,e5];rw[bQ,iP O,iP O,iP O,bAdd hm O O,bS,wQ,wsucc O];exact ih (a+1) O O
  . have:a=n:=O;subst this;rw[bQ,iN' O];rfl
def polyB (n:Nat) (c:Nat->Int) (k:Nat):List Bg:=mr (n+1) fun i=>if n-i<k then BZ (c (n-i))else BZ 0
theorem qpi {m:Nat} (hm:4000000<=m) {n:Nat} (hn:n<=1000) {M:Nat->Nat->Int} {c:Nat->Int} {e:Nat} (he:e<=300000) (h1: ∀i k,i<n->k<n->zlen (M i k)<=e)
 (h2: ∀k,k<=n-> ∀i j,i<n->j<n->zlen (NN n M c k i j)<=300000) (h3: ∀k,k<=n->zlen (c k)<=300000) (ht: ∀k,1<=k->k<=n->(zs n fun i=>NN n M c k i i)=(k:Int)*(-c k)):
 ∀(N k:Nat),n+1-k<N->1<=k->k<=n+1->g271L1 m N (matB n M) (n:Int) (polyB n c k) (matB n (NN n M c (k-1))) (k:Int)=some (.inl (polyB n c (n+1),())):=by
 intro N;induction N with
 |zero=>intro k h;omega
 |succ N ih=>
  intro k h hk1 hk2;rw[g271L1];by_cases cc:k<=n
  . obtain⟨k,rfl⟩: ∃k',k=k'+1:=⟨k-1,O⟩;have hl:(matB n (NN n M c k)).length=n:=Qb;have hpl:(polyB n c (k+1)).length=n+1:=Qb
    have hpk:(polyB n c (k+1)).getD (n-(k+1)+1) (false,[])=BZ (c k):=by
     have:(polyB n c (k+1)).getD (n-(k+1)+1) (false,[])=if n-(n-(k+1)+1)<k+1 then BZ (c (n-(n-(k+1)+1)))else BZ 0:=Qs O
     have q:n-(n-(k+1)+1)=k:=O;rw[this,q,iP O]
    have e0:=qpb hm hn (P:=NN n M c k) (cc:=c k) (k:=k+1) O cc hpl hpk (fun i hi=>zK (h2 k O i i hi hi) O) (zK (h3 k O) O) (matB n M) m 0 O O
    have e00:(matB n fun i j=>NN n M c k i j+if i=j/\i<0 then c k else 0)=matB n (NN n M c k):=Q9 fun i hi=>Q9 fun j hj=>by dsimp only;rw[iN' O,z03]
    rw[e00]at e0;rw[bQ,iP O,Nat.add_sub_cancel,hl];rw[show g271L2 m m (matB n M) (n:Int) (polyB n c (k+1)) (matB n (NN n M c k)) ((k+1:Nat):Int) (n:Int) 0=_ from e0,bS]
    dsimp only
    rw[qhc hm hn h1 (B:=fun i j=>NN n M c k i j+if i=j then c k else 0) (e2:=300001) (fun i j hi hj=>q3q (h2 k O i j hi hj) (by
     by_cases cj:i=j
     . rw[iP cj];exact h3 k O
     . rw[iN' cj];unfold zlen;rw[show(0:Int).natAbs=0 from rfl,Q8];exact zG2 _)) O,bS]
    dsimp only;have eN:mulZ n M (fun i j=>NN n M c k i j+if i=j then c k else 0)=NN n M c (k+1):=rfl
    rw[eN];have hl2:(matB n (NN n M c (k+1))).length=n:=Qb;rw[hl2];have e3:=qp8 hm hn (Q:=NN n M c (k+1)) (fun i hi=>zK (h2 (k+1) cc i i hi hi) O) (matB n M) (n:Int) (polyB n c (k+1)) ((k+1:Nat):Int) m 0 O O
    rw[show zs 0 (fun i=>NN n M c (k+1) i i)=0 from rfl,q5p]at e3
    rw[show g271L3 m m (matB n M) (n:Int) (polyB n c (k+1)) ((k+1:Nat):Int) (matB n (NN n M c (k+1))) false [] (n:Int) 0=_ from e3,bS]
    dsimp only;have htr:=ht (k+1) O cc
    have hlen:zlen (((k+1:Nat):Int)*(-c (k+1)))<=1000000:=by
     rw[<-htr];exact zK (q8h (B:=300000) fun i hi=>h2 (k+1) cc i i hi hi) O
    rw[Zh O O O,bS,htr];dsimp only;rw[qk6 O O O hlen,bS];dsimp only
    have hneg:zlen (-c (k+1))<=1000000:=by
     have:=h3 (k+1) cc;unfold zlen at this⊢;rw[zp1];omega
    rw[show g212 m (zB (-c (k+1))).1 (zB (-c (k+1))).2.1=_ from bNeg hm hneg,bS,Int.neg_neg]
    dsimp only
    have w:wI ((n:Int)-((k+1:Nat):Int))=((n-(k+1):Nat):Int):=by
     rw[wQ,wi O O];omega
    rw[w,hpl,iP O,wQ,wsucc O,tN,zF]
    have e6:(polyB n c (k+1)).set (n-(k+1)) ((zB (c (k+1))).1,(zB (c (k+1))).2.1)=polyB n c (k+1+1):=by
     unfold polyB;rw[q0g];refine Q9 fun i hi=> ?_
     by_cases ci:i=n-(k+1)
     . subst ci;have q:n-(n-(k+1))=k+1:=O;rw[iP rfl,q,iP O];rfl
     . rw[iN' ci];by_cases cj:n-i<k+1
       . rw[iP cj,iP O]
       . rw[iN' cj,iN' O]
    rw[e6];have:=ih (k+1+1) O O O;rw[Nat.add_sub_cancel]at this;exact this
  . have:k=n+1:=O;subst this;rw[bQ,iN' O]
theorem qpc {m:Nat} {n:Nat} (hn:n<=1000) (vm:List (List Bg)) (pl:List Bg): ∀(N a:Nat),n-a<N->a<=n->
 g271L0 m N vm (n:Int) pl (mr n fun i=>if i<a then rowB n (fun _=>0)else []) (n:Int) (a:Int)=some (.inl (vm,(n:Int),pl,matB n (fun _ _=>0),())):=by
 intro N;induction N with
 |zero=>intro k h;omega
 |succ N ih=>
  intro a h ha;have hl:(mr n fun i=>if i<a then rowB n (fun _=>0)else []).length=n:=Qb
  rw[g271L0,hl];by_cases c:a<n
  . rw[bQ,iP O,iP O,iP O,wQ,wsucc O,tN,tN,q0g]
    have e:(mr n fun k=>if k=a then List.replicate n ((false,([]:LI)):Bool×LI)else if k<a then rowB n (fun _=>0)else [])=mr n fun i=>if i<a+1 then rowB n (fun _=>0)else []:=by
     refine Q9 fun i hi=> ?_
     by_cases ci:i=a
     . subst ci;rw[iP rfl,iP O,q7x];exact Q9 fun j hj=>q5p.symm
     . rw[iN' ci];by_cases cj:i<a
       . rw[iP cj,iP O]
       . rw[iN' cj,iN' O]
    rw[e];exact ih (a+1) O O
  . have:a=n:=O;subst this;rw[bQ,iN' O];have:(mr a fun i=>if i<a then rowB a (fun _=>0)else [])=matB a (fun _ _=>0):=Q9 fun i hi=>iP hi
    rw[this]
theorem qpv {m:Nat} (hm:4000000<=m) {n:Nat} (hn:n<=1000) {M:Nat->Nat->Int} {c:Nat->Int} {e:Nat} (he:e<=300000) (h1: ∀i k,i<n->k<n->zlen (M i k)<=e)
 (h2: ∀k,k<=n-> ∀i j,i<n->j<n->zlen (NN n M c k i j)<=300000) (h3: ∀k,k<=n->zlen (c k)<=300000) (h0:c 0=1) (ht: ∀k,1<=k->k<=n->(zs n fun i=>NN n M c k i i)=(k:Int)*(-c k)):
 g271 m (matB n M)=some (polyB n c (n+1),(),()):=by
 have hl:(matB n M).length=n:=Qb;have w:wI ((n:Int)+1)=((n+1:Nat):Int):=by rw[wQ,wsucc O]
 rw[g271,hl,w,iP O,Zh O O O,bS];dsimp only;rw[tN,zV1,iP O,iP O,tN,zV1,zF]
 have e1:(List.replicate (n+1) ((false,([]:LI)):Bool×LI)).set n ((zB 1).1,(zB 1).2.1)=polyB n c 1:=by
  rw[q7x,q0g];refine Q9 fun i hi=> ?_
  by_cases ci:i=n
  . subst ci;rw[iP rfl,iP O,zP3,h0];rfl
  . rw[iN' ci,iN' O,q5p]
 have e2:List.replicate n ([]:List (Bool×LI))=mr n fun i=>if i<0 then rowB n (fun _=>0)else []:=by
  rw[q7x];exact Q9 fun i hi=>(iN' O).symm
 rw[e1,e2];rw[show g271L0 m m (matB n M) (n:Int) (polyB n c 1) (mr n fun i=>if i<0 then rowB n (fun _=>0)else []) (n:Int) 0=_ from qpc hn (matB n M) (polyB n c 1) m 0 O O,bS]
 dsimp only;have e3:=qpi hm hn he h1 h2 h3 ht m 1 O O O;rw[show g271L1 m m (matB n M) (n:Int) (polyB n c 1) (matB n (fun _ _=>0)) 1=_ from e3,bS]
def vsF (p:Nat->Int):Nat->Nat->Int->Nat
 |_,0,_=>0
 |a,k+1,s=>(if sgn (p a)*s<0 then 1 else 0)+vsF p (a+1) k (if sgn (p a)=0 then s else sgn (p a))
theorem sgn3 (z:Int):sgn z= -1\/sgn z=0\/sgn z=1:=by
 unfold sgn;by_cases h:z<0
 . rw[iP h];exact .inl rfl
 . rw[iN' h];by_cases h2:0<z
   . rw[iP h2];exact .inr (.inr rfl)
   . rw[iN' h2];exact .inr (.inl rfl)
theorem qhq {m:Nat} (hm:4000000<=m) {n:Nat} (hn:n<=1000) {p:Nat->Int} (h1: ∀i,i<=n->zlen (p i)<=1000000) (vm:List (List Bg)) (t3:Int): ∀(N a q:Nat) (s:Int),n+1-a<N->a<=n+1->q<=a->(s= -1\/s=0\/s=1)->
 g239L3 m N vm t3 (q:Int) s (mr (n+1) fun i=>BZ (p i)) ((n+1:Nat):Int) (a:Int)=some (.inl (vm,t3,((q+vsF p a (n+1-a) s:Nat):Int),())):=by
 intro N;induction N with
 |zero=>intro a q s h;omega
 |succ N ih=>
  intro a q s h ha hq hs;have hl:(mr (n+1) fun i=>BZ (p i)).length=n+1:=Qb
  rw[g239L3,hl];by_cases c:a<n+1
  . have e5:(mr (n+1) fun i=>BZ (p i)).getD a (false,[])=BZ (p a):=Qs c
    have hk:n+1-a=(n+1-(a+1))+1:=O;simp only[tN,zF,e5];rw[bQ,iP O,iP O,bSign hm (h1 a O),bS,hk,vsF];dsimp only;have g:=sgn3 (p a)
    have w:wI (sgn (p a)*s)=sgn (p a)*s:=by
     rw[wQ];rcases g with g|g|g<;>rcases hs with rfl|rfl|rfl<;>rw[g]<;>decide
    rw[w,bQ,bif_ne,bif_ne,wQ,wsucc (show q<4611686018427387904 by omega),wQ,wsucc (show a<4611686018427387904 by omega)]
    by_cases c1:sgn (p a)*s<0
    . rw[iP c1,iP c1];by_cases c2:sgn (p a)=0
      . rw[iP c2,iP c2,ih (a+1) (q+1) s O O O hs,zq]
      . rw[iN' c2,iN' c2,ih (a+1) (q+1) (sgn (p a)) O O O g,zq]
    . rw[iN' c1,iN' c1,zF];by_cases c2:sgn (p a)=0
      . rw[iP c2,iP c2,ih (a+1) q s O O O hs]
      . rw[iN' c2,iN' c2,ih (a+1) q (sgn (p a)) O O O g]
  . have:a=n+1:=O;subst this;rw[bQ,iN' O,zP3];rfl
theorem qi2 {m:Nat} (hm:4000000<=m) {n:Nat} (hn:n<=1000) {p:Nat->Int} (h1: ∀i,i<=n->zlen (p i)<=1000000) {vm:List (List Bg)} (hv:vm.length=n) (t4:Int) {z:Nat} (hz:z<=n) (hz1: ∀i,i<z->p i=0) (hz2:z<n->p z≠0): ∀(N a:Nat),n-a<N->a<=z->
 g239L2 m N vm (a:Int) t4 (mr (n+1) fun i=>BZ (p i))=some (.inl (vm,(z:Int),t4,(mr (n+1) fun i=>BZ (p i)),())):=by
 intro N;induction N with
 |zero=>intro a h;omega
 |succ N ih=>
  intro a h ha;have hl:(mr (n+1) fun i=>BZ (p i)).length=n+1:=Qb
  rw[g239L2,hl,hv];by_cases c:a<n
  . have e5:(mr (n+1) fun i=>BZ (p i)).getD a (false,[])=BZ (p a):=Qs O
    simp only[tN,zF,e5];rw[bQ,iP O,iP O,bSign hm (h1 a O),bS,bif_eq];dsimp only;by_cases c2:sgn (p a)=0
    . have:a≠z:=by
       rintro rfl
       exact hz2 c (X8.1 c2)
      rw[iP c2,wQ,wsucc O,ih (a+1) O O]
    . have:a=z:=by
       refine Nat.le_antisymm ha (zh1 fun hl=> ?_)
       exact c2 (X8.2 (hz1 a hl))
      subst this;rw[iN' c2]
  . have:a=z:=O;subst this;rw[bQ,iN' O]
theorem qi5 {m:Nat} (hm:4000000<=m) {n:Nat} (hn:n<=1000) {M:Nat->Nat->Int} (h1: ∀i k,i<n->k<n->zlen (M i k)<=1000000) (hs: ∀i k,i<n->k<n->M i k=M k i) {i:Nat} (hi:i<n) (t3 t4:Int) (t20:List (List Bg)) (t21 t22:Int): ∀(N j:Nat),n-j<N->j<=n->
 g239L1 m N (matB n M) t3 t4 (i:Int) t20 t21 t22 (rowB n (M i)) (n:Int) (j:Int)=some (.inr (.inl (matB n M,t3,t4,t20,t21,t22,()))):=by
 intro N;induction N with
 |zero=>intro a h;omega
 |succ N ih=>
  intro j h hj;have hl:(matB n M).length=n:=Qb;have hr:(rowB n (M i)).length=n:=Qb;rw[g239L1,hl,hr];by_cases c:j<n
  . have e3:(matB n M).getD j []=rowB n (M j):=Qs c;have e4:(rowB n (M j)).length=n:=Qb;have e5:(rowB n (M j)).getD i (false,[])=BZ (M j i):=Qs hi;have e6:(rowB n (M i)).getD j (false,[])=BZ (M i j):=Qs c;simp only[tN,e3,e4,e5,e6];rw[bQ,iP O,iP O,iP O,iP O,bCmp hm (h1 i j hi c) (h1 j i c hi),bS,bif_ne];dsimp only;have:cmpZ (M i j) (M j i)=0:=by unfold cmpZ;rw[hs i j hi c,iN' O,iN' O]
    rw[iP this,wQ,wsucc O];exact ih (j+1) O O
  . have:j=n:=O;subst this;rw[bQ,iN' O]
theorem qha {m:Nat} (hm:4000000<=m) {n:Nat} (hn:n<=1000) {M:Nat->Nat->Int} (h1: ∀i k,i<n->k<n->zlen (M i k)<=1000000) (hs: ∀i k,i<n->k<n->M i k=M k i) (t3 t4:Int): ∀(N i:Nat),n-i<N->i<=n->
 g239L0 m N (matB n M) t3 t4 (matB n M) (n:Int) (i:Int)=some (.inr (.inl (matB n M,t3,t4,()))):=by
 intro N;induction N with
 |zero=>intro a h;omega
 |succ N ih=>
  intro i h hi;have hl:(matB n M).length=n:=Qb;rw[g239L0,hl];by_cases c:i<n
  . have e3:(matB n M).getD i []=rowB n (M i):=Qs c;have e4:(rowB n (M i)).length=n:=Qb;simp only[tN,e3,e4];rw[bQ,iP O,iP O];rw[show g239L1 m m (matB n M) t3 t4 (i:Int) (matB n M) (n:Int) (i:Int) (rowB n (M i)) (n:Int) 0=_ from qi5 hm hn h1 hs c t3 t4 (matB n M) (n:Int) (i:Int) m 0 O O,bS]
    dsimp only;rw[wQ,wsucc O];exact ih (i+1) O O
  . have:i=n:=O;subst this;rw[bQ,iN' O]
theorem qlt {m:Nat} {n:Nat} (hn:n<=1000) {M:Nat->Nat->Int}: ∀(N i:Nat),n-i<N->i<=n->
 g303L0 m N (matB n M) ([(n:Int)],0) (n:Int) (i:Int)=some (.inr (.inl ())):=by
 intro N;induction N with
 |zero=>intro a h;omega
 |succ N ih=>
  intro i h hi;have hl:(matB n M).length=n:=Qb;rw[g303L0,hl];by_cases c:i<n
  . have e3:(matB n M).getD i []=rowB n (M i):=Qs c;have e4:(rowB n (M i)).length=n:=Qb;simp only[tN,e3];rw[bQ,iP O,iP O,g299,e4,bS];dsimp only;rw[show([(n:Int)].getD 0 0)=(n:Int)from rfl,bif_ne,iP rfl,wQ,wsucc O]
    exact ih (i+1) O O
  . rw[bQ,iN' O]
theorem qlk {m:Nat} (hm:4000000<=m) {n:Nat} (hn:n<=16) {M:Nat->Nat->Int}:g270 m (matB n M)=some (0,(),()):=by
 have hl:(matB n M).length=n:=Qb
 have hc:g287 m (matB n M)=some ((n:Int),(),()):=by
  rw[g287,hl,bif_eq];by_cases c:n=0
  . subst c;rfl
  . have e3:(matB n M).getD 0 []=rowB n (M 0):=Qs O;have e4:(rowB n (M 0)).length=n:=Qb;rw[iN' O,iP O,e3,e4]
 rw[g270,g286,hc,bS,g298,g303,hl];dsimp only;rw[show g303L0 m m (matB n M) ([(n:Int)],0) (n:Int) 0=_ from qlt O m 0 O O,bS]
 dsimp only;rw[bS,bS];dsimp only;rw[bQ,iN' O,bQ,iN' O,bQ,show([(n:Int)].getD 0 0)=(n:Int)from rfl,iN' O,bS,bif_eq,iP rfl,bS,bif_ne,iP rfl]
theorem qeo {m:Nat} (hm:4000000<=m) {n:Nat} (hn:n<=16) {M:Nat->Nat->Int} {c:Nat->Int} {e:Nat} (he:e<=300000) (h1: ∀i k,i<n->k<n->zlen (M i k)<=e) (hs: ∀i k,i<n->k<n->M i k=M k i)
 (h2: ∀k,k<=n-> ∀i j,i<n->j<n->zlen (NN n M c k i j)<=300000) (h3: ∀k,k<=n->zlen (c k)<=300000) (h0:c 0=1) (ht: ∀k,1<=k->k<=n->(zs n fun i=>NN n M c k i i)=(k:Int)*(-c k))
 {z:Nat} (hz:z<=n) (hz1: ∀i,i<z->c (n-i)=0) (hz2:z<n->c (n-z)≠0) {q:Nat} (hq:vsF (fun i=>c (n-i)) 0 (n+1) 0=q) (hzq:z+q<=n):
 g239 m (matB n M)=some ((((n-z-q:Nat):Int),(z:Int),(q:Int),0,()),(),()):=by
 have hl:(matB n M).length=n:=Qb;have h1': ∀i k,i<n->k<n->zlen (M i k)<=1000000:=fun i k hi hk=>zK (h1 i k hi hk) O
 have hp:polyB n c (n+1)=mr (n+1) fun i=>BZ (c (n-i)):=Q9 fun i hi=>iP O
 have h3': ∀i,i<=n->zlen (c (n-i))<=1000000:=fun i hi=>zK (h3 (n-i) O) O
 rw[g239,qlk hm hn,bS,bif_ne,iP rfl,hl];rw[show g239L0 m m (matB n M) 0 0 (matB n M) (n:Int) 0=_ from qha hm O h1' hs 0 0 m 0 O O,bS]
 dsimp only;rw[qq8 hm O h1',bS];dsimp only;rw[qpv hm O he h1 h2 h3 h0 ht,bS,hp];dsimp only;rw[show g239L2 m m (matB n M) 0 0 (mr (n+1) fun i=>BZ (c (n-i)))=_ from qi2 hm O (p:=fun i=>c (n-i)) h3' hl 0 hz hz1 hz2 m 0 O O,bS]
 dsimp only;have hl2:(mr (n+1) fun i=>BZ (c (n-i))).length=n+1:=Qb
 have e3:=qhq hm O (p:=fun i=>c (n-i)) h3' (matB n M) (z:Int) m 0 0 0 O O O O
 rw[Nat.sub_zero,hq,zF]at e3;rw[hl2,show g239L3 m m (matB n M) (z:Int) 0 0 (mr (n+1) fun i=>BZ (c (n-i))) ((n+1:Nat):Int) 0=_ from e3,bS]
 dsimp only;rw[hl]
 have w:wI ((wI ((n:Int)-(z:Int)))-(q:Int))=((n-z-q:Nat):Int):=by
  rw[wQ,wQ,wi (n:=(n:Int)-(z:Int)) O O,wi O O];omega
 rw[w]
def lst:Int->List Rat->Int
 |s,[]=>s
 |s,x::l=>lst (if sgq x=0 then s else sgq x) l
def fst1:List Rat->Int
 |[]=>0
 |x::l=>if sgq x=0 then fst1 l else sgq x
theorem qr2 {l:List Rat} {x:Rat}: ∀{s:Int},vs s (l++[x])=vs s l+if sgq x*lst s l<0 then 1 else 0:=by
 induction l with
 |nil=>intro s;show(if sgq x*s<0 then 1 else 0)+0=0+_;rw[zQ,zF];rfl
 |cons y l ih=>intro s;rw[zO1,vs,vs,ih,lst,zq]
theorem qlw {l:List Rat} {x:Rat}: ∀{s:Int},lst s (l++[x])=if sgq x=0 then lst s l else sgq x:=by
 induction l with
 |nil=>intro s;rfl
 |cons y l ih=>intro s;rw[zO1,lst,ih,lst]
theorem qqq {l:List Rat}:lst 0 l.reverse=fst1 l:=by
 induction l with
 |nil=>rfl
 |cons x l ih=>rw[List.reverse_cons,qlw,ih,fst1]
theorem qpj {l:List Rat}: ∀{s:Int},vs s l=vs 0 l+if s*fst1 l<0 then 1 else 0:=by
 induction l with
 |nil=>intro s;show 0=0+(if s*0<0 then 1 else 0);rw[zg3,iN' (by decide)]
 |cons x l ih=>
  intro s;rw[vs,vs,fst1];by_cases c:sgq x=0
  . have z: ¬(0:Int)<0:=by decide
    simp only[c,if_true,zK2,z,if_false,zF];exact ih
  . rw[iN' c,iN' c,iN' c,zg3,iN' (show¬(0:Int)<0 by decide),zl2];omega
theorem qrg {l:List Rat}:vs 0 l.reverse=vs 0 l:=by
 induction l with
 |nil=>rfl
 |cons x l ih=>
  rw[List.reverse_cons,qr2,ih,qqq,vs,zg3,iN' (show¬(0:Int)<0 by decide)]
  by_cases c:sgq x=0
  . rw[iP c,c,zK2,iN' (by decide)];omega
  . rw[iN' c,qpj (s:=sgq x)];omega
theorem qmu {m:List Rat} (h: ∀x∈m,x=0): ∀{s:Int},vs s m=0:=by
 induction m with
 |nil=>intro s;rfl
 |cons x m ih=>
  intro s;have hx:sgq x=0:=by rw[h x mS];decide
  rw[vs,hx,iP rfl,zK2,iN' (by decide),ih fun y hy=>h y (mT hy)]
theorem qaw {l m:List Rat} (h: ∀x∈m,x=0): ∀{s:Int},vs s (l++m)=vs s l:=by
 induction l with
 |nil=>intro s;exact qmu h
 |cons x l ih=>intro s;rw[zO1,vs,vs,ih]
theorem qlz (z:Int):sgq (z:Rat)=sgn z:=by
 unfold sgq sgn;by_cases h1:z<0
 . rw[iP (by have:=Rat.intCast_lt_intCast.2 h1;exact this),iP h1]
 . by_cases h2:z=0
   . subst h2;decide
   . have h3:0<z:=O;have h4:(0:Rat)<(z:Rat):=Rat.intCast_lt_intCast.2 h3;rw[iN' (by grind),iN' (by grind),iN' h1,iP h3]
theorem qo2 {p:Nat->Int}: ∀(k a:Nat) (s:Int),vsF p a k s=vs s ((List.range' a k).map fun i=>(p i:Rat))
 |0,_,_=>rfl
 |k+1,a,s=>by rw[vsF,List.range'_succ,zg1,vs,qlz,qo2 k]
theorem qd3 {f:Nat->Int}: ∀k:Nat,((zs k f:Int):Rat)=sm (List.range k) (fun i=>(f i:Rat))
 |0=>rfl
 |k+1=>by
  rw[zs,zy3,qrq,Rat.intCast_add,qd3 k,qy,sm_nil];grind
section
variable {n:Nat} {M:Nat->Nat->Int} {c:Nat->Int}
def qM (M:Nat->Nat->Int):Nat->Nat->Rat:=fun i j=>(M i j:Rat)
def FF (n:Nat) (M:Nat->Nat->Int) (i j t:Nat):Rat:=if t=0 then 0 else mp (List.range n) (qM M) t i j
theorem qpu: ∀(k i j:Nat),i<n->j<n->((NN n M c k i j:Int):Rat)=cv (fun t=>(c t:Rat)) (FF n M i j) k:=by
 intro k;induction k with
 |zero=>intro i j _ _;rw[X4];show(0:Rat)=0*_;grind
 |succ k ih=>
  intro i j hi hj
  have e1:((NN n M c (k+1) i j:Int):Rat)=sm (List.range n) (fun l=>(M i l:Rat)*(cv (fun t=>(c t:Rat)) (FF n M l j) k+(if l=j then 1 else 0)*(c k:Rat))):=by
   show((zs n (fun l=>M i l*(NN n M c k l j+if l=j then c k else 0)):Int):Rat)=_
   rw[qd3];refine qj fun l hl=> ?_
   have hl':=zY1.1 hl;rw[zC2,Rat.intCast_add,ih l j hl' hj];by_cases d:l=j
   . rw[iP d,iP d];grind
   . rw[iN' d,iN' d,zQ3];grind
  have e2:(fun t=>FF n M i j (t+1))=fun t=>sm (List.range n) (fun l=>(M i l:Rat)*(fun t=>FF n M l j t+(if l=j then 1 else 0)*dl0 t) t):=by
   funext t
   show(if t+1=0 then 0 else mp (List.range n) (qM M) (t+1) i j)=_
   rw[iN' O,q07];refine qj fun l _=> ?_
   show(M i l:Rat)*mp (List.range n) (qM M) t l j=(M i l:Rat)*((if t=0 then 0 else mp (List.range n) (qM M) t l j)+(if l=j then 1 else 0)*(if t=0 then 1 else 0))
   by_cases d:t=0
   . subst d;rw[J7,iP rfl,iP rfl];grind
   . rw[iN' d,iN' d];grind
  rw[e1,Qj,e2,<-Zo (F:=fun l t=>FF n M l j t+(if l=j then 1 else 0)*dl0 t)]
  have e3:FF n M i j 0=0:=rfl;rw[e3]
  have e4: ∀l∈List.range n,(M i l:Rat)*(cv (fun t=>(c t:Rat)) (FF n M l j) k+(if l=j then 1 else 0)*(c k:Rat))=(M i l:Rat)*cv (fun t=>(c t:Rat)) (fun t=>FF n M l j t+(if l=j then 1 else 0)*dl0 t) k:=by
   intro l _;rw[Ym,Y9,qke]
  rw[qj e4];grind
theorem NN_tr (hc:NW (sp (List.range n) (qM M)) (fun t=>(c t:Rat))) (k:Nat):(zs n fun i=>NN n M c k i i)=(k:Int)*(-c k):=by
 have e1:(((zs n fun i=>NN n M c k i i):Int):Rat)=cv (fun t=>(c t:Rat)) (sp (List.range n) (qM M)) k:=by
  rw[qd3,qj fun i hi=>qpu k i i (zY1.1 hi) (zY1.1 hi),<-qf0 (F:=fun i t=>FF n M i i t)]
  refine qfu (fun t _=> ?_) (fun _ _=>rfl)
  unfold sp FF tr;by_cases d:t=0
  . simp only[d,if_true];exact q5s
  . simp only[d,if_false]
 have e2:=hc.2 k
 have e3:(((zs n fun i=>NN n M c k i i):Int):Rat)=(((k:Int)*(-c k):Int):Rat):=by
  rw[e1,zC2,Rat.intCast_neg,Rat.intCast_natCast];grind
 exact zV3.1 e3
end
theorem qbf:zlen 0=0:=by unfold zlen;rw[show(0:Int).natAbs=0 from rfl,Q8];rfl
theorem qme {z:Int}:zlen (-z)=zlen z:=by unfold zlen;rw[zp1]
theorem qdh {k:Nat} {z:Int} (hk:1<=k):zlen z<=zlen ((k:Int)*z):=by
 unfold zlen;refine Q7 ?_;rw[zR2,zW];exact zT2 _ hk
theorem qmq {n:Nat} (hn:n<=16) {M:Nat->Nat->Int} {c:Nat->Int} {e:Nat} (h1: ∀i k,i<n->k<n->zlen (M i k)<=e) (h0:c 0=1) (ht: ∀k,(zs n fun i=>NN n M c k i i)=(k:Int)*(-c k)):
 ∀k,k<=n->(∀i j,i<n->j<n->zlen (NN n M c k i j)<=k*(e+40))/\zlen (c k)<=k*(e+40)+17:=by
 intro k;induction k with
 |zero=>
  intro _;refine⟨fun i j _ _=>by rw[show NN n M c 0 i j=0 from rfl,qbf];exact zG2 _,?_⟩
  rw[h0];have:zlen 1<=1:=q7f (k:=1) (by decide)
  omega
 |succ k ih=>
  intro hk;obtain⟨i1,i2⟩:=ih O;have e0:(k+1)*(e+40)=k*(e+40)+e+40:=by rw[zP1,zo2];omega
  have key: ∀i j,i<n->j<n->zlen (NN n M c (k+1) i j)<=(k+1)*(e+40):=by
   intro i j hi hj;show zlen (zs n fun l=>M i l*(NN n M c k l j+if l=j then c k else 0))<=_
   have:zlen (zs n fun l=>M i l*(NN n M c k l j+if l=j then c k else 0))<=(e+(k*(e+40)+18))+n:=q8h fun l hl=>by
    refine zK Y5 (Nat.add_le_add (h1 i l hi hl) (q3q (k:=k*(e+40)+17) (zK (i1 l j hl hj) O) ?_));by_cases d:l=j
    . rw[iP d];exact i2
    . rw[iN' d,qbf];exact zG2 _
   omega
  refine⟨key,?_⟩
  have h3:zlen (c (k+1))<=zlen (((k+1:Nat):Int)*(-c (k+1))):=by
   rw[<-qme (z:=c (k+1))];exact qdh O
  rw[<-ht (k+1)]at h3;have h4:zlen (zs n fun i=>NN n M c (k+1) i i)<=(k+1)*(e+40)+n:=q8h fun i hi=>key i i hi hi
  omega
theorem qi4 {m:Nat} (hm:4000000<=m) {n:Nat} (hn:n<=16) {M:Nat->Nat->Int} {e:Nat} (he:e<=10000) (h1: ∀i k,i<n->k<n->zlen (M i k)<=e) (hs: ∀i k,i<n->k<n->M i k=M k i)
 {V:Nat->Nat->Rat} {b:Nat->Rat} (hd:Dg (List.range n) (qM M) V b):
 g239 m (matB n M)=some ((((npos (List.range n) (fun i=> -b i):Nat):Int),((n-(npos (List.range n) b+npos (List.range n) (fun i=> -b i)):Nat):Int),((npos (List.range n) b:Nat):Int),0,()),(),()):=by
 obtain⟨f,hf,hz⟩:=qry (A:=qM M) (fun i j=>⟨M i j,rfl⟩) (List.range n) List.nodup_range
 let c:Nat->Int:=fun k=>Classical.choose (hz k)
 have hcf:(fun t=>(c t:Rat))=f:=by funext t;exact(z01 (hz t)).symm
 have hc:NW (sp (List.range n) (qM M)) (fun t=>(c t:Rat)):=by rw[hcf];exact hf
 have hc0:c 0=1:=by
  have:(c 0:Rat)=1:=hc.1;exact zV3.1 (this.trans Rat.intCast_one.symm)
 have ht:=NN_tr hc;have hsz:=qmq hn h1 hc0 ht;obtain⟨d1,d2,d3⟩:=qk5 List.nodup_range (fun i hi j hj=>by show(M i j:Rat)=(M j i:Rat);rw[hs i j (zY1.1 hi) (zY1.1 hj)]) hd hc
 have hle:=q96 (L:=List.range n) (b:=b);rw[zU2]at hle d1;generalize hpi:npos (List.range n) b=π at*;generalize hnu:npos (List.range n) (fun i=> -b i)=ν at*
 have bd: ∀k,k<=n->k*(e+40)<=160640:=fun k hk=>zK (zd3 (show k<=16 by omega) (show e+40<=10040 by omega)) (by decide)
 have hq:vsF (fun i=>c (n-i)) 0 (n+1) 0=π:=by
  rw[qo2]
  have e1:((List.range' 0 (n+1)).map fun i=>((c (n-i):Int):Rat))=((1:Rat)::cs (fun t=>(c t:Rat)) n).reverse:=by
   apply List.ext_getElem
   . rw[zW1,List.length_range',List.length_reverse,zy,q76]
   . intro i hi1 hi2;rw[List.getElem_reverse];have hi:i<n+1:=by rw[zW1,List.length_range']at hi1;exact hi1
     simp only[zc1,List.getElem_range',zy,q76];rw[zF,zo2];by_cases ci:i=n
     . subst ci;simp[hc0]
     . obtain⟨j,hj⟩: ∃j,n-i=j+1:=⟨n-i-1,O⟩;have:n+1-1-i=j+1:=O;simp only[this,zV2,hj];simp[cs]
  rw[e1,qrg];have e2:sgq (1:Rat)=1:=by decide
  rw[vs,e2,zg3,iN' (by decide),zF,iN' (by decide)]
  obtain⟨l,hl⟩: ∃l,cs (fun t=>(c t:Rat)) n=cs (fun t=>(c t:Rat)) (π+ν)++l/\ ∀x∈l,x=0:=by
   have hsplit:n=(π+ν)+(n-(π+ν)):=O;refine⟨(List.range (n-(π+ν))).map fun i=>(c (π+ν+i+1):Rat),?_,?_⟩
   . unfold cs;conv=>lhs;rw[hsplit]
     rw[List.range_add,zn1,zh3];rfl
   . intro x hx;obtain⟨i,hi,rfl⟩:=zX.1 hx;have:=zY1.1 hi;exact d1 (π+ν+i+1) O O
  rw[hl.1,qaw hl.2,d3]
 have hraw:=qeo hm hn (c:=c) (e:=e) O h1 hs (fun k hk i j hi hj=>zK ((hsz k hk).1 i j hi hj) (zK (bd k hk) O)) (fun k hk=>zK (hsz k hk).2 (by have:=bd k hk;omega)) hc0 (fun k _ _=>ht k)
  (z:=n-(π+ν)) O (fun i hi=>by
    have:=d1 (n-i) O O;exact zV3.1 (this.trans zQ3.symm)) (fun hlt h=>by
    have e1:n-(n-(π+ν))=π+ν:=O;rw[e1]at h;exact d2 (by show(c (π+ν):Rat)=0;rw[h];exact zQ3)) hq O
 rw[hraw];congr 4;omega
end Go.Vs.F
