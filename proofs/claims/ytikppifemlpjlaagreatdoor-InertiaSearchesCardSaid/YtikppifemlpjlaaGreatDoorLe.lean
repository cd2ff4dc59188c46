import Derived.Test.YtikppifemlpjlaaGreatDoorLd
import Derived.Test.YtikppifemlpjlaaGreatDoorTa
set_option linter.unusedVariables false
set_option linter.unusedSimpArgs false
set_option maxRecDepth 100000
set_option linter.defProp false
namespace Go.Vs.F
def qfm (m:Nat) {a b:LI} (hb:Lm b) (hl:b.length<=1000000) {i x:Nat} (hia:i<a.length) (hax:a.getD i 0=(x:Int)) (hx:x<4294967296) (hi:i<=1000000): ∀(n j:Nat) (out:LI) (c:Nat),b.length-j<n->j<=b.length->Lm out->i+b.length<out.length->c<4294967296->
 ∃out' c',g165L1 m n a b out (i:Int) (c:Int) (j:Int)=some (.inl (a,b,out',(i:Int),((c':Nat):Int),()))/\Lm out'/\out'.length=out.length/\c'<4294967296/\
  (∀p,i+b.length<=p->out'.getD p 0=out.getD p 0)/\vl out'+4294967296^(i+b.length)*c'=vl out+4294967296^(i+j)*(c+x*vl (b.drop j))
 |0,j,out,c,h,_,_,_,_=>O
 |n+1,j,out,c,h,hj0,ho,hol,hc=>by
  rw[g165L1];by_cases hj:j<b.length
  . have h1:((j:Int)<(b.length:Int)):=O;have c0:(0:Int)<=(i:Int)/\(i:Int)<(a.length:Int):=O;have c1:(0:Int)<=(j:Int)/\(j:Int)<(b.length:Int):=O;obtain⟨y,ey,hy⟩:=hb.get hj
    have w0:wI ((i:Int)+(j:Int))=((i+j:Nat):Int):=by
     rw[wQ,wi O O];omega
    have c2:(0:Int)<=((i+j:Nat):Int)/\((i+j:Nat):Int)<(out.length:Int):=O;obtain⟨z,ez,hz⟩:=ho.get (show i+j<out.length by omega)
    have hm:=qh9 hx hy;have w1:wJ (x:Int)=(x:Int):=w64n O;have w2:wJ (y:Int)=(y:Int):=w64n O;have w3:wJ (z:Int)=(z:Int):=w64n O;have w4:wJ ((x:Int)*(y:Int))=((x*y:Nat):Int):=by rw[show(x:Int)*(y:Int)=((x*y:Nat):Int) by rw[zb1],w64n O]
    have w5:wJ ((c:Int)+((x*y:Nat):Int))=((c+x*y:Nat):Int):=by rw[show(c:Int)+((x*y:Nat):Int)=((c+x*y:Nat):Int) by rw[zg1],w64n O]
    have w6:wJ (((c+x*y:Nat):Int)+(z:Int))=((c+x*y+z:Nat):Int):=by rw[show((c+x*y:Nat):Int)+(z:Int)=((c+x*y+z:Nat):Int) by rw[zg1 (c+x*y)],w64n O]
    have e1:wK ((c+x*y+z:Nat):Int)=(((c+x*y+z)%4294967296:Nat):Int):=w32;have e2:shr_ .u64 ((c+x*y+z:Nat):Int) 32=(((c+x*y+z)/4294967296:Nat):Int):=shr64 (a:=c+x*y+z) (k:=32) O;rw[bQ,iP h1,iP c0,iP c1,w0,iP c2,iP c2,tN,tN,tN,zF,hax,ey,ez,w1,w2,w3,w4,w5,w6,e1,e2,show wI ((j:Int)+1)=((j+1:Nat):Int)from wsucc O]
    have hlen:(out.set (i+j) (((c+x*y+z)%4294967296:Nat):Int)).length=out.length:=zB1 ..;obtain⟨out',c',g1,g2,g3,g4,g5,g6⟩:=qfm m hb hl hia hax hx hi n (j+1) (out.set (i+j) (((c+x*y+z)%4294967296:Nat):Int)) ((c+x*y+z)/4294967296) O O (Yq ho O) O O;refine⟨out',c',g1,g2,O,g4,λp hp=> ?_,?_⟩
    . rw[g5 p hp,getD_set_ne O]
    . rw[g6];have hs:=Yv (l:=out) (p:=i+j) (y:=(((c+x*y+z)%4294967296:Nat):Int)) O;rw[ez,tN,tN]at hs;have hd:vl (b.drop j)=y+4294967296*vl (b.drop (j+1)):=by rw[Qw hj,ey,tN]
      rw[hd,show i+(j+1)=i+j+1 by omega,zq]
      generalize 4294967296^(i+j)=P at*
      generalize vl (b.drop (j+1))=D at*
      generalize vl (out.set (i+j) (((c+x*y+z)%4294967296:Nat):Int))=A at*
      have ht:c+x*y+z=(c+x*y+z)%4294967296+4294967296*((c+x*y+z)/4294967296):=(zU3 _ _).symm;have k1:P*(c+x*y+z)=P*((c+x*y+z)%4294967296)+P*(4294967296*((c+x*y+z)/4294967296)):=by rw[<-Nat.mul_add,<-ht]
      have k2:P*(c+x*y+z)=P*c+P*(x*y)+P*z:=by rw[zG,zG]
      have k3:P*4294967296*((c+x*y+z)/4294967296+x*D)=P*(4294967296*((c+x*y+z)/4294967296))+P*(4294967296*(x*D)):=by rw[zG,zS,zS]
      have k4:P*(c+x*(y+4294967296*D))=P*c+(P*(x*y)+P*(4294967296*(x*D))):=by rw[zG,zG x,zG P (x*y),zY1 x 4294967296 D]
      rw[k3,k4];omega
  . rw[bQ,iN' O];have:j=b.length:=O;subst this;refine⟨out,c,rfl,ho,rfl,hc,λ_ _=>rfl,?_⟩
    rw[qm (zH _),zf,zM]
def qi9 (m:Nat) {a b:LI} (hm:2000000<m) (ha:Lm a) (hb:Lm b) (hla:a.length<=1000000) (hlb:b.length<=1000000): ∀(n i:Nat) (out:LI),a.length-i<n->i<=a.length->Lm out->out.length=a.length+b.length->(∀p,i+b.length<=p->out.getD p 0=0)->
 ∃out',g165L0 m n a b out (i:Int)=some (.inl (out',()))/\Lm out'/\out'.length=a.length+b.length/\vl out'=vl out+4294967296^i*(vl (a.drop i)*vl b)
 |0,i,out,h,_,_,_,_=>O
 |n+1,i,out,h,hi0,ho,hol,hz=>by
  rw[g165L0];by_cases hi:i<a.length
  . have h1:((i:Int)<(a.length:Int)):=O;obtain⟨x,ex,hx⟩:=ha.get hi;obtain⟨o1,c,g1,g2,g3,g4,g5,g6⟩:=qfm m (a:=a) hb hlb (i:=i) hi ex hx O m 0 out 0 O O ho O O;rw[nZ]at g1
    have w0:wI ((i:Int)+(b.length:Int))=((i+b.length:Nat):Int):=by
     rw[wQ,wi O O];omega
    have c2:(0:Int)<=((i+b.length:Nat):Int)/\((i+b.length:Nat):Int)<(o1.length:Int):=O;have w1:wK (c:Int)=(c:Int):=by rw[w32];congr 1;omega
    rw[bQ,iP h1,g1,bS];dsimp only;rw[w0,iP c2,tN,zF,w1,show wI ((i:Int)+1)=((i+1:Nat):Int)from wsucc O]
    have hs:=Yv (l:=o1) (p:=i+b.length) (y:=(c:Int)) O;rw[g5 _ (zH _),hz _ (zH _),tN]at hs
    obtain⟨out',q1,q2,q3,q4⟩:=qi9 m hm ha hb hla hlb n (i+1) (o1.set (i+b.length) (c:Int)) O O (Yq g2 g4) (by rw[zB1];omega) (λp hp=>by
     rw[getD_set_ne O,g5 p O];exact hz p O)
    refine⟨out',q1,q2,q3,?_⟩;rw[q4,Qw hi,ex,tN,zq];simp only[za3,zf,zM,zF,zV1]at hs g6;rw[zM1,zG];have k:4294967296^i*4294967296*(vl (a.drop (i+1))*vl b)=4294967296^i*(4294967296*vl (a.drop (i+1))*vl b):=by rw[zS,zS]
    rw[k];omega
  . rw[bQ,iN' O];refine⟨out,rfl,ho,hol,?_⟩;rw[qm O,zK4,zf,zM]
def qjz {m:Nat} (hm:4000000<=m) {a b:LI} (ha:Lm a) (hb:Lm b) (hla:a.length<=400000) (hlb:b.length<=400000): ∃out,g165 m a b=some (out,(),(),())/\Lm out/\out.length=a.length+b.length/\vl out=vl a*vl b:=by
 have w:wI (↑a.length+↑b.length)=↑(a.length+b.length):=by rw[wQ,wi O O];omega
 obtain⟨out,e,q1,q2,q3⟩:=qi9 m O ha hb O O m 0 (List.replicate (a.length+b.length) 0) O O Qh sM (λp hp=>by
  by_cases h:p<a.length+b.length
  . rw[Xb h]
  . rw[Yb (by simpa using h)])
 rw[nZ]at e;refine⟨out,?_,q1,q2,?_⟩
 . rw[g165,w,iP O,tN,e];rfl
 . rw[q3,Qm];simp
def qmd {m:Nat} (hm:4000000<=m) {n1 n2:Bool} {l1 l2:LI} (h1:Lm l1) (h2:Lm l2) (hl:l1.length+l2.length<=400000):g120 m n1 l1 n2 l2=some (zB (zv n1 l1*zv n2 l2),(),(),()):=by
 have b1:=Qr h1;have b2:=Qr h2;have⟨out,e,q1,q2,q3⟩:=qjz hm (qy (vl l1)) (qy (vl l2)) O O;rw[g120,Y4 h1 O O,bS,Y4 h2 O O,bS];dsimp only;rw[e,bS];dsimp only;rw[Xh O q1 O,bS]
 have:zv (!(n1==n2)) out=zv n1 l1*zv n2 l2:=by
  unfold zv;rw[q3,qw,qw];cases n1<;>cases n2<;>simp[zH3,zO4]
 rw[this]
def qgp {r x:Nat} (hr:r<4294967296) (hx:x<4294967296):b_or_ .u64 (shl_ .u64 (r:Int) 32) (x:Int)=((r*4294967296+x:Nat):Int):=by
 have e1:shl_ .u64 ↑r 32=↑(r*4294967296):=by
  have h:=shl64 (a:=r) (k:=32) O (by rw[show(2:Nat)^32=4294967296 by decide];omega)
  rw[show(2:Nat)^32=4294967296 by decide]at h
  exact h
 rw[e1,or64 O O];have:=zv1 (i:=32) (b:=x) O r;rw[zh,show(4294967296:Nat)=2^32 by decide,<-this]
def drop_set_self {l:LI} {i:Nat} {x:Int} (h:i<l.length):(l.set i x).drop i=x::l.drop (i+1):=by
 rw[zg2 (by rw[zB1];exact h)]
 congr 1
 . simp
 . rw[List.drop_set];simp
def qe7 (m:Nat) {a:LI} (ha:Lm a) (hl:a.length<=1000000) {d:Nat} (hd:0<d) (hd2:d<4294967296): ∀(k n:Nat) (out:LI),k<n->k<=a.length->Lm out->out.length=a.length->vl (out.drop k)=vl (a.drop k)/d->
 ∃out',g207L0 m n a ↑d out ↑(vl (a.drop k)%d) (↑k-1)=some (.inl (out',↑(vl a%d),()))/\Lm out'/\out'.length=a.length/\vl out'=vl a/d
 |0,n+1,out,_,_,h1,h2,h3=>by
  refine⟨out,?_,h1,h2,by simpa using h3⟩
  rw[g207L0,bQ,iN' O,zV1]
 |k+1,n+1,out,hn,hk,h1,h2,h3=>by
  obtain⟨x,ex,hx,hv⟩:=ha.get' k;have hr:vl (a.drop (k+1))%d<d:=zX1 _ hd;have w:((k+1:Nat):Int)-1=(k:Int):=O;rw[g207L0,w,bQ,iP O,iP O];have wd:wJ (d:Int)=(d:Int):=w64n O;rw[wd,iP O,iP O,iP O,tN,ex,w64n O,qgp O hx,td,tm]
  have hq:(vl (a.drop (k+1))%d*4294967296+x)/d<4294967296:=by
   rw[zH2 hd];have:(vl (a.drop (k+1))%d+1)*4294967296<=d*4294967296:=zQ _ hr;omega
  have wq:wK (wJ ↑((vl (a.drop (k+1))%d*4294967296+x)/d))=↑((vl (a.drop (k+1))%d*4294967296+x)/d):=by
   rw[w64n O,w32,zx hq]
  rw[wq,zF]
  have e1:vl (a.drop k)=d*(4294967296*(vl (a.drop (k+1))/d))+(vl (a.drop (k+1))%d*4294967296+x):=by
   rw[hv];have:=zo1 (vl (a.drop (k+1))) d;generalize vl (a.drop (k+1))/d=q at*;generalize vl (a.drop (k+1))%d=r at*;rw[<-this,zG,<-Nat.mul_assoc,zh 4294967296 d,zS];omega
  have e2:vl (a.drop k)/d=4294967296*(vl (a.drop (k+1))/d)+(vl (a.drop (k+1))%d*4294967296+x)/d:=by
   rw[e1,Nat.mul_add_div hd]
  have e3:vl (a.drop k)%d=(vl (a.drop (k+1))%d*4294967296+x)%d:=by
   rw[e1,zE4]
  rw[<-e3,wQ,wi O O];refine qe7 m ha hl hd hd2 k n _ O O (Yq h1 hq) (by rw[zB1];exact h2) ?_
  rw[drop_set_self O,vl,tN,h3,e2];omega
def qjj {m:Nat} (hm:2000000<m) {a:LI} (ha:Lm a) (hl:a.length<=1000000) {d:Nat} (hd:0<d) (hd2:d<4294967296):
 g207 m a (d:Int)=some ((lim (vl a/d),((vl a%d:Nat):Int),()),(),(),()):=by
 rw[g207,iP O,tN,wQ,wi O O];have h0:(a.drop a.length)=[]:=List.drop_length
 obtain⟨out,h1,h2,h3,h4⟩:=qe7 m ha hl hd hd2 a.length m (List.replicate a.length 0) O (zH _) Qh (zO1 ..) (by
  rw[zw2 (by rw[zO1];exact zH _),h0]
  show 0=0/d
  rw[zL4])
 rw[h0]at h1
 have e0:((vl ([]:LI)%d:Nat):Int)=0:=by
  show((0%d:Nat):Int)=0
  rw[Nat.zero_mod];rfl
 rw[e0]at h1;rw[h1,bS];dsimp only;rw[Qx h2 O O,bS,h4,w32,zx (Nat.lt_trans (zX1 _ hd) hd2)]
def qa8 {d:Nat} (h0:0<d) (h:d<4294967296):lim d=[(d:Int)]:=by
 rw[q08 O,zE2 h,Q9,zx h]
def qau {m:Nat} (hm:2000000<m) {A d:Nat} (hA:(lim A).length<=1000000) (h0:0<d) (h:d<4294967296):
 g201 m (lim A) (lim d)=some ((lim (A/d),lim (A%d),()),(),(),()):=by
 have hd1:(lim d).length=1:=by rw[qa8 h0 h];rfl
 rw[g201,Jg hm hA O,bS,bQ];dsimp only;by_cases c:A<d
 . have hc:cmpN A d= -1:=by unfold cmpN;rw[iP c]
   rw[hc,iP O,qad O,bS,zE2 c,zx c,Q9]
 . have hc: ¬cmpN A d<0:=by unfold cmpN;rw[iN' c];split<;>omega
   rw[iN' hc,hd1,bif_eq,iP (show((1:Nat):Int)=1 from rfl),iP O,qa8 h0 h]
   show(g207 m (lim A) ↑d).bind _=_
   rw[qjj hm (qy A) hA h0 h,bS,qw];dsimp only;have hr:A%d<4294967296:=Nat.lt_trans (zX1 _ h0) h;rw[Qx (λx hx=>by rw[zC.1 hx];omega) (by simp;omega) (by simp),bS]
   show some ((_,lim ((((A%d:Nat):Int)).toNat+4294967296*0),()),_)=_
   rw[tN,zf,zM]
def qra {m:Nat} (hm:2000000<m) {a:Int} {d:Nat} (h0:0<d) (h:d<4294967296) (ha:zlen ((d:Int)*a)<=1000000):
 g143 m (zB ((d:Int)*a)).1 (zB ((d:Int)*a)).2.1 (zB (d:Int)).1 (zB (d:Int)).2.1=some ((zB a,0,()),(),(),()):=by
 have hd1:(lim d).length=1:=by rw[qa8 h0 h];rfl
 have hN:((d:Int)*a).natAbs=d*a.natAbs:=by rw[zT2,zX]
 have hb2:(zB (d:Int)).2.1=lim d:=by show lim (d:Int).natAbs=_;rw[zX]
 have ha2:(zB ((d:Int)*a)).2.1=lim (d*a.natAbs):=by show lim _=_;rw[hN]
 have hA:(lim (d*a.natAbs)).length<=1000000:=by rw[<-hN];exact ha
 have hq:(lim a.natAbs).length<=1000000:=zK (Q5 (zb2 _ h0)) hA
 have hs:((zB ((d:Int)*a)).1=true)↔a<0:=by
  show(decide ((d:Int)*a<0)=true)↔_
  rw[decide_eq_true_eq];constructor
  . intro hl;refine Int.not_le.1 λhn=> ?_
    have:=Int.mul_nonneg (show(0:Int)<=d by omega) hn
    omega
  . intro hl;exact Int.mul_neg_of_pos_of_neg O hl
 have hs2:(zB (d:Int)).1=false:=by show decide ((d:Int)<0)=false;exact decide_eq_false O
 rw[g143,g181,hb2,Qx (qy d) O O,qw,bS,hd1,bif_eq,iN' O,ha2,
  Qx (qy _) O O,qw,bS]
 dsimp only;rw[qau hm hA h0 h,bS];dsimp only;rw[zL3 _ h0,Nat.mul_mod_right,Q9,hs2]
 have big: ∀neg:Bool,(neg=true↔a<0)->g146 m neg (lim a.natAbs)=some (zB a,(),(),()):=by
  intro neg hneg;rw[bigN hm O];congr 2;cases neg
  . have: ¬a<0:=λh=>by have:=hneg.2 h;cases this
    rw[iN' (by decide)];congr 1;omega
  . have:a<0:=hneg.1 rfl;rw[iP rfl];congr 1;omega
 have bigz:g146 m false []=some (zB 0,(),(),()):=by
  have:=bigN hm (n:=0) (by rw[Q9];simp) false
  rw[Q9]at this;exact this
 have z0:(zB 0).2.1=[]:=Q9;cases hc:(zB ((d:Int)*a)).1
 . have hn: ¬a<0:=λh=>by have:=hs.2 h;rw[hc]at this;cases this
   rw[cond_false,show(!(false==false))=false from rfl,big false (by simp[hn]),bS,bigz,bS,bS]
   dsimp only;rw[z0];rfl
 . have hn:a<0:=hs.1 hc;rw[cond_true,bQ];rw[iN' (show¬((([]:LI).length:Nat):Int)>0 by simp),show(!(true==false))=true from rfl,big true (by simp[hn]),bS,bigz,bS,bS]
   dsimp only;rw[z0];rfl
abbrev Bg:=Bool×LI
def BZ (z:Int):Bg:=((zB z).1,(zB z).2.1)
def qoz:BZ 0=(false,[]):=by show(decide ((0:Int)<0),lim 0)=_;rw[Q9];rfl
def mr {α:Type} (n:Nat) (f:Nat->α):List α:=(List.range n).map f
def Zh {α:Type} {n:Nat} {f:Nat->α}:(mr n f).length=n:=by unfold mr;rw[zQ1,zP2]
def q2x {α:Type} {n:Nat} {f:Nat->α} {j:Nat} {d:α} (h:j<n):(mr n f).getD j d=f j:=by
 unfold mr;simp[List.getD,h]
def Qd {α:Type} {n:Nat} {f g:Nat->α} (h: ∀i,i<n->f i=g i):mr n f=mr n g:=
 ze2 λi hi=>h i (zT1.1 hi)
def qg1 {α:Type} {n:Nat} {f:Nat->α} {i:Nat} (h:i<(mr n f).length):(mr n f)[i]=f i:=by simp[mr]
def q62 {α:Type} {n:Nat} {f:Nat->α} {j:Nat} {x:α}:(mr n f).set j x=mr n (λk=>if k=j then x else f k):=by
 apply List.ext_getElem
 . rw[zB1,Zh,Zh]
 . intro i h1 h2;rw[List.getElem_set,qg1,qg1];by_cases c:j=i
   . rw[iP c,iP c.symm]
   . rw[iN' c,iN' (λh=>c h.symm)]
def q4m {α:Type} {n:Nat} {f:Nat->α}:mr n f++[f n]=mr (n+1) f:=by
 unfold mr;rw[zF4,z01];rfl
def q92 {α:Type} {n:Nat} {x:α}:List.replicate n x=mr n (λ_=>x):=by
 apply List.ext_getElem
 . rw[zO1,Zh]
 . intro i h1 h2;rw[qg1];simp
def qco {α:Type} {f:Nat->α}:mr 0 f=[]:=rfl
def rowB (n:Nat) (f:Nat->Int):List Bg:=mr n λj=>BZ (f j)
def matB (n:Nat) (M:Nat->Nat->Int):List (List Bg):=mr n λi=>rowB n (M i)
def zs:Nat->(Nat->Int)->Int
 |0,_=>0
 |k+1,f=>zs k f+f k
def qp7 {f:Nat->Int} {B:Nat}: ∀{k:Nat},(∀i,i<k->zlen (f i)<=B)->zlen (zs k f)<=B+k
 |0,_=>by show zlen 0<=_;unfold zlen;rw[show(0:Int).natAbs=0 from rfl,Q9];exact zL2 _
 |k+1,h=>by
  have h1:=qp7 (k:=k) λi hi=>h i O
  have h2:=h k O;exact qk1 (k:=B+k) h1 O
def bAdd {m:Nat} (hm:4000000<=m) {a b:Int} (ha:zlen a<=1000000) (hb:zlen b<=1000000):g141 m (BZ a).1 (BZ a).2 (BZ b).1 (BZ b).2=some (zB (a+b),(),(),()):=by
 have:=qia (m:=m) O (n1:=(zB a).1) (n2:=(zB b).1) (Sz_zB ha) (Sz_zB hb)
 rwa [zv_zB,zv_zB]at this
def bMul {m:Nat} (hm:4000000<=m) {a b:Int} (h:zlen a+zlen b<=1000000):g180 m (BZ a).1 (BZ a).2 (BZ b).1 (BZ b).2=some (zB (a*b),(),(),()):=by
 have:=qn4 (m:=m) hm (n1:=(zB a).1) (n2:=(zB b).1) (l1:=(zB a).2.1) (l2:=(zB b).2.1) (qy _) (qy _) h
 rwa [zv_zB,zv_zB]at this
def bNorm {m:Nat} (hm:4000000<=m) {a:Int} (ha:zlen a<=1000000):g95 m (BZ a).1 (BZ a).2=some (zB a,(),()):=by
 have:=qm4 (m:=m) O (neg:=(zB a).1) (Sz_zB ha)
 rwa [zv_zB]at this
def bNeg {m:Nat} (hm:4000000<=m) {a:Int} (ha:zlen a<=1000000):g111 m (BZ a).1 (BZ a).2=some (zB (-a),(),()):=by
 have:=q9m (m:=m) O (neg:=(zB a).1) (Sz_zB ha)
 rwa [zv_zB]at this
def bSign {m:Nat} (hm:4000000<=m) {a:Int} (ha:zlen a<=1000000):g91 m (BZ a).1 (BZ a).2=some (sgn a,(),()):=by
 have:=Zu (m:=m) O (neg:=(zB a).1) (Sz_zB ha)
 rwa [zv_zB]at this
def bCmp {m:Nat} (hm:4000000<=m) {a b:Int} (ha:zlen a<=1000000) (hb:zlen b<=1000000):g88 m (BZ a).1 (BZ a).2 (BZ b).1 (BZ b).2=some (cmpZ a b,(),(),()):=by
 have:=qka (m:=m) O (n1:=(zB a).1) (n2:=(zB b).1) (Sz_zB ha) (Sz_zB hb)
 rwa [zv_zB,zv_zB]at this
def qqv {m:Nat} (hm:4000000<=m) {n:Nat} (hn:n<=1000) {A B:Nat->Nat->Int} {i j:Nat} (hi:i<n) (hj:j<n) {e1 e2:Nat} (h1: ∀k,k<n->zlen (A i k)<=e1) (h2: ∀k,k<n->zlen (B k j)<=e2) (he:e1+e2<=900000)
 (out:List (List Bg)) (row l:List Bg) (t13:List (List Bg)) (t14 t15 t20:Int): ∀(N k:Nat),n-k<N->k<=n->
 g142L2 m N (matB n B) out row l ↑j (BZ (zs k λk=>A i k*B k j)).1 (BZ (zs k λk=>A i k*B k j)).2 t13 t14 t15 t20 ↑j (rowB n (A i)) ↑n ↑k=
  some (.inl (matB n B,out,row,l,zB (zs n λk=>A i k*B k j),t13,t14,t15,t20,↑j,())):=by
 intro N;induction N with
 |zero=>intro k h;omega
 |succ N ih=>
  intro k h hk;have hr:(rowB n (A i)).length=n:=Zh;have hb:(matB n B).length=n:=Zh;rw[g142L2,hr,hb];by_cases c:k<n
  . have e3:(matB n B).getD k []=rowB n (B k):=q2x c;have e4:(rowB n (B k)).length=n:=Zh;have e5:(rowB n (B k)).getD j (false,[])=BZ (B k j):=q2x hj;have e6:(rowB n (A i)).getD k (false,[])=BZ (A i k):=q2x c;have l1:=h1 k c;have l2:=h2 k c;have l3:zlen (A i k*B k j)<=e1+e2:=zK qiy O;have l4:zlen (zs k λk=>A i k*B k j)<=e1+e2+k:=qp7 λq hq=>zK qiy (by have:=h1 q O;have:=h2 q O;omega)
    simp only[tN,e3,e4,e5,e6];rw[bQ,iP O,iP O,iP O,iP O,bMul hm O,bS];dsimp only;rw[show g141 m (BZ (zs k λk=>A i k*B k j)).1 (BZ (zs k λk=>A i k*B k j)).2 (zB (A i k*B k j)).1 (zB (A i k*B k j)).2.1=some (zB ((zs k λk=>A i k*B k j)+A i k*B k j),(),(),())from bAdd hm O O,bS,wQ,wsucc O]
    exact ih (k+1) O O
  . have:k=n:=O;subst this;rw[bQ,iN' O];rfl
def qqq {m:Nat} (hm:4000000<=m) {n:Nat} (hn:n<=1000) {A B:Nat->Nat->Int} {i:Nat} (hi:i<n) {e1 e2:Nat} (h1: ∀k,k<n->zlen (A i k)<=e1) (h2: ∀k j,k<n->j<n->zlen (B k j)<=e2) (he:e1+e2<=900000)
 (out:List (List Bg)) (t13:List (List Bg)) (t14 t15:Int): ∀(N j:Nat),n-j<N->j<=n->
 g142L1 m N (matB n B) out (rowB n (A i)) (mr j λj=>BZ (zs n λk=>A i k*B k j)) t13 t14 t15 ↑n ↑j=
  some (.inl (matB n B,out,rowB n (λj=>zs n λk=>A i k*B k j),t13,t14,t15,())):=by
 intro N;induction N with
 |zero=>intro k h;omega
 |succ N ih=>
  intro j h hj;rw[g142L1];by_cases c:j<n
  . have hr:(rowB n (A i)).length=n:=Zh;have e0:=qqv hm hn hi c h1 (λk hk=>h2 k j hk c) he out (rowB n (A i)) (mr j λj=>BZ (zs n λk=>A i k*B k j)) t13 t14 t15 (n:Int) m 0 O O
    rw[show zs 0 (λk=>A i k*B k j)=0 from rfl,qoz]at e0
    rw[bQ,iP O,hr];rw[show g142L2 m m (matB n B) out (rowB n (A i)) (mr j λj=>BZ (zs n λk=>A i k*B k j)) ↑j false [] t13 t14 t15 ↑n ↑j (rowB n (A i)) ↑n 0=_ from e0,bS]
    dsimp only;have hl:(mr j λj=>BZ (zs n λk=>A i k*B k j)).length=j:=Zh
    rw[hl,iP (by show j+1<=_;omega),wQ,wsucc O]
    have e1:(mr j λj=>BZ (zs n λk=>A i k*B k j))++[((zB (zs n λk=>A i k*B k j)).1,(zB (zs n λk=>A i k*B k j)).2.1)]=mr (j+1) λj=>BZ (zs n λk=>A i k*B k j):=q4m (f:=λj=>BZ (zs n λk=>A i k*B k j))
    rw[e1];exact ih (j+1) O O
  . have:j=n:=O;subst this;rw[bQ,iN' O];rfl
def mulZ (n:Nat) (A B:Nat->Nat->Int):Nat->Nat->Int:=λi j=>zs n λk=>A i k*B k j
def qqu {m:Nat} (hm:4000000<=m) {n:Nat} (hn:n<=1000) {A B:Nat->Nat->Int} {e1 e2:Nat} (h1: ∀i k,i<n->k<n->zlen (A i k)<=e1) (h2: ∀k j,k<n->j<n->zlen (B k j)<=e2) (he:e1+e2<=900000): ∀(N i:Nat),n-i<N->i<=n->
 g142L0 m N (matB n B) (mr i λi=>rowB n (mulZ n A B i)) (matB n A) ↑n ↑i=some (.inl (matB n (mulZ n A B),())):=by
 intro N;induction N with
 |zero=>intro k h;omega
 |succ N ih=>
  intro i h hi;have ha:(matB n A).length=n:=Zh;rw[g142L0,ha];by_cases c:i<n
  . have e3:(matB n A).getD i []=rowB n (A i):=q2x c;have hr:(rowB n (A i)).length=n:=Zh;have e0:=qqq hm hn c (λk hk=>h1 i k c hk) h2 he (mr i λi=>rowB n (mulZ n A B i)) (matB n A) (n:Int) (i:Int) m 0 O O
    rw[qco]at e0;simp only[tN,e3,hr];rw[bQ,iP O,iP O];rw[show g142L1 m m (matB n B) (mr i λi=>rowB n (mulZ n A B i)) (rowB n (A i)) [] (matB n A) ↑n ↑i ↑n 0=_ from e0,bS]
    dsimp only;have hl:(mr i λi=>rowB n (mulZ n A B i)).length=i:=Zh
    rw[hl,iP (by show 0<1/\i+1<=_;omega),wQ,wsucc O]
    have e1:(mr i λi=>rowB n (mulZ n A B i))++[rowB n (λj=>zs n λk=>A i k*B k j)]=mr (i+1) λi=>rowB n (mulZ n A B i):=q4m (f:=λi=>rowB n (mulZ n A B i))
    rw[e1];exact ih (i+1) O O
  . have:i=n:=O;subst this;rw[bQ,iN' O];rfl
def qqx {m:Nat} (hm:4000000<=m) {n:Nat} (hn:n<=1000) {A B:Nat->Nat->Int} {e1 e2:Nat} (h1: ∀i k,i<n->k<n->zlen (A i k)<=e1) (h2: ∀k j,k<n->j<n->zlen (B k j)<=e2) (he:e1+e2<=900000):
 g142 m (matB n A) (matB n B)=some (matB n (mulZ n A B),(),(),()):=by
 have ha:(matB n A).length=n:=Zh;rw[g142,ha];have e0:=qqu hm hn h1 h2 he m 0 O O;rw[qco]at e0;rw[show g142L0 m m (matB n B) [] (matB n A) (n:Int) 0=_ from e0,bS]
def qt2 {m:Nat} (hm:4000000<=m) {n:Nat} (hn:n<=1000) {f:Nat->Int} (h1: ∀k,k<n->zlen (f k)<=1000000) (b:List Bg) (out:List (List Bg)) (i:Int) (t11:List (List Bg)) (t12 t13:Int): ∀(N j:Nat),n-j<N->j<=n->
 g90L1 m N b out i (mr j λj=>BZ (f j)) t11 t12 t13 (rowB n f) ↑n ↑j=some (.inl (b,out,i,rowB n f,t11,t12,t13,())):=by
 intro N;induction N with
 |zero=>intro k h;omega
 |succ N ih=>
  intro j h hj;have hr:(rowB n f).length=n:=Zh;rw[g90L1,hr];by_cases c:j<n
  . have e6:(rowB n f).getD j (false,[])=BZ (f j):=q2x c;have hl:(mr j λj=>BZ (f j)).length=j:=Zh
    simp only[tN,e6,hl];rw[bQ,iP O,iP O,bNorm hm (h1 j c),bS];dsimp only;rw[iP (by show j+1<=_;omega),wQ,wsucc O]
    have e1:(mr j λj=>BZ (f j))++[((zB (f j)).1,(zB (f j)).2.1)]=mr (j+1) λj=>BZ (f j):=q4m (f:=λj=>BZ (f j))
    rw[e1];exact ih (j+1) O O
  . have:j=n:=O;subst this;rw[bQ,iN' O];rfl
def qtx {m:Nat} (hm:4000000<=m) {n:Nat} (hn:n<=1000) {A:Nat->Nat->Int} (h1: ∀i k,i<n->k<n->zlen (A i k)<=1000000): ∀(N i:Nat),n-i<N->i<=n->
 g90L0 m N [] (mr i λi=>rowB n (A i)) (matB n A) (n:Int) (i:Int)=some (.inl (matB n A,())):=by
 intro N;induction N with
 |zero=>intro k h;omega
 |succ N ih=>
  intro i h hi;have ha:(matB n A).length=n:=Zh;rw[g90L0,ha];by_cases c:i<n
  . have e3:(matB n A).getD i []=rowB n (A i):=q2x c;have hr:(rowB n (A i)).length=n:=Zh;have e0:=qt2 hm hn (λk hk=>h1 i k c hk) [] (mr i λi=>rowB n (A i)) (i:Int) (matB n A) (n:Int) (i:Int) m 0 O O
    rw[qco]at e0;simp only[tN,e3,hr];rw[bQ,iP O,iP O];rw[show g90L1 m m [] (mr i λi=>rowB n (A i)) (i:Int) [] (matB n A) (n:Int) (i:Int) (rowB n (A i)) (n:Int) 0=_ from e0,bS]
    dsimp only;have hl:(mr i λi=>rowB n (A i)).length=i:=Zh
    rw[bQ,iN' (by show¬((i:Int)<((0:Nat):Int));omega),hl,iP (by show 0<1/\i+1<=_;omega),wQ,wsucc O]
    have e1:(mr i λi=>rowB n (A i))++[rowB n (A i)]=mr (i+1) λi=>rowB n (A i):=q4m (f:=λi=>rowB n (A i))
    rw[e1];exact ih (i+1) O O
  . have:i=n:=O;subst this;rw[bQ,iN' O];rfl
def qu2 {m:Nat} (hm:4000000<=m) {n:Nat} (hn:n<=1000) {A:Nat->Nat->Int} (h1: ∀i k,i<n->k<n->zlen (A i k)<=1000000):g90 m (matB n A) []=some (matB n A,(),(),()):=by
 have ha:(matB n A).length=n:=Zh;rw[g90,ha];have e0:=qtx hm hn h1 m 0 O O;rw[qco]at e0;rw[show g90L0 m m [] [] (matB n A) (n:Int) 0=_ from e0,bS]
def NN (n:Nat) (M:Nat->Nat->Int) (c:Nat->Int):Nat->Nat->Nat->Int
 |0=>λ_ _=>0
 |k+1=>mulZ n M (λi j=>NN n M c k i j+if i=j then c k else 0)
def qsx {m:Nat} (hm:4000000<=m) {n:Nat} (hn:n<=1000) {P:Nat->Nat->Int} {cc:Int} {k:Nat} (hk1:1<=k) (hk2:k<=n) {pl:List Bg} (hpl:pl.length=n+1) (hpk:pl.getD (n-k+1) (false,[])=BZ cc)
 (h1: ∀i,i<n->zlen (P i i)<=900000) (h2:zlen cc<=900000) (vm:List (List Bg)): ∀(N a:Nat),n-a<N->a<=n->
 g89L2 m N vm ↑n pl (matB n λi j=>P i j+if i=j/\i<a then cc else 0) ↑k ↑n ↑a=some (.inl (vm,↑n,pl,matB n (λi j=>P i j+if i=j then cc else 0),↑k,())):=by
 intro N;induction N with
 |zero=>intro k h;omega
 |succ N ih=>
  intro a h ha;have hl:(matB n λi j=>P i j+if i=j/\i<a then cc else 0).length=n:=Zh
  have w:wI ((wI (↑n-↑k))+1)=↑(n-k+1):=by
   rw[wQ,wQ,wi (n:=↑n-↑k) O O,wi O O];omega
  rw[g89L2,hl,hpl,w];by_cases c:a<n
  . have e3:(matB n λi j=>P i j+if i=j/\i<a then cc else 0).getD a []=rowB n (λj=>P a j+if a=j/\a<a then cc else 0):=q2x c
    have e4:(rowB n (λj=>P a j+if a=j/\a<a then cc else 0)).length=n:=Zh
    have e5:(rowB n (λj=>P a j+if a=j/\a<a then cc else 0)).getD a (false,[])=BZ (P a a):=by
     have:(rowB n (λj=>P a j+if a=j/\a<a then cc else 0)).getD a (false,[])=BZ (P a a+if a=a/\a<a then cc else 0):=q2x c
     rw[this,iN' O,Int.add_zero]
    simp only[tN,e3,e4,e5,zF,hpk];rw[bQ,iP O,iP O,iP O,iP O,iP O,bAdd hm (zK (h1 a c) O) O,bS];dsimp only;rw[iP O,wQ,wsucc O]
    have e6:(matB n λi j=>P i j+if i=j/\i<a then cc else 0).set a ((rowB n (λj=>P a j+if a=j/\a<a then cc else 0)).set a ((zB (P a a+cc)).1,(zB (P a a+cc)).2.1))=matB n λi j=>P i j+if i=j/\i<a+1 then cc else 0:=by
     unfold matB rowB;rw[q62,q62];refine Qd λi hi=> ?_
     by_cases ci:i=a
     . subst ci;rw[iP rfl];refine Qd λj hj=> ?_
       dsimp only;by_cases cj:j=i
       . subst cj;rw[iP rfl];have q:(if j=j/\j<j+1 then cc else 0)=cc:=iP ⟨rfl,O⟩
         rw[q];rfl
       . rw[iN' cj,iN' O,iN' O]
     . rw[iN' ci];refine Qd λj hj=> ?_
       dsimp only;by_cases cj:i=j/\i<a
       . rw[iP cj,iP O]
       . rw[iN' cj,iN' O]
    rw[e6];exact ih (a+1) O O
  . have:a=n:=O;subst this;rw[bQ,iN' O]
    have:(matB a λi j=>P i j+if i=j/\i<a then cc else 0)=matB a λi j=>P i j+if i=j then cc else 0:=by
     refine Qd λi hi=>Qd λj hj=> ?_
     dsimp only;by_cases cj:i=j
     . rw[iP ⟨cj,hi⟩,iP cj]
     . rw[iN' O,iN' cj]
    rw[this]
def qt4 {m:Nat} (hm:4000000<=m) {n:Nat} (hn:n<=1000) {Q:Nat->Nat->Int} (h1: ∀i,i<n->zlen (Q i i)<=900000) (vm:List (List Bg)) (t3:Int) (pl:List Bg) (t7:Int): ∀(N a:Nat),n-a<N->a<=n->
 g89L3 m N vm t3 pl t7 (matB n Q) (BZ (zs a λi=>Q i i)).1 (BZ (zs a λi=>Q i i)).2 ↑n ↑a=some (.inl (vm,t3,pl,t7,matB n Q,zB (zs n λi=>Q i i),())):=by
 intro N;induction N with
 |zero=>intro k h;omega
 |succ N ih=>
  intro a h ha;have hl:(matB n Q).length=n:=Zh;rw[g89L3,hl];by_cases c:a<n
  . have e3:(matB n Q).getD a []=rowB n (Q a):=q2x c;have e4:(rowB n (Q a)).length=n:=Zh;have e5:(rowB n (Q a)).getD a (false,[])=BZ (Q a a):=q2x c;have l4:zlen (zs a λi=>Q i i)<=900000+a:=qp7 λq hq=>h1 q O
    have:=h1 a c;simp only[tN,e3,e4,e5];rw[bQ,iP O,iP O,iP O,bAdd hm O O,bS,wQ,wsucc O];exact ih (a+1) O O
  . have:a=n:=O;subst this;rw[bQ,iN' O];rfl
def polyB (n:Nat) (c:Nat->Int) (k:Nat):List Bg:=mr (n+1) λi=>if n-i<k then BZ (c (n-i))else BZ 0
def qt1 {m:Nat} (hm:4000000<=m) {n:Nat} (hn:n<=1000) {M:Nat->Nat->Int} {c:Nat->Int} {e:Nat} (he:e<=300000) (h1: ∀i k,i<n->k<n->zlen (M i k)<=e)
 (h2: ∀k,k<=n-> ∀i j,i<n->j<n->zlen (NN n M c k i j)<=300000) (h3: ∀k,k<=n->zlen (c k)<=300000) (ht: ∀k,1<=k->k<=n->(zs n λi=>NN n M c k i i)=(k:Int)*(-c k)):
 ∀(N k:Nat),n+1-k<N->1<=k->k<=n+1->g89L1 m N (matB n M) (n:Int) (polyB n c k) (matB n (NN n M c (k-1))) (k:Int)=some (.inl (polyB n c (n+1),())):=by
 intro N;induction N with
 |zero=>intro k h;omega
 |succ N ih=>
  intro k h hk1 hk2;rw[g89L1];by_cases cc:k<=n
  . obtain⟨k,rfl⟩: ∃k',k=k'+1:=⟨k-1,O⟩;have hl:(matB n (NN n M c k)).length=n:=Zh;have hpl:(polyB n c (k+1)).length=n+1:=Zh
    have hpk:(polyB n c (k+1)).getD (n-(k+1)+1) (false,[])=BZ (c k):=by
     have:(polyB n c (k+1)).getD (n-(k+1)+1) (false,[])=if n-(n-(k+1)+1)<k+1 then BZ (c (n-(n-(k+1)+1)))else BZ 0:=q2x O
     have q:n-(n-(k+1)+1)=k:=O;rw[this,q,iP O]
    have e0:=qsx hm hn (P:=NN n M c k) (cc:=c k) (k:=k+1) O cc hpl hpk (λi hi=>zK (h2 k O i i hi hi) O) (zK (h3 k O) O) (matB n M) m 0 O O
    have e00:(matB n λi j=>NN n M c k i j+if i=j/\i<0 then c k else 0)=matB n (NN n M c k):=Qd λi hi=>Qd λj hj=>by dsimp only;rw[iN' O,Int.add_zero]
    rw[e00]at e0;rw[bQ,iP O,zP3,hl];rw[show g89L2 m m (matB n M) (n:Int) (polyB n c (k+1)) (matB n (NN n M c k)) ((k+1:Nat):Int) (n:Int) 0=_ from e0,bS]
    dsimp only
    rw[qqx hm hn h1 (B:=λi j=>NN n M c k i j+if i=j then c k else 0) (e2:=300001) (λi j hi hj=>qk1 (h2 k O i j hi hj) (by
     by_cases cj:i=j
     . rw[iP cj];exact h3 k O
     . rw[iN' cj];unfold zlen;rw[show(0:Int).natAbs=0 from rfl,Q9];exact zL2 _)) O,bS]
    dsimp only;have eN:mulZ n M (λi j=>NN n M c k i j+if i=j then c k else 0)=NN n M c (k+1):=rfl
    rw[eN];have hl2:(matB n (NN n M c (k+1))).length=n:=Zh;rw[hl2];have e3:=qt4 hm hn (Q:=NN n M c (k+1)) (λi hi=>zK (h2 (k+1) cc i i hi hi) O) (matB n M) (n:Int) (polyB n c (k+1)) ((k+1:Nat):Int) m 0 O O
    rw[show zs 0 (λi=>NN n M c (k+1) i i)=0 from rfl,qoz]at e3
    rw[show g89L3 m m (matB n M) (n:Int) (polyB n c (k+1)) ((k+1:Nat):Int) (matB n (NN n M c (k+1))) false [] (n:Int) 0=_ from e3,bS]
    dsimp only;have htr:=ht (k+1) O cc
    have hlen:zlen (((k+1:Nat):Int)*(-c (k+1)))<=1000000:=by
     rw[<-htr];exact zK (qp7 (B:=300000) λi hi=>h2 (k+1) cc i i hi hi) O
    rw[q2n O O O,bS,htr];dsimp only;rw[qra O O O hlen,bS];dsimp only
    have hneg:zlen (-c (k+1))<=1000000:=by
     have:=h3 (k+1) cc;unfold zlen at this⊢;rw[zA2];omega
    rw[show g111 m (zB (-c (k+1))).1 (zB (-c (k+1))).2.1=_ from bNeg hm hneg,bS,Int.neg_neg]
    dsimp only
    have w:wI ((n:Int)-((k+1:Nat):Int))=((n-(k+1):Nat):Int):=by
     rw[wQ,wi O O];omega
    rw[w,hpl,iP O,wQ,wsucc O,tN,zF]
    have e6:(polyB n c (k+1)).set (n-(k+1)) ((zB (c (k+1))).1,(zB (c (k+1))).2.1)=polyB n c (k+1+1):=by
     unfold polyB;rw[q62];refine Qd λi hi=> ?_
     by_cases ci:i=n-(k+1)
     . subst ci;have q:n-(n-(k+1))=k+1:=O;rw[iP rfl,q,iP O];rfl
     . rw[iN' ci];by_cases cj:n-i<k+1
       . rw[iP cj,iP O]
       . rw[iN' cj,iN' O]
    rw[e6];have:=ih (k+1+1) O O O;rw[zP3]at this;exact this
  . have:k=n+1:=O;subst this;rw[bQ,iN' O]
def qtt {m:Nat} {n:Nat} (hn:n<=1000) (vm:List (List Bg)) (pl:List Bg): ∀(N a:Nat),n-a<N->a<=n->
 g89L0 m N vm ↑n pl (mr n λi=>if i<a then rowB n (λ_=>0)else []) ↑n ↑a=some (.inl (vm,↑n,pl,matB n (λ_ _=>0),())):=by
 intro N;induction N with
 |zero=>intro k h;omega
 |succ N ih=>
  intro a h ha;have hl:(mr n λi=>if i<a then rowB n (λ_=>0)else []).length=n:=Zh
  rw[g89L0,hl];by_cases c:a<n
  . rw[bQ,iP O,iP O,iP O,wQ,wsucc O,tN,tN,q62]
    have e:(mr n λk=>if k=a then List.replicate n ((false,([]:LI)):Bool×LI)else if k<a then rowB n (λ_=>0)else [])=mr n λi=>if i<a+1 then rowB n (λ_=>0)else []:=by
     refine Qd λi hi=> ?_
     by_cases ci:i=a
     . subst ci;rw[iP rfl,iP O,q92];exact Qd λj hj=>qoz.symm
     . rw[iN' ci];by_cases cj:i<a
       . rw[iP cj,iP O]
       . rw[iN' cj,iN' O]
    rw[e];exact ih (a+1) O O
  . have:a=n:=O;subst this;rw[bQ,iN' O];have:(mr a λi=>if i<a then rowB a (λ_=>0)else [])=matB a (λ_ _=>0):=Qd λi hi=>iP hi
    rw[this]
def qtz {m:Nat} (hm:4000000<=m) {n:Nat} (hn:n<=1000) {M:Nat->Nat->Int} {c:Nat->Int} {e:Nat} (he:e<=300000) (h1: ∀i k,i<n->k<n->zlen (M i k)<=e)
 (h2: ∀k,k<=n-> ∀i j,i<n->j<n->zlen (NN n M c k i j)<=300000) (h3: ∀k,k<=n->zlen (c k)<=300000) (h0:c 0=1) (ht: ∀k,1<=k->k<=n->(zs n λi=>NN n M c k i i)=↑k*(-c k)):
 g89 m (matB n M)=some (polyB n c (n+1),(),()):=by
 have hl:(matB n M).length=n:=Zh;have w:wI ((n:Int)+1)=((n+1:Nat):Int):=by rw[wQ,wsucc O]
 rw[g89,hl,w,iP O,q2n O O O,bS];dsimp only;rw[tN,zO1,iP O,iP O,tN,zO1,zF]
 have e1:(List.replicate (n+1) ((false,([]:LI)):Bool×LI)).set n ((zB 1).1,(zB 1).2.1)=polyB n c 1:=by
  rw[q92,q62];refine Qd λi hi=> ?_
  by_cases ci:i=n
  . subst ci;rw[iP rfl,iP O,zQ3,h0];rfl
  . rw[iN' ci,iN' O,qoz]
 have e2:List.replicate n ([]:List (Bool×LI))=mr n λi=>if i<0 then rowB n (λ_=>0)else []:=by
  rw[q92];exact Qd λi hi=>(iN' O).symm
 rw[e1,e2];rw[show g89L0 m m (matB n M) ↑n (polyB n c 1) (mr n λi=>if i<0 then rowB n (λ_=>0)else []) ↑n 0=_ from qtt hn (matB n M) (polyB n c 1) m 0 O O,bS]
 dsimp only;have e3:=qt1 hm hn he h1 h2 h3 ht m 1 O O O;rw[show g89L1 m m (matB n M) ↑n (polyB n c 1) (matB n (λ_ _=>0)) 1=_ from e3,bS]
def vsF (p:Nat->Int):Nat->Nat->Int->Nat
 |_,0,_=>0
 |a,k+1,s=>(if sgn (p a)*s<0 then 1 else 0)+vsF p (a+1) k (if sgn (p a)=0 then s else sgn (p a))
def sgn3 (z:Int):sgn z= -1\/sgn z=0\/sgn z=1:=by
 unfold sgn;by_cases h:z<0
 . rw[iP h];exact .inl rfl
 . rw[iN' h];by_cases h2:0<z
   . rw[iP h2];exact .inr (.inr rfl)
   . rw[iN' h2];exact .inr (.inl rfl)
def qqw {m:Nat} (hm:4000000<=m) {n:Nat} (hn:n<=1000) {p:Nat->Int} (h1: ∀i,i<=n->zlen (p i)<=1000000) (vm:List (List Bg)) (t3:Int): ∀(N a q:Nat) (s:Int),n+1-a<N->a<=n+1->q<=a->(s= -1\/s=0\/s=1)->
 g51L3 m N vm t3 ↑q s (mr (n+1) λi=>BZ (p i)) ↑(n+1) ↑a=some (.inl (vm,t3,↑(q+vsF p a (n+1-a) s),())):=by
 intro N;induction N with
 |zero=>intro a q s h;omega
 |succ N ih=>
  intro a q s h ha hq hs;have hl:(mr (n+1) λi=>BZ (p i)).length=n+1:=Zh
  rw[g51L3,hl];by_cases c:a<n+1
  . have e5:(mr (n+1) λi=>BZ (p i)).getD a (false,[])=BZ (p a):=q2x c
    have hk:n+1-a=(n+1-(a+1))+1:=O;simp only[tN,zF,e5];rw[bQ,iP O,iP O,bSign hm (h1 a O),bS,hk,vsF];dsimp only;have g:=sgn3 (p a)
    have w:wI (sgn (p a)*s)=sgn (p a)*s:=by
     rw[wQ];rcases g with g|g|g<;>rcases hs with rfl|rfl|rfl<;>rw[g]<;>decide
    rw[w,bQ,bif_ne,bif_ne,wQ,wsucc (show q<4611686018427387904 by omega),wQ,wsucc (show a<4611686018427387904 by omega)]
    by_cases c1:sgn (p a)*s<0
    . rw[iP c1,iP c1];by_cases c2:sgn (p a)=0
      . rw[iP c2,iP c2,ih (a+1) (q+1) s O O O hs,zK1]
      . rw[iN' c2,iN' c2,ih (a+1) (q+1) (sgn (p a)) O O O g,zK1]
    . rw[iN' c1,iN' c1,zF];by_cases c2:sgn (p a)=0
      . rw[iP c2,iP c2,ih (a+1) q s O O O hs]
      . rw[iN' c2,iN' c2,ih (a+1) q (sgn (p a)) O O O g]
  . have:a=n+1:=O;subst this;rw[bQ,iN' O,zQ3];rfl
def qqo {m:Nat} (hm:4000000<=m) {n:Nat} (hn:n<=1000) {p:Nat->Int} (h1: ∀i,i<=n->zlen (p i)<=1000000) {vm:List (List Bg)} (hv:vm.length=n) (t4:Int) {z:Nat} (hz:z<=n) (hz1: ∀i,i<z->p i=0) (hz2:z<n->p z≠0): ∀(N a:Nat),n-a<N->a<=z->
 g51L2 m N vm ↑a t4 (mr (n+1) λi=>BZ (p i))=some (.inl (vm,↑z,t4,(mr (n+1) λi=>BZ (p i)),())):=by
 intro N;induction N with
 |zero=>intro a h;omega
 |succ N ih=>
  intro a h ha;have hl:(mr (n+1) λi=>BZ (p i)).length=n+1:=Zh
  rw[g51L2,hl,hv];by_cases c:a<n
  . have e5:(mr (n+1) λi=>BZ (p i)).getD a (false,[])=BZ (p a):=q2x O
    simp only[tN,zF,e5];rw[bQ,iP O,iP O,bSign hm (h1 a O),bS,bif_eq];dsimp only;by_cases c2:sgn (p a)=0
    . have:a≠z:=by
       rintro rfl
       exact hz2 c (Qs.1 c2)
      rw[iP c2,wQ,wsucc O,ih (a+1) O O]
    . have:a=z:=by
       refine Nat.le_antisymm ha (zn1 λhl=> ?_)
       exact c2 (Qs.2 (hz1 a hl))
      subst this;rw[iN' c2]
  . have:a=z:=O;subst this;rw[bQ,iN' O]
def qqr {m:Nat} (hm:4000000<=m) {n:Nat} (hn:n<=1000) {M:Nat->Nat->Int} (h1: ∀i k,i<n->k<n->zlen (M i k)<=1000000) (hs: ∀i k,i<n->k<n->M i k=M k i) {i:Nat} (hi:i<n) (t3 t4:Int) (t20:List (List Bg)) (t21 t22:Int): ∀(N j:Nat),n-j<N->j<=n->
 g51L1 m N (matB n M) t3 t4 ↑i t20 t21 t22 (rowB n (M i)) ↑n ↑j=some (.inr (.inl (matB n M,t3,t4,t20,t21,t22,()))):=by
 intro N;induction N with
 |zero=>intro a h;omega
 |succ N ih=>
  intro j h hj;have hl:(matB n M).length=n:=Zh;have hr:(rowB n (M i)).length=n:=Zh;rw[g51L1,hl,hr];by_cases c:j<n
  . have e3:(matB n M).getD j []=rowB n (M j):=q2x c;have e4:(rowB n (M j)).length=n:=Zh;have e5:(rowB n (M j)).getD i (false,[])=BZ (M j i):=q2x hi;have e6:(rowB n (M i)).getD j (false,[])=BZ (M i j):=q2x c;simp only[tN,e3,e4,e5,e6];rw[bQ,iP O,iP O,iP O,iP O,bCmp hm (h1 i j hi c) (h1 j i c hi),bS,bif_ne];dsimp only;have:cmpZ (M i j) (M j i)=0:=by unfold cmpZ;rw[hs i j hi c,iN' O,iN' O]
    rw[iP this,wQ,wsucc O];exact ih (j+1) O O
  . have:j=n:=O;subst this;rw[bQ,iN' O]
def qqt {m:Nat} (hm:4000000<=m) {n:Nat} (hn:n<=1000) {M:Nat->Nat->Int} (h1: ∀i k,i<n->k<n->zlen (M i k)<=1000000) (hs: ∀i k,i<n->k<n->M i k=M k i) (t3 t4:Int): ∀(N i:Nat),n-i<N->i<=n->
 g51L0 m N (matB n M) t3 t4 (matB n M) ↑n ↑i=some (.inr (.inl (matB n M,t3,t4,()))):=by
 intro N;induction N with
 |zero=>intro a h;omega
 |succ N ih=>
  intro i h hi;have hl:(matB n M).length=n:=Zh;rw[g51L0,hl];by_cases c:i<n
  . have e3:(matB n M).getD i []=rowB n (M i):=q2x c;have e4:(rowB n (M i)).length=n:=Zh;simp only[tN,e3,e4];rw[bQ,iP O,iP O];rw[show g51L1 m m (matB n M) t3 t4 (i:Int) (matB n M) (n:Int) (i:Int) (rowB n (M i)) (n:Int) 0=_ from qqr hm hn h1 hs c t3 t4 (matB n M) (n:Int) (i:Int) m 0 O O,bS]
    dsimp only;rw[wQ,wsucc O];exact ih (i+1) O O
  . have:i=n:=O;subst this;rw[bQ,iN' O]
def qr3 {m:Nat} {n:Nat} (hn:n<=1000) {M:Nat->Nat->Int}: ∀(N i:Nat),n-i<N->i<=n->
 g197L0 m N (matB n M) ([↑n],0) ↑n ↑i=some (.inr (.inl ())):=by
 intro N;induction N with
 |zero=>intro a h;omega
 |succ N ih=>
  intro i h hi;have hl:(matB n M).length=n:=Zh;rw[g197L0,hl];by_cases c:i<n
  . have e3:(matB n M).getD i []=rowB n (M i):=q2x c;have e4:(rowB n (M i)).length=n:=Zh;simp only[tN,e3];rw[bQ,iP O,iP O,g175,e4,bS];dsimp only;rw[show([(n:Int)].getD 0 0)=(n:Int)from rfl,bif_ne,iP rfl,wQ,wsucc O]
    exact ih (i+1) O O
  . rw[bQ,iN' O]
def qrm {m:Nat} (hm:4000000<=m) {n:Nat} (hn:n<=16) {M:Nat->Nat->Int}:g87 m (matB n M)=some (0,(),()):=by
 have hl:(matB n M).length=n:=Zh
 have hc:g138 m (matB n M)=some (↑n,(),()):=by
  rw[g138,hl,bif_eq];by_cases c:n=0
  . subst c;rfl
  . have e3:(matB n M).getD 0 []=rowB n (M 0):=q2x O;have e4:(rowB n (M 0)).length=n:=Zh;rw[iN' O,iP O,e3,e4]
 rw[g87,g137,hc,bS,g174,g197,hl];dsimp only;rw[show g197L0 m m (matB n M) ([↑n],0) ↑n 0=_ from qr3 O m 0 O O,bS]
 dsimp only;rw[bS,bS];dsimp only;rw[bQ,iN' O,bQ,iN' O,bQ,show([(n:Int)].getD 0 0)=(n:Int)from rfl,iN' O,bS,bif_eq,iP rfl,bS,bif_ne,iP rfl]
def qpx {m:Nat} (hm:4000000<=m) {n:Nat} (hn:n<=16) {M:Nat->Nat->Int} {c:Nat->Int} {e:Nat} (he:e<=300000) (h1: ∀i k,i<n->k<n->zlen (M i k)<=e) (hs: ∀i k,i<n->k<n->M i k=M k i)
 (h2: ∀k,k<=n-> ∀i j,i<n->j<n->zlen (NN n M c k i j)<=300000) (h3: ∀k,k<=n->zlen (c k)<=300000) (h0:c 0=1) (ht: ∀k,1<=k->k<=n->(zs n λi=>NN n M c k i i)=↑k*(-c k))
 {z:Nat} (hz:z<=n) (hz1: ∀i,i<z->c (n-i)=0) (hz2:z<n->c (n-z)≠0) {q:Nat} (hq:vsF (λi=>c (n-i)) 0 (n+1) 0=q) (hzq:z+q<=n):
 g51 m (matB n M)=some ((((n-z-q:Nat):Int),(z:Int),(q:Int),0,()),(),()):=by
 have hl:(matB n M).length=n:=Zh;have h1': ∀i k,i<n->k<n->zlen (M i k)<=1000000:=λi k hi hk=>zK (h1 i k hi hk) O
 have hp:polyB n c (n+1)=mr (n+1) λi=>BZ (c (n-i)):=Qd λi hi=>iP O
 have h3': ∀i,i<=n->zlen (c (n-i))<=1000000:=λi hi=>zK (h3 (n-i) O) O
 rw[g51,qrm hm hn,bS,bif_ne,iP rfl,hl];rw[show g51L0 m m (matB n M) 0 0 (matB n M) ↑n 0=_ from qqt hm O h1' hs 0 0 m 0 O O,bS]
 dsimp only;rw[qu2 hm O h1',bS];dsimp only;rw[qtz hm O he h1 h2 h3 h0 ht,bS,hp];dsimp only;rw[show g51L2 m m (matB n M) 0 0 (mr (n+1) λi=>BZ (c (n-i)))=_ from qqo hm O (p:=λi=>c (n-i)) h3' hl 0 hz hz1 hz2 m 0 O O,bS]
 dsimp only;have hl2:(mr (n+1) λi=>BZ (c (n-i))).length=n+1:=Zh
 have e3:=qqw hm O (p:=λi=>c (n-i)) h3' (matB n M) ↑z m 0 0 0 O O O O
 rw[Nat.sub_zero,hq,zF]at e3;rw[hl2,show g51L3 m m (matB n M) ↑z 0 0 (mr (n+1) λi=>BZ (c (n-i))) ↑(n+1) 0=_ from e3,bS]
 dsimp only;rw[hl]
 have w:wI ((wI (↑n-↑z))-↑q)=↑(n-z-q):=by
  rw[wQ,wQ,wi (n:=↑n-↑z) O O,wi O O];omega
 rw[w]
def lst:Int->List Rat->Int
 |s,[]=>s
 |s,x::l=>lst (if sgq x=0 then s else sgq x) l
def fst1:List Rat->Int
 |[]=>0
 |x::l=>if sgq x=0 then fst1 l else sgq x
def qtm {l:List Rat} {x:Rat}: ∀{s:Int},vs s (l++[x])=vs s l+if sgq x*lst s l<0 then 1 else 0:=by
 induction l with
 |nil=>intro s;show(if sgq x*s<0 then 1 else 0)+0=0+_;rw[zM,zF];rfl
 |cons y l ih=>intro s;rw[zm1,vs,vs,ih,lst,zK1]
def qsg {l:List Rat} {x:Rat}: ∀{s:Int},lst s (l++[x])=if sgq x=0 then lst s l else sgq x:=by
 induction l with
 |nil=>intro s;rfl
 |cons y l ih=>intro s;rw[zm1,lst,ih,lst]
def qt7 {l:List Rat}:lst 0 l.reverse=fst1 l:=by
 induction l with
 |nil=>rfl
 |cons x l ih=>rw[List.reverse_cons,qsg,ih,fst1]
def qtd {l:List Rat}: ∀{s:Int},vs s l=vs 0 l+if s*fst1 l<0 then 1 else 0:=by
 induction l with
 |nil=>intro s;show 0=0+(if s*0<0 then 1 else 0);rw[zw3,iN' (by decide)]
 |cons x l ih=>
  intro s;rw[vs,vs,fst1];by_cases c:sgq x=0
  . have z: ¬(0:Int)<0:=by decide
    simp only[c,if_true,za2,z,if_false,zF];exact ih
  . rw[iN' c,iN' c,iN' c,zw3,iN' (show¬(0:Int)<0 by decide),zR3];omega
def qub {l:List Rat}:vs 0 l.reverse=vs 0 l:=by
 induction l with
 |nil=>rfl
 |cons x l ih=>
  rw[List.reverse_cons,qtm,ih,qt7,vs,zw3,iN' (show¬(0:Int)<0 by decide)]
  by_cases c:sgq x=0
  . rw[iP c,c,za2,iN' dC];omega
  . rw[iN' c,qtd (s:=sgq x)];omega
def qru {m:List Rat} (h: ∀x∈m,x=0): ∀{s:Int},vs s m=0:=by
 induction m with
 |nil=>intro s;rfl
 |cons x m ih=>
  intro s;have hx:sgq x=0:=by rw[h x mS];decide
  rw[vs,hx,iP rfl,za2,iN' dC,ih λy hy=>h y (mT hy)]
def qpg {l m:List Rat} (h: ∀x∈m,x=0): ∀{s:Int},vs s (l++m)=vs s l:=by
 induction l with
 |nil=>intro s;exact qru h
 |cons x l ih=>intro s;rw[zm1,vs,vs,ih]
def qs8 (z:Int):sgq (z:Rat)=sgn z:=by
 unfold sgq sgn;by_cases h1:z<0
 . rw[iP (by have:=zS3.2 h1;exact this),iP h1]
 . by_cases h2:z=0
   . subst h2;decide
   . have h3:0<z:=O;have h4:(0:Rat)<(z:Rat):=zS3.2 h3;rw[iN' (by grind),iN' (by grind),iN' h1,iP h3]
def qsr {p:Nat->Int}: ∀(k a:Nat) (s:Int),vsF p a k s=vs s ((List.range' a k).map λi=>(p i:Rat))
 |0,_,_=>rfl
 |k+1,a,s=>by rw[vsF,List.range'_succ,zj1,vs,qs8,qsr k]
def qpp {f:Nat->Int}: ∀k:Nat,((zs k f:Int):Rat)=sm (List.range k) (λi=>(f i:Rat))
 |0=>rfl
 |k+1=>by
  rw[zs,zF4,qsp,Rat.intCast_add,qpp k,qnj,sm_nil];grind
section
variable {n:Nat} {M:Nat->Nat->Int} {c:Nat->Int}
def qM (M:Nat->Nat->Int):Nat->Nat->Rat:=λi j=>(M i j:Rat)
def FF (n:Nat) (M:Nat->Nat->Int) (i j t:Nat):Rat:=if t=0 then 0 else mp (List.range n) (qM M) t i j
def qtp: ∀(k i j:Nat),i<n->j<n->((NN n M c k i j:Int):Rat)=cv (λt=>(c t:Rat)) (FF n M i j) k:=by
 intro k;induction k with
 |zero=>intro i j _ _;rw[qnn];show(0:Rat)=0*_;grind
 |succ k ih=>
  intro i j hi hj
  have e1:((NN n M c (k+1) i j:Int):Rat)=sm (List.range n) (λl=>(M i l:Rat)*(cv (λt=>(c t:Rat)) (FF n M l j) k+(if l=j then 1 else 0)*(c k:Rat))):=by
   show((zs n (λl=>M i l*(NN n M c k l j+if l=j then c k else 0)):Int):Rat)=_
   rw[qpp];refine qni λl hl=> ?_
   have hl':=zT1.1 hl;rw[z81,Rat.intCast_add,ih l j hl' hj];by_cases d:l=j
   . rw[iP d,iP d];grind
   . rw[iN' d,iN' d,zg3];grind
  have e2:(λt=>FF n M i j (t+1))=λt=>sm (List.range n) (λl=>(M i l:Rat)*(λt=>FF n M l j t+(if l=j then 1 else 0)*dl0 t) t):=by
   funext t
   show(if t+1=0 then 0 else mp (List.range n) (qM M) (t+1) i j)=_
   rw[iN' O,qo6];refine qni λl _=> ?_
   show(M i l:Rat)*mp (List.range n) (qM M) t l j=(M i l:Rat)*((if t=0 then 0 else mp (List.range n) (qM M) t l j)+(if l=j then 1 else 0)*(if t=0 then 1 else 0))
   by_cases d:t=0
   . subst d;rw[qo2,iP rfl,iP rfl];grind
   . rw[iN' d,iN' d];grind
  rw[e1,qnk,e2,<-qny (F:=λl t=>FF n M l j t+(if l=j then 1 else 0)*dl0 t)]
  have e3:FF n M i j 0=0:=rfl;rw[e3]
  have e4: ∀l∈List.range n,(M i l:Rat)*(cv (λt=>(c t:Rat)) (FF n M l j) k+(if l=j then 1 else 0)*(c k:Rat))=(M i l:Rat)*cv (λt=>(c t:Rat)) (λt=>FF n M l j t+(if l=j then 1 else 0)*dl0 t) k:=by
   intro l _;rw[qnw,qnt,qr1]
  rw[qni e4];grind
def NN_tr (hc:NW (sp (List.range n) (qM M)) (λt=>(c t:Rat))) (k:Nat):(zs n λi=>NN n M c k i i)=(k:Int)*(-c k):=by
 have e1:(((zs n λi=>NN n M c k i i):Int):Rat)=cv (λt=>(c t:Rat)) (sp (List.range n) (qM M)) k:=by
  rw[qpp,qni λi hi=>qtp k i i (zT1.1 hi) (zT1.1 hi),<-qq0 (F:=λi t=>FF n M i i t)]
  refine qqa (λt _=> ?_) (λ_ _=>rfl)
  unfold sp FF tr;by_cases d:t=0
  . simp only[d,if_true];exact qor
  . simp only[d,if_false]
 have e2:=hc.2 k
 have e3:(((zs n λi=>NN n M c k i i):Int):Rat)=((↑k*(-c k):Int):Rat):=by
  rw[e1,z81,zG4,Rat.intCast_natCast];grind
 exact zV3.1 e3
end
def qpj:zlen 0=0:=by unfold zlen;rw[show(0:Int).natAbs=0 from rfl,Q9];rfl
def qs4 {z:Int}:zlen (-z)=zlen z:=by unfold zlen;rw[zA2]
def qpy {k:Nat} {z:Int} (hk:1<=k):zlen z<=zlen ((k:Int)*z):=by
 unfold zlen;refine Q5 ?_;rw[zT2,zX];exact zb2 _ hk
def qrz {n:Nat} (hn:n<=16) {M:Nat->Nat->Int} {c:Nat->Int} {e:Nat} (h1: ∀i k,i<n->k<n->zlen (M i k)<=e) (h0:c 0=1) (ht: ∀k,(zs n λi=>NN n M c k i i)=(k:Int)*(-c k)):
 ∀k,k<=n->(∀i j,i<n->j<n->zlen (NN n M c k i j)<=k*(e+40))/\zlen (c k)<=k*(e+40)+17:=by
 intro k;induction k with
 |zero=>
  intro _;refine⟨λi j _ _=>by rw[show NN n M c 0 i j=0 from rfl,qpj];exact zL2 _,?_⟩
  rw[h0];have:zlen 1<=1:=qp0 (k:=1) (by decide)
  omega
 |succ k ih=>
  intro hk;have⟨i1,i2⟩:=ih O;have e0:(k+1)*(e+40)=k*(e+40)+e+40:=by rw[zM1,zf2];omega
  have key: ∀i j,i<n->j<n->zlen (NN n M c (k+1) i j)<=(k+1)*(e+40):=by
   intro i j hi hj;show zlen (zs n λl=>M i l*(NN n M c k l j+if l=j then c k else 0))<=_
   have:zlen (zs n λl=>M i l*(NN n M c k l j+if l=j then c k else 0))<=(e+(k*(e+40)+18))+n:=qp7 λl hl=>by
    refine zK qiy (Nat.add_le_add (h1 i l hi hl) (qk1 (k:=k*(e+40)+17) (zK (i1 l j hl hj) O) ?_));by_cases d:l=j
    . rw[iP d];exact i2
    . rw[iN' d,qpj];exact zL2 _
   omega
  refine⟨key,?_⟩
  have h3:zlen (c (k+1))<=zlen (↑(k+1)*(-c (k+1))):=by
   rw[<-qs4 (z:=c (k+1))];exact qpy O
  rw[<-ht (k+1)]at h3;have h4:=qp7 λi hi=>key i i hi hi
  omega
def qqs {m:Nat} (hm:4000000<=m) {n:Nat} (hn:n<=16) {M:Nat->Nat->Int} {e:Nat} (he:e<=10000) (h1: ∀i k,i<n->k<n->zlen (M i k)<=e) (hs: ∀i k,i<n->k<n->M i k=M k i)
 {V:Nat->Nat->Rat} {b:Nat->Rat} (hd:Dg (List.range n) (qM M) V b):
 g51 m (matB n M)=some ((((npos (List.range n) (λi=> -b i):Nat):Int),((n-(npos (List.range n) b+npos (List.range n) (λi=> -b i)):Nat):Int),((npos (List.range n) b:Nat):Int),0,()),(),()):=by
 obtain⟨f,hf,hz⟩:=qu7 (A:=qM M) (λi j=>⟨M i j,rfl⟩) (List.range n) zj2
 let c:Nat->Int:=λk=>Classical.choose (hz k)
 have hcf:(λt=>(c t:Rat))=f:=by funext t;exact(zI2 (hz t)).symm
 have hc:NW (sp (List.range n) (qM M)) (λt=>(c t:Rat)):=by rw[hcf];exact hf
 have hc0:c 0=1:=by
  have:(c 0:Rat)=1:=hc.1;exact zV3.1 (this.trans Rat.intCast_one.symm)
 have ht:=NN_tr hc;have hsz:=qrz hn h1 hc0 ht;obtain⟨d1,d2,d3⟩:=qri zj2 (λi hi j hj=>by show(M i j:Rat)=(M j i:Rat);rw[hs i j (zT1.1 hi) (zT1.1 hj)]) hd hc
 have hle:=qqc (L:=List.range n) (b:=b);rw[zP2]at hle d1;generalize hpi:npos (List.range n) b=Z at*;generalize hnu:npos (List.range n) (λi=> -b i)=H at*
 have bd: ∀k,k<=n->k*(e+40)<=160640:=λk hk=>zK (zZ2 (show k<=16 by omega) (show e+40<=10040 by omega)) (by decide)
 have hq:vsF (λi=>c (n-i)) 0 (n+1) 0=Z:=by
  rw[qsr]
  have e1:((List.range' 0 (n+1)).map λi=>((c (n-i):Int):Rat))=((1:Rat)::cs (λt=>(c t:Rat)) n).reverse:=by
   apply List.ext_getElem
   . rw[zQ1,List.length_range',List.length_reverse,zD1,qp1]
   . intro i hi1 hi2;rw[List.getElem_reverse];have hi:i<n+1:=by rw[zQ1,List.length_range']at hi1;exact hi1
     simp only[zp1,List.getElem_range',zD1,qp1];rw[zF,zf2];by_cases ci:i=n
     . subst ci;simp[hc0]
     . obtain⟨j,hj⟩: ∃j,n-i=j+1:=⟨n-i-1,O⟩;have:n+1-1-i=j+1:=O;simp only[this,List.getElem_cons_succ,hj];simp[cs]
  rw[e1,qub];have e2:sgq (1:Rat)=1:=by decide
  rw[vs,e2,zw3,iN' (by decide),zF,iN' (by decide)]
  obtain⟨l,hl⟩: ∃l,cs (λt=>(c t:Rat)) n=cs (λt=>(c t:Rat)) (Z+H)++l/\ ∀x∈l,x=0:=by
   have hsplit:n=(Z+H)+(n-(Z+H)):=O;refine⟨(List.range (n-(Z+H))).map λi=>(c (Z+H+i+1):Rat),?_,?_⟩
   . unfold cs;conv=>lhs;rw[hsplit]
     rw[List.range_add,z01,zx3];rfl
   . intro x hx;obtain⟨i,hi,rfl⟩:=zi.1 hx;have:=zT1.1 hi;exact d1 (Z+H+i+1) O O
  rw[hl.1,qpg hl.2,d3]
 have hraw:=qpx hm hn (c:=c) (e:=e) O h1 hs (λk hk i j hi hj=>zK ((hsz k hk).1 i j hi hj) (zK (bd k hk) O)) (λk hk=>zK (hsz k hk).2 (by have:=bd k hk;omega)) hc0 (λk _ _=>ht k)
  (z:=n-(Z+H)) O (λi hi=>by
    have:=d1 (n-i) O O;exact zV3.1 (this.trans zg3.symm)) (λhlt h=>by
    have e1:n-(n-(Z+H))=Z+H:=O;rw[e1]at h;exact d2 (by show(c (Z+H):Rat)=0;rw[h];exact zg3)) hq O
 rw[hraw];congr 4;omega
end Go.Vs.F
