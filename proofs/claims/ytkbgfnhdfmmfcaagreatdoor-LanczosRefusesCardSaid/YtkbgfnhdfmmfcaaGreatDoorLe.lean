import Derived.Test.YtkbgfnhdfmmfcaaGreatDoorLd
import Derived.KernelRfl
import Derived.Test.YtkbgfnhdfmmfcaaGreatDoorFn
import Derived.Test.YtkbgfnhdfmmfcaaGreatDoorLc
set_option linter.unusedVariables false
set_option linter.unusedSimpArgs false
set_option maxRecDepth 100000
set_option linter.defProp false
namespace Go.Vs.F
def qnv (m:Nat) {a b:LI} (hb:Lm b) (hl:b.length<=1000000) {i x:Nat} (K:i<a.length) (G:a.getD i 0=(x:Int)) (hx:x<4294967296) (hi:i<=1000000): ∀(n j:Nat) (out:LI) (c:Nat),b.length-j<n->j<=b.length->Lm out->i+b.length<out.length->c<4294967296->
 ∃u c',na m n a b out (i:Int) (c:Int) (j:Int)=some (.inl (a,b,u,(i:Int),((c':Nat):Int),()))/\Lm u/\u.length=out.length/\c'<4294967296/\
  (∀p,i+b.length<=p->u.getD p 0=out.getD p 0)/\vl u+4294967296^(i+b.length)*c'=vl out+4294967296^(i+j)*(c+x*vl (b.drop j))
 |0,j,out,c,h,_,_,_,_=>O
 |n+1,j,out,c,h,b0,J,a0,hc=>by rw[na];by_cases hj:j<b.length;{have h1:((j:Int)<(b.length:Int)):=O;have c0:(0:Int)<=(i:Int)/\(i:Int)<(a.length:Int):=O;have c1:(0:Int)<=(j:Int)/\(j:Int)<(b.length:Int):=O;obtain⟨y,ey,hy⟩:=hb.get hj;have w0:wI ((i:Int)+(j:Int))=((i+j:Nat):Int):=by{rw[wQ,wi O O];omega};have c2:(0:Int)<=((i+j:Nat):Int)/\((i+j:Nat):Int)<(out.length:Int):=O;obtain⟨z,ez,hz⟩:=J.get (show i+j<out.length by omega);have hm:=Up hx hy;have w1:wJ (x:Int)=(x:Int):=bp O;have w2:wJ (y:Int)=(y:Int):=bp O;have w3:wJ (z:Int)=(z:Int):=bp O;have w4:wJ ((x:Int)*(y:Int))=((x*y:Nat):Int):=by{rw[show(x:Int)*(y:Int)=((x*y:Nat):Int) by rw[sG],bp O]};have w5:wJ ((c:Int)+((x*y:Nat):Int))=((c+x*y:Nat):Int):=by{rw[show(c:Int)+((x*y:Nat):Int)=((c+x*y:Nat):Int) by rw[xd],bp O]};have w6:wJ (((c+x*y:Nat):Int)+(z:Int))=((c+x*y+z:Nat):Int):=by{rw[show((c+x*y:Nat):Int)+(z:Int)=((c+x*y+z:Nat):Int) by rw[xd (c+x*y)],bp O]};have e1:wK ((c+x*y+z:Nat):Int)=(((c+x*y+z)%4294967296:Nat):Int):=fm;have e2:aJ .u64 ((c+x*y+z:Nat):Int) 32=(((c+x*y+z)/4294967296:Nat):Int):=cI (a:=c+x*y+z) (k:=32) O;rw[bQ,iP h1,iP c0,iP c1,w0,iP c2,iP c2,tN,tN,tN,zH,G,ey,ez,w1,w2,w3,w4,w5,w6,e1,e2,show wI ((j:Int)+1)=((j+1:Nat):Int)from ax O];have hlen:(out.set (i+j) (((c+x*y+z)%4294967296:Nat):Int)).length=out.length:=zT ..;obtain⟨u,c',g1,g2,g3,g4,g5,g6⟩:=qnv m hb hl K G hx hi n (j+1) (out.set (i+j) (((c+x*y+z)%4294967296:Nat):Int)) ((c+x*y+z)/4294967296) O O (Zo J O) O O;refine⟨u,c',g1,g2,O,g4,λp hp=> ?_,?_⟩;{rw[g5 p hp,bu O]};{rw[g6];have hs:=J8 (l:=out) (p:=i+j) (y:=(((c+x*y+z)%4294967296:Nat):Int)) O;rw[ez,tN,tN]at hs;have hd:vl (b.drop j)=y+4294967296*vl (b.drop (j+1)):=by{rw[X7 hj,ey,tN]};rw[hd,show i+(j+1)=i+j+1 by omega,gJ];generalize 4294967296^(i+j)=P at*;generalize vl (b.drop (j+1))=D at*;generalize vl (out.set (i+j) (((c+x*y+z)%4294967296:Nat):Int))=A at*;have ht:c+x*y+z=(c+x*y+z)%4294967296+4294967296*((c+x*y+z)/4294967296):=(LK _ _).symm;have k1:P*(c+x*y+z)=P*((c+x*y+z)%4294967296)+P*(4294967296*((c+x*y+z)/4294967296)):=by{rw[<-Nat.mul_add,<-ht]};have k2:P*(c+x*y+z)=P*c+P*(x*y)+P*z:=by{rw[zK,zK]};have k3:P*4294967296*((c+x*y+z)/4294967296+x*D)=P*(4294967296*((c+x*y+z)/4294967296))+P*(4294967296*(x*D)):=by{rw[zK,zV,zV]};have k4:P*(c+x*(y+4294967296*D))=P*c+(P*(x*y)+P*(4294967296*(x*D))):=by{rw[zK,zK x,zK P (x*y),uj x 4294967296 D]};rw[k3,k4];omega}};{rw[bQ,af O];have:j=b.length:=O;subst this;refine⟨out,c,rfl,J,rfl,hc,λ_ _=>rfl,?_⟩;rw[qo (zJ _),zx,zQ]}
def qnc (m:Nat) {a b:LI} (hm:2000000<m) (ha:Lm a) (hb:Lm b) (K:a.length<=1000000) (G:b.length<=1000000): ∀(n i:Nat) (out:LI),a.length-i<n->i<=a.length->Lm out->out.length=a.length+b.length->(∀p,i+b.length<=p->out.getD p 0=0)->
 ∃u,nb m n a b out (i:Int)=some (.inl (u,()))/\Lm u/\u.length=a.length+b.length/\vl u=vl out+4294967296^i*(vl (a.drop i)*vl b)
 |0,i,out,h,_,_,_,_=>O
 |n+1,i,out,h,a0,ho,J,hz=>by rw[nb];by_cases hi:i<a.length;{have h1:((i:Int)<(a.length:Int)):=O;obtain⟨x,ex,hx⟩:=ha.get hi;obtain⟨o1,c,g1,g2,g3,g4,g5,g6⟩:=qnv m (a:=a) hb G (i:=i) hi ex hx O m 0 out 0 O O ho O O;rw[nZ]at g1;have w0:wI ((i:Int)+(b.length:Int))=((i+b.length:Nat):Int):=by{rw[wQ,wi O O];omega};have c2:(0:Int)<=((i+b.length:Nat):Int)/\((i+b.length:Nat):Int)<(o1.length:Int):=O;have w1:wK (c:Int)=(c:Int):=by{rw[fm];congr 1;omega};rw[bQ,iP h1,g1,bS];dsimp only;rw[w0,iP c2,tN,zH,w1,show wI ((i:Int)+1)=((i+1:Nat):Int)from ax O];have hs:=J8 (l:=o1) (p:=i+b.length) (y:=(c:Int)) O;rw[g5 _ (zJ _),hz _ (zJ _),tN]at hs;obtain⟨u,q1,q2,q3,q4⟩:=qnc m hm ha hb K G n (i+1) (o1.set (i+b.length) (c:Int)) O O (Zo g2 g4) (by rw[zT];omega) (λp hp=>by{rw[bu O,g5 p O];exact hz p O});refine⟨u,q1,q2,q3,?_⟩;rw[q4,X7 hi,ex,tN,gJ];simp only[LB,zx,zQ,zH,iX]at hs g6;rw[fT,zK];have k:4294967296^i*4294967296*(vl (a.drop (i+1))*vl b)=4294967296^i*(4294967296*vl (a.drop (i+1))*vl b):=by{rw[zV,zV]};rw[k];omega};{rw[bQ,af O];refine⟨out,rfl,ho,J,?_⟩;rw[qo O,Be,zx,zQ]}
def qpd {m:Nat} (hm:4000000<=m) {a b:LI} (ha:Lm a) (hb:Lm b) (a0:a.length<=400000) (K:b.length<=400000): ∃out,Ef m a b=some (out,(),(),())/\Lm out/\out.length=a.length+b.length/\vl out=vl a*vl b:=by have w:wI ((a.length:Int)+(b.length:Int))=((a.length+b.length:Nat):Int):=by{rw[wQ,wi O O];omega};obtain⟨out,e,J,G,u⟩:=qnc m O ha hb O O m 0 (List.replicate (a.length+b.length) 0) O O Qq (by simp) (λp hp=>by{by_cases h:p<a.length+b.length;{rw[Xg h]};{rw[Zh (by simpa using h)]}});rw[nZ]at e;refine⟨out,?_,J,G,?_⟩;{rw[Ef,w,iP O,tN,e];rfl};{rw[u,Qw];simp}
def qmz {m:Nat} (hm:4000000<=m) {n1 n2:Bool} {G u:LI} (J:Lm G) (h2:Lm u) (hl:G.length+u.length<=400000):J1 m n1 G n2 u=some (zB (zv n1 G*zv n2 u),(),(),()):=by have b1:=X0 J;have b2:=X0 h2;obtain⟨out,e,q1,q2,K⟩:=qpd hm (Q7 (vl G)) (Q7 (vl u)) O O;rw[J1,Z4 J O O,bS,Z4 h2 O O,bS];dsimp only;rw[e,bS];dsimp only;rw[Y3 O q1 O,bS];have:zv (!(n1==n2)) out=zv n1 G*zv n2 u:=by{unfold zv;rw[K,qw,qw];cases n1<;>cases n2<;>simp[IK,RX]};rw[this]
end Go.Vs.F
set_option maxRecDepth 100000
namespace Go.Vs.F
def Rs (x:Int):Prop:= -9223372036854775808<=x/\x<9223372036854775808
def aM (f:Int):Int:=sc (pF f) (n8 f) (-1074)
def Xn {f:Int} (h:aU f):fo f=aE (aM f) (-1074):=by have he:=LU (f:=f);unfold fo aM;rw[iP h,A1 O]
def cf {f:Int} (h:aU f):bX (aM f) (-1074):=by have he:=LU (f:=f);have:=qv4 h;unfold bX aM at*;rwa [A1 O]
abbrev bJ:=Bool×(Bool×LI)×Int
def AA (d:Bool×Bool×LI×Int×Unit):bJ:=(d.1,((d.2.1,d.2.2.1),d.2.2.2.1))
def cN:LI->Int
 |[]=>0
 |x::l=>x+cN l
def qiv {a b:LI}:cN (a++b)=cN a+cN b:=by induction a with|nil=>simp[cN]|cons x a u=>{rw[AY,cN,cN,u];omega}
def Tf {v:Int} (h:aU v):ak (aM v).natAbs<=2100:=by have G:=SW v;have h2:=qu4 h;have u:=LU (f:=v);have:=NP (w:=pF v) (f:=n8 v) (b:= -1074) O;unfold aM;omega
def Xp {a b:Int} (G:aU a) (u:aU b):bX (aM a*aM b) (-2148):=by by_cases h:aM a*aM b=0;{rw[h];exact qj9 _};{have h1:=Tf G;have h2:=Tf u;have K:=Tk (a:=aM a) (b:=aM b);have J:=Wt (n:=(aM a*aM b).natAbs);exact Yc.2 (.inr ⟨O,O⟩)}
def qil {m:Nat} (hm:4000000<=m) {a b B C:Int}:
 nM m (aE a B).1 (aE a B).2.1 (aE a B).2.2.1 (aE a B).2.2.2.1 (aE b C).1 (aE b C).2.1 (aE b C).2.2.1 (aE b C).2.2.2.1=some (if bX a B/\bX b C then aE (a*b) (B+C)else su,(),(),()):=by rw[nM,X8 O,bS,X8 O,bS];dsimp only;by_cases u:bX a B;{by_cases h2:bX b C;{obtain⟨w,f,k,k1,k2,k3⟩:=Xf u;obtain⟨x,g,l,l1,l2,K⟩:=Xf h2;have e0:=k.lo;have d0:=k.hi;have c0:=l.lo;have b0:=l.hi;have n1:=k.len;have n2:=l.len;have hl:=k.lim;have a0:=l.lim;have G:(aE a B).1=false:=u;have i2:(aE b C).1=false:=h2;have J:wI (f+g)=f+g:=by{rw[wQ,wi O O]};rw[iP ⟨u,h2⟩,k1,k2,k3,l1,l2,K,G,i2,cond_false,cond_false,qmz hm (dj w) (dj x) O,aP,aP,bS,J];dsimp only;rw[I7 O (zf Tk O) O O,(k.eq.mul l.eq).mk];rfl};{have G:(aE a B).1=false:=u;rw[af (λh=>h2 h.2),G,cond_false,vL h2];rfl}};{rw[af (λh=>u h.1),vL u];rfl}
def Wp {m:Nat} (hm:3000000<m) {n:Int} (h:Rs n):K2 m n=some (aE n 0,(),()):=by have u:ak n.natAbs<=1000:=zf (Qo (k:=64) (by unfold Rs at h;omega)) O;rw[K2,TK O h.1 h.2,bS];dsimp only;rw[I7 hm O O O];rfl
def eH (x y:LI) (k:Nat):LI:=(List.range k).map λi=>aM (x.getD i 0)*aM (y.getD i 0)
def qhz {a b:Int} (G:aU a) (u:aU b):ak (aM a*aM b).natAbs<=4200:=by have K:=Tf G;have h2:=Tf u;have J:=Tk (a:=aM a) (b:=aM b);omega
def qh5 {m:Nat} (hm:3000000<m) {z e:Int} (h:bX z e):Mu m (aE z e).1 (aE z e).2.1 (aE z e).2.2.1 (aE z e).2.2.2.1=some (aE (z.natAbs:Int) e,(),()):=by have i:(aE z e).1=false:=h;rw[Mu,X8 hm,bS];dsimp only;rw[i,cond_false];obtain⟨w,f,k,J,G,u⟩:=Xf h;have hb:=k.len;have a0:=k.lo;have K:=k.hi;rw[J,G,u,Nx O k.Sz,bS,aP];dsimp only;rw[I7 hm (by rw[zy];omega) O O,bS];have e1:cU (w.natAbs:Int) f (z.natAbs:Int) e:=by{obtain⟨b,b1,b2,b3⟩:=k.eq;refine⟨b,b1,b2,?_⟩;unfold sc at*;have h1:(w.natAbs:Int)*2^(f-b).toNat=((w*2^(f-b).toNat).natAbs:Int):=by{rw[Yf,sG,px];exact MB _ _};have h2:(z.natAbs:Int)*2^(e-b).toNat=((z*2^(e-b).toNat).natAbs:Int):=by{rw[Yf,sG,px];exact MB _ _};rw[h1,h2,b3]};rw[e1.mk]
def ql8 {z e:Int} (h:bX z e):bX (z.natAbs:Int) e:=by rw[Yc]at*;rw[zy];omega
def dy (B z:Int):bJ:=AA (aE z B)
def Ro {zs:LI} {B:Int} {k:Nat} (u:k<zs.length) {d:bJ}:(zs.map (dy B)).getD k d=dy B (zs.getD k 0):=by simp[List.getD,u]
def Ml {zs:LI} {k:Nat} (u:k<zs.length):cN (zs.take (k+1))=cN (zs.take k)+zs.getD k 0:=by rw[MK u,qiv];simp[cN,List.getD,u]
def ja (B:Int):Int->LI->Int
 |e,[]=>e
 |e,z::zs=>ja B (if(aE z B).2.2.2.1<e then(aE z B).2.2.2.1 else e) zs
def Ve {B:Int}: ∀{zs:LI} {e:Int},ja B e zs<=e/\ ∀z∈zs,ja B e zs<=(aE z B).2.2.2.1
 |[],e=>⟨E3 _,λz h=>by cases h⟩
 |z::zs,e=>by have G:=Ve (B:=B) (zs:=zs) (e:=if(aE z B).2.2.2.1<e then(aE z B).2.2.2.1 else e);unfold ja;have J:(if(aE z B).2.2.2.1<e then(aE z B).2.2.2.1 else e)<=e/\(if(aE z B).2.2.2.1<e then(aE z B).2.2.2.1 else e)<=(aE z B).2.2.2.1:=by{split<;>omega};refine⟨O,λy u=> ?_⟩;rcases mC u with rfl|u;{omega};{exact G.2 y u}
def UU {B:Int}: ∀{zs:LI} {e:Int},-65536<=e->(∀z∈zs,bX z B)-> -65536<=ja B e zs
 |[],e,h,_=>h
 |z::zs,e,h,u=>by unfold ja;refine UU ?_ λy J=>u y (mT J);obtain⟨w,f,k,O,K,G⟩:=Xf (u z mS);have:=k.lo;rw[G];split<;>omega
def YY {m:Nat} (hm:3000000<m) {B:Int} {zs:LI} (hl:zs.length<=10000) (G: ∀z∈zs,bX z B) (t0 t1:Bool) (K:LI) (J:Int): ∀(n k:Nat) (e:Int),zs.length-k<n->k<=zs.length->
 mY m n t0 t1 K J ((zs.take k).map (dy B)) e (zs.map (dy B)) (zs.length:Int) (k:Int)=some (.inr (.inl ((t0,t1,K,J,()),zs.map (dy B),ja B e (zs.drop k),())))
 |0,k,e,h,_=>absurd h (zA _)
 |n+1,k,e,h,a0=>by rw[mY,bQ];by_cases u:k<zs.length;{have hz:bX (zs.getD k 0) B:=G _ (Xj u);have ih:=YY hm hl G t0 t1 K J n (k+1) (if(aE (zs.getD k 0) B).2.2.2.1<e then(aE (zs.getD k 0) B).2.2.2.1 else e) O O;rw[iP O,iP (by rw[zh];omega),tN,Ro u,show iM m (dy B (zs.getD k 0)).1 (dy B (zs.getD k 0)).2.1.1 (dy B (zs.getD k 0)).2.1.2 (dy B (zs.getD k 0)).2.2=_ from L4 hm,bS];dsimp only;rw[decide_eq_true hz,uw,cond_false,iP (by simp;omega),show wI ((k:Int)+1)=((k+1:Nat):Int)from ax O];have e1:(zs.take k).map (dy B)++[((aE (zs.getD k 0) B).1,((aE (zs.getD k 0) B).2.1,(aE (zs.getD k 0) B).2.2.1),(aE (zs.getD k 0) B).2.2.2.1)]=(zs.take (k+1)).map (dy B):=by{rw[MK u,sF];simp[dy,AA,List.getD,u]};have e2:ja B e (zs.drop k)=ja B (if(aE (zs.getD k 0) B).2.2.2.1<e then(aE (zs.getD k 0) B).2.2.2.1 else e) (zs.drop (k+1)):=by{rw[EV u,ja];simp[List.getD,u]};rw[e1,e2];exact ih};{have:k=zs.length:=O;subst this;rw[af O,EY,List.drop_length];rfl}
def qro {m:Nat} (hm:3000000<m) {B:Int} {zs:LI} (hl:zs.length<=10000) (G: ∀z∈zs,bX z B) {E:Int} (K: -65536<=E) (a0:E<=0) (hE: ∀z∈zs,E<=(aE z B).2.2.2.1) (t0 t1:Bool) (t2:LI) (t3:Int): ∀(n k:Nat) (S:Int),zs.length-k<n->k<=zs.length->
 ak S.natAbs<=300000+k->cU S E (cN (zs.take k)) B->
 ∃T,mX m n t0 t1 t2 t3 E (zB S).1 (zB S).2.1 (zs.map (dy B)) (zs.length:Int) (k:Int)=some (.inl ((t0,t1,t2,t3,()),E,((zB T).1,(zB T).2.1,()),()))/\ak T.natAbs<=400000/\cU T E (cN zs) B
 |0,k,S,h,_,_,_=>absurd h (zA _)
 |n+1,k,S,h,b0,hS,hQ=>by rw[mX,bQ];by_cases hk:k<zs.length;{have hz:bX (zs.getD k 0) B:=G _ (Xj hk);obtain⟨w,f,u,k1,k2,k3⟩:=Xf hz;have J:E<=f:=by{rw[<-k3];exact hE _ (Xj hk)};have d0:=u.lo;have c0:=u.hi;have s1:=nV u J K;have hle:=u.len;have w1:wI (f-E)=f-E:=by{rw[wQ,wi O O]};have q2:cU (S+sc w f E) E (cN (zs.take (k+1))) B:=by{rw[Ml hk];exact hQ.add (c:=0) (g:=0) ((cU.sc J).trans u.eq)};have q1:ak (S+sc w f E).natAbs<=300000+(k+1):=by{have:=Zw (k:=300000+k) hS (zf s1 O);omega};obtain⟨T,i1,i2,i3⟩:=qro hm hl G K a0 hE t0 t1 t2 t3 n (k+1) (S+sc w f E) O O q1 q2;refine⟨T,?_,i2,i3⟩;rw[iP O,iP (by rw[zh];omega),tN,zH,Ro hk,show(dy B (zs.getD k 0)).2.1.1=(zB w).1 from k1,show(dy B (zs.getD k 0)).2.1.2=(zB w).2.1 from k2,show(dy B (zs.getD k 0)).2.2=f from k3,w1,d7 hm O O O,bS];dsimp only;rw[M9 O (oW O) (oW (by unfold sc at s1;omega)),aP,aP,bS,show wI ((k:Int)+1)=((k+1:Nat):Int)from ax O];exact i1};{have:k=zs.length:=O;subst this;rw[EY]at hQ;exact⟨S,by rw[af O],O,hQ⟩}
def qqz {m:Nat} (hm:3000000<m) {B:Int} {zs:LI} (hl:zs.length<=10000) (u: ∀z∈zs,bX z B):zr m (zs.map (dy B))=some (aE (cN zs) B,(),()):=by have h0:=YY hm hl u false false [] 0 m 0 0 O O;rw[sC,iX,E4,nZ]at h0;rw[zr,zh,h0,bS];dsimp only;have K:=Ve (B:=B) (zs:=zs) (e:=0);have G:=UU (B:=B) (zs:=zs) (e:=0) O u;obtain⟨T,J,i2,i3⟩:=qro hm hl u G K.1 K.2 false false [] 0 m 0 0 O O (zf (Qo (n:=0) (k:=0) (by decide)) O) (cU.zero _ _);rw[nZ]at J;rw[zh,show([]:LI)=(zB 0).2.1 from Qd.symm,show false=(zB 0).1 from rfl];rw[show(zB 0).1=false from rfl,show(zB 0).2.1=([]:LI)from Qd]at*;rw[J,bS];dsimp only;rw[LZ hm O O O,i3.mk];rfl
end Go.Vs.F
set_option maxRecDepth 100000
namespace Go.Vs.F
def bY (l:LI):Prop:= ∀i,i<l.length->cd (l.getD i 0)/\aU (l.getD i 0)
def UL (l:LI):Prop:= ∀i,i<l.length->cd (l.getD i 0)
def Bt (m:Nat) (a:Int) {k:Nat} (G:0<k) (K:k<9223372036854775808): ∃r:Nat,r<k/\wW m a (k:Int)=some ((r:Int),(),(),()):=by have w:wJ (k:Int)=(k:Int):=bp O;obtain⟨x,J,_⟩:=qvo a;have u:wJ a=(x:Int):=J;refine⟨x%k,iV _ G,?_⟩;have:=iV x G;rw[wW,w,u,iP O,tm,wQ,wi O O]
def xl (a:Int):cd (IntKind.wrap .u64 a):=Uw a
def SX (m:Nat) {raw:LI} (hl:raw.length<=9223372036854775807) (k:Int): ∃w,Ch m raw k=some (w,(),(),())/\cd w:=by rw[Ch,bQ];by_cases c:0<raw.length;{obtain⟨r,u,e⟩:=Bt m k (k:=raw.length) c O;rw[iP O,e,bS];dsimp only;rw[iP O];exact⟨_,rfl,xl _⟩};{rw[af O];exact⟨_,rfl,xl _⟩}
def qr2 {x M E:Nat} (J:x<18446744073709551616) (hM:M<18446744073709551616) (G:M/4503599627370496%2048=0) (hE:E<2047):
 cd (bf .u64 (qp .u64 (x:Int) (M:Int)) (bw .u64 (wJ (E:Int)) 52))/\aU (bf .u64 (qp .u64 (x:Int) (M:Int)) (bw .u64 (wJ (E:Int)) 52)):=by refine⟨xl _,?_⟩;have e2:bw .u64 (wJ (E:Int)) 52=((E*2^52:Nat):Int):=by{rw[bp O];exact fV (a:=E) (k:=52) O (by rw[show(2:Nat)^52=4503599627370496 by decide];omega)};have K:x&&&M<18446744073709551616:=wR Nat.and_le_left J;have u:(2:Nat)^52=4503599627370496:=by{decide};rw[jE J hM,e2,lI K (by rw[u];omega)];unfold aU cO;have key:(x&&&M|||E*2^52)/2^52%2^11=E:=by{rw[<-Nat.shiftRight_eq_div_pow,Nat.shiftRight_or_distrib,Nat.or_mod_two_pow,Nat.shiftRight_and_distrib,Nat.and_mod_two_pow,Nat.shiftRight_eq_div_pow M,u];rw[show(2:Nat)^11=2048 by decide,G,Nat.and_zero,Nat.zero_or,Nat.shiftRight_eq_div_pow,u,Nat.mul_div_cancel _ (by decide)];omega};rw[u,show(2:Nat)^11=2048 by decide]at key;rw[u];generalize (x&&&M|||E*4503599627370496)=Z at*;omega
def MY:LI:=[13844628204490326016,13844065254536904704,13842939354630062080,13841813454723219456,13840687554816376832,13839561654909534208,13837309855095848960,13835058055282163712,13830554455654793216,0,4607182418800017408,4611686018427387904,4613937818241073152,4616189618054758400,4617315517961601024,4618441417868443648,4619567317775286272,4620693217682128896,4621256167635550208]
def qqv (j:Nat):((List.range 19).map λr=>rU (j+100) ((r:Nat):Int))=MY.map λf=>some (f,(),()):=by kernel_rfl
def quw:(MY.all λf=>decide ((0<=f/\f<18446744073709551616)/\f/4503599627370496%2048≠2047))=true:=by decide+kernel
def qqc {m:Nat} (hm:5000000000<=m) {x:Int} (J:cd x): ∃f,rU m x=some (f,(),())/\cd f/\aU f:=by obtain⟨j,rfl⟩: ∃j,m=j+100:=⟨m-100,O⟩;obtain⟨y,rfl⟩: ∃y:Nat,x=(y:Int):=⟨x.toNat,by have:=J.1;omega⟩;have K:y%19<19:=iV _ (by decide);have e:rU (j+100) ((y:Nat):Int)=rU (j+100) ((y%19:Nat):Int):=by{rw[rU,rU,show(19:Int)=((19:Nat):Int)from rfl,tm,tm,Bm]};have G:=congrArg (λl=>l[y%19]?) (qqv j);have hl:MY.length=19:=by{decide};simp only[List.getElem?_map,List.getElem?_range K,List.getElem?_eq_getElem (show y%19<MY.length by omega),xi,zZ]at G;have h2:=zn.1 quw MY[y%19] (zW _);have u:=of_decide_eq_true h2;exact⟨_,by rw[e];exact G,u.1,u.2⟩
def qr0 {m:Nat} (hm:5000000000<=m) {x:Int} (u:cd x) (style:Int): ∃f,OI m x style=some (f,(),(),())/\cd f/\aU f:=by obtain⟨r,hr,e⟩:=Bt m style (k:=4) (by decide) (by decide);obtain⟨y,rfl⟩: ∃y:Nat,x=(y:Int):=⟨x.toNat,by have:=u.1;omega⟩;have K:y<18446744073709551616:=by{have:=u.2;omega};rw[OI,show(4:Int)=((4:Nat):Int)from rfl,e,bS,aA,aA,aA];dsimp only;by_cases c1:r=1;{subst c1;have J:qp .u64 (aJ .u64 (y:Int) 52) 7=((y/4503599627370496%8:Nat):Int):=by{have G:aJ .u64 (y:Int) 52=((y/4503599627370496:Nat):Int):=cI (a:=y) (k:=52) O;have h2:qp .u64 ((y/4503599627370496:Nat):Int) ((7:Nat):Int)=((y/4503599627370496&&&7:Nat):Int):=jE O (by decide);rw[G,show(7:Int)=((7:Nat):Int)from rfl,h2,EX _ 3]};have:=qr2 (x:=y) (M:=9227875636482146303) (E:=1019+y/4503599627370496%8) K (by decide) (by decide) O;rw[iP (by decide),J,show(1019:Int)+((y/4503599627370496%8:Nat):Int)=((1019+y/4503599627370496%8:Nat):Int) by omega];exact⟨_,rfl,this⟩};{rw[af O];by_cases c2:r=2;{subst c2;have J:Int.tmod (aJ .u64 (y:Int) 8) 81=((y/256%81:Nat):Int):=by{have G:aJ .u64 (y:Int) 8=((y/256:Nat):Int):=cI (a:=y) (k:=8) O;rw[G,show(81:Int)=((81:Nat):Int)from rfl,tm]};have:=qr2 (x:=y) (M:=9225623836668461056) (E:=983+y/256%81) K (by decide) (by decide) O;rw[iP (by decide),J,show(983:Int)+((y/256%81:Nat):Int)=((983+y/256%81:Nat):Int) by omega];exact⟨_,rfl,this⟩};{rw[af O];by_cases c3:r=3;{subst c3;rw[iP (by decide),Xx u,bS];dsimp only;by_cases f:aU (y:Int);{rw[decide_eq_true f];exact⟨_,rfl,u,f⟩};{rw[decide_eq_false f];exact⟨_,rfl,⟨by decide,by decide⟩,by decide⟩}};{rw[af O];obtain⟨f,ef,G,h2⟩:=qqc hm u;rw[ef,bS];exact⟨_,rfl,G,h2⟩}}}
def NA:bY []:=λi u=>absurd u (zA _)
def Th {l:LI} (h:bY l) {f:Int} (G:cd f) (h2:aU f):bY (l++[f]):=by intro i u;rw[zG,zL]at u;by_cases c:i<l.length;{have:(l++[f]).getD i 0=l.getD i 0:=by{rw[List.getD,List.getElem?_append_left c];rfl};rw[this];exact h i c};{have:i=l.length:=O;subst this;have:(l++[f]).getD l.length 0=f:=by{simp[List.getD]};rw[this];exact⟨G,h2⟩}
def qmj {m:Nat} (hm:5000000000<=m) {raw:LI} (hl:raw.length<=9223372036854775807) {at0 n:Nat} (K:at0<=1000) (hn:n<=1000) (style:Int): ∀(N k:Nat) (out:LI),n-k<N->k<=n->out.length=k->bY out->
 ∃l,rI m N raw (at0:Int) (n:Int) style out (k:Int)=some (.inl (l,()))/\l.length=n/\bY l:=by intro N;induction N with|zero=>{intro k out h;omega}|succ N J=>{intro k out h hk u G;rw[rI,bQ];by_cases c:k<n;{obtain⟨w,ew,hw⟩:=SX m hl (wI ((at0:Int)+(k:Int)));obtain⟨f,ef,h1,h2⟩:=qr0 hm hw style;rw[iP O,ew,bS,ef,bS,u,iP (by show k+1<=_;omega),wQ,ax O];exact J (k+1) _ O O (by simp[u]) (Th G h1 h2)};{rw[af O];exact⟨out,rfl,O,G⟩}}
def qew {m:Nat} (hm:5000000000<=m) {raw:LI} (hl:raw.length<=9223372036854775807) {at0 n:Nat} (u:at0<=1000) (hn:n<=1000) (style:Int): ∃l,Lf m raw (at0:Int) (n:Int) style=some (l,(),(),(),(),())/\l.length=n/\bY l:=by obtain⟨l,e,G,h2⟩:=qmj hm hl u hn style m 0 [] O O rfl NA;refine⟨l,?_,G,h2⟩;rw[Lf];rw[nZ]at e;rw[e,bS]
def bY.U {l:LI} (h:bY l):UL l:=λi u=>(h i u).1
def Ny {m:Nat} (hm:3000000<m) {B:Int} {zs:LI} (hl:zs.length<=10000) (u: ∀z∈zs,bX z B) (t0 t1:Bool) (t2:LI) (t3:Int): ∀(n k:Nat) (T e:Int),zs.length-k<n->k<=zs.length->
 cU T e (cN (zs.take k)) B-> -65536<=e->e<=65536->(ak T.natAbs:Int)+e<=65536+(k:Int)->
 ∃T' e',kU m n (zs.map (dy B)) t0 t1 t2 t3 (zB T).1 (zB T).2.1 e (k:Int)=some (.inr (.inl ((t0,t1,t2,t3,()),((zB T').1,(zB T').2.1,()),e',())))/\ak T'.natAbs<=200000/\cU T' e' (cN zs) B/\ -65536<=e'/\e'<=65536
 |0,k,T,e,h,_,_,_,_,_=>absurd h (zA _)
 |n+1,k,T,e,h,e0,hQ,a0,K,hb=>by rw[kU,bQ];by_cases hk:k<zs.length;{have hz:bX (zs.getD k 0) B:=u _ (Xj hk);obtain⟨w,f,J,k1,k2,k3⟩:=Xf hz;have c0:=J.lo;have g0:=J.hi;have hle:=J.len;have w0:wI ((k:Int)+1)=((k+1:Nat):Int):=ax O;have d0:(aE (zs.getD k 0) B).1=false:=hz;rw[iP (by rw[zh];omega),iP (by rw[zh];omega),tN,Ro hk,show nH m (dy B (zs.getD k 0)).1 (dy B (zs.getD k 0)).2.1.1 (dy B (zs.getD k 0)).2.1.2 (dy B (zs.getD k 0)).2.2=_ from X8 hm,bS];dsimp only;rw[d0,cond_false,Mh hm hz,bS,aA];dsimp only;by_cases z0:zs.getD k 0=0;{rw[iP (Qa.2 z0),w0];exact Ny hm hl u t0 t1 t2 t3 n (k+1) T e O O (by rw[Ml hk,z0,RY];exact hQ) a0 K O};{have hT:Sz (zB T).2.1:=oW O;rw[af (λh=>z0 (Qa.1 h)),Zi O hT,bS,aP,aA];dsimp only;by_cases b0:T=0;{rw[iP (Qa.2 b0),w0,k1,k2,k3];subst b0;refine Ny hm hl u t0 t1 t2 t3 n (k+1) w f O O ?_ c0 O O;have q:=((cU.zero f e).trans hQ).add (c:=0) (g:=0) J.eq;rw[R3]at q;rw[Ml hk];exact q};{rw[af (λh=>b0 (Qa.1 h)),bQ,k1,k2,k3];by_cases G:f>=e;{have w1:wI (f-e)=f-e:=by{rw[wQ,wi O O]};have s1:=NP (w:=w) G;have s2:ak (T+sc w f e).natAbs<=(65536+(k:Int)-e).toNat+1:=Zw O O;rw[iP G,w1,Xz hm O O O,bS];dsimp only;rw[LV O hT (oW (by unfold sc at s1;omega)),aP,aP,bS,w0];refine Ny hm hl u t0 t1 t2 t3 n (k+1) (T+sc w f e) e O O ?_ a0 K O;rw[Ml hk];exact hQ.add (c:=0) (g:=0) ((cU.sc G).trans J.eq)};{have w1:wI (e-f)=e-f:=by{rw[wQ,wi O O]};have s1:=NP (w:=T) (f:=e) (b:=f) O;have s2:ak (sc T e f+w).natAbs<=(65536+(k:Int)-f).toNat+1:=Zw O O;rw[af G,w1,Xz hm O O O,bS];dsimp only;rw[LV O (oW (by unfold sc at s1;omega)) J.Sz,aP,aP,bS,w0];refine Ny hm hl u t0 t1 t2 t3 n (k+1) (sc T e f+w) f O O ?_ c0 O O;rw[Ml hk];exact((cU.sc O).trans hQ).add (c:=0) (g:=0) J.eq}}}};{have:k=zs.length:=O;subst this;rw[EY]at hQ;exact⟨T,e,by rw[af (by rw[zh];omega)],O,hQ,a0,K⟩}
def qlu {m:Nat} (hm:3000000<m) {B:Int} {zs:LI} (hl:zs.length<=10000) (u: ∀z∈zs,bX z B):K5 m (zs.map (dy B))=some (aE (cN zs) B,(),()):=by obtain⟨T,e,G,i2,J,i4,K⟩:=Ny hm hl u false false [] 0 m 0 0 0 O O (cU.zero _ _) O O (by rw[show(0:Int).natAbs=0 from rfl,Xr];omega);rw[nZ,show(zB 0).1=false from rfl,show(zB 0).2.1=([]:LI)from Qd]at G;rw[K5,G,bS];dsimp only;rw[I7 hm O O O,J.mk];rfl
def Ln {x y:LI} {k:Nat}:(eH x y k).map (dy (-2148))++[((aE (aM (x.getD k 0)*aM (y.getD k 0)) (-2148)).1,((aE (aM (x.getD k 0)*aM (y.getD k 0)) (-2148)).2.1,(aE (aM (x.getD k 0)*aM (y.getD k 0)) (-2148)).2.2.1),(aE (aM (x.getD k 0)*aM (y.getD k 0)) (-2148)).2.2.2.1)]=(eH x y (k+1)).map (dy (-2148)):=by unfold eH;rw[AW,sF,sF];rfl
def wN {x y:LI} {k:Nat}:(eH x y k).length=k:=by unfold eH;simp
def U8 {x y:LI} (J:bY x) (G:bY y) (he:x.length=y.length) {k:Nat} (hk:k<=x.length): ∀z∈eH x y k,bX z (-2148):=by intro z u;obtain⟨i,hi,rfl⟩:=zk.1 u;have K:=ux.1 hi;exact Xp (J i O).2 (G i O).2
def qjk {m:Nat} (hm:4000000<=m) {x y:LI} (hl:x.length<=1000) (he:x.length=y.length) (hx:bY x) (hy:bY y) (K J:Bool) (G:LI) (u:Int): ∀(n k:Nat),x.length-k<n->k<=x.length->
 qM m n x y K J G u ((eH x y k).map (dy (-2148))) (x.length:Int) (k:Int)=some (.inl ((K,J,G,u,()),(eH x y x.length).map (dy (-2148)),()))
 |0,k,h,_=>absurd h (zA _)
 |n+1,k,h,a0=>by rw[qM,bQ];by_cases hk:k<x.length;{have ih:=qjk hm hl he hx hy K J G u n (k+1) O O;obtain⟨u1,f1⟩:=hx k hk;obtain⟨u2,f2⟩:=hy k O;rw[iP O,iP O,tN,di O u1,bS,iP O,di O u2,bS,Xn f1,Xn f2];dsimp only;rw[I5 hm,iP ⟨cf f1,cf f2⟩,bS,show(-1074:Int)+ -1074= -2148 by decide];dsimp only;rw[iP (by simp[wN];omega),Ln,show wI ((k:Int)+1)=((k+1:Nat):Int)from ax O];exact ih};{rw[af O,show k=x.length by omega]}
def qqq {m:Nat} (hm:4000000<=m) {x y:LI} (hl:x.length<=1000) (he:x.length=y.length) (G:bY x) (u:bY y):TX m x y=some (aE (cN (eH x y x.length)) (-2148),(),(),()):=by have h:=qjk hm hl he G u false false [] 0 m 0 O O;rw[nZ]at h;rw[TX,show([]:List (Bool×(Bool×LI)×Int))=(eH x y 0).map (dy (-2148))from rfl,h,bS];dsimp only;rw[qqz O (by rw[wN];omega) (U8 G u he (zJ _))];rfl
def Y4 {m:Nat} (hm:4000000<=m) {a b:Int} (K:cd a) (J:cd b) (G:aU a) (u:aU b):jv m a b=some (aE (aM a*aM b) (-2148),(),(),()):=by rw[jv,vN O K,bS,vN O J,bS,Xn G,Xn u];dsimp only;rw[qil hm,iP ⟨cf G,cf u⟩,bS];rfl
def qr4 {m:Nat} (hm:4000000<=m) {x y:LI} (hl:x.length<=1000) (he:x.length=y.length) (hx:bY x) (hy:bY y) (K J:Bool) (G:LI) (u:Int): ∀(n k:Nat),x.length-k<n->k<=x.length->
 qZ m n x y K J G u ((eH x y k).map (dy (-2148))) (k:Int)=some (.inl ((K,J,G,u,()),(eH x y x.length).map (dy (-2148)),()))
 |0,k,h,_=>absurd h (zA _)
 |n+1,k,h,a0=>by rw[qZ,bQ];by_cases hk:k<x.length;{have ih:=qr4 hm hl he hx hy K J G u n (k+1) O O;obtain⟨u1,f1⟩:=hx k hk;obtain⟨u2,f2⟩:=hy k O;rw[iP O,iP O,iP O,tN,Y4 hm u1 u2 f1 f2,bS];dsimp only;rw[iP (by simp[wN];omega),Ln,show wI ((k:Int)+1)=((k+1:Nat):Int)from ax O];exact ih};{rw[af O,show k=x.length by omega]}
def Nf {m:Nat} (hm:4000000<=m) {x y:LI} (hl:x.length<=1000) (he:x.length=y.length) (G:bY x) (u:bY y):Ko m x y=some (aE (cN (eH x y x.length)) (-2148),(),(),()):=by have h:=qr4 hm hl he G u false false [] 0 m 0 O O;rw[nZ]at h;rw[Ko,show([]:List (Bool×(Bool×LI)×Int))=(eH x y 0).map (dy (-2148))from rfl,h,bS];dsimp only;rw[qlu O (by rw[wN];omega) (U8 G u he (zJ _))];rfl
def ql0 (j:Nat):cu (j+300)=some (true,()):=by kernel_rfl
end Go.Vs.F
set_option linter.unusedSectionVars false
set_option maxRecDepth 100000
namespace Go.Vs.F
def qum {m:Nat} (hm:300<=m):cu m=some (true,()):=by obtain⟨j,rfl⟩: ∃j,m=j+300:=⟨m-300,O⟩;exact ql0 j
def bq (l:LI):Bool:=ql (λi=>decide (aU (l.getD i 0))) 0 l.length
def Zl {l:LI} (h:UL l) (G:bq l=true):bY l:=λi u=>⟨h i u,of_decide_eq_true (qx.1 G i (oX _) u)⟩
def qov (m:Nat) {a:LI} (G:UL a) (K:a.length<=1000): ∀(n k:Nat),a.length-k<n->
 ∃j:Nat,mc m n a (a.length:Int) (k:Int)=some (bif ql (λi=>decide (aU (a.getD i 0))) k a.length then .inr (.inl ())else .inl ((j:Int),()))
 |0,k,h=>O
 |n+1,k,h=>by rw[mc,bQ];by_cases u:k<a.length;{obtain⟨j,J⟩:=qov m G K n (k+1) O;rw[iP O,iP O,tN,K7,A6 (G k u),bS,bS,show wI ((k:Int)+1)=((k+1:Nat):Int)from ax O,J,qy u];by_cases f:aU (a.getD k 0);{rw[decide_eq_true f];exact⟨j,rfl⟩};{rw[decide_eq_false f];exact⟨k,rfl⟩}};{rw[af O,Q5 u];exact⟨0,rfl⟩}
def UO {m:Nat} (hm:3000000<m) {a:LI} (J:UL a) (G:a.length<=1000):wE m a=some (bq a,(),()):=by obtain⟨j,u⟩:=qov m J G m 0 O;rw[nZ]at u;rw[wE,K8,KY,u];unfold bq;cases ql (λi=>decide (aU (a.getD i 0))) 0 a.length;{simp};{simp}
def qls (m:Nat) {a:LI} (G:UL a) (J:a.length<=1000): ∀(n k:Nat),a.length-k<n->
 q9 m n a (k:Int)=some (bif ql (λi=>decide (aU (a.getD i 0))) k a.length then .inr (.inl ())else .inl (false,()))
 |0,k,h=>O
 |n+1,k,h=>by rw[q9,bQ];by_cases u:k<a.length;{rw[iP O,iP O,tN,Xx (G k u),bS,show wI ((k:Int)+1)=((k+1:Nat):Int)from ax O,qls m G J n (k+1) O,qy u];by_cases f:aU (a.getD k 0);{rw[decide_eq_true f];rfl};{rw[decide_eq_false f];rfl}};{rw[af O,Q5 u];rfl}
def SU {m:Nat} (hm:3000000<m) {a:LI} (J:UL a) (G:a.length<=1000):BQ m a=some (bq a,(),()):=by have u:=qls m J G m 0 O;rw[nZ]at u;rw[BQ,u];unfold bq;cases ql (λi=>decide (aU (a.getD i 0))) 0 a.length<;>rfl
structure VV (V:List LI):Prop where
 n:V.length<=10
 l: ∀i,i<V.length->(V.getD i []).length<=100
 u: ∀i,i<V.length->UL (V.getD i [])
section
variable {m:Nat} (hm:5000000000<=m) {V:List LI} (hV:VV V)
include hm hV
end
def BB:Int:=sc 1 0 (-2148)
def qv2:aE 1 0=aE BB (-2148):=(A1 O).symm
def quh:ak BB.natAbs<=3000:=by have h:=NP (w:=1) (f:=0) (b:= -2148) O;have u:ak (1:Int).natAbs<=1:=Qo (by decide);unfold BB;omega
def qr1 {z:Int} (h:ak z.natAbs<=60000):bX z (-2148):=Yc.2 (.inr ⟨O,O⟩)
structure WV (V:List LI):Prop where
 v:VV V
 e: ∀i,i<V.length->(V.getD i []).length=(V.getD 0 []).length
 f: ∀i,i<V.length->bY (V.getD i [])
section
variable {m:Nat} (hm:5000000000<=m) {V:List LI} (hV:WV V)
include hV
end
section
variable {m:Nat} (hm:5000000000<=m) {V:List LI}
include hm
end
def qly {r x:Nat} (J:r<4294967296) (G:x<4294967296):bf .u64 (bw .u64 (r:Int) 32) (x:Int)=((r*4294967296+x:Nat):Int):=by have u:bw .u64 (r:Int) 32=((r*4294967296:Nat):Int):=by{have h:=fV (a:=r) (k:=32) O (by rw[show(2:Nat)^32=4294967296 by decide];omega);rw[show(2:Nat)^32=4294967296 by decide]at h;exact h};rw[u,lI O O];have:=IL (i:=32) (b:=x) O r;rw[zY,show(4294967296:Nat)=2^32 by decide,<-this]
def nQ {l:LI} {i:Nat} {x:Int} (h:i<l.length):(l.set i x).drop i=x::l.drop (i+1):=by rw[EV (by rw[zT];exact h)];congr 1;{simp};{rw[List.drop_set];simp}
def qi1 (m:Nat) {a:LI} (ha:Lm a) (hl:a.length<=1000000) {d:Nat} (G:0<d) (J:d<4294967296): ∀(k n:Nat) (out:LI),k<n->k<=a.length->Lm out->out.length=a.length->vl (out.drop k)=vl (a.drop k)/d->
 ∃u,jO m n a (d:Int) out ((vl (a.drop k)%d:Nat):Int) ((k:Int)-1)=some (.inl (u,((vl a%d:Nat):Int),()))/\Lm u/\u.length=a.length/\vl u=vl a/d
 |0,n+1,out,_,_,h1,h2,K=>by{refine⟨out,?_,h1,h2,by simpa using K⟩;rw[jO,bQ,af O,iX]}
 |k+1,n+1,out,hn,hk,h1,h2,K=>by obtain⟨x,ex,hx,hv⟩:=ha.get' k;have hr:vl (a.drop (k+1))%d<d:=iV _ G;have w:((k+1:Nat):Int)-1=(k:Int):=O;rw[jO,w,bQ,iP O,iP O];have wd:wJ (d:Int)=(d:Int):=bp O;rw[wd,iP O,iP O,iP O,tN,ex,bp O,qly O hx,td,tm];have hq:(vl (a.drop (k+1))%d*4294967296+x)/d<4294967296:=by{rw[Bd G];have:(vl (a.drop (k+1))%d+1)*4294967296<=d*4294967296:=zO _ hr;omega};have wq:wK (wJ (((vl (a.drop (k+1))%d*4294967296+x)/d:Nat):Int))=(((vl (a.drop (k+1))%d*4294967296+x)/d:Nat):Int):=by{rw[bp O,fm,iY hq]};rw[wq,zH];have e1:vl (a.drop k)=d*(4294967296*(vl (a.drop (k+1))/d))+(vl (a.drop (k+1))%d*4294967296+x):=by{rw[hv];have:=ui (vl (a.drop (k+1))) d;generalize vl (a.drop (k+1))/d=q at*;generalize vl (a.drop (k+1))%d=r at*;rw[<-this,zK,<-Nat.mul_assoc,zY 4294967296 d,zV];omega};have e2:vl (a.drop k)/d=4294967296*(vl (a.drop (k+1))/d)+(vl (a.drop (k+1))%d*4294967296+x)/d:=by{rw[e1,RE G]};have e3:vl (a.drop k)%d=(vl (a.drop (k+1))%d*4294967296+x)%d:=by{rw[e1,RD]};rw[<-e3,wQ,wi O O];refine qi1 m ha hl G J k n _ O O (Zo h1 hq) (by rw[zT];exact h2) ?_;rw[nQ O,vl,tN,K,e2];omega
def qpr {m:Nat} (hm:2000000<m) {a:LI} (ha:Lm a) (hl:a.length<=1000000) {d:Nat} (J:0<d) (u:d<4294967296):
 ya m a (d:Int)=some ((lim (vl a/d),((vl a%d:Nat):Int),()),(),(),()):=by rw[ya,iP O,tN,wQ,wi O O];have K:(a.drop a.length)=[]:=List.drop_length;obtain⟨out,G,h2,h3,h4⟩:=qi1 m ha hl J u a.length m (List.replicate a.length 0) O (zJ _) Qq (zI ..) (by{rw[Bf (by rw[zI];exact zJ _),K];show 0=0/d;rw[RZ]});rw[K]at G;have e0:((vl ([]:LI)%d:Nat):Int)=0:=by{show((0%d:Nat):Int)=0;rw[Nat.zero_mod];rfl};rw[e0]at G;rw[G,bS];dsimp only;rw[X5 h2 O O,bS,h4,fm,iY (Nat.lt_trans (iV _ J) u)]
def qca {d:Nat} (u:0<d) (h:d<4294967296):lim d=[(d:Int)]:=by rw[Fi O,vz h,Qd,iY h]
def qd8 {m:Nat} (hm:2000000<m) {A d:Nat} (K:(lim A).length<=1000000) (u:0<d) (h:d<4294967296):
 ru m (lim A) (lim d)=some ((lim (A/d),lim (A%d),()),(),(),()):=by have G:(lim d).length=1:=by{rw[qca u h];rfl};rw[ru,Jh hm K O,bS,bQ];dsimp only;by_cases c:A<d;{have J:da A d= -1:=by{unfold da;rw[iP c]};rw[J,iP O,Nq O,bS,vz c,iY c,Qd]};{have J: ¬da A d<0:=by{unfold da;rw[af c];split<;>omega};rw[af J,G,aA,iP (show((1:Nat):Int)=1 from rfl),iP O,qca u h];show(ya m (lim A) (d:Int)).bind _=_;rw[qpr hm (Q7 A) K u h,bS,qw];dsimp only;have hr:A%d<4294967296:=Nat.lt_trans (iV _ u) h;rw[X5 (λx hx=>by rw[zC.1 hx];omega) (by simp;omega) (by simp),bS];show some ((_,lim ((((A%d:Nat):Int)).toNat+4294967296*0),()),_)=_;rw[tN,zx,zQ]}
def qid {m:Nat} (hm:3000000<m) {a:LI} (J:Lm a) (hl:a.length<=500000) {n:Nat} (hn:n<=10000000):
 ∃r,ph m a (n:Int)=some (r,(),(),())/\Lm r/\r.length=a.length+n/32+1/\vl r=vl a*2^n:=by have G:wI (Int.tdiv (n:Int) 32)=((n/32:Nat):Int):=by{rw[M5,wQ,wi O O]};have u:2^(n%32)<=2^31:=zu O O;obtain⟨out,c,e,h1,h2,h3,K⟩:=qoa m (N:=n) (w:=n/32) (p:=n%32) J O O O Ns m 0 (List.replicate (n/32) 0) 0 O O Qq (by simp) (eQ O);rw[nZ]at e;have w:wK (c:Int)=(c:Int):=by{rw[fm,iY O]};refine⟨out++[(c:Int)],?_,A5 h1 O,by simp[h2];omega,?_⟩;{rw[ph,G,iP O,tN,e,bS];dsimp only;rw[w,iP (by rw[h2];show n/32+a.length+1<=_;omega)]};{rw[Ji,h2,K,Qw,iX,zH,zH,zQ,<-Nat.mul_assoc,pK,show 32*(n/32)+n%32=n by omega,zY]}
def qpw {P B d x e b c g y u G V0 O K Q R c' lo:Nat} (h1:O+P*B*(e+c'+g*u)+R=K+P*B*G+Q) (h2:K=V0+P*d) (h3:d+lo+b=x+B*e) (h4:c+g*y=lo+B*c'):
 O+P*(b+c+g*(y+B*u))+R=V0+P*(x+B*G)+Q:=by have k1:P*(d+lo+b)=P*d+P*lo+P*b:=by{rw[zK,zK]};have k2:P*(x+B*e)=P*x+P*B*e:=by{rw[zK,zV]};have k3:P*B*(e+c'+g*u)=P*B*e+P*B*c'+P*B*(g*u):=by{rw[zK,zK]};have J:P*(b+c+g*(y+B*u))=P*b+P*(c+g*y)+P*B*(g*u):=by{rw[show b+c+g*(y+B*u)=b+(c+g*y)+B*(g*u) by rw[zK,uj g B];omega,zK,zK,zV]};have k5:P*(lo+B*c')=P*lo+P*B*c':=by{rw[zK,zV]};have k6:P*(x+B*G)=P*x+P*B*G:=by{rw[zK,zV]};rw[h4]at J;rw[h3]at k1;rw[J,k6,k5];rw[k3]at h1;omega
def qug (m:Nat) {u v:LI} (hu:Lm u) (hv:Lm v) (hl:u.length<=1000001) {j g:Nat} (hj:j+v.length<u.length) (hg:g<4294967296): ∀(N k:Nat) (out:LI) (b c:Nat),v.length+1-k<N->k<=v.length+1->Lm out->out.length=v.length+1->(∀p,k<=p->out.getD p 0=0)->b<2->c<4294967296->(k=v.length+1->c=0)->
 ∃G b',iI m N u v (j:Int) (g:Int) (v.length:Int) out (b:Int) (c:Int) (k:Int)=some (.inl (u,(j:Int),(v.length:Int),G,((b':Nat):Int),()))/\Lm G/\G.length=v.length+1/\b'<2/\
  vl G+4294967296^k*(b+c+g*vl (v.drop k))+4294967296^(v.length+1)*vl (u.drop (j+v.length+1))=vl out+4294967296^k*vl (u.drop (j+k))+4294967296^(v.length+1)*b':=by intro N;induction N with|zero=>{intro k out b c h;omega}|succ N ih=>{intro k out b c h j0 ho a0 hz hb hc hlast;rw[iI];by_cases hk:k<=v.length;{obtain⟨x,ex,hx,dx⟩:=hu.get' (j+k);have w0:wI ((k:Int)+(j:Int))=((j+k:Nat):Int):=by{rw[wQ,wi O O];omega};have c2:(0:Int)<=((j+k:Nat):Int)/\((j+k:Nat):Int)<(u.length:Int):=O;have c3:(0:Int)<=(k:Int)/\(k:Int)<(out.length:Int):=O;have w1:wJ (x:Int)=(x:Int):=bp O;have ws:wI ((k:Int)+1)=((k+1:Nat):Int):=ax O;have oz:out.getD k 0=0:=hz k (zJ _);have K: ∀d:Nat,vl (out.set k (d:Int))=vl out+4294967296^k*d:=by{intro d;have:=J8 (l:=out) (p:=k) (y:=(d:Int)) O;rw[oz,LB,zx,tN]at this;omega};have b0: ∀d:Nat,∀p,k+1<=p->(out.set k (d:Int)).getD p 0=0:=λd p hp=>by{rw[bu O];exact hz p O};have fin: ∀(t y:Nat),t<18446744073709551616->c+g*y=t->(k=v.length->t<4294967296)->vl (v.drop k)=y+4294967296*vl (v.drop (k+1))-> ∃G b',iI m N u v (j:Int) (g:Int) (v.length:Int) (out.set k (wK (wJ ((wJ ((x:Int)-(b:Int)))-(qp .u64 (t:Int) 4294967295))))) (aJ .u64 (wJ ((wJ ((x:Int)-(b:Int)))-(qp .u64 (t:Int) 4294967295))) 63) (aJ .u64 (t:Int) 32) ((k+1:Nat):Int)=some (.inl (u,(j:Int),(v.length:Int),G,((b':Nat):Int),()))/\Lm G/\G.length=v.length+1/\b'<2/\ vl G+4294967296^k*(b+c+g*vl (v.drop k))+4294967296^(v.length+1)*vl (u.drop (j+v.length+1))=vl out+4294967296^k*vl (u.drop (j+k))+4294967296^(v.length+1)*b':=by{intro t y ht d0 g0 c0;obtain⟨d,e,hd,he,h0,q1,q2⟩:=q84 hx (show t%4294967296<4294967296 by omega) hb;have e2:aJ .u64 (t:Int) 32=((t/4294967296:Nat):Int):=cI (a:=t) (k:=32) O;rw[jc ht,q1,q2,e2];obtain⟨G,b',g1,g2,g3,g4,g5⟩:=ih (k+1) (out.set k (d:Int)) e (t/4294967296) O O (Zo ho hd) (by rw[zT];exact a0) (b0 d) he O (λhh=>by have:=g0 O;omega);refine⟨G,b',g1,g2,g3,g4,?_⟩;rw[gJ,<-Nat.add_assoc j k 1]at g5;rw[dx,c0];exact qpw g5 (K d) h0 (by rw[d0];omega)};rw[bQ,iP O,bQ];by_cases kv:k<v.length;{obtain⟨y,ey,hy,dy⟩:=hv.get' k;have hm:=Up hg hy;have w3:wJ (y:Int)=(y:Int):=bp O;have w4:wJ ((g:Int)*(y:Int))=((g*y:Nat):Int):=by{rw[show(g:Int)*(y:Int)=((g*y:Nat):Int) by rw[sG],bp O]};have w5:wJ ((c:Int)+((g*y:Nat):Int))=((c+g*y:Nat):Int):=by{rw[show(c:Int)+((g*y:Nat):Int)=((c+g*y:Nat):Int) by rw[xd c],bp O]};rw[iP O,iP O,w0,iP c2,iP c3,ws];simp only[tN,zH];rw[ex,ey,w1,w3,w4,w5];exact fin _ y O rfl (λh=>O) dy};{have J:k=v.length:=O;rw[af O,w0,iP c2,iP c3,ws];simp only[tN,zH];rw[ex,w1];have i0:vl (v.drop k)=0+4294967296*vl (v.drop (k+1)):=by{rw[qo O,qo O]};exact fin c 0 O (by rw[zx,zQ]) (λ_=>hc) i0}};{have J:k=v.length+1:=O;rw[bQ,af O];refine⟨out,b,rfl,ho,a0,hb,?_⟩;have e0:b+0+0=b:=rfl;rw[hlast J,J,qo (l:=v) O,zx,e0,<-Nat.add_assoc j];omega}}
def qur (m:Nat) {u:LI} {j n:Nat} (hl:u.length<=1000001) (hj:j+n<u.length) {out:LI} (ho:out.length=n+1): ∀(N k:Nat),n+1-k<N->k<=n+1->
 jP m N (u.take j++out.take k++u.drop (j+k)) (j:Int) (n:Int) out (k:Int)=some (.inl (u.take j++out++u.drop (j+n+1),())):=by intro N;induction N with|zero=>{intro k h;omega}|succ N ih=>{intro k h hk;rw[jP];by_cases c:k<=n;{have hlen:(u.take j++out.take k++u.drop (j+k)).length=u.length:=by{simp only[zG,zU,ix];omega};have K:wI ((k:Int)+(j:Int))=((j+k:Nat):Int):=by{rw[wQ,wi O O];omega};have ws:wI ((k:Int)+1)=((k+1:Nat):Int):=ax O;rw[bQ,iP O,iP O,K,hlen,iP O,ws];simp only[tN,zH];have e:(u.take j++out.take k++u.drop (j+k)).set (j+k) (out.getD k 0)=u.take j++out.take (k+1)++u.drop (j+(k+1)):=by{have J:(u.take j++out.take k).length=j+k:=by{simp only[zG,zU];omega};rw[List.set_append_right _ _ (by rw[J];exact zJ _),J,xe,EV (by omega:j+k<u.length),List.set_cons_zero,nU (l:=out) (k:=k) O rfl,<-Nat.add_assoc];simp[py]};rw[e];exact ih (k+1) O O};{have G:k=n+1:=O;rw[bQ,af O,G,uo (l:=out) O,<-Nat.add_assoc]}}
def qtj {m:Nat} (hm:2000000<m) {u v:LI} (hu:Lm u) (hv:Lm v) (hl:u.length<=1000001) {j g:Nat} (hj:j+v.length<u.length) (hg:g<4294967296) (hz:vl (u.drop (j+v.length+1))=0):
 (g*vl v<=vl (u.drop j)-> ∃J,wa m u v (j:Int) (g:Int)=some (true,J,(),(),(),())/\Lm J/\J.length=u.length/\vl J+4294967296^j*(g*vl v)=vl u/\vl (J.drop j)=vl (u.drop j)-g*vl v)/\
 (vl (u.drop j)<g*vl v->wa m u v (j:Int) (g:Int)=some (false,u,(),(),(),())):=by
 have w:wI ((v.length:Int)+1)=((v.length+1:Nat):Int):=ax O;obtain⟨out,b,e,h1,h2,h3,h4⟩:=qug m hu hv hl hj hg m 0 (List.replicate (v.length+1) 0) 0 0 O O Qq (zI ..) (λp _=>by simp[List.getD,List.getElem?_replicate];split<;>rfl) O O (λh=>O)
 rw[nZ]at e;have a0:=bZ h1;rw[h2]at a0;rw[Qw,hz,iX,AT,wZ,wZ,zx,zQ,zQ,zH,zH,zQ]at h4
 have start:wa m u v (j:Int) (g:Int)=bif ((b:Nat):Int) !=0 then some (false,u,(),(),(),())else(jP m m u (j:Int) (v.length:Int) out 0).bind λy3=>match y3 with
  | .inl z4=>some (true,(z4.1,(),(),(),()))
  | .inr e=>e.elim:=by
  rw[wa,w,iP O,tN,e,bS];rfl
 constructor
 . intro hle
   have hb:b=0:=by
    rcases fS b 1 with h|h
    . omega
    . have:b=1:=O;subst this;rw[iW]at h4;omega
   subst hb;have e1:=qur m hl hj h2 m 0 O O;rw[sC,ls,zQ,vD]at e1;rw[nZ]at e1;rw[start,nZ,show((0:Int) !=0)=false from rfl,cond_false,e1,bS]
   have d1:(u.take j++out++u.drop (j+v.length+1)).drop j=out++u.drop (j+v.length+1):=by
    rw[py,List.drop_append,Bf (by rw[zU];omega),vE,zU,show j-min j u.length=0 by omega,iX]
   have v1:vl (out++u.drop (j+v.length+1))=vl out:=by rw[vJ,hz,zx,zQ]
   have K:(u.take j).length=j:=by rw[zU];omega
   refine⟨_,rfl,?_,?_,?_,?_⟩
   . intro x G;rcases zX.1 G with G|G
     . rcases zX.1 G with G|G
       . exact hu x (nB G)
       . exact h1 x G
     . exact hu x (vA G)
   . simp only[zG,zU,ix];omega
   . have hsplit:vl u=vl (u.take j)+4294967296^j*vl (u.drop j):=by
      conv=>lhs;rw[<-List.take_append_drop j u]
      rw[vJ,K]
     rw[py,vJ,v1,K,hsplit];rw[zx]at h4;have:vl (u.drop j)=vl out+g*vl v:=O;rw[this,zK];omega
   . rw[d1,v1];rw[zx]at h4;omega
 . intro b0
   have hb:b=1:=by
    rcases fS b 1 with h|h
    . have:b=0:=O;subst this;rw[zx]at h4;omega
    . omega
   subst hb;rw[start];rfl
def Qz (l:LI) (k:Nat) (h:k<=l.length):vl l=vl (l.take k)+4294967296^k*vl (l.drop k):=by
 conv=>lhs;rw[<-List.take_append_drop k l]
 rw[vJ,zU,LH h]
def Lm.take {l:LI} (h:Lm l) (k:Nat):Lm (l.take k):=λx u=>h x (nB u)
def Lm.drop {l:LI} (h:Lm l) (k:Nat):Lm (l.drop k):=λx u=>h x (vA u)
def Xv {l:LI} (h:Lm l) {k:Nat} (u:k<=l.length):vl (l.take k)<4294967296^k:=by have:=bZ (h.take k);rwa [zU,LH u]at this
def Jt {l:LI} {k:Nat} (G:k<=l.length) (u:vl l<4294967296^k):vl (l.drop k)=0:=by have:=Qz l k G;rcases EZ (vl (l.drop k))with h|h;{exact h};{have:=Nat.le_mul_of_pos_right (4294967296^k) h;omega}
def qia {W lo P t V u y d:Nat} (hW:W=lo+P*t) (J:lo<P) (hV:V=u+P*y) (G:0<y) (K:d*V<=W):d<=t/y:=by rw[Ly G];have h1:d*(P*y)<=d*V:=zi _ O;have h2:P*(d*y)<P*(t+1):=by{rw[uj P d y,zK,iW];omega};have:=LD h2;omega
def qoo {m:Nat} (hm:2000000<m) {u v:LI} (hu:Lm u) (hv:Lm v) (hl:u.length<=1000001) {j:Nat} (hj:j+v.length<u.length) (hz:vl (u.drop (j+v.length+1))=0) (hV:0<vl v) (n s:Int) (q:LI) {d:Nat} (hd:d=vl (u.drop j)/vl v):
 ∀(N k:Nat),k<N->d+k<4294967296-> ∃G,l8 m N n s u v q (j:Int) ((d+k:Nat):Int)=some (.inl (n,s,G,v,q,(j:Int),(d:Int),()))/\Lm G/\G.length=u.length/\vl G+4294967296^j*(d*vl v)=vl u/\vl (G.drop j)=vl (u.drop j)%vl v:=by intro N;induction N with|zero=>{intro k h;omega}|succ N ih=>{intro k hk hb;obtain⟨t1,t2⟩:=qtj hm hu hv hl hj hb hz;have K:=ui (vl (u.drop j)) (vl v);have a0:=iV (vl (u.drop j)) hV;rw[<-hd]at K;rw[l8];by_cases c:k=0;{subst c;obtain⟨G,e,h1,h2,h3,h4⟩:=t1 (by rw[zQ,zY];omega);rw[zQ]at*;refine⟨G,?_,h1,h2,h3,?_⟩;{rw[e,bS];rfl};{rw[h4,zY];omega}};{have J:vl (u.drop j)<(d+k)*vl v:=by{have:(d+1)*vl v<=(d+k)*vl v:=zO _ O;rw[fT,wZ,zY]at this;omega};rw[t2 J,bS];dsimp only;rw[Bj,cond_true];have w:wJ (((d+k:Nat):Int)-1)=((d+(k-1):Nat):Int):=by{rw[dK];omega};rw[w];exact ih (k-1) O O}}
def qeu {m:Nat} (hm:5000000000<=m) {v:LI} (hv:Lm v) (h1:1<=v.length) {y:Nat} (ey:v.getD (v.length-1) 0=(y:Int)) (hy:0<y) (s:Int): ∀(k N:Nat) (u q:LI),k<N->Lm u->Lm q->u.length<=1000001->k+v.length<=u.length->k<=q.length->(∀p,p<k->q.getD p 0=0)->vl (u.drop k)<vl v->
 ∃u' q',iK m N (v.length:Int) s u v q ((k:Int)-1)=some (.inl (s,u',q',()))/\Lm u'/\Lm q'/\u'.length=u.length/\q'.length=q.length/\vl u'=vl u%vl v/\vl q'=vl q+vl u/vl v
 |0,N+1,u,q,_,hu,hq,hl,hk,m0,hz,J=>by{rw[iX]at J;refine⟨u,q,?_,hu,hq,rfl,rfl,(iY J).symm,by rw[vz J,zQ]⟩;rw[iK,bQ,af O]}
 |k+1,N+1,u,q,hN,hu,hq,hl,hk,m0,hz,J=>by have wk:((k+1:Nat):Int)-1=(k:Int):=O;have b1:=bZ hv;obtain⟨x,ex,hx,dx⟩:=hu.get' k;obtain⟨G,t0,i0,v0⟩:=hu.get' (k+v.length);obtain⟨x1,s0,h0,u0⟩:=hu.get' (k+v.length-1);have hW:vl (u.drop k)<4294967296^(v.length+1):=by{rw[dx,gJ,zY (4294967296^v.length)];omega};have b0:vl (u.drop (k+v.length+1))=0:=by{have:=Jt (l:=u.drop k) (k:=v.length+1) (by rw[ix];omega) hW;rwa [LA,<-Nat.add_assoc]at this};have e0:vl (u.drop k)=vl ((u.drop k).take (v.length-1))+4294967296^(v.length-1)*(G*4294967296+x1):=by{rw[Qz (u.drop k) (v.length-1) (by rw[ix];omega),LA,show k+(v.length-1)=k+v.length-1 by omega,u0,show k+v.length-1+1=k+v.length by omega,v0,b0];congr 2;omega};have l0:vl ((u.drop k).take (v.length-1))<4294967296^(v.length-1):=Xv (hu.drop k) (by rw[ix];omega);have w0:y<4294967296:=by{obtain⟨y',r0,z0,_⟩:=hv.get' (v.length-1);rw[ey]at r0;omega};have a0:vl v=vl (v.take (v.length-1))+4294967296^(v.length-1)*y:=by{rw[Qz v (v.length-1) O,X7 O,ey,tN,qo (l:=v) O,zx,zQ]};have hV:0<vl v:=by{rw[a0];exact wX (E0 (eQ O) hy) (Nat.le_add_left _ _)};have c0:vl (u.drop k)/vl v*vl v<=vl (u.drop k):=Mx ..;have hg:=qia e0 l0 a0 hy c0;have d0:vl (u.drop k)/vl v<4294967296:=by{rw[Bd hV,dx];omega};generalize hd:vl (u.drop k)/vl v=d at*;have g0:G*4294967296+x1<18446744073709551616:=O;have j0:(G*4294967296+x1)/y<18446744073709551616:=wR (sE ..) g0;rw[iK,wk];have w1:wI ((k:Int)+(v.length:Int))=((k+v.length:Nat):Int):=by{rw[wQ,wi O O];omega};have w2:wI (((k+v.length:Nat):Int)-1)=((k+v.length-1:Nat):Int):=by{rw[wQ,wi O O];omega};have w3:wI ((v.length:Int)-1)=((v.length-1:Nat):Int):=by{rw[wQ,wi O O];omega};have w4:wJ (y:Int)=(y:Int):=bp O;have w5:wJ (G:Int)=(G:Int):=bp O;have w6:wJ (x1:Int)=(x1:Int):=bp O;rw[bQ,iP O,w1,w2,w3,iP O,iP O,iP O];simp only[tN,zH];rw[ey,t0,s0,w4,w5,w6,iP O,qly i0 h0,td,bp j0];obtain⟨g,eg,q0,a1⟩: ∃g:Nat,(if(4294967295:Int)<(((G*4294967296+x1)/y:Nat):Int)then(4294967295:Int)else(((G*4294967296+x1)/y:Nat):Int))=((d+g:Nat):Int)/\d+g<4294967296/\g<4294967296:=by{by_cases c:(4294967295:Int)<(((G*4294967296+x1)/y:Nat):Int);{rw[iP c];exact⟨4294967295-d,O,O,O⟩};{rw[af c];exact⟨(G*4294967296+x1)/y-d,O,O,O⟩}};rw[eg];obtain⟨u1,e1,f1,f2,f3,f4⟩:=qoo (m:=m) O hu hv hl (j:=k) O b0 hV (v.length:Int) s q hd.symm m g O q0;rw[e1,bS];dsimp only;have w7:wK (d:Int)=(d:Int):=by{rw[fm,iY d0]};have w8:wI ((k:Int)-1)=(k:Int)-1:=by{rw[wQ,wi O O]};rw[iP O,w7,w8,tN];have k0:vl (q.set k (d:Int))=vl q+4294967296^k*d:=by{have:=J8 (l:=q) (p:=k) (y:=(d:Int)) O;rw[hz k O,LB,zx,tN]at this;omega};obtain⟨u',q',e2,g1,g2,g3,g4,g5,g6⟩:=qeu hm hv h1 ey hy s k N u1 (q.set k (d:Int)) O f1 (Zo hq d0) O O (by rw[zT];omega) (λp hp=>by rw[bu O];exact hz p O) (by rw[f4];exact iV _ hV);have K:vl u=vl u1+vl v*(4294967296^k*d):=by{rw[<-f3,zY d,uj]};refine⟨u',q',e2,g1,g2,O,by rw[g4,zT],?_,?_⟩;{rw[g5,K,LC]};{rw[g6,k0,K,Nat.add_mul_div_left _ _ hV];omega}
def Vm {B:Nat} (h:B≠0):4294967296^((lim B).length-1)<=B:=by refine xk λu=> ?_;have G:=Xu u;have:lim B≠[]:=λh2=>h (Z9.1 h2);have:=RR.2 this;omega
def qoq {m:Nat} (hm:5000000000<=m) {A B:Nat} (hB:B≠0) (hA:(lim A).length<=400000) (q0:(lim B).length<=400000):
 yj m (lim A) (lim B)=some ((lim (A/B),lim (A%B),()),(),(),()):=by
 rw[yj,q9k O O O,bS,bQ];dsimp only;by_cases c:A<B
 . have hc:da A B= -1:=by unfold da;rw[iP c]
   rw[hc,iP O,vz c,iY c,Qd]
 . have hc: ¬da A B<0:=by unfold da;rw[af c];split<;>omega
   have hn:1<=(lim B).length:=RR.2 λh2=>hB (Z9.1 h2)
   have m0:(lim B).length<=(lim A).length:=Q9 O;obtain⟨t,et,ht,dt⟩:=(Q7 B).get' ((lim B).length-1);have w1:wI (((lim B).length:Int)-1)=(((lim B).length-1:Nat):Int):=by rw[wQ,wi O O];omega
   have j0:ak t<=32:=Qo O;have w2:wI (32-((ak t:Nat):Int))=((32-ak t:Nat):Int):=by rw[wQ,wi O O];omega
   have e0:t≠0:=by
    intro h0;have h2:=Vm hB;have G:=Qz (lim B) ((lim B).length-1) O;rw[qw,dt,show(lim B).length-1+1=(lim B).length by omega,qo (zJ _),h0]at G
    have h4:=Xv (Q7 B) (k:=(lim B).length-1) O;omega
   have k0:1<=ak t:=by rw[X9 e0];omega
   have i0:tg m (t:Int)=some (((32-ak t:Nat):Int),(),()):=by
    rw[tg,Tc ht,bS];dsimp only;rw[w2]
   rw[af hc,w1,iP O,tN,et,i0,bS];dsimp only;generalize hs:32-ak t=s at*;have a0:s<32:=O;obtain⟨ra,ea,a1,a2,a3⟩:=qid (m:=m) O (Q7 A) O (n:=s) O;obtain⟨K,eb,b1,b2,b3⟩:=qid (m:=m) O (Q7 B) O (n:=s) O;rw[qw]at a3 b3;rw[vz a0]at a2 b2;rw[ea,bS,eb,bS];dsimp only;rw[iP O,aA,af O];have w3:wI (((lim A).length:Int)-((lim B).length:Int))=(((lim A).length-(lim B).length:Nat):Int):=by rw[wQ,wi O O];omega
   have w4:wI ((((lim A).length-(lim B).length:Nat):Int)+1)=(((lim A).length-(lim B).length+1:Nat):Int):=ax O;rw[w3,w4,iP O];simp only[tN];have u:0<2^s:=eQ O
   have g0:B*2^s<4294967296^(lim B).length:=by
    have G:=Qz (lim B) ((lim B).length-1) O;rw[qw,dt,show(lim B).length-1+1=(lim B).length by omega,qo (zJ _),zx,zQ]at G
    have h4:=Xv (Q7 B) (k:=(lim B).length-1) O;have h5:B<4294967296^((lim B).length-1)*(t+1):=by rw[zK,iW];omega
    have h6:(t+1)*2^s<=4294967296:=by
     have:=Z5 t
     calc (t+1)*2^s<=2^ak t*2^s:=zO _ O
      _=2^(ak t+s):=(sH ..).symm
      _=4294967296:=by rw[show ak t+s=32 by omega]
    calc B*2^s<4294967296^((lim B).length-1)*(t+1)*2^s:=RG h5 u
     _=4294967296^((lim B).length-1)*((t+1)*2^s):=zV ..
     _<=4294967296^((lim B).length-1)*4294967296:=zi _ h6
     _=4294967296^(lim B).length:=by rw[<-Nat.pow_succ,show((lim B).length-1).succ=(lim B).length by omega]
   have J:vl (K.take (lim B).length)=B*2^s:=by
    have G:=Qz K (lim B).length O;rw[Jt (l:=K) (k:=(lim B).length) O (by rw[b3];exact g0),zx,zQ,b3]at G
    exact G.symm
   have gk:(K.take (lim B).length).length=(lim B).length:=by rw[zU];omega
   obtain⟨y,ey,hy,dy⟩:=(b1.take (lim B).length).get' ((lim B).length-1);have b0:=Vm hB;have l0:0<B*2^s:=E0 O u
   have d0:0<y:=by
    rcases EZ y with h0|h0
    . have G:=Qz (K.take (lim B).length) ((lim B).length-1) O;rw[J,dy,show(lim B).length-1+1=(lim B).length by omega,qo O,h0,zx,zQ]at G
      have h4:=Xv (b1.take (lim B).length) (k:=(lim B).length-1) O;have h5:B*1<=B*2^s:=zi _ u;omega
    . exact h0
   have wj:((((lim A).length-(lim B).length:Nat)):Int)=(((lim A).length-(lim B).length+1:Nat):Int)-1:=O;have c0:A<4294967296^(lim A).length:=by have:=bZ (Q7 A);rwa [qw]at this
   have hstart:vl (ra.drop ((lim A).length-(lim B).length+1))<vl (K.take (lim B).length):=by
    rw[J];have G:=Qz ra ((lim A).length-(lim B).length+1) O;rw[a3]at G
    have h4:A*2^s<4294967296^((lim A).length-(lim B).length+1)*(B*2^s):=by
     calc A*2^s<4294967296^(lim A).length*2^s:=RG c0 u
      _=4294967296^((lim A).length-(lim B).length+1)*(4294967296^((lim B).length-1)*2^s):=by rw[<-Nat.mul_assoc,<-Nat.pow_add,show(lim A).length-(lim B).length+1+((lim B).length-1)=(lim A).length by omega]
      _<=_:=zi _ (zO _ b0)
    have h5:4294967296^((lim A).length-(lim B).length+1)*vl (ra.drop ((lim A).length-(lim B).length+1))<4294967296^((lim A).length-(lim B).length+1)*(B*2^s):=O;exact LD h5
   obtain⟨u',q',e1,g1,g2,g3,g4,g5,g6⟩:=qeu hm (b1.take (lim B).length) O (y:=y) (by rw[gk];exact ey) d0 ((s:Nat):Int) ((lim A).length-(lim B).length+1) m ra (List.replicate ((lim A).length-(lim B).length+1) 0) O a1 Qq O O (by rw[zI];exact zJ _) (λp _=>by simp[List.getD,List.getElem?_replicate];split<;>rfl) hstart
   rw[gk]at e1;rw[wj,e1,bS];dsimp only;rw[J,a3]at g5 g6;rw[Qw,zH,Nat.mul_div_mul_right _ _ u]at g6;rw[Nat.mul_mod_mul_right]at g5;rw[zI]at g4;rw[Z4 g1 O O,bS];dsimp only;obtain⟨r,er,r1,r2,r3⟩:=UY (m:=m) O (Q7 (vl u')) (zf (X0 g1) O) (n:=s) O;rw[er,bS,Z4 g2 O O,bS];dsimp only;rw[Z4 r1 (wR (zf r2 (X0 g1)) O) (zf (zf r2 (X0 g1)) O),bS,r3,qw,g5,g6,Nat.mul_div_cancel _ u]
def Ft {r x:Nat} (K:r<4294967296) (J:x<4294967296):bf .u64 (bw .u64 (r:Int) 32) (x:Int)=((r*4294967296+x:Nat):Int):=by have G:bw .u64 (r:Int) 32=((r*2^32:Nat):Int):=fV (a:=r) (k:=32) O (by rw[show(2:Nat)^32=4294967296 by decide];omega);have u:(2:Nat)^32=4294967296:=by{decide};rw[G,lI (by rw[u];omega) O];have:=IL (i:=32) (b:=x) O r;rw[zY,<-this,u,zY]
section
variable {Q top v1 v2 u2:Nat}
structure QF (Q top v1 v2 u2:Nat):Prop where
 big:Q<4294967296
 ge: ∀q r,q*v1+r=top->r*4294967296+u2<q*v2->Q<q
 fin1: ∀q r,q*v1+r=top->q<4294967296->q*v2<=r*4294967296+u2->q<=Q+1
 fin2: ∀q r,q*v1+r=top->q<=4294967296->4294967296<=r->q<=Q
def qi6 (m:Nat) {u v:LI} {n:Nat} (hn:v.length=n) (h2:2<=n) (c0:u.length=n+1) (hl:n<=1000000)
 (e1:v.getD (n-1) 0=(v1:Int)) (e2:v.getD (n-2) 0=(v2:Int)) (e3:u.getD (n-2) 0=(u2:Int)) (h1:2147483648<=v1) (b0:v1<4294967296) (a0:v2<4294967296) (J:u2<4294967296) (G:QF Q top v1 v2 u2):
 ∀(N k q r:Nat),k<N->4294967296<=r+k*2147483648->q*v1+r=top->r<4294967296->Q<=q->q<=4294967297->
  ∃q':Nat,iH m N u v (n:Int) (q:Int) (r:Int)=some (.inl (u,v,(n:Int),(q':Int),()))/\Q<=q'/\q'<=Q+1/\q'<4294967296
 |0,k,q,r,h,_,_,_,_,_=>O
 |N+1,k,q,r,h,hk,K,hr,g0,hq=>by have w1:wI ((n:Int)-1)=((n-1:Nat):Int):=by{rw[wQ,wi O O];omega};have w2:wI ((n:Int)-2)=((n-2:Nat):Int):=by{rw[wQ,wi O O];omega};have w3:wJ (v1:Int)=(v1:Int):=bp O;have w4:wJ (v2:Int)=(v2:Int):=bp O;have w5:wJ (u2:Int)=(u2:Int):=bp O;have w6:wJ ((r:Int)+(v1:Int))=((r+v1:Nat):Int):=by{rw[<-Int.natCast_add];exact bp O};have i1:(0:Int)<=((n-1:Nat):Int)/\((n-1:Nat):Int)<(v.length:Int):=O;have i2:(0:Int)<=((n-2:Nat):Int)/\((n-2:Nat):Int)<(v.length:Int):=O;have i3:(0:Int)<=((n-2:Nat):Int)/\((n-2:Nat):Int)<(u.length:Int):=O;have down:1<=q->Q<q-> ∃q':Nat,(if(0:Int)<=((n-1:Nat):Int)/\((n-1:Nat):Int)<(v.length:Int)then bif decide (((r+v1:Nat):Int)>4294967295)then some (.inl (u,v,(n:Int),wJ ((q:Int)-1),())) else iH m N u v (n:Int) (wJ ((q:Int)-1)) ((r+v1:Nat):Int) else none)=some (.inl (u,v,(n:Int),(q':Int),()))/\Q<=q'/\q'<=Q+1/\q'<4294967296:=by{intro h0 j0;have w7:wJ ((q:Int)-1)=((q-1:Nat):Int):=by{rw[show(q:Int)-1=((q-1:Nat):Int) by omega];exact bp O};have hs:(q-1)*v1+(r+v1)=top:=by{have:q*v1=(q-1)*v1+v1:=by{rw[<-Nat.succ_mul];congr 1;omega};omega};rw[iP i1,bQ,w7];by_cases c:((r+v1:Nat):Int)>4294967295;{rw[iP c];have:=G.fin2 (q-1) (r+v1) hs O O;have:=G.big;exact⟨q-1,rfl,O,O,O⟩};{rw[af c];have i0:1<=k:=by{rcases EZ k with e|e;{subst e;omega};{exact e}};exact qi6 m hn h2 c0 hl e1 e2 e3 h1 b0 a0 J G N (k-1) (q-1) (r+v1) O O hs O O O}};rw[iH,bQ];simp only[w1,w2,zH,tN,e1,e2,e3,w3,w4,w5,w6];by_cases c:(q:Int)>4294967295;{rw[iP c];exact down O (by have:=G.big;omega)};{have d0:q*v2<18446744073709551616:=by{have:q*v2<=4294967295*4294967295:=pw O O;omega};have w8:wJ ((q:Int)*(v2:Int))=((q*v2:Nat):Int):=by{rw[<-Int.natCast_mul];exact bp d0};rw[af c,iP i2,iP i3,w8,Ft hr J,bQ];by_cases c2:((q*v2:Nat):Int)>((r*4294967296+u2:Nat):Int);{rw[iP c2];have e0:r*4294967296+u2<q*v2:=O;have:=G.ge q r K e0;exact down O this};{rw[af c2];exact⟨q,rfl,g0,G.fin1 q r K O O,O⟩}}
end
def QF.mk' {U V P top v1 v2 u2 lu u:Nat} (hP:0<P) (hU:U=lu+P*(top*4294967296+u2)) (e0:lu<P) (hV:V=u+P*(v1*4294967296+v2)) (d0:u<P) (h1:2147483648<=v1) (b0:v2<4294967296) (c0:u2<4294967296)
 (a0:U<V*4294967296):QF (U/V) top v1 v2 u2:=by have G:0<V:=by{have:P*1<=P*(v1*4294967296+v2):=zi _ O;omega};refine⟨Lx a0,λq r e h=> ?_,λq r e hq h=> ?_,λq r e hq h=> ?_⟩;{rw[Bd G];have J:top*4294967296+u2+1<=q*(v1*4294967296+v2):=by{rw[<-e,zK,fT,<-Nat.mul_assoc];omega};have K:P*(top*4294967296+u2+1)<=P*(q*(v1*4294967296+v2)):=zi _ J;have k3:P*(q*(v1*4294967296+v2))=q*(P*(v1*4294967296+v2)):=by{rw[uj]};have k4:q*V=q*u+q*(P*(v1*4294967296+v2)):=by{rw[hV,zK]};rw[zK P,iW]at K;omega};{rcases EZ q with h0|h0;{rw[h0];exact oX _};have J:q*(v1*4294967296+v2)<=top*4294967296+u2:=by{rw[<-e,zK,fT,<-Nat.mul_assoc];omega};have K:P*(q*(v1*4294967296+v2))<=P*(top*4294967296+u2):=zi _ J;have k3:P*(q*(v1*4294967296+v2))=q*(P*(v1*4294967296+v2)):=by{rw[uj]};have k4:q*V=q*u+q*(P*(v1*4294967296+v2)):=by{rw[hV,zK]};have k5:q*u<=4294967296*P:=pw O O;have k6:P*4294967296<=P*(v1*4294967296+v2):=zi _ O;have k7:(q-1)*V<=U:=by{have:q*V=(q-1)*V+V:=by{rw[<-Nat.succ_mul];congr 1;omega};have:=zY P 4294967296;omega};have:=(Ly G).2 k7;omega};{rw[Ly G];have J:q*(v1*4294967296+v2+1)<=top*4294967296+u2:=by{have a1:q*(v2+1)<=4294967296*4294967296:=pw hq O;have a2:q*(v1*4294967296+v2+1)=q*v1*4294967296+q*(v2+1):=by{rw[AX,zK,<-Nat.mul_assoc]};have a3:top*4294967296=q*v1*4294967296+r*4294967296:=by{rw[<-e,fT]};have a4:4294967296*4294967296<=r*4294967296:=zO _ h;omega};have K:P*(q*(v1*4294967296+v2+1))<=P*(top*4294967296+u2):=zi _ J;have k3:P*(q*(v1*4294967296+v2+1))=q*(P*(v1*4294967296+v2))+q*P:=by{rw[uj,zK P,iW,zK]};have k4:q*V=q*u+q*(P*(v1*4294967296+v2)):=by{rw[hV,zK]};have k5:q*u<=q*P:=zi _ O;omega}
def SO {a:Nat} (u:a<18446744073709551616):qp .u64 (a:Int) 4294967295=((a%4294967296:Nat):Int):=by have:=jE u (show 4294967295<18446744073709551616 by decide);rw[show((4294967295:Nat):Int)=4294967295 from rfl]at this;rw[this,EX _ 32]
def vt {a:Nat} (u:a<18446744073709551616):qp .u64 (a:Int) 1=((a%2:Nat):Int):=by have:=jE u (show 1<18446744073709551616 by decide);rw[show((1:Nat):Int)=1 from rfl]at this;rw[this,EX _ 1]
def Sa {a:Nat}:aJ .u64 (a:Int) 32=((a/4294967296:Nat):Int):=cI (a:=a) (k:=32) O
def qiz {x lo u:Nat} (K:x<4294967296) (G:lo<4294967296) (hb:u<=1): ∃d e:Nat,d<4294967296/\e<=1/\x+4294967296*e=d+lo+u/\
 wK (qp .u64 (wJ ((wJ ((x:Int)-(lo:Int)))-(u:Int))) 4294967295)=(d:Int)/\qp .u64 (aJ .u64 (wJ ((wJ ((x:Int)-(lo:Int)))-(u:Int))) 32) 1=(e:Int):=by have J:wJ ((wJ ((x:Int)-(lo:Int)))-(u:Int))=((x:Int)-lo-u)%18446744073709551616:=by{rw[dK,dK];omega};rw[J];by_cases c:lo+u<=x;{rw[show((x:Int)-lo-u)%18446744073709551616=((x-lo-u:Nat):Int) by omega,SO O,Sa,vt O,fm];refine⟨x-lo-u,0,O,O,O,?_,?_⟩;{congr 1;omega};{congr 1;omega}};{rw[show((x:Int)-lo-u)%18446744073709551616=((18446744073709551616-(lo+u-x):Nat):Int) by omega,SO O,Sa,vt O,fm];refine⟨x+4294967296-lo-u,1,O,O,O,?_,?_⟩;{congr 1;omega};{congr 1;omega}}
def q5g {l:LI} (h:Lm l) {k y:Nat} (G:k<l.length) (e:l.getD k 0=(y:Int)):vl (l.take (k+1))=vl (l.take k)+4294967296^k*y:=by have J:=Qz l k O;have h2:=Qz l (k+1) O;have u:=X7 G;rw[e,tN]at u;rw[u,zK,<-Nat.mul_assoc]at J;rw[gJ]at h2;omega
section
variable {m n:Nat} {v:LI} (hv:Lm v) (hn:v.length=n) (hl:n<=1000000)
include hv hn hl
theorem qpm {q U:Nat} (hq:q<4294967296) (t1:LI) (t5:Int): ∀(N i:Nat) (u:LI) (G J:Nat),n-i<N->i<=n->Lm u->u.length=n+1->G<4294967296->J<=1->
 vl u+q*vl (v.take i)=U+4294967296^i*(J+G)->
 ∃(u':LI) (K a0:Nat),Lm u'/\u'.length=n+1/\K<4294967296/\a0<=1/\vl u'+q*vl v=U+4294967296^n*(a0+K)/\
  jN m N u t1 t5 (q:Int) (G:Int) (J:Int) v (v.length:Int) (i:Int)=some (.inl (u',t1,t5,(q:Int),(K:Int),(a0:Int),())):=by intro N;induction N with|zero=>{intro i u G J h;omega}|succ N ih=>{intro i u G J h hi hu b0 hc hb hinv;rw[jN,bQ];by_cases c:i<n;{obtain⟨x,ex,hx,_⟩:=hu.get' i;obtain⟨y,ey,hy,_⟩:=hv.get' i;have hp:q*y+G<18446744073709551616:=by{have:q*y<=4294967295*4294967295:=pw O O;omega};have c0:q*y<18446744073709551616:=O;have wx:wJ (x:Int)=(x:Int):=bp O;have wy:wJ (y:Int)=(y:Int):=bp O;have wq:wJ ((q:Int)*(y:Int))=((q*y:Nat):Int):=by{rw[<-Int.natCast_mul];exact bp c0};have wp:wJ (((q*y:Nat):Int)+(G:Int))=((q*y+G:Nat):Int):=by{rw[<-Int.natCast_add];exact bp hp};rw[iP O,iP O,iP O,iP O];simp only[tN,zH,ex,ey,wx,wy,wq,wp,SO hp,Sa];obtain⟨d,e,hd,he,d0,g1,g2⟩:=qiz (lo:=(q*y+G)%4294967296) hx (iV _ (by decide)) hb;have e0:qp .u64 (aJ .u64 (wJ ((wJ ((x:Int)-(((q*y+G)%4294967296:Nat):Int)))-(J:Int))) 32) 1=(e:Int):=g2;rw[g1,e0,wQ,ax O];refine ih (i+1) (u.set i (d:Int)) ((q*y+G)/4294967296) e O O (Zo hu hd) (by rw[zT];exact b0) (Lx O) he ?_;have s1:=J8 (l:=u) (p:=i) (y:=(d:Int)) O;rw[ex,tN,tN]at s1;have s2:=q5g hv (k:=i) (y:=y) O ey;have s3:=ui (q*y+G) 4294967296;generalize g0:(q*y+G)%4294967296=lo at*;generalize h0:(q*y+G)/4294967296=ca at*;rw[s2,gJ];generalize 4294967296^i=P at*;have k1:P*x+P*(4294967296*e)=P*d+P*lo+P*J:=by{rw[<-Nat.mul_add,d0,zK,zK]};have k2:P*(4294967296*ca)+P*lo=P*(q*y)+P*G:=by{rw[<-Nat.mul_add,s3,zK]};have k3:q*(vl (v.take i)+P*y)=q*vl (v.take i)+P*(q*y):=by{rw[zK,uj]};have k4:P*4294967296*(e+ca)=P*(4294967296*e)+P*(4294967296*ca):=by{rw[zV,zK,zK]};have k5:P*(J+G)=P*J+P*G:=zK ..;rw[k3,k4];rw[k5]at hinv;omega};{have:i=n:=O;subst this;rw[af O];rw[uo O]at hinv;exact⟨u,G,J,hu,b0,hc,hb,hinv,rfl⟩}}
theorem qqk {U:Nat} (t5 t7:Int): ∀(N i:Nat) (u:LI) (G:Nat),n-i<N->i<=n->Lm u->u.length=n+1->G<=1->
 vl u+4294967296^i*G=U+vl (v.take i)->
 ∃(u':LI) (J:Nat),Lm u'/\u'.length=n+1/\J<=1/\vl u'+4294967296^n*J=U+vl v/\
  jM m N u t5 t7 (G:Int) v (v.length:Int) (i:Int)=some (.inl (u',t5,t7,(J:Int),())):=by intro N;induction N with|zero=>{intro i u G h;omega}|succ N ih=>{intro i u G h hi hu K hc hinv;rw[jM,bQ];by_cases c:i<n;{obtain⟨x,ex,hx,_⟩:=hu.get' i;obtain⟨y,ey,hy,_⟩:=hv.get' i;have wx:wJ (x:Int)=(x:Int):=bp O;have wy:wJ (y:Int)=(y:Int):=bp O;have ws:wJ ((x:Int)+(y:Int))=((x+y:Nat):Int):=by{rw[<-Int.natCast_add];exact bp O};have wp:wJ (((x+y:Nat):Int)+(G:Int))=((x+y+G:Nat):Int):=by{rw[<-Int.natCast_add];exact bp O};rw[iP O,iP O,iP O,iP O];simp only[tN,zH,ex,ey,wx,wy,ws,wp,SO (show x+y+G<18446744073709551616 by omega),Sa,fm];rw[wQ,ax O];refine ih (i+1) (u.set i (((x+y+G)%4294967296%4294967296:Nat):Int)) ((x+y+G)/4294967296) O O (Zo hu O) (by rw[zT];exact K) O ?_;have s1:=J8 (l:=u) (p:=i) (y:=(((x+y+G)%4294967296%4294967296:Nat):Int)) O;rw[ex,tN,tN]at s1;have s2:=q5g hv (k:=i) (y:=y) O ey;have s3:4294967296*((x+y+G)/4294967296)+(x+y+G)%4294967296%4294967296=x+y+G:=O;generalize (x+y+G)%4294967296%4294967296=d at*;generalize (x+y+G)/4294967296=ca at*;rw[s2,gJ];generalize 4294967296^i=P at*;have k1:P*(4294967296*ca)+P*d=P*x+P*y+P*G:=by{rw[<-Nat.mul_add,s3,zK,zK]};rw[zV];omega};{have:i=n:=O;subst this;rw[af O];rw[uo O]at hinv;exact⟨u,G,hu,K,hc,hinv,rfl⟩}}
end
end Go.Vs.F
set_option maxRecDepth 100000
namespace Go.Vs.F
def AD {m:Nat} (hm:2000000<m) {u v:LI} (hu:Lm u) (hv:Lm v) {n:Nat} (hn:v.length=n) (g0:u.length=n+1) (h2:2<=n) (hl:n<=1000000) {v1:Nat} (e1:v.getD (n-1) 0=(v1:Int)) (h1:2147483648<=v1)
 (p1:vl u<vl v*4294967296): ∃w,B3 m u v=some (((vl u/vl v:Nat):Int),w,(),())/\Lm w/\w.length=n+1/\vl w=vl u%vl v:=by obtain⟨un,f1,t0,g1⟩:=hu.get' n;obtain⟨um,f2,u0,g2⟩:=hu.get' (n-1);obtain⟨u2,f3,h0,g3⟩:=hu.get' (n-2);obtain⟨G,b0,s0,k1⟩:=hv.get' (n-1);obtain⟨v2,e2,e0,k2⟩:=hv.get' (n-2);have:G=v1:=by{rw[b0]at e1;omega};subst this;have q1:=Qz u (n-2) O;have q2:=Qz v (n-2) O;have q3:=Qz u (n-1) O;have q4:=Qz v (n-1) O;have t1:=Xv hu (k:=n-2) O;have t2:=Xv hv (k:=n-2) O;have t3:=Xv hu (k:=n-1) O;have z1:vl (u.drop (n+1))=0:=qo O;have z2:vl (v.drop n)=0:=qo O;rw[z1]at g1;rw[show n-1+1=n by omega]at g2 k1;rw[show n-2+1=n-1 by omega]at g3 k2;rw[g1]at g2;rw[g2]at g3 q3;rw[z2]at k1;rw[k1]at k2 q4;rw[g3]at q1;rw[k2]at q2;obtain⟨top,i0⟩: ∃top,top=un*4294967296+um:=⟨_,rfl⟩;have hU:vl u=vl (u.take (n-2))+4294967296^(n-2)*(top*4294967296+u2):=by{rw[q1];congr 2;omega};have hV:vl v=vl (v.take (n-2))+4294967296^(n-2)*(G*4294967296+v2):=by{rw[q2];congr 2;omega};have r1:vl u=vl (u.take (n-1))+4294967296^(n-1)*top:=by{rw[q3];congr 2;omega};have m1:vl v=vl (v.take (n-1))+4294967296^(n-1)*G:=by{rw[q4,zx,zQ]};have d2:0<4294967296^(n-2):=eQ O;have y1:=QF.mk' d2 hU t1 hV t2 h1 e0 h0 p1;have x2:0<4294967296^(n-1):=eQ O;have m0:0<vl v:=by{have:4294967296^(n-1)*1<=4294967296^(n-1)*G:=zi _ O;omega};have w0:vl u/vl v<=top/G:=qia r1 t3 m1 O (Mx ..);have hle:top/G<=4294967297:=by{have a1:4294967296^(n-1)*top<4294967296^(n-1)*((G+1)*4294967296):=by{have t4:=Xv hv (k:=n-1) O;have:vl v*4294967296<=4294967296^(n-1)*(G+1)*4294967296:=zO _ (by rw[zK,iW];omega);rw[zV]at this;omega};have a2:=LD a1;rw[fT]at a2;have h5:top<4294967298*G:=O;have:top/G<4294967298:=(Bd O).2 h5;omega};have o2:=iV top (show 0<G by omega);have d1:=ui top G;have p2:top<18446744073709551616:=O;obtain⟨q,r0,b1,b2,b3⟩:=qi6 m hn h2 g0 hl b0 e2 f3 h1 s0 e0 h0 y1 m 2 (top/G) (top%G) O O (by rw[zY];exact d1) O w0 hle;obtain⟨u1,j2,m2,c1,c2,c3,c4,c5,c6⟩:=qpm (m:=m) hv hn hl (q:=q) (U:=vl u) b3 v (n:Int) m 0 u 0 0 O O hu g0 O O (by simp[vl]);obtain⟨x,ex,hx,_⟩:=c1.get' n;obtain⟨d,e,hd,he,j1,s1,s2⟩:=qiz hx c3 c4;have w1:wI ((n:Int)-1)=((n-1:Nat):Int):=by{rw[wQ,wi O O];omega};have w3:wJ (G:Int)=(G:Int):=bp O;have w4:wJ (un:Int)=(un:Int):=bp O;have w5:wJ (um:Int)=(um:Int):=bp O;have wx:wJ (x:Int)=(x:Int):=bp O;have wt:wJ ((top/G:Nat):Int)=((top/G:Nat):Int):=bp O;have i1:(0:Int)<=((n:Nat):Int)/\((n:Nat):Int)<(u.length:Int):=O;have i2:(0:Int)<=((n-1:Nat):Int)/\((n-1:Nat):Int)<(u.length:Int):=O;have i3:(0:Int)<=((n-1:Nat):Int)/\((n-1:Nat):Int)<(n:Int):=O;have i4:(0:Int)<=((n:Nat):Int)/\((n:Nat):Int)<(u1.length:Int):=O;have d0:=J8 (l:=u1) (p:=n) (y:=(d:Int)) O;rw[ex,tN,tN]at d0;have l1:Lm (u1.set n (d:Int)):=Zo c1 hd;have l2:(u1.set n (d:Int)).length=n+1:=by{rw[zT];exact c2};have J:vl (u1.set n (d:Int))+q*vl v=vl u+4294967296^n*(4294967296*e):=by{have k1:4294967296^n*x+4294967296^n*(4294967296*e)=4294967296^n*d+4294967296^n*j2+4294967296^n*m2:=by{rw[<-Nat.mul_add,j1,zK,zK]};rw[zK]at c5;omega};have hdiv:=ui (vl u) (vl v);have w2:=iV (vl u) m0;rw[B3];rw[hn,tN,w1,tN,zH,zH];rw[iP i1,iP i2,iP i3,b0,w3,iP O,iP i3,iP O,f1,f2,w4,w5,Ft t0 u0,<-i0,td,tm,wt,r0,bS];dsimp only;rw[show jN m m u v (n:Int) (q:Int) 0 0 v (v.length:Int) 0=_ from c6,bS];dsimp only;rw[iP i4,iP i4,tN,zH,ex,wx,aA,s1,s2];have hr:q*vl v=vl v*q:=zY ..;by_cases z0:e=0;{subst z0;have hq:q=vl u/vl v:=by{have:q<=vl u/vl v:=(Ly m0).2 (by simp only[zx,zQ]at J;omega);omega};rw[iP O,fm,iY b3];refine⟨_,by rw[hq],l1,l2,?_⟩;simp only[zx,zQ]at J;rw[hr,hq]at J;omega};{have x0:e=1:=O;subst x0;have k0:=bZ l1;rw[l2,gJ]at k0;rw[iW]at J;have hq:q=vl u/vl v+1:=by{rcases fS (vl u/vl v) q with h|h;{omega};{exfalso;have:q*vl v<=vl u/vl v*vl v:=zO _ h;have:=Mx (vl u) (vl v);omega}};have r2:1<=q:=by{rw[hq];exact Nat.le_add_left 1 _};have v0:q-1=vl u/vl v:=by{rw[hq,RP]};obtain⟨u3,K,a1,a2,a3,a4,a5⟩:=qqk (m:=m) hv hn hl (U:=vl (u1.set n (d:Int))) (n:Int) (q:Int) m 0 (u1.set n (d:Int)) 0 O O l1 l2 O (by simp[vl]);obtain⟨y,ey,hy,_⟩:=a1.get' n;have i5:(0:Int)<=((n:Nat):Int)/\((n:Nat):Int)<(u3.length:Int):=O;have wq:wJ ((q:Int)-1)=((q-1:Nat):Int):=by{rw[show(q:Int)-1=((q-1:Nat):Int) by omega];exact bp O};have wc:wK (K:Int)=(K:Int):=by{rw[fm,iY O]};have wy:wK ((y:Int)+(K:Int))=(((y+K)%4294967296:Nat):Int):=by{rw[<-Int.natCast_add];exact fm};rw[af O,show jM m m (u1.set n (d:Int)) (n:Int) (q:Int) 0 v (v.length:Int) 0=_ from a5,bS];dsimp only;rw[iP i5,iP i5,tN,zH,ey,wc,wy,wq,fm,iY (show q-1<4294967296 by omega)];have a0:(y+K)%4294967296<4294967296:=iV _ (by decide);refine⟨_,by rw[v0],Zo a1 a0,by rw[zT];exact a2,?_⟩;have c0:=J8 (l:=u3) (p:=n) (y:=(((y+K)%4294967296:Nat):Int)) O;rw[ey,tN,tN]at c0;have j0:=bZ (Zo (p:=n) a1 a0);rw[zT,a2,gJ]at j0;have q0:=bZ hv;rw[hn]at q0;have l0:=ui (y+K) 4294967296;have k1:4294967296^n*(4294967296*((y+K)/4294967296))+4294967296^n*((y+K)%4294967296)=4294967296^n*y+4294967296^n*K:=by{rw[<-Nat.mul_add,l0,zK]};have k2:q*vl v=vl v*(vl u/vl v)+vl v:=by{rw[hq,zY,zK,iW]};have hf:(y+K)/4294967296=0\/(y+K)/4294967296=1:=O;generalize (y+K)/4294967296=f at*;generalize (y+K)%4294967296=g at*;generalize 4294967296^n=P at*;rcases hf with rfl|rfl;{exfalso;simp only[zx]at k1;omega};{omega}}
end Go.Vs.F
set_option maxRecDepth 100000
namespace Go.Vs.F
def Vl {a b:LI} (J:Lm a) (G:Lm b):Lm (a++b):=λx u=>(zX.1 u).elim (J x) (G x)
def qo1 {m:Nat} (hm:2000000<m) {v:LI} (hv:Lm v) {n:Nat} (hn:v.length=n) (h2:2<=n) {v1:Nat} (e1:v.getD (n-1) 0=(v1:Int)) (h1:2147483648<=v1) {k U:Nat} (hk:k+n<=1000000) (t8:Int):
 ∀(j N:Nat) (u q:LI),j<N->j<=k->Lm u->Lm q->u.length=k+n->q.length=k->(∀p,p<j->q.getD p 0=0)->vl (u.drop j)<vl v->vl u+vl v*vl q=U->
  ∃u' q',jQ m N q t8 v u (n:Int) ((j:Int)-1)=some (.inl (q',t8,u',(n:Int),()))/\Lm u'/\Lm q'/\u'.length=k+n/\q'.length=k/\vl u'<vl v/\vl u'+vl v*vl q'=U:=by intro j;induction j with|zero=>{intro N u q hN hj hu hq b0 K hz hr hs;obtain⟨N,rfl⟩: ∃M,N=M+1:=⟨N-1,O⟩;rw[jQ,bQ,af O];exact⟨u,q,rfl,hu,hq,b0,K,by rwa [iX]at hr,hs⟩}|succ p ih=>{intro N u q hN hj hu hq b0 K hz hr hs;obtain⟨N,rfl⟩: ∃M,N=M+1:=⟨N-1,O⟩;have g0:=bZ hv;rw[hn]at g0;have i0:(u.drop (p+1)).drop n=u.drop (p+(n+1)):=by{rw[LA];congr 1;omega};have J:vl (u.drop (p+(n+1)))=0:=by{rw[<-i0];exact Jt (by rw[ix];omega) O};obtain⟨x,ex,hx,dx⟩:=hu.get' p;have e0:((u.drop p).take (n+1)).length=n+1:=by{rw[zU,ix];omega};have hw:vl (u.drop p)=vl ((u.drop p).take (n+1)):=by{have:=Qz (u.drop p) (n+1) (by rw[ix];omega);rw[LA,J,zx,zQ]at this;exact this};have G:vl ((u.drop p).take (n+1))<vl v*4294967296:=by{rw[<-hw,dx];omega};obtain⟨w,d1,d2,d3,d4⟩:=AD hm ((hu.drop p).take (n+1)) hv hn e0 h2 O e1 h1 G;have l0:0<vl v:=O;have hd:vl ((u.drop p).take (n+1))/vl v<4294967296:=Lx G;generalize k0:vl ((u.drop p).take (n+1))/vl v=d at*;have j0:vl v*d+vl w=vl ((u.drop p).take (n+1)):=by{rw[<-k0,d4];exact ui ..};have d0:vl w<vl v:=by{rw[d4];exact iV _ l0};have w0:wI ((p:Int)+(n:Int))=((p+n:Nat):Int):=by{rw[wQ,wi O O];omega};have w1:wI (((p+n:Nat):Int)+1)=((p+n+1:Nat):Int):=ax O;have ei:((p+1:Nat):Int)-1=(p:Int):=O;rw[jQ,ei,bQ,iP O,w0,w1,iP O];simp only[tN,zH];rw[show p+n+1-p=n+1 by omega,iP O,d1,bS];dsimp only;rw[iP O,wQ,wi O O];have h0:Lm (u.take p++(w++u.drop (p+(n+1)))):=Vl (hu.take p) (Vl d2 (hu.drop _));have c0:(u.take p).length=p:=by{rw[zU];omega};have a0:(u.take p++(w++u.drop (p+(n+1)))).length=k+n:=by{rw[zG,zG,c0,d3,ix];omega};have s1:=J8 (l:=q) (p:=p) (y:=(d:Int)) O;rw[hz p O,LB,zx,zQ,tN]at s1;have s2:=Qz u p O;rw[hw,<-j0]at s2;have s3:vl (u.take p++(w++u.drop (p+(n+1))))=vl (u.take p)+4294967296^p*vl w:=by{rw[vJ,vJ,J,zx,zQ,c0]};refine ih N _ (q.set p (d:Int)) O O h0 (Zo hq hd) a0 (by rw[zT];exact K) (λp' m0=>by rw[bu O];exact hz p' O) ?_ ?_;{have e:(u.take p++(w++u.drop (p+(n+1)))).drop p=w++u.drop (p+(n+1)):=by{rw[List.drop_append_of_le_length O,List.drop_of_length_le O,vE]};rw[e,vJ,J,zx,zQ];exact d0};{rw[s3,s1,zK];rw[zK]at s2;have:vl v*(4294967296^p*d)=4294967296^p*(vl v*d):=uj ..;omega}}
end Go.Vs.F
set_option maxRecDepth 100000
namespace Go.Vs.F
def qev {m:Nat} (hm:5000000<=m) {A B:Nat} (hB:B≠0) (hA:(lim A).length<=400000) (m0:(lim B).length<=1000000):
 ru m (lim A) (lim B)=some ((lim (A/B),lim (A%B),()),(),(),()):=by
 by_cases hsmall:B<4294967296
 . exact qd8 O O O hsmall
 by_cases J:A<B
 . have hc:da A B= -1:=by unfold da;rw[iP J]
   rw[ru,Jh O O m0,bS,bQ];dsimp only;rw[hc,iP O,Nq O,bS,vz J,iY J,Qd]
 . have m1:(lim B).length<=(lim A).length:=Q9 O;have hc: ¬da A B<0:=by unfold da;rw[af J];split<;>omega
   obtain⟨n,hn⟩: ∃n,n=(lim B).length:=⟨_,rfl⟩;obtain⟨L,hL⟩: ∃L,L=(lim A).length:=⟨_,rfl⟩
   have h2:2<=n:=by
    rcases fS n 2 with h|h
    . exfalso;have:=bZ (Q7 B);rw[qw,<-hn]at this;have G:4294967296^n<=4294967296^1:=zu O O;rw[Nat.pow_one]at G;omega
    . exact h
   obtain⟨t,et,ht,dt⟩:=(Q7 B).get' (n-1);have w1:wI ((n:Int)-1)=((n-1:Nat):Int):=by rw[wQ,wi O O];omega
   have k1:ak t<=32:=Qo O;have w2:wI (32-((ak t:Nat):Int))=((32-ak t:Nat):Int):=by rw[wQ,wi O O];omega
   have g0:=Qz (lim B) (n-1) O;rw[qw,dt,show n-1+1=n by omega,qo O,zx,zQ]at g0
   have i1:=Xv (Q7 B) (k:=n-1) O;have j0:=Vm hB;rw[<-hn]at j0
   have e0:t≠0:=by
    intro h0;rw[h0,zx,zQ]at g0;omega
   have l1:1<=ak t:=by rw[X9 e0];omega
   have v0:tg m (t:Int)=some (((32-ak t:Nat):Int),(),()):=by
    rw[tg,Tc ht,bS];dsimp only;rw[w2]
   generalize hs:32-ak t=s at*
   have i0:s<=31:=O;have u:0<2^s:=eQ O
   have f1:2147483648<=t*2^s:=by
    have G:=NH e0
    calc 2147483648=2^(ak t-1)*2^s:=by rw[<-Nat.pow_add,show ak t-1+s=31 by omega]
     _<=t*2^s:=zO _ G
   have d0:(t+1)*2^s<=4294967296:=by
    have:=Z5 t
    calc (t+1)*2^s<=2^ak t*2^s:=zO _ O
     _=2^(ak t+s):=(sH ..).symm
     _=4294967296:=by rw[show ak t+s=32 by omega]
   have z0:4294967296^(n-1)*4294967296=4294967296^n:=by rw[<-Nat.pow_succ,show(n-1).succ=n by omega]
   have u0:B*2^s<4294967296^n:=by
    have h5:B<4294967296^(n-1)*(t+1):=by rw[zK,iW];omega
    calc B*2^s<4294967296^(n-1)*(t+1)*2^s:=RG h5 u
     _=4294967296^(n-1)*((t+1)*2^s):=zV ..
     _<=4294967296^(n-1)*4294967296:=zi _ d0
     _=4294967296^n:=z0
   have b1:B<=B*2^s:=Nat.le_mul_of_pos_right _ u
   have gk:(lim (B*2^s)).length=n:=by
    have a1:=Xu u0;have a2:=Q9 b1;omega
   obtain⟨v1,ev,h1,dv⟩:=(Q7 (B*2^s)).get' (n-1);have t0:=Qz (lim (B*2^s)) (n-1) O;rw[qw,dv,show n-1+1=n by omega,qo O,zx,zQ]at t0
   have g1:=Xv (Q7 (B*2^s)) (k:=n-1) O
   have hv1lo:2147483648<=v1:=by
    have a1:4294967296^(n-1)*(t*2^s)<=B*2^s:=by
     rw[<-Nat.mul_assoc];exact zO _ O
    have a2:4294967296^(n-1)*(t*2^s)<4294967296^(n-1)*(v1+1):=by rw[zK _ v1,iW];omega
    have:=LD a2;omega
   obtain⟨k,hk⟩: ∃k,k=L+1-n:=⟨_,rfl⟩;have q0:=bZ (Q7 A);rw[qw,<-hL]at q0;have e1:2^s<=2147483648:=zf (zu O i0) (by decide)
   have r0:A*2^s<4294967296^L*2147483648:=wR (zi _ e1) (RG q0 O)
   have hlenA:(lim (A*2^s)).length<=L+1:=by
    refine Xu (wX r0 ?_);rw[gJ];exact zi _ O
   have d1:0<(lim (A*2^s)).length:=by
    refine RR.2 λh=> ?_
    have G:=Z9.1 h;rcases RC.1 G with h|h<;>omega
   obtain⟨R,hR⟩: ∃R,R=(lim (A*2^s)).take (List.replicate (L+1) (0:Int)).length++(List.replicate (L+1) (0:Int)).drop (lim (A*2^s)).length:=⟨_,rfl⟩
   have b0:R=lim (A*2^s)++List.replicate (L+1-(lim (A*2^s)).length) (0:Int):=by
    rw[hR,zI,uo hlenA,List.drop_replicate]
   have l0:R.length=k+n:=by rw[b0,zG,zI];omega
   have x0:Lm R:=by rw[b0];exact Vl (Q7 _) Qq
   have k0:vl R=A*2^s:=by rw[b0,vJ,Qw,zx,zQ,qw]
   have hdrop:vl (R.drop k)<vl (lim (B*2^s)):=by
    rw[qw];have G:=Qz R k O;rw[k0]at G
    have h4:4294967296^k*(B*2^s)>=4294967296^L*2147483648:=by
     have h5:4294967296^(n-1)*2147483648<=B*2^s:=by
      have:=zi (4294967296^(n-1)) hv1lo;omega
     have h6:=zi (4294967296^k) h5;rw[<-Nat.mul_assoc,<-Nat.pow_add,show k+(n-1)=L by omega]at h6
     exact h6
    refine LD (a:=4294967296^k) ?_;omega
   obtain⟨u',q',r1,r2,r3,r4,r5,r6,r7⟩:=qo1 (m:=m) O (Q7 (B*2^s)) gk h2 ev hv1lo (k:=k) (U:=A*2^s) O (s:Int) k m R (List.replicate k 0) O (zJ _) x0 Qq l0 (by simp) (λp hp=>by simp[List.getD,hp]) hdrop (by rw[Qw,zx,zQ];exact k0)
   rw[qw]at r6 r7;have w0:0<B*2^s:=O
   have hq:vl q'=A/B:=by
    have:vl q'=A*2^s/(B*2^s):=by
     rw[<-r7,pG,RE w0,vz r6,zQ]
    rw[this,Nat.mul_div_mul_right _ _ u]
   have hr:vl u'=(A%B)*2^s:=by
    have:vl u'=A*2^s%(B*2^s):=by
     rw[<-r7,pG,RD,iY r6]
    rw[this,Nat.mul_mod_mul_right]
   have wL:wI ((L:Int)+1)=((L+1:Nat):Int):=ax O;have wk:wI (((k+n:Nat):Int)-(n:Int))=(k:Int):=by rw[wQ,wi O O];omega
   have s0:wI ((k:Int)-1)=(k:Int)-1:=by rw[wQ,wi O O]
   have a0:=uz (m:=m) O (Q7 B) O (n:=s) O;have K:=uz (m:=m) O (Q7 A) O (n:=s) O;rw[qw]at a0 K;rw[ru,Jh O O m0,bS,bQ];dsimp only;rw[af hc,<-hn,<-hL,aA,af O,w1,iP O,tN,et,v0,bS];dsimp only;rw[a0,bS,wL,iP O,K,bS,tN];dsimp only;rw[iP ⟨d1,by rw[zI];omega⟩,<-hR,l0,gk,wk,iP O,tN,zI,s0,r1,bS]
   dsimp only
   have c0:vl (u'.take n)=vl u':=by
    have G:=Qz u' n O;rw[Jt (l:=u') (k:=n) O O,zx,zQ]at G;exact G.symm
   have j1:(u'.take n).length=n:=by rw[zU];omega
   rw[iP O,tN,X5 (r2.take n) O O,bS,c0,hr];dsimp only
   rw[Vj O (by
    have:=X0 (r2.take n);rw[c0,hr]at this;omega) O,bS,X5 r3 O O,bS,hq,Nat.mul_div_cancel _ u]
end Go.Vs.F
set_option maxRecDepth 100000
namespace Go.Vs.F
def qk9 {m:Nat} (hm:5000000<=m) {A B:Nat} (u:B≠0) (hA:(lim A).length<=400000) (K:(lim B).length<=400000):
 yk m false (lim A) false (lim B)=some (((false,lim (A/B),()),(false,lim (A%B),()),0,()),(),(),()):=by have h1:(lim B).length≠0:=λh=>u (Z9.1 (List.eq_nil_of_length_eq_zero h));have J:(lim (A/B)).length<=1000001:=zf (Q9 (sE ..)) O;have G:(lim (A%B)).length<=1000001:=zf (Q9 (uu (iV _ O))) (by omega:(lim B).length<=1000001);have b1:=nw (m:=m) O J false;have b2:=nw (m:=m) O G false;rw[yk,X5 (Q7 B) O O,qw,bS,aA,af (show¬(((lim B).length:Int)=0) by omega),X5 (Q7 A) O O,qw,bS];dsimp only;rw[qev hm u hA O,bS];dsimp only;rw[cond_false,show(!(false==false))=false from rfl,b1,bS,b2,bS];rw[show(if(false=true)then-((A/B:Nat):Int)else((A/B:Nat):Int))=((A/B:Nat):Int)from af (by simp),show(if(false=true)then-((A%B:Nat):Int)else((A%B:Nat):Int))=((A%B:Nat):Int)from af (by simp),Xa,Xa]
def qjm {v n j:Nat} (hn:1<=n) (more:Bool):dH v (n+j) more=dH (v/2^j) n (more||decide (v%2^j≠0)):=by have hJ:0<2^j:=eQ O;have e:v%2^(n+j)=2^j*(v/2^j%2^n)+v%2^j:=by{rw[pG n j,sH,Nat.mod_mul,pG]};have hc:=iV v hJ;obtain⟨h,hh⟩: ∃h,2^n=2*h:=⟨2^(n-1),by rw[<-Nat.pow_succ',show(n-1).succ=n by omega]⟩;have ep:2^(n+j)=2^j*(2*h):=by{rw[pG n j,sH,hh]};unfold dH;rw[e,ep,hh];generalize v/2^j%(2*h)=a;generalize a0:v%2^j=c at*;generalize 2^j=J at*;have K:J*(2*h)=2*(J*h):=uj ..;have G:2*(J*a+c)=2*(J*a)+2*c:=by{rw[zK]};rw[K,G];by_cases c1:a<h;{have:J*(a+1)<=J*h:=zi _ c1;rw[zK,iW]at this;rw[iP O,iP (show 2*a<2*h by omega)]};{have h3:J*h<=J*a:=zi _ O;rw[af O,af (show¬(2*a<2*h) by omega)];by_cases c2:a=h;{subst c2;by_cases u:c=0;{subst u;cases more<;>simp};{rw[af O,af (by simp[u])]}};{have h4:J*(h+1)<=J*a:=zi _ O;rw[zK,iW]at h4;rw[af O,af (show¬(2*a=2*h/\(more||decide (c≠0))=false)from λq=>by omega)]}}
def qnd {neg:Bool} {v n j:Nat} (hn:1<=n) (more:Bool) (mode:Int):gR neg v (n+j) more mode=gR neg (v/2^j) n (more||decide (v%2^j≠0)) mode:=by have hJ:0<2^j:=eQ O;have e:v%2^(n+j)=2^j*(v/2^j%2^n)+v%2^j:=by{rw[pG n j,sH,Nat.mod_mul,pG]};have ed:v/2^(n+j)=v/2^j/2^n:=by{rw[Nat.div_div_eq_div_mul,<-Nat.pow_add,pG]};unfold gR;rw[qjm hn,ed];have u:(v%2^(n+j)=0/\more=false)↔(v/2^j%2^n=0/\(more||decide (v%2^j≠0))=false):=by{rw[e];constructor;{rintro ⟨G,h2⟩;have K:v%2^j=0:=O;have J:2^j*(v/2^j%2^n)=0:=O;rcases RC.1 J with h|h;{omega};{exact⟨h,by simp[h2,K]⟩}};{rintro ⟨G,h2⟩;simp only[RT,decide_eq_false_iff_not,Decidable.not_not]at h2;rw[G,h2.2];exact⟨by simp,h2.1⟩}};by_cases c:v%2^(n+j)=0/\more=false;{rw[iP c,iP (u.1 c)]};{rw[af c,af (λh=>c (u.2 h))]}
def qjt {X Y j:Nat} (u:0<Y):X*2^j/Y/2^j=X/Y/\(X%Y=0↔(X*2^j%Y=0/\X*2^j/Y%2^j=0)):=by have G:0<2^j:=eQ O;refine⟨by rw[Nat.div_div_eq_div_mul,Nat.mul_div_mul_right _ _ G],λh=> ?_,λ⟨J,h2⟩=> ?_⟩;{obtain⟨q,rfl⟩:=Nat.dvd_of_mod_eq_zero h;rw[zV,Nat.mul_mod_right,Nat.mul_div_cancel_left _ u,Nat.mul_mod_left];exact⟨rfl,rfl⟩};{obtain⟨v,hv⟩:=Nat.dvd_of_mod_eq_zero J;rw[hv,Nat.mul_div_cancel_left _ u]at h2;obtain⟨w,rfl⟩:=Nat.dvd_of_mod_eq_zero h2;have:X=Y*w:=by{refine Nat.eq_of_mul_eq_mul_right G ?_;rw[hv,zV,zY (2^j) w]};rw[this,Nat.mul_mod_right]}
end Go.Vs.F
set_option maxRecDepth 100000
namespace Go.Vs.F
def kQ (X Y prec:Nat):Nat:=prec+2+ak Y-ak X
def qt0 {v k:Nat} (h:2^k<=v):k+1<=ak v:=by refine xk λc=> ?_;have u:=Z5 v;have h2:2^ak v<=2^k:=zu O O;omega
def qup {X Y p k:Nat} (u:X≠0) (G:Y≠0) (h:p+1+ak Y<=ak X-1+k):p+2<=ak (X*2^k/Y):=by
 refine qt0 (k:=p+1) ?_;rw[Ly O]
 calc 2^(p+1)*Y<=2^(p+1)*2^ak Y:=zi _ (uu (Z5 Y))
  _=2^(p+1+ak Y):=(sH ..).symm
  _<=2^(ak X-1+k):=zu O h
  _=2^(ak X-1)*2^k:=sH ..
  _<=X*2^k:=zO _ (NH u)
def Uq {X Y p:Nat} (u:X≠0) (G:Y≠0):p+2<=ak (X*2^kQ X Y p/Y):=by refine qup u G ?_;have:1<=ak X:=by{rw[X9 u];omega};unfold kQ;omega
def qmr {r:Nat}:(sgn (zv false (lim r)) !=0)=decide (r≠0):=by have:zv false (lim r)=(r:Int):=by{unfold zv;rw[qw];rfl};rw[this];unfold sgn;rw[af O];by_cases c:r=0;{subst c;rfl};{rw[iP O,decide_eq_true c];rfl}
def SzL {q:Nat} (h:ak q<=1000000):Sz (lim q):=⟨Q7 q,by have:=Qi h;omega⟩
end Go.Vs.F
set_option maxRecDepth 100000
namespace Go.Vs.F
abbrev Bg:=Bool×LI
def BZ (z:Int):Bg:=((zB z).1,(zB z).2.1)
abbrev D5:=Bool×Bool×LI×Int×Unit
inductive Cn:D5->Prop
 |bad:Cn su
 |ok {w f:Int} (k:NF w f w f):Cn (aE w f)
def NF.self {z e w f:Int} (k:NF z e w f):NF w f w f:=
 ⟨cU.refl ..,by rw[k.eq.mk,k.md],k.zero,k.odd,k.lo,k.hi⟩
def dz (z e:Int):Cn (aE z e):=by by_cases h:bX z e;{obtain⟨w,f,k⟩:=h.nf;rw[<-k.eq.mk];exact .ok k.self};{rw[vL h];exact .bad}
def zD (a:D5):Int:=zv a.2.1 a.2.2.1
def eD (a:D5):Int:=a.2.2.2.1
def NF.mk_eq {w f:Int} (k:NF w f w f):aE w f=(false,(zB w).1,(zB w).2.1,f,()):=k.md
def NF.z {w f:Int} (k:NF w f w f):zD (aE w f)=w:=by rw[k.mk_eq];exact aP w
def NF.e {w f:Int} (k:NF w f w f):eD (aE w f)=f:=by rw[k.mk_eq];rfl
def NF.bad1 {w f:Int} (k:NF w f w f):(aE w f).1=false:=by rw[k.mk_eq]
section
variable {m:Nat} (hm:5000000000<=m)
include hm
theorem qra {a:Int} (u:fp a<=1000000):nN m (BZ a).1 (BZ a).2=some (zB a,(),()):=by have:=Mb (m:=m) O (neg:=(zB a).1) (vu u);rwa [aP]at this
theorem qvp {a:Int} (u:fp a<=1000000):fR m (BZ a).1 (BZ a).2=some (sgn a,(),()):=by have:=Zi (m:=m) O (neg:=(zB a).1) (vu u);rwa [aP]at this
theorem qfy {a b:Int} (hb:b≠0) (G:fp a<=400000) (u:fp b<=400000) (h:a<0->a.natAbs%b.natAbs=0):
 tw m (BZ a).1 (BZ a).2 (BZ b).1 (BZ b).2=some ((zB (if(!(decide (a<0)==decide (b<0)))=true then-((a.natAbs/b.natAbs:Nat):Int)else((a.natAbs/b.natAbs:Nat):Int)),zB ((a.natAbs%b.natAbs:Nat):Int),()),(),(),()):=by have hq:(lim (a.natAbs/b.natAbs)).length<=400000:=zf (Q9 (sE ..)) G;have K:(lim (a.natAbs%b.natAbs)).length<=400000:=zf (Q9 (RU ..)) G;have J:(if decide (a<0)=true then-((a.natAbs%b.natAbs:Nat):Int)else((a.natAbs%b.natAbs:Nat):Int))=((a.natAbs%b.natAbs:Nat):Int):=by{by_cases c:a<0;{rw[h c];split<;>rfl};{rw[af (by simpa using c)]}};rw[tw,qra hm O,bS,qra hm O,bS];show(yj m (lim a.natAbs) (lim b.natAbs)).bind _=_;rw[qoq hm O G u,bS];dsimp only;rw[qrm O O,bS,qrm O O,bS];dsimp only;rw[show(zB a).1=decide (a<0)from rfl,show(zB b).1=decide (b<0)from rfl,J,show fR m (zB ((a.natAbs%b.natAbs:Nat):Int)).1 (zB ((a.natAbs%b.natAbs:Nat):Int)).2.1=some (sgn ((a.natAbs%b.natAbs:Nat):Int),(),())from qvp hm (by show(lim ((a.natAbs%b.natAbs:Nat):Int).natAbs).length<=_;rw[zy];omega),bS,bQ];have: ¬sgn ((a.natAbs%b.natAbs:Nat):Int)<0:=by{unfold sgn;rw[af O];split<;>omega};rw[af this]
theorem qpk {x y:Nat} (J:y≠0) (G:(lim x).length<=400000) (u:(lim y).length<=400000):
 tw m (BZ (x:Int)).1 (BZ (x:Int)).2 (BZ (y:Int)).1 (BZ (y:Int)).2=some ((zB ((x/y:Nat):Int),zB ((x%y:Nat):Int),()),(),(),()):=by have:=qfy hm (a:=(x:Int)) (b:=(y:Int)) O (by unfold fp;rw[zy];exact G) (by unfold fp;rw[zy];exact u) (λh=>O);rw[this,zy,zy,show decide ((x:Int)<0)=false from decide_eq_false O,show decide ((y:Int)<0)=false from decide_eq_false O];rfl
theorem qu3 {X Y:Nat} (G:Y≠0) (J:ak X<=400000) (u:ak Y<=400000):
 yk m (zB (X:Int)).1 (zB (X:Int)).2.1 (zB (Y:Int)).1 (zB (Y:Int)).2.1=some (((false,lim (X/Y),()),(false,lim (X%Y),()),0,()),(),(),()):=by rw[Xa,Xa];have K:=Qi J;have h2:=Qi u;exact qk9 O G O O
theorem qhe {X Y:Nat} (G:Y≠0) (J:ak X<=400000) (u:ak Y<=400000):
 tw m (zB (X:Int)).1 (zB (X:Int)).2.1 (zB (Y:Int)).1 (zB (Y:Int)).2.1=some (((false,lim (X/Y),()),(false,lim (X%Y),()),()),(),(),()):=by have K:=Qi J;have h2:=Qi u;have h:=qpk hm G (x:=X) (y:=Y) O O;rw[Xa,Xa]at h;exact h
theorem natAbs_pow {X k:Nat}:((X:Nat):Int)*2^k=((X*2^k:Nat):Int):=by rw[sG,px];rfl
theorem qq5 {w f x g:Int} (k:NF w f w f) (l:NF x g x g) (hx:x≠0) {p:Nat} (hp:p<=4096):
 CV m false (zB w).1 (zB w).2.1 f false (zB x).1 (zB x).2.1 g (p:Int)=
  some ((decide (w<0) !=decide (x<0),false,lim (w.natAbs*2^(p+3+ak x.natAbs-ak w.natAbs)/x.natAbs),f-((p+3+ak x.natAbs-ak w.natAbs:Nat):Int)-g,decide (w.natAbs*2^(p+3+ak x.natAbs-ak w.natAbs)%x.natAbs≠0),()),(),(),(),()):=by have a0:=k.len;have K:=l.len;have b1:=k.lo;have b2:=k.hi;have b3:=l.lo;have b4:=l.hi;have hY:x.natAbs≠0:=O;have a1:vl (zB w).2.1=w.natAbs:=qw _;have a2:vl (zB x).2.1=x.natAbs:=qw _;have J:wI (wI (wI ((p:Int)+3)+((ak x.natAbs:Nat):Int))-((ak w.natAbs:Nat):Int))=(p:Int)+3+((ak x.natAbs:Nat):Int)-((ak w.natAbs:Nat):Int):=by{simp only[wQ];rw[wi (n:=(p:Int)+3) O O,wi (n:=(p:Int)+3+_) O O,wi O O]};rw[CV,Mm O l.Sz,a2,bS,Mm O k.Sz,a1,bS,SB O k.Sz,aP,bS];dsimp only;rw[J,show(if(p:Int)+3+((ak x.natAbs:Nat):Int)-((ak w.natAbs:Nat):Int)>0 then(p:Int)+3+((ak x.natAbs:Nat):Int)-((ak w.natAbs:Nat):Int)else 0)=((p+3+ak x.natAbs-ak w.natAbs:Nat):Int) by split<;>omega];have hk:p+3+ak x.natAbs-ak w.natAbs<=140000:=O;generalize b0:p+3+ak x.natAbs-ak w.natAbs=j at*;have u:ak (w.natAbs*2^j)<=280000:=by{have:=I6 (a:=w.natAbs) (b:=2^j);rw[X3]at this;omega};have G:wI (wI (f-(j:Int))-g)=f-(j:Int)-g:=by{simp only[wQ];rw[wi (n:=f-(j:Int)) O O,wi O O]};rw[d7 O (by rw[zy];omega) O O,bS,tN,natAbs_pow hm];dsimp only;rw[SB O l.Sz,aP,bS];dsimp only;rw[qu3 hm hY O O,bS];dsimp only;have hr:ak (w.natAbs*2^j%x.natAbs)<=280000:=zf (Qv (RU ..)) u;rw[Fl O (SzL O),bS,qmr,G];rfl
theorem qlw {X Y:Nat} (K:Y≠0) (h1:ak X<=131072) (h2:ak Y<=131072) {p:Nat} (hp:p<=4096):
 D1 m (zB (X:Int)).1 (zB (X:Int)).2.1 (zB (Y:Int)).1 (zB (Y:Int)).2.1 (p:Int)=
  some (((false,lim (X*2^kQ X Y p/Y),()),-((kQ X Y p:Nat):Int),decide (X*2^kQ X Y p%Y≠0),()),(),(),(),()):=by have a1:vl (zB (X:Int)).2.1=X:=by{rw[Xa];exact qw _};have a2:vl (zB (Y:Int)).2.1=Y:=by{rw[Xa];exact qw _};have J:wI (wI (wI ((p:Int)+2)+((ak Y:Nat):Int))-((ak X:Nat):Int))=(p:Int)+2+((ak Y:Nat):Int)-((ak X:Nat):Int):=by{simp only[wQ];rw[wi (n:=(p:Int)+2) O O,wi (n:=(p:Int)+2+_) O O,wi O O]};rw[D1,Jg O (lA O),a2,bS,Jg O (lA O),a1,bS];dsimp only;have hk:kQ X Y p<=140000:=by{unfold kQ;omega};rw[J,show(if(0:Int)>(p:Int)+2+((ak Y:Nat):Int)-((ak X:Nat):Int)then 0 else(p:Int)+2+((ak Y:Nat):Int)-((ak X:Nat):Int))=((kQ X Y p:Nat):Int) by unfold kQ;split<;>omega];generalize kQ X Y p=j at*;have u:ak (X*2^j)<=280000:=by{have:=I6 (a:=X) (b:=2^j);rw[X3]at this;omega};have hr:ak (X*2^j%Y)<=280000:=zf (Qv (RU ..)) u;have G:wI (0-(j:Int))= -(j:Int):=by{rw[wQ,wi O O];omega};rw[Xz O (by rw[zy];omega) O O,bS,tN,natAbs_pow hm];dsimp only;rw[qhe hm K O O,bS];dsimp only;rw[Zi O (SzL O),bS,qmr,G]
end
end Go.Vs.F
set_option maxRecDepth 100000
namespace Go.Vs.F
def q6x {neg:Bool} {v j:Nat} {e:Int} {more:Bool} {mode:Int} (K:55<=ak (v/2^j)):
 Yz neg v (e-(j:Int)) more mode=Yz neg (v/2^j) e (more||decide (v%2^j≠0)) mode:=by have hJ:0<2^j:=eQ O;have u:v/2^j≠0:=λh=>by{rw[h,Xr]at K;omega};have G:ak v=j+ak (v/2^j):=by{have:=ui v (2^j);rw[<-this];have h2:=Ob (k:=j) u (iV v hJ);rw[h2,this]};have hu:bc v (e-(j:Int))=bc (v/2^j) e:=by{unfold bc;rw[G];omega};unfold Yz;rw[hu];congr 1;have J:e<bc (v/2^j) e:=by{unfold bc;omega};unfold eJ;rw[hu,af O,af O,show(bc (v/2^j) e-(e-(j:Int))).toNat=(bc (v/2^j) e-e).toNat+j by omega,qnd O]
def Cn.mk {a:D5} (h:Cn a): ∃z e,a=aE z e:=by
 cases h with
 |bad=>exact⟨1,1000000,by rw[vL];rw[Yc];rintro (h|h); · omega
                          . have:ak (1:Int).natAbs=1:=by decide
                            rw[this]at h;omega⟩
 |ok k=>exact⟨_,_,rfl⟩
def EU:Int:=9221120237041090560
def jJ (a b:D5) (mode:Int):Int:=
 if a.1=true\/b.1=true\/zD b=0 then EU
 else if zD a=0 then 0
 else Yz (decide (zD a<0) !=decide (zD b<0)) ((zD a).natAbs*2^kQ (zD a).natAbs (zD b).natAbs 57/(zD b).natAbs) (eD a-eD b-((kQ (zD a).natAbs (zD b).natAbs 57:Nat):Int)) (decide ((zD a).natAbs*2^kQ (zD a).natAbs (zD b).natAbs 57%(zD b).natAbs≠0)) mode
def M4 {neg:Bool} {X Y:Nat} {E mode:Int} (K:X≠0) (J:Y≠0):
 Yz neg (X*2^kQ X Y 60/Y) (E-((kQ X Y 60:Nat):Int)) (decide (X*2^kQ X Y 60%Y≠0)) mode=Yz neg (X*2^kQ X Y 57/Y) (E-((kQ X Y 57:Nat):Int)) (decide (X*2^kQ X Y 57%Y≠0)) mode:=by obtain⟨j,G⟩: ∃j,kQ X Y 60=kQ X Y 57+j:=⟨kQ X Y 60-kQ X Y 57,by unfold kQ;omega⟩;have hb:=Uq (p:=57) K J;rw[G];generalize kQ X Y 57=k at*;have u:0<Y:=O;obtain⟨s1,s2⟩:=qjt (X:=X*2^k) (Y:=Y) (j:=j) u;have e1:X*2^(k+j)=X*2^k*2^j:=by{rw[sH,zV]};rw[e1,show E-((k+j:Nat):Int)=E-(k:Int)-(j:Int) by omega,q6x (by rw[s1];omega),s1];congr 1;by_cases c:X*2^k%Y=0;{obtain⟨a,b⟩:=s2.1 c;simp[a,b,c]};{by_cases a:X*2^k*2^j%Y=0;{have b:X*2^k*2^j/Y%2^j≠0:=λb=>c (s2.2 ⟨a,b⟩);simp[a,b,c]};{simp[a,c]}}
section
variable {m:Nat} (hm:5000000000<=m)
include hm
theorem uK {a b:D5} (ha:Cn a) (hb:Cn b) (mode:Int):tS m a.1 a.2.1 a.2.2.1 a.2.2.2.1 b.1 b.2.1 b.2.2.1 b.2.2.2.1 mode=some (jJ a b mode,(),(),(),()):=by have key:nK m a.1 a.2.1 a.2.2.1 a.2.2.2.1=some (a,(),())/\nK m b.1 b.2.1 b.2.2.1 b.2.2.2.1=some (b,(),()):=by{obtain⟨z,e,rfl⟩:=ha.mk;obtain⟨y,f,rfl⟩:=hb.mk;exact⟨Tj O,Tj O⟩};rw[tS,key.1,bS,key.2,bS];dsimp only;unfold jJ;cases ha with|bad=>{rw[iP (.inl rfl)];rfl}| @ok w f k=>{rw[k.bad1,cond_false];cases hb with|bad=>{rw[iP (.inr (.inl rfl))];rfl}| @ok x g l=>{have hsx:=NM (m:=m) O l.ok;have hsw:=NM (m:=m) O k.ok;rw[l.bad1]at hsx;rw[k.bad1]at hsw;rw[l.bad1,cond_false,hsx,bS,aA];dsimp only;rw[l.z,k.z,k.e,l.e];by_cases c:x=0;{rw[iP (Qa.2 c),iP (.inr (.inr c))];rfl};{rw[af (λh=>c (Qa.1 h)),af (by simp[c]),hsw,bS,aA];dsimp only;by_cases d:w=0;{rw[iP (Qa.2 d),iP d]};{rw[af (λh=>d (Qa.1 h)),af d,k.mk_eq,l.mk_eq];dsimp only;rw[show(56:Int)=((56:Nat):Int)from rfl,qq5 hm k l c O,bS];dsimp only;have hY:x.natAbs≠0:=O;have hX:w.natAbs≠0:=O;have ek:56+3+ak x.natAbs-ak w.natAbs=kQ w.natAbs x.natAbs 57:=by{unfold kQ;omega};rw[ek];have hbig:=Uq (p:=57) hX hY;have hkk:kQ w.natAbs x.natAbs 57=59+ak x.natAbs-ak w.natAbs:=by{unfold kQ;omega};have q1:=k.lo;have q2:=k.hi;have q3:=l.lo;have q4:=l.hi;have hl1:=k.len;have hl2:=l.len;have hXb:ak (w.natAbs*2^kQ w.natAbs x.natAbs 57)<=280000:=by{have:=I6 (a:=w.natAbs) (b:=2^kQ w.natAbs x.natAbs 57);rw[X3]at this;omega};have hvb:ak (w.natAbs*2^kQ w.natAbs x.natAbs 57/x.natAbs)<=280000:=zf (Qv (sE ..)) hXb;have hv0:w.natAbs*2^kQ w.natAbs x.natAbs 57/x.natAbs≠0:=λh=>by{rw[h,Xr]at hbig;omega};have hr:=Wy (m:=m) O (decide (w<0) !=decide (x<0)) hv0 O (e:=f-((kQ w.natAbs x.natAbs 57:Nat):Int)-g) (decide (w.natAbs*2^kQ w.natAbs x.natAbs 57%x.natAbs≠0)) mode O O;rw[Xa]at hr;rw[hr,bS,show f-((kQ w.natAbs x.natAbs 57:Nat):Int)-g=f-g-((kQ w.natAbs x.natAbs 57:Nat):Int) by omega]}}}}
theorem M3 {a b:D5} (ha:Cn a) (hb:Cn b) (mode:Int):TY m a.1 a.2.1 a.2.2.1 a.2.2.2.1 b.1 b.2.1 b.2.2.1 b.2.2.2.1 mode=some (jJ a b mode,(),(),(),()):=by have key:nH m a.1 a.2.1 a.2.2.1 a.2.2.2.1=some (a,(),())/\nH m b.1 b.2.1 b.2.2.1 b.2.2.2.1=some (b,(),()):=by{obtain⟨z,e,rfl⟩:=ha.mk;obtain⟨y,f,rfl⟩:=hb.mk;exact⟨X8 O,X8 O⟩};rw[TY,key.1,bS,key.2,bS];dsimp only;unfold jJ;cases ha with|bad=>{rw[iP (.inl rfl)];rfl}| @ok w f k=>{rw[k.bad1,cond_false];cases hb with|bad=>{rw[iP (.inr (.inl rfl))];rfl}| @ok x g l=>{have hsx:=Mh (m:=m) O l.ok;have hsw:=Mh (m:=m) O k.ok;rw[l.bad1,cond_false,hsx,bS,aA];dsimp only;rw[l.z,k.z,k.e,l.e];by_cases c:x=0;{rw[iP (Qa.2 c),iP (.inr (.inr c))];rfl};{rw[af (λh=>c (Qa.1 h)),af (by simp[c]),hsw,bS,aA];dsimp only;by_cases d:w=0;{rw[iP (Qa.2 d),iP d]};{rw[af (λh=>d (Qa.1 h)),af d,k.mk_eq,l.mk_eq];dsimp only;have hY:x.natAbs≠0:=O;have hX:w.natAbs≠0:=O;have q1:=k.lo;have q2:=k.hi;have q3:=l.lo;have q4:=l.hi;have hl1:=k.len;have hl2:=l.len;rw[Nx O k.Sz,aP,bS,Nx O l.Sz,aP,bS];dsimp only;rw[show(60:Int)=((60:Nat):Int)from rfl,qlw hm hY O O O,bS];dsimp only;have hkk:kQ w.natAbs x.natAbs 60=62+ak x.natAbs-ak w.natAbs:=by{unfold kQ;omega};have hbig:=Uq (p:=60) hX hY;have hXb:ak (w.natAbs*2^kQ w.natAbs x.natAbs 60)<=280000:=by{have:=I6 (a:=w.natAbs) (b:=2^kQ w.natAbs x.natAbs 60);rw[X3]at this;omega};have hvb:ak (w.natAbs*2^kQ w.natAbs x.natAbs 60/x.natAbs)<=280000:=zf (Qv (sE ..)) hXb;have hv0:w.natAbs*2^kQ w.natAbs x.natAbs 60/x.natAbs≠0:=λh=>by{rw[h,Xr]at hbig;omega};have w1:wI (wI (f-g)+ -((kQ w.natAbs x.natAbs 60:Nat):Int))=f-g-((kQ w.natAbs x.natAbs 60:Nat):Int):=by{simp only[wQ];rw[wi (n:=f-g) O O,wi O O];omega};have hr:=WM (m:=m) O (decide (w<0) !=decide (x<0)) hv0 O (e:=f-g-((kQ w.natAbs x.natAbs 60:Nat):Int)) (decide (w.natAbs*2^kQ w.natAbs x.natAbs 60%x.natAbs≠0)) mode O O (λ_=>by unfold bc;omega);rw[Xa]at hr;have hs:(!((zB w).1==(zB x).1))=(decide (w<0) !=decide (x<0)):=rfl;rw[w1,hs,hr,bS,M4 hX hY]}}}}
end
end Go.Vs.F
set_option maxRecDepth 100000
namespace Go.Vs.F
def bT:Nat->Nat
 |0=>0
 |n+1=>if(bT n+1)*(bT n+1)<=n+1 then bT n+1 else bT n
def Ma: ∀n:Nat,bT n*bT n<=n/\n<(bT n+1)*(bT n+1)
 |0=>⟨zJ _,by decide⟩
 |n+1=>by obtain⟨u,h2⟩:=Ma n;rw[bT];generalize bT n=r at*;have e:(r+1+1)*(r+1+1)=(r+1)*(r+1)+2*r+3:=by{simp only[fT,zK];omega};split;{omega};{omega}
def uF {a b:Nat} (h:a*a<b*b):a<b:=by refine Nat.lt_of_not_le λc=> ?_;have:=pw c c;omega
def qj7 {n r:Nat} (u:r*r<=n) (h2:n<(r+1)*(r+1)):bT n=r:=by obtain⟨J,G⟩:=Ma n;have O:=uF (wR u G);have K:=uF (wR J h2);omega
def Nr (n:Nat):bT n<=n:=by obtain⟨u,_⟩:=Ma n;rcases EZ (bT n)with h|h;{omega};{have:=zi (bT n) h;omega}
def qny (n j:Nat):bT (n*4^j)/2^j=bT n/\((bT n*bT n=n)↔(bT (n*4^j)*bT (n*4^j)=n*4^j/\bT (n*4^j)%2^j=0)):=by
 have u:0<2^j:=eQ O;have h4:4^j=2^j*2^j:=by rw[show(4:Nat)=2*2 from rfl,Nat.mul_pow]
 rw[h4];generalize 2^j=J at*;obtain⟨a1,a2⟩:=Ma n;obtain⟨b1,b2⟩:=Ma (n*(J*J));generalize bT (n*(J*J))=s at*;have a0:=ui s J;have b0:=iV s u
 have e0:s/J=bT n:=by
  refine(qj7 ?_ ?_).symm
  ·
   refine Nat.le_of_mul_le_mul_right (c:=J*J) ?_ (E0 u u)
   calc s/J*(s/J)*(J*J)=(J*(s/J))*(J*(s/J)):=by ac_rfl
    _<=s*s:=pw (Nat.mul_div_le ..) (Nat.mul_div_le ..)
    _<=n*(J*J):=b1
  . refine Nat.lt_of_mul_lt_mul_right (a:=J*J) ?_;have G:s+1<=J*(s/J+1):=by rw[zK];omega
    calc n*(J*J)<(s+1)*(s+1):=b2
     _<=(J*(s/J+1))*(J*(s/J+1)):=pw G G
     _=(s/J+1)*(s/J+1)*(J*J):=by ac_rfl
 refine⟨e0,λh=> ?_,λ⟨h,h2⟩=> ?_⟩
 . have K:s=bT n*J:=by
    have G:bT n*J*(bT n*J)=n*(J*J):=by
     calc bT n*J*(bT n*J)=bT n*bT n*(J*J):=by ac_rfl
      _=n*(J*J):=by rw[h]
    have c1:bT n*J<s+1:=uF (by rw[G];exact b2)
    have c2:s<bT n*J+1:=uF (wR b1 (by rw[<-G];exact Nat.mul_lt_mul'' O O))
    omega
   refine⟨?_,by rw[K];exact Nat.mul_mod_left ..⟩
   rw[K]
   calc bT n*J*(bT n*J)=bT n*bT n*(J*J):=by ac_rfl
    _=n*(J*J):=by rw[h]
 . have K:s=bT n*J:=by rw[<-a0,h2,e0,zQ,zY]
   refine Nat.eq_of_mul_eq_mul_right (E0 u u) ?_
   calc bT n*bT n*(J*J)=bT n*J*(bT n*J):=by ac_rfl
    _=n*(J*J):=by rw[<-K];exact h
def Um {a x:Nat} (G:0<x) (h:a<(x+1)*(x+1)):a<((x+a/x)/2+1)*((x+a/x)/2+1):=by have J:a<x*(a/x+1):=by{have:=ui a x;have:=iV a G;rw[zK];omega};generalize a/x=q at*;have u:x+q+1<=2*((x+q)/2+1):=O;generalize (x+q)/2+1=y at*;have h1:(x+q+1)*(x+q+1)<=2*y*(2*y):=pw u u;have h2:4*(x*(q+1))<=(x+q+1)*(x+q+1):=by{have e1:(x+q+1)*(x+q+1)=x*x+2*(x*(q+1))+(q+1)*(q+1):=by{generalize K:q+1=p;rw[show x+q+1=x+p by omega,fT,zK,zK,zY p x];omega};have e2:2*(x*(q+1))<=x*x+(q+1)*(q+1):=by{generalize q+1=p;rcases Nat.le_total x p with h|h;{obtain⟨d,rfl⟩: ∃d,p=x+d:=⟨p-x,O⟩;simp only[zK,fT];have:=zY d x;omega};{obtain⟨d,rfl⟩: ∃d,x=p+d:=⟨x-p,O⟩;simp only[zK,fT];have:=zY d p;omega}};omega};have h3:2*y*(2*y)=4*(y*y):=by{rw[Nat.mul_mul_mul_comm]};omega
def q94 {a x:Nat} (J:0<x) (h:a<(x+1)*(x+1)) (G:x<=(x+a/x)/2):bT a=x:=by refine qj7 ?_ h;have u:x<=a/x:=O;have:=Mx a x;exact zf (zO _ u) this
def q9g {a x:Nat} (J:a≠0) (G:0<x) (h:a<(x+1)*(x+1)):0<(x+a/x)/2:=by have:=Um G h;rcases EZ ((x+a/x)/2)with u|u;{rw[u]at this;omega};{exact u}
def q58 {a:Nat}:a<(2^((ak a+1)/2)+1)*(2^((ak a+1)/2)+1):=by have u:=Z5 a;have h2:2^ak a<=2^((ak a+1)/2)*2^((ak a+1)/2):=by{rw[<-Nat.pow_add];exact zu O O};generalize 2^((ak a+1)/2)=x at*;have:(x+1)*(x+1)=x*x+2*x+1:=by{simp only[fT,zK];omega};omega
def xw (n:Nat):Nat:=2^n
def qno {k n:Nat} (h:k<n):2^k<xw n:=Nat.pow_lt_pow_right O h
attribute [irreducible] xw
def db:Nat:=xw 200000
def V4 {k:Nat} (h:k<200000):2^k<db:=qno h
def X6 {m:Nat} (h:db<=m):5000000000<=m:=by have u:2^40<db:=V4 O;have h2:(2:Nat)^40=1099511627776:=by{decide};omega
attribute [irreducible] db
section
variable {m:Nat} (hm:5000000000<=m)
include hm
theorem quj {a:Nat} (ha:a≠0) (hl:ak a<=290000): ∀(n x:Nat),x<n->0<x->a<(x+1)*(x+1)->ak x<=290000->
 lY m n (lim a) (lim x)=some (.inl (lim (bT a),())):=by intro n;induction n with|zero=>{intro x h;omega}|succ n ih=>{intro x hx K h J;have b0:=Qi J;have e0:=Qi hl;have d0:(lim (a/x)).length<=10000:=zf (Q9 (sE ..)) O;have u:ak (x+a/x)<=290001:=S9 J (zf (Qv (sE ..)) hl);have c0:=Qi u;have a0:(lim ((x+a/x)/2)).length<=10000:=zf (Q9 (sE ..)) O;rw[lY,qev O O O O,bS];dsimp only;rw[UI O (Q7 _) (Q7 _) O O,qw,qw,bS];dsimp only;rw[show(1:Int)=((1:Nat):Int)from rfl,Vj O O O,bS];dsimp only;rw[Nat.pow_one,Jh O O O,bS,bQ];dsimp only;by_cases c:(x+a/x)/2<x;{have G: ¬da ((x+a/x)/2) x>=0:=by{unfold da;rw[iP c];omega};rw[af G];exact ih _ O (q9g ha K h) (Um K h) (zf (Qv (uu c)) J)};{have G:da ((x+a/x)/2) x>=0:=by{unfold da;rw[af c];split<;>omega};rw[iP G,q94 K h O]}}
end
def qsz {m:Nat} (hM:db<=m) {a:Nat} (K:a≠0) (hl:ak a<=290000):Cf m (lim a)=some (lim (bT a),(),()):=by have hm:=X6 hM;have a0:=Qi hl;have u: ¬((lim a).length:Int)=0:=λh=>K (Z9.1 (LJ.1 O));have w1:wI (Int.tdiv (wI (((ak a:Nat):Int)+1)) 2)=(((ak a+1)/2:Nat):Int):=by{rw[wQ,wQ,wi (n:=((ak a:Nat):Int)+1) O O,show((ak a:Nat):Int)+1=((ak a+1:Nat):Int) by omega,show(2:Int)=((2:Nat):Int)from rfl,<-Int.ofNat_tdiv,wi O O]};have J:Lm [1]:=λx hx=>by{simp only[zC]at hx;omega};have G:ak (2^((ak a+1)/2))<=290000:=by{rw[X3];omega};rw[Cf,aA,af u,length_eq O,bS];dsimp only;rw[w1,uz O J (by simp) O,bS,show vl [1]=1 from rfl,wZ];dsimp only;rw[quj hm K hl m _ (wX (V4 O) hM) (eQ O) q58 G,bS]
def qt4 {m:Nat} (G:db<=m) {a:Nat} (J:a≠0) (hl:ak a<=290000):wg m (zB (a:Int)).1 (zB (a:Int)).2.1=some ((zB ((bT a:Nat):Int),0,()),(),()):=by have hm:=X6 G;have K:Sz (zB (a:Int)).2.1:=lA O;have u:ak (bT a)<=290000:=zf (Qv (Nr a)) hl;have:=Qi u;have:=Qi hl;rw[wg,Fl O K,aP,bS,bQ,af (by unfold sgn;dsimp only;rw[af O];split<;>omega),Xa];dsimp only;rw[X5 (Q7 a) O O,qw,bS];dsimp only;rw[qsz G J hl,bS];dsimp only;rw[nw O O,bS,af (by simp)]
section
variable {m:Nat} (hm:5000000000<=m)
include hm
theorem qqs {a:Nat} (ha:a≠0) (hl:ak a<=200000) (t0:Bool) (t1:LI): ∀(n x:Nat),x<n->0<x->a<(x+1)*(x+1)->ak x<=200000->
 l9 m n (zB (a:Int)).1 (zB (a:Int)).2.1 t0 t1 (zB (x:Int)).1 (zB (x:Int)).2.1=some (.inl (zB ((bT a:Nat):Int),())):=by intro n;induction n with|zero=>{intro x h;omega}|succ n ih=>{intro x hx h0 h hb;have K:ak (a/x)<=200000:=zf (Qv (sE ..)) hl;have J:ak (x+a/x)<=200001:=S9 hb K;have a0:ak ((x+a/x)/2)<=200001:=zf (Qv (sE ..)) J;have b0:=Qi J;rw[l9,qhe hm O O O,bS];dsimp only;have u:=LV (m:=m) O (n1:=(zB (x:Int)).1) (n2:=(zB ((a/x:Nat):Int)).1) (lA (v:=x) O) (lA (v:=a/x) O);rw[aP,aP,<-Int.natCast_add]at u;rw[Xa (a/x)]at u;rw[u,bS];dsimp only;have G:=q6w (m:=m) O (neg:=(zB ((x+a/x:Nat):Int)).1) (l:=(zB ((x+a/x:Nat):Int)).2.1) (dj _) (by rw[Xa];dsimp only;omega) (n:=1) O O;rw[aP,<-Int.natCast_ediv]at G;rw[show(-1:Int)= -((1:Nat):Int)from rfl,G,bS,Nat.pow_one];dsimp only;rw[UW O (by rw[zy];omega) (by rw[zy];omega),bS,bQ];dsimp only;by_cases c:(x+a/x)/2<x;{have hc: ¬eU (((x+a/x)/2:Nat):Int) (x:Int)>=0:=by{unfold eU;rw[iP O];omega};rw[af hc];exact ih _ O (q9g ha h0 h) (Um h0 h) (zf (Qv (uu c)) hb)};{have hc:eU (((x+a/x)/2:Nat):Int) (x:Int)>=0:=by{unfold eU;rw[af O];split<;>omega};rw[iP hc,q94 h0 h O]}}
end
def qpz {m:Nat} (J:db<=m) {a:Nat} (ha:a≠0) (hl:ak a<=190000):we m (zB (a:Int)).1 (zB (a:Int)).2.1=some (zB ((bT a:Nat):Int),(),()):=by have hm:=X6 J;have G:Sz (zB (a:Int)).2.1:=lA O;have K:wI (Int.tdiv (wI (((ak a:Nat):Int)+1)) 2)=(((ak a+1)/2:Nat):Int):=by{rw[wQ,wQ,wi (n:=((ak a:Nat):Int)+1) O O,show((ak a:Nat):Int)+1=((ak a+1:Nat):Int) by omega,show(2:Int)=((2:Nat):Int)from rfl,<-Int.ofNat_tdiv,wi O O]};have u:ak (2^((ak a+1)/2))<=200000:=by{rw[X3];omega};have gk:vl (zB (a:Int)).2.1=a:=by{rw[Xa];exact qw a};rw[we,Zi O G,aP,bS,aA];dsimp only;rw[af (λh=>by have:=Qa.1 h;omega),TK O O O,bS,Jg O G,gk,bS];dsimp only;rw[K,Xz O (by decide) O O,bS,tN,RW,show(2:Int)^((ak a+1)/2)=((2^((ak a+1)/2):Nat):Int) by rw[px];rfl];dsimp only;rw[qqs hm ha O false [] m _ (wX (V4 O) J) (eQ O) q58 u,bS]
end Go.Vs.F
set_option maxRecDepth 100000
namespace Go.Vs.F
def cK (X:Nat) (f:Int) (p:Nat):Nat:=if(f-((p-ak X:Nat):Int))%2=0 then p-ak X else p-ak X+1
def gW (a:D5) (mode:Int):Int:=
 if a.1=true\/zD a<0 then EU
 else if zD a=0 then 0
 else Yz false (bT ((zD a).natAbs*2^cK (zD a).natAbs (eD a) 118)) ((eD a-((cK (zD a).natAbs (eD a) 118:Nat):Int))/2) (decide (bT ((zD a).natAbs*2^cK (zD a).natAbs (eD a) 118)*bT ((zD a).natAbs*2^cK (zD a).natAbs (eD a) 118)≠(zD a).natAbs*2^cK (zD a).natAbs (eD a) 118)) mode
def Vw (X:Nat) (f:Int) (p:Nat):(f-((cK X f p:Nat):Int))%2=0:=by unfold cK;split<;>omega
def Vd {X p:Nat} (u:X≠0) (f:Int):p<=ak (X*2^cK X f p):=by rw[zY,Xm u];unfold cK;split<;>omega
def UX {M k:Nat} (h:2*k+1<=ak M):k+1<=ak (bT M):=by obtain⟨_,h2⟩:=Ma M;refine xk λc=> ?_;have u:M≠0:=λe=>by{rw[e,Xr]at h;omega};have G:bT M+1<=2^k:=by{have:=Z5 (bT M);have:2^ak (bT M)<=2^k:=zu O O;omega};have J:(bT M+1)*(bT M+1)<=2^k*2^k:=pw G G;rw[<-Nat.pow_add]at J;have h5:=NH u;have K:2^(k+k)<=2^(ak M-1):=zu O O;omega
def qu2 {X:Nat} {f mode:Int} (G:X≠0):
 Yz false (bT (X*2^cK X f 126)) ((f-((cK X f 126:Nat):Int))/2) (decide (bT (X*2^cK X f 126)*bT (X*2^cK X f 126)≠X*2^cK X f 126)) mode=
  Yz false (bT (X*2^cK X f 118)) ((f-((cK X f 118:Nat):Int))/2) (decide (bT (X*2^cK X f 118)*bT (X*2^cK X f 118)≠X*2^cK X f 118)) mode:=by obtain⟨j,u⟩: ∃j,cK X f 126=cK X f 118+2*j:=by{have J:=Vw X f 126;have h2:=Vw X f 118;have h3:cK X f 118<=cK X f 126:=by{unfold cK at*;split at J<;>split at h2<;>simp_all<;>omega};exact⟨(cK X f 126-cK X f 118)/2,O⟩};have hb:=Vd (p:=118) G f;have he:=Vw X f 118;rw[u];generalize cK X f 118=k at*;have hs:=UX (M:=X*2^k) (k:=58) O;obtain⟨s1,s2⟩:=qny (X*2^k) j;have K:X*2^(k+2*j)=X*2^k*4^j:=by{rw[sH,ze3,zV]};rw[K,show(f-((k+2*j:Nat):Int))/2=(f-(k:Int))/2-(j:Int) by omega,q6x (by rw[s1];omega),s1];congr 1;by_cases c:bT (X*2^k)*bT (X*2^k)=X*2^k;{obtain⟨a,b⟩:=s2.1 c;simp[a,b,c]};{by_cases a:bT (X*2^k*4^j)*bT (X*2^k*4^j)=X*2^k*4^j;{have b:bT (X*2^k*4^j)%2^j≠0:=λb=>c (s2.2 ⟨a,b⟩);simp[a,b,c]};{simp[a,c]}}
def qkw {a b:Int}:(eU a b !=0)=decide (a≠b):=by unfold eU;split;{rw[show decide (a≠b)=true from decide_eq_true O];rfl};{split;{rw[show decide (a≠b)=true from decide_eq_true O];rfl};{rw[show decide (a≠b)=false from decide_eq_false O];rfl}}
def qjb {x:Int}:(Int.tmod x 2 !=0)= !decide (x%2=0):=by have h:Int.tmod x 2=0↔x%2=0:=by{rw[<-Int.dvd_iff_tmod_eq_zero,Int.dvd_iff_emod_eq_zero]};by_cases c:x%2=0;{rw[h.2 c,decide_eq_true c];rfl};{rw[decide_eq_false c];have:Int.tmod x 2≠0:=λe=>c (h.1 e);simp[this]}
def qi2 {x:Int} (h:x%2=0):Int.tdiv x 2=x/2:=Int.tdiv_eq_ediv_of_dvd (Int.dvd_iff_emod_eq_zero.2 h)
def qmv {m:Nat} (hM:db<=m) {w f:Int} (k:NF w f w f) (hw:0<w) {n:Nat} (hn:n<=200) (he:(f-(n:Int))%2=0) {v:Int} (hv:v=(n:Int)) {u:Int} (hu:u=f-(n:Int)):
 ((jq m (zB w).1 (zB w).2.1 v).bind λJ=>
 (wg m J.1.1 J.1.2.1).bind λG=>
 (tv m G.1.1.1 G.1.1.2.1 G.1.1.1 G.1.1.2.1).bind λy4=>
 (tO m y4.1.1 y4.1.2.1 J.1.1 J.1.2.1).bind λy5=>
 some ((false,G.1.1.1,G.1.1.2.1,wI (Int.tdiv u 2),y5.1 !=0,()),((),(),())))=
  some ((false,false,lim (bT (w.natAbs*2^n)),(f-(n:Int))/2,decide (bT (w.natAbs*2^n)*bT (w.natAbs*2^n)≠w.natAbs*2^n),()),((),(),())):=by have hm:=X6 hM;subst hv hu;have hl:=k.len;have q1:=k.lo;have q2:=k.hi;have hX:w.natAbs≠0:=O;have a0:ak (w.natAbs*2^n)<=140000:=by{rw[zY,Xm hX];omega};have b0:w.natAbs*2^n≠0:=λh=>by{rcases RC.1 h with h|h;{exact hX h};{exact absurd h (Nat.pos_iff_ne_zero.1 (eQ O))}};have K:ak (bT (w.natAbs*2^n))<=140000:=zf (Qv (Nr _)) a0;have e1:w*2^n=((w.natAbs*2^n:Nat):Int):=by{rw[<-natAbs_pow hm];rw[show((w.natAbs:Nat):Int)=w by omega]};rw[d7 O O O O,bS,tN,e1];dsimp only;rw[qt4 hM b0 O,bS];dsimp only;have d0:=Qi K;rw[YZ O (dj _) (dj _) (by rw[Xa];dsimp only;omega),aP,bS];dsimp only;have c0:ak (bT (w.natAbs*2^n)*bT (w.natAbs*2^n))<=280000:=by{have:=I6 (a:=bT (w.natAbs*2^n)) (b:=bT (w.natAbs*2^n));omega};rw[<-Int.natCast_mul,qrt O (lA O) (lA O),aP,aP,bS,qkw,qi2 he,wQ,wi O O,Xa];congr 4;simp only[ne_eq,decide_not,RB]
def qpg {m:Nat} (u:db<=m) {w f:Int} (k:NF w f w f) (hw:0<w):
 CY m false (zB w).1 (zB w).2.1 f 56=some ((false,false,lim (bT (w.natAbs*2^cK w.natAbs f 118)),(f-((cK w.natAbs f 118:Nat):Int))/2,decide (bT (w.natAbs*2^cK w.natAbs f 118)*bT (w.natAbs*2^cK w.natAbs f 118)≠w.natAbs*2^cK w.natAbs f 118),()),(),(),()):=by have hm:=X6 u;have hl:=k.len;have q1:=k.lo;have q2:=k.hi;have a1:vl (zB w).2.1=w.natAbs:=qw _;have w1:wI (wI (2*wI (56+3))-((ak w.natAbs:Nat):Int))=118-((ak w.natAbs:Nat):Int):=by{simp only[wQ];rw[wi (n:=(56:Int)+3) O O,wi (n:=2*((56:Int)+3)) O O,wi O O];omega};have K:(if(118:Int)-((ak w.natAbs:Nat):Int)>0 then(118:Int)-((ak w.natAbs:Nat):Int)else 0)=((118-ak w.natAbs:Nat):Int):=by{split<;>omega};have J:wI (f-((118-ak w.natAbs:Nat):Int))=f-((118-ak w.natAbs:Nat):Int):=by{rw[wQ,wi O O]};have G:wI (((118-ak w.natAbs:Nat):Int)+1)=((118-ak w.natAbs+1:Nat):Int):=by{rw[wQ,wi O O];omega};rw[CY,Mm O k.Sz,a1,bS];dsimp only;rw[w1,K,J,G,qjb];by_cases c:(f-((118-ak w.natAbs:Nat):Int))%2=0;{have e:cK w.natAbs f 118=118-ak w.natAbs:=by{unfold cK;rw[iP c]};rw[decide_eq_true c,show(!true)=false from rfl,cond_false,e];exact qmv u k hw O c rfl rfl};{have e:cK w.natAbs f 118=118-ak w.natAbs+1:=by{unfold cK;rw[af c]};rw[decide_eq_false c,show(!false)=true from rfl,cond_true,e];exact qmv u k hw O O rfl (by rw[wQ,wi O O])}
def qv9 {m:Nat} (hM:db<=m) {a:D5} (ha:Cn a) (mode:Int):Ez m a.1 a.2.1 a.2.2.1 a.2.2.2.1 mode=some (gW a mode,(),(),()):=by have hm:=X6 hM;have key:nK m a.1 a.2.1 a.2.2.1 a.2.2.2.1=some (a,(),()):=by{obtain⟨z,e,rfl⟩:=ha.mk;exact Tj O};rw[Ez,key,bS];dsimp only;unfold gW;cases ha with|bad=>{rw[iP (.inl rfl)];rfl}| @ok w f k=>{have hsw:=NM (m:=m) O k.ok;rw[k.bad1]at hsw;rw[k.bad1,cond_false,hsw,bS,bQ,k.z,k.e];dsimp only;by_cases c:w<0;{rw[iP (by unfold sgn;rw[iP c];omega),iP (.inr c)];rfl};{rw[af (by unfold sgn;rw[af c];split<;>omega),af (by simp[c]),bS,aA];dsimp only;by_cases d:w=0;{rw[iP (Qa.2 d),iP d]};{rw[af (λh=>d (Qa.1 h)),af d,k.mk_eq];dsimp only;have hX:w.natAbs≠0:=O;have hl:=k.len;have q1:=k.lo;have q2:=k.hi;rw[qpg hM k O,bS];dsimp only;have hbig:=Vd (p:=118) hX f;have hr200:cK w.natAbs f 118<=200:=by{unfold cK;split<;>omega};have hXb:ak (w.natAbs*2^cK w.natAbs f 118)<=140000:=by{rw[zY,Xm hX];omega};have hs:=UX (M:=w.natAbs*2^cK w.natAbs f 118) (k:=58) O;have hsb:ak (bT (w.natAbs*2^cK w.natAbs f 118))<=140000:=zf (Qv (Nr _)) hXb;have hr:=Wy (m:=m) O false (v:=bT (w.natAbs*2^cK w.natAbs f 118)) (λh=>by rw[h,Xr]at hs;omega) O (e:=(f-((cK w.natAbs f 118:Nat):Int))/2) (decide (bT (w.natAbs*2^cK w.natAbs f 118)*bT (w.natAbs*2^cK w.natAbs f 118)≠w.natAbs*2^cK w.natAbs f 118)) mode O O;rw[Xa]at hr;rw[hr,bS]}}}
def qn7 {m:Nat} (hM:db<=m) {w f:Int} (k:NF w f w f) (hw:0<w) {n:Nat} (hn:n<=200) (he:(f-(n:Int))%2=0) {v:Int} (hv:v=(n:Int)) {u:Int} (hu:u=f-(n:Int)):
 ((o6 m (zB w).1 (zB w).2.1 v).bind λJ=>
 (we m J.1.1 J.1.2.1).bind λG=>
 (J1 m G.1.1 G.1.2.1 G.1.1 G.1.2.1).bind λy4=>
 (rN m y4.1.1 y4.1.2.1 J.1.1 J.1.2.1).bind λy5=>
 some (((G.1.1,G.1.2.1,()),wI (Int.tdiv u 2),y5.1 !=0,()),((),(),(),())))=
  some (((false,lim (bT (w.natAbs*2^n)),()),(f-(n:Int))/2,decide (bT (w.natAbs*2^n)*bT (w.natAbs*2^n)≠w.natAbs*2^n),()),((),(),(),())):=by have hm:=X6 hM;subst hv hu;have hl:=k.len;have q1:=k.lo;have q2:=k.hi;have hX:w.natAbs≠0:=O;have a0:ak (w.natAbs*2^n)<=140000:=by{rw[zY,Xm hX];omega};have b0:w.natAbs*2^n≠0:=λh=>by{rcases RC.1 h with h|h;{exact hX h};{exact absurd h (Nat.pos_iff_ne_zero.1 (eQ O))}};have K:ak (bT (w.natAbs*2^n))<=140000:=zf (Qv (Nr _)) a0;have e1:w*2^n=((w.natAbs*2^n:Nat):Int):=by{rw[<-natAbs_pow hm];rw[show((w.natAbs:Nat):Int)=w by omega]};rw[Xz O O O O,bS,tN,e1];dsimp only;rw[qpz hM b0 O,bS];dsimp only;have d0:=Qi K;rw[qmz O (dj _) (dj _) (by rw[Xa];dsimp only;omega),aP,bS];dsimp only;have c0:ak (bT (w.natAbs*2^n)*bT (w.natAbs*2^n))<=280000:=by{have:=I6 (a:=bT (w.natAbs*2^n)) (b:=bT (w.natAbs*2^n));omega};rw[<-Int.natCast_mul,UW O (by rw[zy];omega) (by rw[zy];omega),bS,qkw,qi2 he,wQ,wi O O,Xa];congr 4;simp only[ne_eq,decide_not,RB]
def qkt {m:Nat} (u:db<=m) {w f:Int} (k:NF w f w f) (hw:0<w):
 CS m (zB w).1 (zB w).2.1 f 60=some (((false,lim (bT (w.natAbs*2^cK w.natAbs f 126)),()),(f-((cK w.natAbs f 126:Nat):Int))/2,decide (bT (w.natAbs*2^cK w.natAbs f 126)*bT (w.natAbs*2^cK w.natAbs f 126)≠w.natAbs*2^cK w.natAbs f 126),()),(),(),(),()):=by have hm:=X6 u;have hl:=k.len;have q1:=k.lo;have q2:=k.hi;have a1:vl (zB w).2.1=w.natAbs:=qw _;have w1:wI (wI (wI (2*60)+6)-((ak w.natAbs:Nat):Int))=126-((ak w.natAbs:Nat):Int):=by{simp only[wQ];rw[wi (n:=(2:Int)*60) O O,wi (n:=(2:Int)*60+6) O O,wi O O];omega};have K:(if(0:Int)>126-((ak w.natAbs:Nat):Int)then(0:Int)else 126-((ak w.natAbs:Nat):Int))=((126-ak w.natAbs:Nat):Int):=by{split<;>omega};have J:wI (f-((126-ak w.natAbs:Nat):Int))=f-((126-ak w.natAbs:Nat):Int):=by{rw[wQ,wi O O]};have G:wI (((126-ak w.natAbs:Nat):Int)+1)=((126-ak w.natAbs+1:Nat):Int):=by{rw[wQ,wi O O];omega};rw[CS,Jg O k.Sz,a1,bS];dsimp only;rw[w1,K,J,G,qjb];by_cases c:(f-((126-ak w.natAbs:Nat):Int))%2=0;{have e:cK w.natAbs f 126=126-ak w.natAbs:=by{unfold cK;rw[iP c]};rw[decide_eq_true c,show(!true)=false from rfl,cond_false,e];exact qn7 u k hw O c rfl rfl};{have e:cK w.natAbs f 126=126-ak w.natAbs+1:=by{unfold cK;rw[af c]};rw[decide_eq_false c,show(!false)=true from rfl,cond_true,e];exact qn7 u k hw O O rfl (by rw[wQ,wi O O])}
def qv3 {m:Nat} (hM:db<=m) {a:D5} (ha:Cn a) (mode:Int):Es m a.1 a.2.1 a.2.2.1 a.2.2.2.1 mode=some (gW a mode,(),(),()):=by have hm:=X6 hM;have key:nH m a.1 a.2.1 a.2.2.1 a.2.2.2.1=some (a,(),()):=by{obtain⟨z,e,rfl⟩:=ha.mk;exact X8 O};rw[Es,key,bS];dsimp only;unfold gW;cases ha with|bad=>{rw[iP (.inl rfl)];rfl}| @ok w f k=>{have hsw:=Mh (m:=m) O k.ok;rw[k.bad1,cond_false,hsw,bS,bQ,k.z,k.e];dsimp only;by_cases c:w<0;{rw[iP (by unfold sgn;rw[iP c];omega),iP (.inr c)];rfl};{rw[af (by unfold sgn;rw[af c];split<;>omega),af (by simp[c]),bS,aA];dsimp only;by_cases d:w=0;{rw[iP (Qa.2 d),iP d]};{rw[af (λh=>d (Qa.1 h)),af d,k.mk_eq];dsimp only;have hX:w.natAbs≠0:=O;have hl:=k.len;have q1:=k.lo;have q2:=k.hi;rw[qkt hM k O,bS];dsimp only;have hbig:=Vd (p:=126) hX f;have hr200:cK w.natAbs f 126<=200:=by{unfold cK;split<;>omega};have hXb:ak (w.natAbs*2^cK w.natAbs f 126)<=140000:=by{rw[zY,Xm hX];omega};have hs:=UX (M:=w.natAbs*2^cK w.natAbs f 126) (k:=62) O;have hsb:ak (bT (w.natAbs*2^cK w.natAbs f 126))<=140000:=zf (Qv (Nr _)) hXb;have hr:=WM (m:=m) O false (v:=bT (w.natAbs*2^cK w.natAbs f 126)) (λh=>by rw[h,Xr]at hs;omega) O (e:=(f-((cK w.natAbs f 126:Nat):Int))/2) (decide (bT (w.natAbs*2^cK w.natAbs f 126)*bT (w.natAbs*2^cK w.natAbs f 126)≠w.natAbs*2^cK w.natAbs f 126)) mode O O (λ_=>by unfold bc;omega);rw[Xa]at hr;rw[hr,bS,qu2 hX]}}}
end Go.Vs.F
