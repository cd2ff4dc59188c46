import Derived.Test.YtkbgfnhdfmmfcaaGreatDoorLd
import Derived.KernelRfl
import Derived.Test.YtkbgfnhdfmmfcaaGreatDoorFn
import Derived.Test.YtkbgfnhdfmmfcaaGreatDoorLc
set_option linter.unusedVariables false
set_option linter.unusedSimpArgs false
set_option maxRecDepth 100000
set_option linter.defProp false
namespace Go.Vs.F
def qok (m:Nat) {a b:LI} (hb:Lm b) (hl:b.length<=1000000) {i x:Nat} (K:i<a.length) (G:a.getD i 0=(x:Int)) (hx:x<4294967296) (hi:i<=1000000): ∀(n j:Nat) (out:LI) (c:Nat),b.length-j<n->j<=b.length->Lm out->i+b.length<out.length->c<4294967296->
 ∃u c',nb m n a b out (i:Int) (c:Int) (j:Int)=some (.inl (a,b,u,(i:Int),((c':Nat):Int),()))/\Lm u/\u.length=out.length/\c'<4294967296/\
  (∀p,i+b.length<=p->u.getD p 0=out.getD p 0)/\vl u+4294967296^(i+b.length)*c'=vl out+4294967296^(i+j)*(c+x*vl (b.drop j))
 |0,j,out,c,h,_,_,_,_=>O
 |n+1,j,out,c,h,b0,J,a0,hc=>by rw[nb];by_cases hj:j<b.length;{have h1:((j:Int)<(b.length:Int)):=O;have c0:(0:Int)<=(i:Int)/\(i:Int)<(a.length:Int):=O;have c1:(0:Int)<=(j:Int)/\(j:Int)<(b.length:Int):=O;obtain⟨y,ey,hy⟩:=hb.get hj;have w0:wI ((i:Int)+(j:Int))=((i+j:Nat):Int):=by{rw[wQ,wi O O];omega};have c2:(0:Int)<=((i+j:Nat):Int)/\((i+j:Nat):Int)<(out.length:Int):=O;obtain⟨z,ez,hz⟩:=J.get (show i+j<out.length by omega);have hm:=Uw hx hy;have w1:wJ (x:Int)=(x:Int):=bp O;have w2:wJ (y:Int)=(y:Int):=bp O;have w3:wJ (z:Int)=(z:Int):=bp O;have w4:wJ ((x:Int)*(y:Int))=((x*y:Nat):Int):=by{rw[show(x:Int)*(y:Int)=((x*y:Nat):Int) by rw[sK],bp O]};have w5:wJ ((c:Int)+((x*y:Nat):Int))=((c+x*y:Nat):Int):=by{rw[show(c:Int)+((x*y:Nat):Int)=((c+x*y:Nat):Int) by rw[xf],bp O]};have w6:wJ (((c+x*y:Nat):Int)+(z:Int))=((c+x*y+z:Nat):Int):=by{rw[show((c+x*y:Nat):Int)+(z:Int)=((c+x*y+z:Nat):Int) by rw[xf (c+x*y)],bp O]};have e1:wK ((c+x*y+z:Nat):Int)=(((c+x*y+z)%4294967296:Nat):Int):=fo;have e2:aK .u64 ((c+x*y+z:Nat):Int) 32=(((c+x*y+z)/4294967296:Nat):Int):=cJ (a:=c+x*y+z) (k:=32) O;rw[bQ,iP h1,iP c0,iP c1,w0,iP c2,iP c2,tN,tN,tN,zH,G,ey,ez,w1,w2,w3,w4,w5,w6,e1,e2,show wI ((j:Int)+1)=((j+1:Nat):Int)from ax O];have hlen:(out.set (i+j) (((c+x*y+z)%4294967296:Nat):Int)).length=out.length:=zU ..;obtain⟨u,c',g1,g2,g3,g4,g5,g6⟩:=qok m hb hl K G hx hi n (j+1) (out.set (i+j) (((c+x*y+z)%4294967296:Nat):Int)) ((c+x*y+z)/4294967296) O O (Zw J O) O O;refine⟨u,c',g1,g2,O,g4,λp hp=> ?_,?_⟩;{rw[g5 p hp,bw O]};{rw[g6];have hs:=J5 (l:=out) (p:=i+j) (y:=(((c+x*y+z)%4294967296:Nat):Int)) O;rw[ez,tN,tN]at hs;have hd:vl (b.drop j)=y+4294967296*vl (b.drop (j+1)):=by{rw[X5 hj,ey,tN]};rw[hd,show i+(j+1)=i+j+1 by omega,gM];generalize 4294967296^(i+j)=P at*;generalize vl (b.drop (j+1))=D at*;generalize vl (out.set (i+j) (((c+x*y+z)%4294967296:Nat):Int))=A at*;have ht:c+x*y+z=(c+x*y+z)%4294967296+4294967296*((c+x*y+z)/4294967296):=(LD _ _).symm;have k1:P*(c+x*y+z)=P*((c+x*y+z)%4294967296)+P*(4294967296*((c+x*y+z)/4294967296)):=by{rw[<-Nat.mul_add,<-ht]};have k2:P*(c+x*y+z)=P*c+P*(x*y)+P*z:=by{rw[zK,zK]};have k3:P*4294967296*((c+x*y+z)/4294967296+x*D)=P*(4294967296*((c+x*y+z)/4294967296))+P*(4294967296*(x*D)):=by{rw[zK,zV,zV]};have k4:P*(c+x*(y+4294967296*D))=P*c+(P*(x*y)+P*(4294967296*(x*D))):=by{rw[zK,zK x,zK P (x*y),uu x 4294967296 D]};rw[k3,k4];omega}};{rw[bQ,af O];have:j=b.length:=O;subst this;refine⟨out,c,rfl,J,rfl,hc,λ_ _=>rfl,?_⟩;rw[qo (zJ _),zx,zQ]}
def qn3 (m:Nat) {a b:LI} (hm:2000000<m) (ha:Lm a) (hb:Lm b) (K:a.length<=1000000) (G:b.length<=1000000): ∀(n i:Nat) (out:LI),a.length-i<n->i<=a.length->Lm out->out.length=a.length+b.length->(∀p,i+b.length<=p->out.getD p 0=0)->
 ∃u,nc m n a b out (i:Int)=some (.inl (u,()))/\Lm u/\u.length=a.length+b.length/\vl u=vl out+4294967296^i*(vl (a.drop i)*vl b)
 |0,i,out,h,_,_,_,_=>O
 |n+1,i,out,h,a0,ho,J,hz=>by rw[nc];by_cases hi:i<a.length;{have h1:((i:Int)<(a.length:Int)):=O;obtain⟨x,ex,hx⟩:=ha.get hi;obtain⟨o1,c,g1,g2,g3,g4,g5,g6⟩:=qok m (a:=a) hb G (i:=i) hi ex hx O m 0 out 0 O O ho O O;rw[nZ]at g1;have w0:wI ((i:Int)+(b.length:Int))=((i+b.length:Nat):Int):=by{rw[wQ,wi O O];omega};have c2:(0:Int)<=((i+b.length:Nat):Int)/\((i+b.length:Nat):Int)<(o1.length:Int):=O;have w1:wK (c:Int)=(c:Int):=by{rw[fo];congr 1;omega};rw[bQ,iP h1,g1,bS];dsimp only;rw[w0,iP c2,tN,zH,w1,show wI ((i:Int)+1)=((i+1:Nat):Int)from ax O];have hs:=J5 (l:=o1) (p:=i+b.length) (y:=(c:Int)) O;rw[g5 _ (zJ _),hz _ (zJ _),tN]at hs;obtain⟨u,q1,q2,q3,q4⟩:=qn3 m hm ha hb K G n (i+1) (o1.set (i+b.length) (c:Int)) O O (Zw g2 g4) (by rw[zU];omega) (λp hp=>by{rw[bw O,g5 p O];exact hz p O});refine⟨u,q1,q2,q3,?_⟩;rw[q4,X5 hi,ex,tN,gM];simp only[Lx,zx,zQ,zH,i6]at hs g6;rw[fV,zK];have k:4294967296^i*4294967296*(vl (a.drop (i+1))*vl b)=4294967296^i*(4294967296*vl (a.drop (i+1))*vl b):=by{rw[zV,zV]};rw[k];omega};{rw[bQ,af O];refine⟨out,rfl,ho,J,?_⟩;rw[qo O,Bd,zx,zQ]}
def qq1 {m:Nat} (hm:4000000<=m) {a b:LI} (ha:Lm a) (hb:Lm b) (a0:a.length<=400000) (K:b.length<=400000): ∃out,Eb m a b=some (out,(),(),())/\Lm out/\out.length=a.length+b.length/\vl out=vl a*vl b:=by have w:wI ((a.length:Int)+(b.length:Int))=((a.length+b.length:Nat):Int):=by{rw[wQ,wi O O];omega};obtain⟨out,e,J,G,u⟩:=qn3 m O ha hb O O m 0 (List.replicate (a.length+b.length) 0) O O Qo (by simp) (λp hp=>by{by_cases h:p<a.length+b.length;{rw[Xc h]};{rw[Z8 (by simpa using h)]}});rw[nZ]at e;refine⟨out,?_,J,G,?_⟩;{rw[Eb,w,iP O,tN,e];rfl};{rw[u,Qu];simp}
def qki {m:Nat} (hm:4000000<=m) {n1 n2:Bool} {G u:LI} (J:Lm G) (h2:Lm u) (hl:G.length+u.length<=400000):JY m n1 G n2 u=some (zB (zv n1 G*zv n2 u),(),(),()):=by have b1:=Qw J;have b2:=Qw h2;obtain⟨out,e,q1,q2,K⟩:=qq1 hm (Q7 (vl G)) (Q7 (vl u)) O O;rw[JY,Yx J O O,bS,Yx h2 O O,bS];dsimp only;rw[e,bS];dsimp only;rw[Xz O q1 O,bS];have:zv (!(n1==n2)) out=zv n1 G*zv n2 u:=by{unfold zv;rw[K,qw,qw];cases n1<;>cases n2<;>simp[IE,RK]};rw[this]
end Go.Vs.F
set_option maxRecDepth 100000
namespace Go.Vs.F
def Re (x:Int):Prop:= -9223372036854775808<=x/\x<9223372036854775808
def aM (f:Int):Int:=sc (pI f) (oa f) (-1074)
def Xl {f:Int} (h:aT f):fp f=aE (aM f) (-1074):=by have he:=LQ (f:=f);unfold fp aM;rw[iP h,A0 O]
def ck {f:Int} (h:aT f):b7 (aM f) (-1074):=by have he:=LQ (f:=f);have:=qva h;unfold b7 aM at*;rwa [A0 O]
abbrev bK:=Bool×(Bool×LI)×Int
def Az (d:Bool×Bool×LI×Int×Unit):bK:=(d.1,((d.2.1,d.2.2.1),d.2.2.2.1))
def cO:LI->Int
 |[]=>0
 |x::l=>x+cO l
def qhr {a b:LI}:cO (a++b)=cO a+cO b:=by induction a with|nil=>simp[cO]|cons x a u=>{rw[AX,cO,cO,u];omega}
def SM {v:Int} (h:aT v):ak (aM v).natAbs<=2100:=by have G:=Sv v;have h2:=qts h;have u:=LQ (f:=v);have:=NL (w:=pI v) (f:=oa v) (b:= -1074) O;unfold aM;omega
def Xn {a b:Int} (G:aT a) (u:aT b):b7 (aM a*aM b) (-2148):=by by_cases h:aM a*aM b=0;{rw[h];exact qh3 _};{have h1:=SM G;have h2:=SM u;have K:=Te (a:=aM a) (b:=aM b);have J:=Wr (n:=(aM a*aM b).natAbs);exact Y8.2 (.inr ⟨O,O⟩)}
def qi2 {m:Nat} (hm:4000000<=m) {a b B C:Int}:
 nN m (aE a B).1 (aE a B).2.1 (aE a B).2.2.1 (aE a B).2.2.2.1 (aE b C).1 (aE b C).2.1 (aE b C).2.2.1 (aE b C).2.2.2.1=some (if b7 a B/\b7 b C then aE (a*b) (B+C)else sw,(),(),()):=by rw[nN,X4 O,bS,X4 O,bS];dsimp only;by_cases u:b7 a B;{by_cases h2:b7 b C;{obtain⟨w,f,k,k1,k2,k3⟩:=Xd u;obtain⟨x,g,l,l1,l2,K⟩:=Xd h2;have e0:=k.lo;have d0:=k.hi;have c0:=l.lo;have b0:=l.hi;have n1:=k.len;have n2:=l.len;have hl:=k.lim;have a0:=l.lim;have G:(aE a B).1=false:=u;have i2:(aE b C).1=false:=h2;have J:wI (f+g)=f+g:=by{rw[wQ,wi O O]};rw[iP ⟨u,h2⟩,k1,k2,k3,l1,l2,K,G,i2,cond_false,cond_false,qki hm (di w) (di x) O,aP,aP,bS,J];dsimp only;rw[I6 O (zf Te O) O O,(k.eq.mul l.eq).mk];rfl};{have G:(aE a B).1=false:=u;rw[af (λh=>h2 h.2),G,cond_false,vO h2];rfl}};{rw[af (λh=>u h.1),vO u];rfl}
def V7 {m:Nat} (hm:3000000<m) {n:Int} (h:Re n):KZ m n=some (aE n 0,(),()):=by have u:ak n.natAbs<=1000:=zf (Qn (k:=64) (by unfold Re at h;omega)) O;rw[KZ,Tv O h.1 h.2,bS];dsimp only;rw[I6 hm O O O];rfl
def eH (x y:LI) (k:Nat):LI:=(List.range k).map λi=>aM (x.getD i 0)*aM (y.getD i 0)
def qiw {a b:Int} (G:aT a) (u:aT b):ak (aM a*aM b).natAbs<=4200:=by have K:=SM G;have h2:=SM u;have J:=Te (a:=aM a) (b:=aM b);omega
def qgx {m:Nat} (hm:3000000<m) {z e:Int} (h:b7 z e):Mn m (aE z e).1 (aE z e).2.1 (aE z e).2.2.1 (aE z e).2.2.2.1=some (aE (z.natAbs:Int) e,(),()):=by have i:(aE z e).1=false:=h;rw[Mn,X4 hm,bS];dsimp only;rw[i,cond_false];obtain⟨w,f,k,J,G,u⟩:=Xd h;have hb:=k.len;have a0:=k.lo;have K:=k.hi;rw[J,G,u,Nq O k.Sz,bS,aP];dsimp only;rw[I6 hm (by rw[zy];omega) O O,bS];have e1:cU (w.natAbs:Int) f (z.natAbs:Int) e:=by{obtain⟨b,b1,b2,b3⟩:=k.eq;refine⟨b,b1,b2,?_⟩;unfold sc at*;have h1:(w.natAbs:Int)*2^(f-b).toNat=((w*2^(f-b).toNat).natAbs:Int):=by{rw[Yb,sK,pz];exact Mu _ _};have h2:(z.natAbs:Int)*2^(e-b).toNat=((z*2^(e-b).toNat).natAbs:Int):=by{rw[Yb,sK,pz];exact Mu _ _};rw[h1,h2,b3]};rw[e1.mk]
def qkw {z e:Int} (h:b7 z e):b7 (z.natAbs:Int) e:=by rw[Y8]at*;rw[zy];omega
def dy (B z:Int):bK:=Az (aE z B)
def Rb {zs:LI} {B:Int} {k:Nat} (u:k<zs.length) {d:bK}:(zs.map (dy B)).getD k d=dy B (zs.getD k 0):=by simp[List.getD,u]
def Mg {zs:LI} {k:Nat} (u:k<zs.length):cO (zs.take (k+1))=cO (zs.take k)+zs.getD k 0:=by rw[MD u,qhr];simp[cO,List.getD,u]
def jc (B:Int):Int->LI->Int
 |e,[]=>e
 |e,z::zs=>jc B (if(aE z B).2.2.2.1<e then(aE z B).2.2.2.1 else e) zs
def UA {B:Int}: ∀{zs:LI} {e:Int},jc B e zs<=e/\ ∀z∈zs,jc B e zs<=(aE z B).2.2.2.1
 |[],e=>⟨E1 _,λz h=>by cases h⟩
 |z::zs,e=>by have G:=UA (B:=B) (zs:=zs) (e:=if(aE z B).2.2.2.1<e then(aE z B).2.2.2.1 else e);unfold jc;have J:(if(aE z B).2.2.2.1<e then(aE z B).2.2.2.1 else e)<=e/\(if(aE z B).2.2.2.1<e then(aE z B).2.2.2.1 else e)<=(aE z B).2.2.2.1:=by{split<;>omega};refine⟨O,λy u=> ?_⟩;rcases mC u with rfl|u;{omega};{exact G.2 y u}
def UH {B:Int}: ∀{zs:LI} {e:Int},-65536<=e->(∀z∈zs,b7 z B)-> -65536<=jc B e zs
 |[],e,h,_=>h
 |z::zs,e,h,u=>by unfold jc;refine UH ?_ λy J=>u y (mT J);obtain⟨w,f,k,O,K,G⟩:=Xd (u z mS);have:=k.lo;rw[G];split<;>omega
def qqx {m:Nat} (hm:3000000<m) {B:Int} {zs:LI} (hl:zs.length<=10000) (G: ∀z∈zs,b7 z B) (t0 t1:Bool) (K:LI) (J:Int): ∀(n k:Nat) (e:Int),zs.length-k<n->k<=zs.length->
 mZ m n t0 t1 K J ((zs.take k).map (dy B)) e (zs.map (dy B)) (zs.length:Int) (k:Int)=some (.inr (.inl ((t0,t1,K,J,()),zs.map (dy B),jc B e (zs.drop k),())))
 |0,k,e,h,_=>absurd h (zA _)
 |n+1,k,e,h,a0=>by rw[mZ,bQ];by_cases u:k<zs.length;{have hz:b7 (zs.getD k 0) B:=G _ (Xi u);have ih:=qqx hm hl G t0 t1 K J n (k+1) (if(aE (zs.getD k 0) B).2.2.2.1<e then(aE (zs.getD k 0) B).2.2.2.1 else e) O O;rw[iP O,iP (by rw[zh];omega),tN,Rb u,show iQ m (dy B (zs.getD k 0)).1 (dy B (zs.getD k 0)).2.1.1 (dy B (zs.getD k 0)).2.1.2 (dy B (zs.getD k 0)).2.2=_ from LW hm,bS];dsimp only;rw[decide_eq_true hz,uB,cond_false,iP (by simp;omega),show wI ((k:Int)+1)=((k+1:Nat):Int)from ax O];have e1:(zs.take k).map (dy B)++[((aE (zs.getD k 0) B).1,((aE (zs.getD k 0) B).2.1,(aE (zs.getD k 0) B).2.2.1),(aE (zs.getD k 0) B).2.2.2.1)]=(zs.take (k+1)).map (dy B):=by{rw[MD u,sJ];simp[dy,Az,List.getD,u]};have e2:jc B e (zs.drop k)=jc B (if(aE (zs.getD k 0) B).2.2.2.1<e then(aE (zs.getD k 0) B).2.2.2.1 else e) (zs.drop (k+1)):=by{rw[ET u,jc];simp[List.getD,u]};rw[e1,e2];exact ih};{have:k=zs.length:=O;subst this;rw[af O,EW,List.drop_length];rfl}
def qr6 {m:Nat} (hm:3000000<m) {B:Int} {zs:LI} (hl:zs.length<=10000) (G: ∀z∈zs,b7 z B) {E:Int} (K: -65536<=E) (a0:E<=0) (hE: ∀z∈zs,E<=(aE z B).2.2.2.1) (t0 t1:Bool) (t2:LI) (t3:Int): ∀(n k:Nat) (S:Int),zs.length-k<n->k<=zs.length->
 ak S.natAbs<=300000+k->cU S E (cO (zs.take k)) B->
 ∃T,mY m n t0 t1 t2 t3 E (zB S).1 (zB S).2.1 (zs.map (dy B)) (zs.length:Int) (k:Int)=some (.inl ((t0,t1,t2,t3,()),E,((zB T).1,(zB T).2.1,()),()))/\ak T.natAbs<=400000/\cU T E (cO zs) B
 |0,k,S,h,_,_,_=>absurd h (zA _)
 |n+1,k,S,h,b0,hS,hQ=>by rw[mY,bQ];by_cases hk:k<zs.length;{have hz:b7 (zs.getD k 0) B:=G _ (Xi hk);obtain⟨w,f,u,k1,k2,k3⟩:=Xd hz;have J:E<=f:=by{rw[<-k3];exact hE _ (Xi hk)};have d0:=u.lo;have c0:=u.hi;have s1:=nW u J K;have hle:=u.len;have w1:wI (f-E)=f-E:=by{rw[wQ,wi O O]};have q2:cU (S+sc w f E) E (cO (zs.take (k+1))) B:=by{rw[Mg hk];exact hQ.add (c:=0) (g:=0) ((cU.sc J).trans u.eq)};have q1:ak (S+sc w f E).natAbs<=300000+(k+1):=by{have:=Zu (k:=300000+k) hS (zf s1 O);omega};obtain⟨T,i1,i2,i3⟩:=qr6 hm hl G K a0 hE t0 t1 t2 t3 n (k+1) (S+sc w f E) O O q1 q2;refine⟨T,?_,i2,i3⟩;rw[iP O,iP (by rw[zh];omega),tN,zH,Rb hk,show(dy B (zs.getD k 0)).2.1.1=(zB w).1 from k1,show(dy B (zs.getD k 0)).2.1.2=(zB w).2.1 from k2,show(dy B (zs.getD k 0)).2.2=f from k3,w1,dW hm O O O,bS];dsimp only;rw[Ng O (oX O) (oX (by unfold sc at s1;omega)),aP,aP,bS,show wI ((k:Int)+1)=((k+1:Nat):Int)from ax O];exact i1};{have:k=zs.length:=O;subst this;rw[EW]at hQ;exact⟨S,by rw[af O],O,hQ⟩}
def ZJ {m:Nat} (hm:3000000<m) {B:Int} {zs:LI} (hl:zs.length<=10000) (u: ∀z∈zs,b7 z B):zp m (zs.map (dy B))=some (aE (cO zs) B,(),()):=by have h0:=qqx hm hl u false false [] 0 m 0 0 O O;rw[sG,i6,E2,nZ]at h0;rw[zp,zh,h0,bS];dsimp only;have K:=UA (B:=B) (zs:=zs) (e:=0);have G:=UH (B:=B) (zs:=zs) (e:=0) O u;obtain⟨T,J,i2,i3⟩:=qr6 hm hl u G K.1 K.2 false false [] 0 m 0 0 O O (zf (Qn (n:=0) (k:=0) (by decide)) O) (cU.zero _ _);rw[nZ]at J;rw[zh,show([]:LI)=(zB 0).2.1 from Qe.symm,show false=(zB 0).1 from rfl];rw[show(zB 0).1=false from rfl,show(zB 0).2.1=([]:LI)from Qe]at*;rw[J,bS];dsimp only;rw[LS hm O O O,i3.mk];rfl
end Go.Vs.F
set_option maxRecDepth 100000
namespace Go.Vs.F
def b9 (l:LI):Prop:= ∀i,i<l.length->cr (l.getD i 0)/\aT (l.getD i 0)
def UL (l:LI):Prop:= ∀i,i<l.length->cr (l.getD i 0)
def LN (m:Nat) (a:Int) {k:Nat} (G:0<k) (K:k<9223372036854775808): ∃r:Nat,r<k/\Ev m a (k:Int)=some ((r:Int),(),(),()):=by have w:wJ (k:Int)=(k:Int):=bp O;obtain⟨x,J,_⟩:=qum a;have u:wJ a=(x:Int):=J;refine⟨x%k,iY _ G,?_⟩;have:=iY x G;rw[Ev,w,u,iP O,tm,wQ,wi O O]
def xn (a:Int):cr (IntKind.wrap .u64 a):=T5 a
def SJ (m:Nat) {raw:LI} (hl:raw.length<=9223372036854775807) (k:Int): ∃w,Cd m raw k=some (w,(),(),())/\cr w:=by rw[Cd,bQ];by_cases c:0<raw.length;{obtain⟨r,u,e⟩:=LN m k (k:=raw.length) c O;rw[iP O,e,bS];dsimp only;rw[iP O];exact⟨_,rfl,xn _⟩};{rw[af O];exact⟨_,rfl,xn _⟩}
def qri {x M E:Nat} (J:x<18446744073709551616) (hM:M<18446744073709551616) (G:M/4503599627370496%2048=0) (hE:E<2047):
 cr (bf .u64 (qp .u64 (x:Int) (M:Int)) (bz .u64 (wJ (E:Int)) 52))/\aT (bf .u64 (qp .u64 (x:Int) (M:Int)) (bz .u64 (wJ (E:Int)) 52)):=by refine⟨xn _,?_⟩;have e2:bz .u64 (wJ (E:Int)) 52=((E*2^52:Nat):Int):=by{rw[bp O];exact fX (a:=E) (k:=52) O (by rw[show(2:Nat)^52=4503599627370496 by decide];omega)};have K:x&&&M<18446744073709551616:=wU Nat.and_le_left J;have u:(2:Nat)^52=4503599627370496:=by{decide};rw[jG J hM,e2,lI K (by rw[u];omega)];unfold aT cP;have key:(x&&&M|||E*2^52)/2^52%2^11=E:=by{rw[<-Nat.shiftRight_eq_div_pow,Nat.shiftRight_or_distrib,Nat.or_mod_two_pow,Nat.shiftRight_and_distrib,Nat.and_mod_two_pow,Nat.shiftRight_eq_div_pow M,u];rw[show(2:Nat)^11=2048 by decide,G,Nat.and_zero,Nat.zero_or,Nat.shiftRight_eq_div_pow,u,Nat.mul_div_cancel _ (by decide)];omega};rw[u,show(2:Nat)^11=2048 by decide]at key;rw[u];generalize (x&&&M|||E*4503599627370496)=Z at*;omega
def MP:LI:=[13844628204490326016,13844065254536904704,13842939354630062080,13841813454723219456,13840687554816376832,13839561654909534208,13837309855095848960,13835058055282163712,13830554455654793216,0,4607182418800017408,4611686018427387904,4613937818241073152,4616189618054758400,4617315517961601024,4618441417868443648,4619567317775286272,4620693217682128896,4621256167635550208]
def qpd (j:Nat):((List.range 19).map λr=>rW (j+100) ((r:Nat):Int))=MP.map λf=>some (f,(),()):=by kernel_rfl
def qv5:(MP.all λf=>decide ((0<=f/\f<18446744073709551616)/\f/4503599627370496%2048≠2047))=true:=by decide+kernel
def qpe {m:Nat} (hm:5000000000<=m) {x:Int} (J:cr x): ∃f,rW m x=some (f,(),())/\cr f/\aT f:=by obtain⟨j,rfl⟩: ∃j,m=j+100:=⟨m-100,O⟩;obtain⟨y,rfl⟩: ∃y:Nat,x=(y:Int):=⟨x.toNat,by have:=J.1;omega⟩;have K:y%19<19:=iY _ (by decide);have e:rW (j+100) ((y:Nat):Int)=rW (j+100) ((y%19:Nat):Int):=by{rw[rW,rW,show(19:Int)=((19:Nat):Int)from rfl,tm,tm,Bk]};have G:=congrArg (λl=>l[y%19]?) (qpd j);have hl:MP.length=19:=by{decide};simp only[List.getElem?_map,List.getElem?_range K,List.getElem?_eq_getElem (show y%19<MP.length by omega),xk,zZ]at G;have h2:=zn.1 qv5 MP[y%19] (zW _);have u:=of_decide_eq_true h2;exact⟨_,by rw[e];exact G,u.1,u.2⟩
def YX {m:Nat} (hm:5000000000<=m) {x:Int} (u:cr x) (style:Int): ∃f,Oy m x style=some (f,(),(),())/\cr f/\aT f:=by obtain⟨r,hr,e⟩:=LN m style (k:=4) (by decide) (by decide);obtain⟨y,rfl⟩: ∃y:Nat,x=(y:Int):=⟨x.toNat,by have:=u.1;omega⟩;have K:y<18446744073709551616:=by{have:=u.2;omega};rw[Oy,show(4:Int)=((4:Nat):Int)from rfl,e,bS,aA,aA,aA];dsimp only;by_cases c1:r=1;{subst c1;have J:qp .u64 (aK .u64 (y:Int) 52) 7=((y/4503599627370496%8:Nat):Int):=by{have G:aK .u64 (y:Int) 52=((y/4503599627370496:Nat):Int):=cJ (a:=y) (k:=52) O;have h2:qp .u64 ((y/4503599627370496:Nat):Int) ((7:Nat):Int)=((y/4503599627370496&&&7:Nat):Int):=jG O (by decide);rw[G,show(7:Int)=((7:Nat):Int)from rfl,h2,EV _ 3]};have:=qri (x:=y) (M:=9227875636482146303) (E:=1019+y/4503599627370496%8) K (by decide) (by decide) O;rw[iP (by decide),J,show(1019:Int)+((y/4503599627370496%8:Nat):Int)=((1019+y/4503599627370496%8:Nat):Int) by omega];exact⟨_,rfl,this⟩};{rw[af O];by_cases c2:r=2;{subst c2;have J:Int.tmod (aK .u64 (y:Int) 8) 81=((y/256%81:Nat):Int):=by{have G:aK .u64 (y:Int) 8=((y/256:Nat):Int):=cJ (a:=y) (k:=8) O;rw[G,show(81:Int)=((81:Nat):Int)from rfl,tm]};have:=qri (x:=y) (M:=9225623836668461056) (E:=983+y/256%81) K (by decide) (by decide) O;rw[iP (by decide),J,show(983:Int)+((y/256%81:Nat):Int)=((983+y/256%81:Nat):Int) by omega];exact⟨_,rfl,this⟩};{rw[af O];by_cases c3:r=3;{subst c3;rw[iP (by decide),Xv u,bS];dsimp only;by_cases f:aT (y:Int);{rw[decide_eq_true f];exact⟨_,rfl,u,f⟩};{rw[decide_eq_false f];exact⟨_,rfl,⟨by decide,by decide⟩,by decide⟩}};{rw[af O];obtain⟨f,ef,G,h2⟩:=qpe hm u;rw[ef,bS];exact⟨_,rfl,G,h2⟩}}}
def Nv:b9 []:=λi u=>absurd u (zA _)
def SZ {l:LI} (h:b9 l) {f:Int} (G:cr f) (h2:aT f):b9 (l++[f]):=by intro i u;rw[zG,zL]at u;by_cases c:i<l.length;{have:(l++[f]).getD i 0=l.getD i 0:=by{rw[List.getD,List.getElem?_append_left c];rfl};rw[this];exact h i c};{have:i=l.length:=O;subst this;have:(l++[f]).getD l.length 0=f:=by{simp[List.getD]};rw[this];exact⟨G,h2⟩}
def qlc {m:Nat} (hm:5000000000<=m) {raw:LI} (hl:raw.length<=9223372036854775807) {at0 n:Nat} (K:at0<=1000) (hn:n<=1000) (style:Int): ∀(N k:Nat) (out:LI),n-k<N->k<=n->out.length=k->b9 out->
 ∃l,rK m N raw (at0:Int) (n:Int) style out (k:Int)=some (.inl (l,()))/\l.length=n/\b9 l:=by intro N;induction N with|zero=>{intro k out h;omega}|succ N J=>{intro k out h hk u G;rw[rK,bQ];by_cases c:k<n;{obtain⟨w,ew,hw⟩:=SJ m hl (wI ((at0:Int)+(k:Int)));obtain⟨f,ef,h1,h2⟩:=YX hm hw style;rw[iP O,ew,bS,ef,bS,u,iP (by show k+1<=_;omega),wQ,ax O];exact J (k+1) _ O O (by simp[u]) (SZ G h1 h2)};{rw[af O];exact⟨out,rfl,O,G⟩}}
def qkk {m:Nat} (hm:5000000000<=m) {raw:LI} (hl:raw.length<=9223372036854775807) {at0 n:Nat} (u:at0<=1000) (hn:n<=1000) (style:Int): ∃l,Mo m raw (at0:Int) (n:Int) style=some (l,(),(),(),(),())/\l.length=n/\b9 l:=by obtain⟨l,e,G,h2⟩:=qlc hm hl u hn style m 0 [] O O rfl Nv;refine⟨l,?_,G,h2⟩;rw[Mo];rw[nZ]at e;rw[e,bS]
def b9.U {l:LI} (h:b9 l):UL l:=λi u=>(h i u).1
def Nw {m:Nat} (hm:3000000<m) {B:Int} {zs:LI} (hl:zs.length<=10000) (u: ∀z∈zs,b7 z B) (t0 t1:Bool) (t2:LI) (t3:Int): ∀(n k:Nat) (T e:Int),zs.length-k<n->k<=zs.length->
 cU T e (cO (zs.take k)) B-> -65536<=e->e<=65536->(ak T.natAbs:Int)+e<=65536+(k:Int)->
 ∃T' e',kU m n (zs.map (dy B)) t0 t1 t2 t3 (zB T).1 (zB T).2.1 e (k:Int)=some (.inr (.inl ((t0,t1,t2,t3,()),((zB T').1,(zB T').2.1,()),e',())))/\ak T'.natAbs<=200000/\cU T' e' (cO zs) B/\ -65536<=e'/\e'<=65536
 |0,k,T,e,h,_,_,_,_,_=>absurd h (zA _)
 |n+1,k,T,e,h,e0,hQ,a0,K,hb=>by rw[kU,bQ];by_cases hk:k<zs.length;{have hz:b7 (zs.getD k 0) B:=u _ (Xi hk);obtain⟨w,f,J,k1,k2,k3⟩:=Xd hz;have c0:=J.lo;have g0:=J.hi;have hle:=J.len;have w0:wI ((k:Int)+1)=((k+1:Nat):Int):=ax O;have d0:(aE (zs.getD k 0) B).1=false:=hz;rw[iP (by rw[zh];omega),iP (by rw[zh];omega),tN,Rb hk,show nI m (dy B (zs.getD k 0)).1 (dy B (zs.getD k 0)).2.1.1 (dy B (zs.getD k 0)).2.1.2 (dy B (zs.getD k 0)).2.2=_ from X4 hm,bS];dsimp only;rw[d0,cond_false,Mc hm hz,bS,aA];dsimp only;by_cases z0:zs.getD k 0=0;{rw[iP (Qa.2 z0),w0];exact Nw hm hl u t0 t1 t2 t3 n (k+1) T e O O (by rw[Mg hk,z0,RL];exact hQ) a0 K O};{have hT:Sz (zB T).2.1:=oX O;rw[af (λh=>z0 (Qa.1 h)),Zg O hT,bS,aP,aA];dsimp only;by_cases b0:T=0;{rw[iP (Qa.2 b0),w0,k1,k2,k3];subst b0;refine Nw hm hl u t0 t1 t2 t3 n (k+1) w f O O ?_ c0 O O;have q:=((cU.zero f e).trans hQ).add (c:=0) (g:=0) J.eq;rw[RN]at q;rw[Mg hk];exact q};{rw[af (λh=>b0 (Qa.1 h)),bQ,k1,k2,k3];by_cases G:f>=e;{have w1:wI (f-e)=f-e:=by{rw[wQ,wi O O]};have s1:=NL (w:=w) G;have s2:ak (T+sc w f e).natAbs<=(65536+(k:Int)-e).toNat+1:=Zu O O;rw[iP G,w1,Xx hm O O O,bS];dsimp only;rw[LR O hT (oX (by unfold sc at s1;omega)),aP,aP,bS,w0];refine Nw hm hl u t0 t1 t2 t3 n (k+1) (T+sc w f e) e O O ?_ a0 K O;rw[Mg hk];exact hQ.add (c:=0) (g:=0) ((cU.sc G).trans J.eq)};{have w1:wI (e-f)=e-f:=by{rw[wQ,wi O O]};have s1:=NL (w:=T) (f:=e) (b:=f) O;have s2:ak (sc T e f+w).natAbs<=(65536+(k:Int)-f).toNat+1:=Zu O O;rw[af G,w1,Xx hm O O O,bS];dsimp only;rw[LR O (oX (by unfold sc at s1;omega)) J.Sz,aP,aP,bS,w0];refine Nw hm hl u t0 t1 t2 t3 n (k+1) (sc T e f+w) f O O ?_ c0 O O;rw[Mg hk];exact((cU.sc O).trans hQ).add (c:=0) (g:=0) J.eq}}}};{have:k=zs.length:=O;subst this;rw[EW]at hQ;exact⟨T,e,by rw[af (by rw[zh];omega)],O,hQ,a0,K⟩}
def qnu {m:Nat} (hm:3000000<m) {B:Int} {zs:LI} (hl:zs.length<=10000) (u: ∀z∈zs,b7 z B):K2 m (zs.map (dy B))=some (aE (cO zs) B,(),()):=by obtain⟨T,e,G,i2,J,i4,K⟩:=Nw hm hl u false false [] 0 m 0 0 0 O O (cU.zero _ _) O O (by rw[show(0:Int).natAbs=0 from rfl,Xo];omega);rw[nZ,show(zB 0).1=false from rfl,show(zB 0).2.1=([]:LI)from Qe]at G;rw[K2,G,bS];dsimp only;rw[I6 hm O O O,J.mk];rfl
def Li {x y:LI} {k:Nat}:(eH x y k).map (dy (-2148))++[((aE (aM (x.getD k 0)*aM (y.getD k 0)) (-2148)).1,((aE (aM (x.getD k 0)*aM (y.getD k 0)) (-2148)).2.1,(aE (aM (x.getD k 0)*aM (y.getD k 0)) (-2148)).2.2.1),(aE (aM (x.getD k 0)*aM (y.getD k 0)) (-2148)).2.2.2.1)]=(eH x y (k+1)).map (dy (-2148)):=by unfold eH;rw[AU,sJ,sJ];rfl
def wR {x y:LI} {k:Nat}:(eH x y k).length=k:=by unfold eH;simp
def UM {x y:LI} (J:b9 x) (G:b9 y) (he:x.length=y.length) {k:Nat} (hk:k<=x.length): ∀z∈eH x y k,b7 z (-2148):=by intro z u;obtain⟨i,hi,rfl⟩:=zk.1 u;have K:=uE.1 hi;exact Xn (J i O).2 (G i O).2
def qiv {m:Nat} (hm:4000000<=m) {x y:LI} (hl:x.length<=1000) (he:x.length=y.length) (hx:b9 x) (hy:b9 y) (K J:Bool) (G:LI) (u:Int): ∀(n k:Nat),x.length-k<n->k<=x.length->
 qO m n x y K J G u ((eH x y k).map (dy (-2148))) (x.length:Int) (k:Int)=some (.inl ((K,J,G,u,()),(eH x y x.length).map (dy (-2148)),()))
 |0,k,h,_=>absurd h (zA _)
 |n+1,k,h,a0=>by rw[qO,bQ];by_cases hk:k<x.length;{have ih:=qiv hm hl he hx hy K J G u n (k+1) O O;obtain⟨u1,f1⟩:=hx k hk;obtain⟨u2,f2⟩:=hy k O;rw[iP O,iP O,tN,dh O u1,bS,iP O,dh O u2,bS,Xl f1,Xl f2];dsimp only;rw[I0 hm,iP ⟨ck f1,ck f2⟩,bS,show(-1074:Int)+ -1074= -2148 by decide];dsimp only;rw[iP (by simp[wR];omega),Li,show wI ((k:Int)+1)=((k+1:Nat):Int)from ax O];exact ih};{rw[af O,show k=x.length by omega]}
def qpa {m:Nat} (hm:4000000<=m) {x y:LI} (hl:x.length<=1000) (he:x.length=y.length) (G:b9 x) (u:b9 y):TJ m x y=some (aE (cO (eH x y x.length)) (-2148),(),(),()):=by have h:=qiv hm hl he G u false false [] 0 m 0 O O;rw[nZ]at h;rw[TJ,show([]:List (Bool×(Bool×LI)×Int))=(eH x y 0).map (dy (-2148))from rfl,h,bS];dsimp only;rw[ZJ O (by rw[wR];omega) (UM G u he (zJ _))];rfl
def Y3 {m:Nat} (hm:4000000<=m) {a b:Int} (K:cr a) (J:cr b) (G:aT a) (u:aT b):jy m a b=some (aE (aM a*aM b) (-2148),(),(),()):=by rw[jy,vP O K,bS,vP O J,bS,Xl G,Xl u];dsimp only;rw[qi2 hm,iP ⟨ck G,ck u⟩,bS];rfl
def qrf {m:Nat} (hm:4000000<=m) {x y:LI} (hl:x.length<=1000) (he:x.length=y.length) (hx:b9 x) (hy:b9 y) (K J:Bool) (G:LI) (u:Int): ∀(n k:Nat),x.length-k<n->k<=x.length->
 re m n x y K J G u ((eH x y k).map (dy (-2148))) (k:Int)=some (.inl ((K,J,G,u,()),(eH x y x.length).map (dy (-2148)),()))
 |0,k,h,_=>absurd h (zA _)
 |n+1,k,h,a0=>by rw[re,bQ];by_cases hk:k<x.length;{have ih:=qrf hm hl he hx hy K J G u n (k+1) O O;obtain⟨u1,f1⟩:=hx k hk;obtain⟨u2,f2⟩:=hy k O;rw[iP O,iP O,iP O,tN,Y3 hm u1 u2 f1 f2,bS];dsimp only;rw[iP (by simp[wR];omega),Li,show wI ((k:Int)+1)=((k+1:Nat):Int)from ax O];exact ih};{rw[af O,show k=x.length by omega]}
def Nk {m:Nat} (hm:4000000<=m) {x y:LI} (hl:x.length<=1000) (he:x.length=y.length) (G:b9 x) (u:b9 y):Kk m x y=some (aE (cO (eH x y x.length)) (-2148),(),(),()):=by have h:=qrf hm hl he G u false false [] 0 m 0 O O;rw[nZ]at h;rw[Kk,show([]:List (Bool×(Bool×LI)×Int))=(eH x y 0).map (dy (-2148))from rfl,h,bS];dsimp only;rw[qnu O (by rw[wR];omega) (UM G u he (zJ _))];rfl
def qn2 (j:Nat):bD (j+300)=some (true,()):=by kernel_rfl
end Go.Vs.F
set_option linter.unusedSectionVars false
set_option maxRecDepth 100000
namespace Go.Vs.F
def qth {m:Nat} (hm:300<=m):bD m=some (true,()):=by obtain⟨j,rfl⟩: ∃j,m=j+300:=⟨m-300,O⟩;exact qn2 j
def bq (l:LI):Bool:=ql (λi=>decide (aT (l.getD i 0))) 0 l.length
def Zj {l:LI} (h:UL l) (G:bq l=true):b9 l:=λi u=>⟨h i u,of_decide_eq_true (qx.1 G i (oY _) u)⟩
def qoo (m:Nat) {a:LI} (G:UL a) (K:a.length<=1000): ∀(n k:Nat),a.length-k<n->
 ∃j:Nat,me m n a (a.length:Int) (k:Int)=some (bif ql (λi=>decide (aT (a.getD i 0))) k a.length then .inr (.inl ())else .inl ((j:Int),()))
 |0,k,h=>O
 |n+1,k,h=>by rw[me,bQ];by_cases u:k<a.length;{obtain⟨j,J⟩:=qoo m G K n (k+1) O;rw[iP O,iP O,tN,K4,A5 (G k u),bS,bS,show wI ((k:Int)+1)=((k+1:Nat):Int)from ax O,J,qy u];by_cases f:aT (a.getD k 0);{rw[decide_eq_true f];exact⟨j,rfl⟩};{rw[decide_eq_false f];exact⟨k,rfl⟩}};{rw[af O,Q5 u];exact⟨0,rfl⟩}
def UC {m:Nat} (hm:3000000<m) {a:LI} (J:UL a) (G:a.length<=1000):wH m a=some (bq a,(),()):=by obtain⟨j,u⟩:=qoo m J G m 0 O;rw[nZ]at u;rw[wH,K5,KV,u];unfold bq;cases ql (λi=>decide (aT (a.getD i 0))) 0 a.length;{simp};{simp}
def qnk (m:Nat) {a:LI} (G:UL a) (J:a.length<=1000): ∀(n k:Nat),a.length-k<n->
 rf m n a (k:Int)=some (bif ql (λi=>decide (aT (a.getD i 0))) k a.length then .inr (.inl ())else .inl (false,()))
 |0,k,h=>O
 |n+1,k,h=>by rw[rf,bQ];by_cases u:k<a.length;{rw[iP O,iP O,tN,Xv (G k u),bS,show wI ((k:Int)+1)=((k+1:Nat):Int)from ax O,qnk m G J n (k+1) O,qy u];by_cases f:aT (a.getD k 0);{rw[decide_eq_true f];rfl};{rw[decide_eq_false f];rfl}};{rw[af O,Q5 u];rfl}
def St {m:Nat} (hm:3000000<m) {a:LI} (J:UL a) (G:a.length<=1000):BM m a=some (bq a,(),()):=by have u:=qnk m J G m 0 O;rw[nZ]at u;rw[BM,u];unfold bq;cases ql (λi=>decide (aT (a.getD i 0))) 0 a.length<;>rfl
structure VV (V:List LI):Prop where
 n:V.length<=10
 l: ∀i,i<V.length->(V.getD i []).length<=100
 u: ∀i,i<V.length->UL (V.getD i [])
section
variable {m:Nat} (hm:5000000000<=m) {V:List LI} (hV:VV V)
include hm hV
end
def By:Int:=sc 1 0 (-2148)
def qvf:aE 1 0=aE By (-2148):=(A0 O).symm
def quj:ak By.natAbs<=3000:=by have h:=NL (w:=1) (f:=0) (b:= -2148) O;have u:ak (1:Int).natAbs<=1:=Qn (by decide);unfold By;omega
def qra {z:Int} (h:ak z.natAbs<=60000):b7 z (-2148):=Y8.2 (.inr ⟨O,O⟩)
structure WV (V:List LI):Prop where
 v:VV V
 e: ∀i,i<V.length->(V.getD i []).length=(V.getD 0 []).length
 f: ∀i,i<V.length->b9 (V.getD i [])
section
variable {m:Nat} (hm:5000000000<=m) {V:List LI} (hV:WV V)
include hV
end
section
variable {m:Nat} (hm:5000000000<=m) {V:List LI}
include hm
end
def qnp {r x:Nat} (J:r<4294967296) (G:x<4294967296):bf .u64 (bz .u64 (r:Int) 32) (x:Int)=((r*4294967296+x:Nat):Int):=by have u:bz .u64 (r:Int) 32=((r*4294967296:Nat):Int):=by{have h:=fX (a:=r) (k:=32) O (by rw[show(2:Nat)^32=4294967296 by decide];omega);rw[show(2:Nat)^32=4294967296 by decide]at h;exact h};rw[u,lI O O];have:=IF (i:=32) (b:=x) O r;rw[zY,show(4294967296:Nat)=2^32 by decide,<-this]
def nR {l:LI} {i:Nat} {x:Int} (h:i<l.length):(l.set i x).drop i=x::l.drop (i+1):=by rw[ET (by rw[zU];exact h)];congr 1;{simp};{rw[List.drop_set];simp}
def qgy (m:Nat) {a:LI} (ha:Lm a) (hl:a.length<=1000000) {d:Nat} (G:0<d) (J:d<4294967296): ∀(k n:Nat) (out:LI),k<n->k<=a.length->Lm out->out.length=a.length->vl (out.drop k)=vl (a.drop k)/d->
 ∃u,jQ m n a (d:Int) out ((vl (a.drop k)%d:Nat):Int) ((k:Int)-1)=some (.inl (u,((vl a%d:Nat):Int),()))/\Lm u/\u.length=a.length/\vl u=vl a/d
 |0,n+1,out,_,_,h1,h2,K=>by{refine⟨out,?_,h1,h2,by simpa using K⟩;rw[jQ,bQ,af O,i6]}
 |k+1,n+1,out,hn,hk,h1,h2,K=>by obtain⟨x,ex,hx,hv⟩:=ha.get' k;have hr:vl (a.drop (k+1))%d<d:=iY _ G;have w:((k+1:Nat):Int)-1=(k:Int):=O;rw[jQ,w,bQ,iP O,iP O];have wd:wJ (d:Int)=(d:Int):=bp O;rw[wd,iP O,iP O,iP O,tN,ex,bp O,qnp O hx,td,tm];have hq:(vl (a.drop (k+1))%d*4294967296+x)/d<4294967296:=by{rw[Bc G];have:(vl (a.drop (k+1))%d+1)*4294967296<=d*4294967296:=zO _ hr;omega};have wq:wK (wJ (((vl (a.drop (k+1))%d*4294967296+x)/d:Nat):Int))=(((vl (a.drop (k+1))%d*4294967296+x)/d:Nat):Int):=by{rw[bp O,fo,i7 hq]};rw[wq,zH];have e1:vl (a.drop k)=d*(4294967296*(vl (a.drop (k+1))/d))+(vl (a.drop (k+1))%d*4294967296+x):=by{rw[hv];have:=ur (vl (a.drop (k+1))) d;generalize vl (a.drop (k+1))/d=q at*;generalize vl (a.drop (k+1))%d=r at*;rw[<-this,zK,<-Nat.mul_assoc,zY 4294967296 d,zV];omega};have e2:vl (a.drop k)/d=4294967296*(vl (a.drop (k+1))/d)+(vl (a.drop (k+1))%d*4294967296+x)/d:=by{rw[e1,Rr G]};have e3:vl (a.drop k)%d=(vl (a.drop (k+1))%d*4294967296+x)%d:=by{rw[e1,Rq]};rw[<-e3,wQ,wi O O];refine qgy m ha hl G J k n _ O O (Zw h1 hq) (by rw[zU];exact h2) ?_;rw[nR O,vl,tN,K,e2];omega
def qpt {m:Nat} (hm:2000000<m) {a:LI} (ha:Lm a) (hl:a.length<=1000000) {d:Nat} (J:0<d) (u:d<4294967296):
 x9 m a (d:Int)=some ((lim (vl a/d),((vl a%d:Nat):Int),()),(),(),()):=by rw[x9,iP O,tN,wQ,wi O O];have K:(a.drop a.length)=[]:=List.drop_length;obtain⟨out,G,h2,h3,h4⟩:=qgy m ha hl J u a.length m (List.replicate a.length 0) O (zJ _) Qo (zI ..) (by{rw[Be (by rw[zI];exact zJ _),K];show 0=0/d;rw[RM]});rw[K]at G;have e0:((vl ([]:LI)%d:Nat):Int)=0:=by{show((0%d:Nat):Int)=0;rw[Nat.zero_mod];rfl};rw[e0]at G;rw[G,bS];dsimp only;rw[Qz h2 O O,bS,h4,fo,i7 (Nat.lt_trans (iY _ J) u)]
def qdy {d:Nat} (u:0<d) (h:d<4294967296):lim d=[(d:Int)]:=by rw[Fc O,vC h,Qe,i7 h]
def qce {m:Nat} (hm:2000000<m) {A d:Nat} (K:(lim A).length<=1000000) (u:0<d) (h:d<4294967296):
 rA m (lim A) (lim d)=some ((lim (A/d),lim (A%d),()),(),(),()):=by have G:(lim d).length=1:=by{rw[qdy u h];rfl};rw[rA,Je hm K O,bS,bQ];dsimp only;by_cases c:A<d;{have J:da A d= -1:=by{unfold da;rw[iP c]};rw[J,iP O,Nh O,bS,vC c,i7 c,Qe]};{have J: ¬da A d<0:=by{unfold da;rw[af c];split<;>omega};rw[af J,G,aA,iP (show((1:Nat):Int)=1 from rfl),iP O,qdy u h];show(x9 m (lim A) (d:Int)).bind _=_;rw[qpt hm (Q7 A) K u h,bS,qw];dsimp only;have hr:A%d<4294967296:=Nat.lt_trans (iY _ u) h;rw[Qz (λx hx=>by rw[zC.1 hx];omega) (by simp;omega) (by simp),bS];show some ((_,lim ((((A%d:Nat):Int)).toNat+4294967296*0),()),_)=_;rw[tN,zx,zQ]}
def qh0 {m:Nat} (hm:3000000<m) {a:LI} (J:Lm a) (hl:a.length<=500000) {n:Nat} (hn:n<=10000000):
 ∃r,pk m a (n:Int)=some (r,(),(),())/\Lm r/\r.length=a.length+n/32+1/\vl r=vl a*2^n:=by have G:wI (Int.tdiv (n:Int) 32)=((n/32:Nat):Int):=by{rw[Nl,wQ,wi O O]};have u:2^(n%32)<=2^31:=zu O O;obtain⟨out,c,e,h1,h2,h3,K⟩:=qnt m (N:=n) (w:=n/32) (p:=n%32) J O O O M7 m 0 (List.replicate (n/32) 0) 0 O O Qo (by simp) (eQ O);rw[nZ]at e;have w:wK (c:Int)=(c:Int):=by{rw[fo,i7 O]};refine⟨out++[(c:Int)],?_,A4 h1 O,by simp[h2];omega,?_⟩;{rw[pk,G,iP O,tN,e,bS];dsimp only;rw[w,iP (by rw[h2];show n/32+a.length+1<=_;omega)]};{rw[Jp,h2,K,Qu,i6,zH,zH,zQ,<-Nat.mul_assoc,pN,show 32*(n/32)+n%32=n by omega,zY]}
def qp6 {P B d x e b c g y u G V0 O K Q R c' lo:Nat} (h1:O+P*B*(e+c'+g*u)+R=K+P*B*G+Q) (h2:K=V0+P*d) (h3:d+lo+b=x+B*e) (h4:c+g*y=lo+B*c'):
 O+P*(b+c+g*(y+B*u))+R=V0+P*(x+B*G)+Q:=by have k1:P*(d+lo+b)=P*d+P*lo+P*b:=by{rw[zK,zK]};have k2:P*(x+B*e)=P*x+P*B*e:=by{rw[zK,zV]};have k3:P*B*(e+c'+g*u)=P*B*e+P*B*c'+P*B*(g*u):=by{rw[zK,zK]};have J:P*(b+c+g*(y+B*u))=P*b+P*(c+g*y)+P*B*(g*u):=by{rw[show b+c+g*(y+B*u)=b+(c+g*y)+B*(g*u) by rw[zK,uu g B];omega,zK,zK,zV]};have k5:P*(lo+B*c')=P*lo+P*B*c':=by{rw[zK,zV]};have k6:P*(x+B*G)=P*x+P*B*G:=by{rw[zK,zV]};rw[h4]at J;rw[h3]at k1;rw[J,k6,k5];rw[k3]at h1;omega
def qt8 (m:Nat) {u v:LI} (hu:Lm u) (hv:Lm v) (hl:u.length<=1000001) {j g:Nat} (hj:j+v.length<u.length) (hg:g<4294967296): ∀(N k:Nat) (out:LI) (b c:Nat),v.length+1-k<N->k<=v.length+1->Lm out->out.length=v.length+1->(∀p,k<=p->out.getD p 0=0)->b<2->c<4294967296->(k=v.length+1->c=0)->
 ∃G b',iL m N u v (j:Int) (g:Int) (v.length:Int) out (b:Int) (c:Int) (k:Int)=some (.inl (u,(j:Int),(v.length:Int),G,((b':Nat):Int),()))/\Lm G/\G.length=v.length+1/\b'<2/\
  vl G+4294967296^k*(b+c+g*vl (v.drop k))+4294967296^(v.length+1)*vl (u.drop (j+v.length+1))=vl out+4294967296^k*vl (u.drop (j+k))+4294967296^(v.length+1)*b':=by intro N;induction N with|zero=>{intro k out b c h;omega}|succ N ih=>{intro k out b c h j0 ho a0 hz hb hc hlast;rw[iL];by_cases hk:k<=v.length;{obtain⟨x,ex,hx,dx⟩:=hu.get' (j+k);have w0:wI ((k:Int)+(j:Int))=((j+k:Nat):Int):=by{rw[wQ,wi O O];omega};have c2:(0:Int)<=((j+k:Nat):Int)/\((j+k:Nat):Int)<(u.length:Int):=O;have c3:(0:Int)<=(k:Int)/\(k:Int)<(out.length:Int):=O;have w1:wJ (x:Int)=(x:Int):=bp O;have ws:wI ((k:Int)+1)=((k+1:Nat):Int):=ax O;have oz:out.getD k 0=0:=hz k (zJ _);have K: ∀d:Nat,vl (out.set k (d:Int))=vl out+4294967296^k*d:=by{intro d;have:=J5 (l:=out) (p:=k) (y:=(d:Int)) O;rw[oz,Lx,zx,tN]at this;omega};have b0: ∀d:Nat,∀p,k+1<=p->(out.set k (d:Int)).getD p 0=0:=λd p hp=>by{rw[bw O];exact hz p O};have fin: ∀(t y:Nat),t<18446744073709551616->c+g*y=t->(k=v.length->t<4294967296)->vl (v.drop k)=y+4294967296*vl (v.drop (k+1))-> ∃G b',iL m N u v (j:Int) (g:Int) (v.length:Int) (out.set k (wK (wJ ((wJ ((x:Int)-(b:Int)))-(qp .u64 (t:Int) 4294967295))))) (aK .u64 (wJ ((wJ ((x:Int)-(b:Int)))-(qp .u64 (t:Int) 4294967295))) 63) (aK .u64 (t:Int) 32) ((k+1:Nat):Int)=some (.inl (u,(j:Int),(v.length:Int),G,((b':Nat):Int),()))/\Lm G/\G.length=v.length+1/\b'<2/\ vl G+4294967296^k*(b+c+g*vl (v.drop k))+4294967296^(v.length+1)*vl (u.drop (j+v.length+1))=vl out+4294967296^k*vl (u.drop (j+k))+4294967296^(v.length+1)*b':=by{intro t y ht d0 g0 c0;obtain⟨d,e,hd,he,h0,q1,q2⟩:=q6u hx (show t%4294967296<4294967296 by omega) hb;have e2:aK .u64 (t:Int) 32=((t/4294967296:Nat):Int):=cJ (a:=t) (k:=32) O;rw[je ht,q1,q2,e2];obtain⟨G,b',g1,g2,g3,g4,g5⟩:=ih (k+1) (out.set k (d:Int)) e (t/4294967296) O O (Zw ho hd) (by rw[zU];exact a0) (b0 d) he O (λhh=>by have:=g0 O;omega);refine⟨G,b',g1,g2,g3,g4,?_⟩;rw[gM,<-Nat.add_assoc j k 1]at g5;rw[dx,c0];exact qp6 g5 (K d) h0 (by rw[d0];omega)};rw[bQ,iP O,bQ];by_cases kv:k<v.length;{obtain⟨y,ey,hy,dy⟩:=hv.get' k;have hm:=Uw hg hy;have w3:wJ (y:Int)=(y:Int):=bp O;have w4:wJ ((g:Int)*(y:Int))=((g*y:Nat):Int):=by{rw[show(g:Int)*(y:Int)=((g*y:Nat):Int) by rw[sK],bp O]};have w5:wJ ((c:Int)+((g*y:Nat):Int))=((c+g*y:Nat):Int):=by{rw[show(c:Int)+((g*y:Nat):Int)=((c+g*y:Nat):Int) by rw[xf c],bp O]};rw[iP O,iP O,w0,iP c2,iP c3,ws];simp only[tN,zH];rw[ex,ey,w1,w3,w4,w5];exact fin _ y O rfl (λh=>O) dy};{have J:k=v.length:=O;rw[af O,w0,iP c2,iP c3,ws];simp only[tN,zH];rw[ex,w1];have i0:vl (v.drop k)=0+4294967296*vl (v.drop (k+1)):=by{rw[qo O,qo O]};exact fin c 0 O (by rw[zx,zQ]) (λ_=>hc) i0}};{have J:k=v.length+1:=O;rw[bQ,af O];refine⟨out,b,rfl,ho,a0,hb,?_⟩;have e0:b+0+0=b:=rfl;rw[hlast J,J,qo (l:=v) O,zx,e0,<-Nat.add_assoc j];omega}}
def qu8 (m:Nat) {u:LI} {j n:Nat} (hl:u.length<=1000001) (hj:j+n<u.length) {out:LI} (ho:out.length=n+1): ∀(N k:Nat),n+1-k<N->k<=n+1->
 jR m N (u.take j++out.take k++u.drop (j+k)) (j:Int) (n:Int) out (k:Int)=some (.inl (u.take j++out++u.drop (j+n+1),())):=by intro N;induction N with|zero=>{intro k h;omega}|succ N ih=>{intro k h hk;rw[jR];by_cases c:k<=n;{have hlen:(u.take j++out.take k++u.drop (j+k)).length=u.length:=by{simp only[zG,zT,iA];omega};have K:wI ((k:Int)+(j:Int))=((j+k:Nat):Int):=by{rw[wQ,wi O O];omega};have ws:wI ((k:Int)+1)=((k+1:Nat):Int):=ax O;rw[bQ,iP O,iP O,K,hlen,iP O,ws];simp only[tN,zH];have e:(u.take j++out.take k++u.drop (j+k)).set (j+k) (out.getD k 0)=u.take j++out.take (k+1)++u.drop (j+(k+1)):=by{have J:(u.take j++out.take k).length=j+k:=by{simp only[zG,zT];omega};rw[List.set_append_right _ _ (by rw[J];exact zJ _),J,xg,ET (by omega:j+k<u.length),List.set_cons_zero,nV (l:=out) (k:=k) O rfl,<-Nat.add_assoc];simp[pC]};rw[e];exact ih (k+1) O O};{have G:k=n+1:=O;rw[bQ,af O,G,ux (l:=out) O,<-Nat.add_assoc]}}
def qt3 {m:Nat} (hm:2000000<m) {u v:LI} (hu:Lm u) (hv:Lm v) (hl:u.length<=1000001) {j g:Nat} (hj:j+v.length<u.length) (hg:g<4294967296) (hz:vl (u.drop (j+v.length+1))=0):
 (g*vl v<=vl (u.drop j)-> ∃J,wg m u v (j:Int) (g:Int)=some (true,J,(),(),(),())/\Lm J/\J.length=u.length/\vl J+4294967296^j*(g*vl v)=vl u/\vl (J.drop j)=vl (u.drop j)-g*vl v)/\
 (vl (u.drop j)<g*vl v->wg m u v (j:Int) (g:Int)=some (false,u,(),(),(),())):=by
 have w:wI ((v.length:Int)+1)=((v.length+1:Nat):Int):=ax O;obtain⟨out,b,e,h1,h2,h3,h4⟩:=qt8 m hu hv hl hj hg m 0 (List.replicate (v.length+1) 0) 0 0 O O Qo (zI ..) (λp _=>by simp[List.getD,List.getElem?_replicate];split<;>rfl) O O (λh=>O)
 rw[nZ]at e;have a0:=cb h1;rw[h2]at a0;rw[Qu,hz,i6,AR,xc,xc,zx,zQ,zQ,zH,zH,zQ]at h4
 have start:wg m u v (j:Int) (g:Int)=bif ((b:Nat):Int) !=0 then some (false,u,(),(),(),())else(jR m m u (j:Int) (v.length:Int) out 0).bind λy3=>match y3 with
  | .inl z4=>some (true,(z4.1,(),(),(),()))
  | .inr e=>e.elim:=by
  rw[wg,w,iP O,tN,e,bS];rfl
 constructor
 . intro hle
   have hb:b=0:=by
    rcases fQ b 1 with h|h
    . omega
    . have:b=1:=O;subst this;rw[iZ]at h4;omega
   subst hb;have e1:=qu8 m hl hj h2 m 0 O O;rw[sG,ls,zQ,vG]at e1;rw[nZ]at e1;rw[start,nZ,show((0:Int) !=0)=false from rfl,cond_false,e1,bS]
   have d1:(u.take j++out++u.drop (j+v.length+1)).drop j=out++u.drop (j+v.length+1):=by
    rw[pC,List.drop_append,Be (by rw[zT];omega),vH,zT,show j-min j u.length=0 by omega,i6]
   have v1:vl (out++u.drop (j+v.length+1))=vl out:=by rw[vN,hz,zx,zQ]
   have K:(u.take j).length=j:=by rw[zT];omega
   refine⟨_,rfl,?_,?_,?_,?_⟩
   . intro x G;rcases zX.1 G with G|G
     . rcases zX.1 G with G|G
       . exact hu x (nC G)
       . exact h1 x G
     . exact hu x (vD G)
   . simp only[zG,zT,iA];omega
   . have hsplit:vl u=vl (u.take j)+4294967296^j*vl (u.drop j):=by
      conv=>lhs;rw[<-List.take_append_drop j u]
      rw[vN,K]
     rw[pC,vN,v1,K,hsplit];rw[zx]at h4;have:vl (u.drop j)=vl out+g*vl v:=O;rw[this,zK];omega
   . rw[d1,v1];rw[zx]at h4;omega
 . intro b0
   have hb:b=1:=by
    rcases fQ b 1 with h|h
    . have:b=0:=O;subst this;rw[zx]at h4;omega
    . omega
   subst hb;rw[start];rfl
def Qx (l:LI) (k:Nat) (h:k<=l.length):vl l=vl (l.take k)+4294967296^k*vl (l.drop k):=by
 conv=>lhs;rw[<-List.take_append_drop k l]
 rw[vN,zT,LB h]
def Lm.take {l:LI} (h:Lm l) (k:Nat):Lm (l.take k):=λx u=>h x (nC u)
def Lm.drop {l:LI} (h:Lm l) (k:Nat):Lm (l.drop k):=λx u=>h x (vD u)
def Xr {l:LI} (h:Lm l) {k:Nat} (u:k<=l.length):vl (l.take k)<4294967296^k:=by have:=cb (h.take k);rwa [zT,LB u]at this
def Ju {l:LI} {k:Nat} (G:k<=l.length) (u:vl l<4294967296^k):vl (l.drop k)=0:=by have:=Qx l k G;rcases EX (vl (l.drop k))with h|h;{exact h};{have:=Nat.le_mul_of_pos_right (4294967296^k) h;omega}
def qj0 {W lo P t V u y d:Nat} (hW:W=lo+P*t) (J:lo<P) (hV:V=u+P*y) (G:0<y) (K:d*V<=W):d<=t/y:=by rw[Lu G];have h1:d*(P*y)<=d*V:=zi _ O;have h2:P*(d*y)<P*(t+1):=by{rw[uu P d y,zK,iZ];omega};have:=Lz h2;omega
def qm5 {m:Nat} (hm:2000000<m) {u v:LI} (hu:Lm u) (hv:Lm v) (hl:u.length<=1000001) {j:Nat} (hj:j+v.length<u.length) (hz:vl (u.drop (j+v.length+1))=0) (hV:0<vl v) (n s:Int) (q:LI) {d:Nat} (hd:d=vl (u.drop j)/vl v):
 ∀(N k:Nat),k<N->d+k<4294967296-> ∃G,l9 m N n s u v q (j:Int) ((d+k:Nat):Int)=some (.inl (n,s,G,v,q,(j:Int),(d:Int),()))/\Lm G/\G.length=u.length/\vl G+4294967296^j*(d*vl v)=vl u/\vl (G.drop j)=vl (u.drop j)%vl v:=by intro N;induction N with|zero=>{intro k h;omega}|succ N ih=>{intro k hk hb;obtain⟨t1,t2⟩:=qt3 hm hu hv hl hj hb hz;have K:=ur (vl (u.drop j)) (vl v);have a0:=iY (vl (u.drop j)) hV;rw[<-hd]at K;rw[l9];by_cases c:k=0;{subst c;obtain⟨G,e,h1,h2,h3,h4⟩:=t1 (by rw[zQ,zY];omega);rw[zQ]at*;refine⟨G,?_,h1,h2,h3,?_⟩;{rw[e,bS];rfl};{rw[h4,zY];omega}};{have J:vl (u.drop j)<(d+k)*vl v:=by{have:(d+1)*vl v<=(d+k)*vl v:=zO _ O;rw[fV,xc,zY]at this;omega};rw[t2 J,bS];dsimp only;rw[Bh,cond_true];have w:wJ (((d+k:Nat):Int)-1)=((d+(k-1):Nat):Int):=by{rw[dJ];omega};rw[w];exact ih (k-1) O O}}
def qd5 {m:Nat} (hm:5000000000<=m) {v:LI} (hv:Lm v) (h1:1<=v.length) {y:Nat} (ey:v.getD (v.length-1) 0=(y:Int)) (hy:0<y) (s:Int): ∀(k N:Nat) (u q:LI),k<N->Lm u->Lm q->u.length<=1000001->k+v.length<=u.length->k<=q.length->(∀p,p<k->q.getD p 0=0)->vl (u.drop k)<vl v->
 ∃u' q',iN m N (v.length:Int) s u v q ((k:Int)-1)=some (.inl (s,u',q',()))/\Lm u'/\Lm q'/\u'.length=u.length/\q'.length=q.length/\vl u'=vl u%vl v/\vl q'=vl q+vl u/vl v
 |0,N+1,u,q,_,hu,hq,hl,hk,m0,hz,J=>by{rw[i6]at J;refine⟨u,q,?_,hu,hq,rfl,rfl,(i7 J).symm,by rw[vC J,zQ]⟩;rw[iN,bQ,af O]}
 |k+1,N+1,u,q,hN,hu,hq,hl,hk,m0,hz,J=>by have wk:((k+1:Nat):Int)-1=(k:Int):=O;have b1:=cb hv;obtain⟨x,ex,hx,dx⟩:=hu.get' k;obtain⟨G,t0,i0,v0⟩:=hu.get' (k+v.length);obtain⟨x1,s0,h0,u0⟩:=hu.get' (k+v.length-1);have hW:vl (u.drop k)<4294967296^(v.length+1):=by{rw[dx,gM,zY (4294967296^v.length)];omega};have b0:vl (u.drop (k+v.length+1))=0:=by{have:=Ju (l:=u.drop k) (k:=v.length+1) (by rw[iA];omega) hW;rwa [Lw,<-Nat.add_assoc]at this};have e0:vl (u.drop k)=vl ((u.drop k).take (v.length-1))+4294967296^(v.length-1)*(G*4294967296+x1):=by{rw[Qx (u.drop k) (v.length-1) (by rw[iA];omega),Lw,show k+(v.length-1)=k+v.length-1 by omega,u0,show k+v.length-1+1=k+v.length by omega,v0,b0];congr 2;omega};have l0:vl ((u.drop k).take (v.length-1))<4294967296^(v.length-1):=Xr (hu.drop k) (by rw[iA];omega);have w0:y<4294967296:=by{obtain⟨y',r0,z0,_⟩:=hv.get' (v.length-1);rw[ey]at r0;omega};have a0:vl v=vl (v.take (v.length-1))+4294967296^(v.length-1)*y:=by{rw[Qx v (v.length-1) O,X5 O,ey,tN,qo (l:=v) O,zx,zQ]};have hV:0<vl v:=by{rw[a0];exact wZ (EY (eQ O) hy) (Nat.le_add_left _ _)};have c0:vl (u.drop k)/vl v*vl v<=vl (u.drop k):=Mq ..;have hg:=qj0 e0 l0 a0 hy c0;have d0:vl (u.drop k)/vl v<4294967296:=by{rw[Bc hV,dx];omega};generalize hd:vl (u.drop k)/vl v=d at*;have g0:G*4294967296+x1<18446744073709551616:=O;have j0:(G*4294967296+x1)/y<18446744073709551616:=wU (sH ..) g0;rw[iN,wk];have w1:wI ((k:Int)+(v.length:Int))=((k+v.length:Nat):Int):=by{rw[wQ,wi O O];omega};have w2:wI (((k+v.length:Nat):Int)-1)=((k+v.length-1:Nat):Int):=by{rw[wQ,wi O O];omega};have w3:wI ((v.length:Int)-1)=((v.length-1:Nat):Int):=by{rw[wQ,wi O O];omega};have w4:wJ (y:Int)=(y:Int):=bp O;have w5:wJ (G:Int)=(G:Int):=bp O;have w6:wJ (x1:Int)=(x1:Int):=bp O;rw[bQ,iP O,w1,w2,w3,iP O,iP O,iP O];simp only[tN,zH];rw[ey,t0,s0,w4,w5,w6,iP O,qnp i0 h0,td,bp j0];obtain⟨g,eg,q0,a1⟩: ∃g:Nat,(if(4294967295:Int)<(((G*4294967296+x1)/y:Nat):Int)then(4294967295:Int)else(((G*4294967296+x1)/y:Nat):Int))=((d+g:Nat):Int)/\d+g<4294967296/\g<4294967296:=by{by_cases c:(4294967295:Int)<(((G*4294967296+x1)/y:Nat):Int);{rw[iP c];exact⟨4294967295-d,O,O,O⟩};{rw[af c];exact⟨(G*4294967296+x1)/y-d,O,O,O⟩}};rw[eg];obtain⟨u1,e1,f1,f2,f3,f4⟩:=qm5 (m:=m) O hu hv hl (j:=k) O b0 hV (v.length:Int) s q hd.symm m g O q0;rw[e1,bS];dsimp only;have w7:wK (d:Int)=(d:Int):=by{rw[fo,i7 d0]};have w8:wI ((k:Int)-1)=(k:Int)-1:=by{rw[wQ,wi O O]};rw[iP O,w7,w8,tN];have k0:vl (q.set k (d:Int))=vl q+4294967296^k*d:=by{have:=J5 (l:=q) (p:=k) (y:=(d:Int)) O;rw[hz k O,Lx,zx,tN]at this;omega};obtain⟨u',q',e2,g1,g2,g3,g4,g5,g6⟩:=qd5 hm hv h1 ey hy s k N u1 (q.set k (d:Int)) O f1 (Zw hq d0) O O (by rw[zU];omega) (λp hp=>by rw[bw O];exact hz p O) (by rw[f4];exact iY _ hV);have K:vl u=vl u1+vl v*(4294967296^k*d):=by{rw[<-f3,zY d,uu]};refine⟨u',q',e2,g1,g2,O,by rw[g4,zU],?_,?_⟩;{rw[g5,K,Ly]};{rw[g6,k0,K,Nat.add_mul_div_left _ _ hV];omega}
def UQ {B:Nat} (h:B≠0):4294967296^((lim B).length-1)<=B:=by refine xm λu=> ?_;have G:=Xq u;have:lim B≠[]:=λh2=>h (Zc.1 h2);have:=RE.2 this;omega
def qm7 {m:Nat} (hm:5000000000<=m) {A B:Nat} (hB:B≠0) (hA:(lim A).length<=400000) (q0:(lim B).length<=400000):
 yi m (lim A) (lim B)=some ((lim (A/B),lim (A%B),()),(),(),()):=by
 rw[yi,q9s O O O,bS,bQ];dsimp only;by_cases c:A<B
 . have hc:da A B= -1:=by unfold da;rw[iP c]
   rw[hc,iP O,vC c,i7 c,Qe]
 . have hc: ¬da A B<0:=by unfold da;rw[af c];split<;>omega
   have hn:1<=(lim B).length:=RE.2 λh2=>hB (Zc.1 h2)
   have m0:(lim B).length<=(lim A).length:=Q9 O;obtain⟨t,et,ht,dt⟩:=(Q7 B).get' ((lim B).length-1);have w1:wI (((lim B).length:Int)-1)=(((lim B).length-1:Nat):Int):=by rw[wQ,wi O O];omega
   have j0:ak t<=32:=Qn O;have w2:wI (32-((ak t:Nat):Int))=((32-ak t:Nat):Int):=by rw[wQ,wi O O];omega
   have e0:t≠0:=by
    intro h0;have h2:=UQ hB;have G:=Qx (lim B) ((lim B).length-1) O;rw[qw,dt,show(lim B).length-1+1=(lim B).length by omega,qo (zJ _),h0]at G
    have h4:=Xr (Q7 B) (k:=(lim B).length-1) O;omega
   have k0:1<=ak t:=by rw[X6 e0];omega
   have i0:tl m (t:Int)=some (((32-ak t:Nat):Int),(),()):=by
    rw[tl,SY ht,bS];dsimp only;rw[w2]
   rw[af hc,w1,iP O,tN,et,i0,bS];dsimp only;generalize hs:32-ak t=s at*;have a0:s<32:=O;obtain⟨ra,ea,a1,a2,a3⟩:=qh0 (m:=m) O (Q7 A) O (n:=s) O;obtain⟨K,eb,b1,b2,b3⟩:=qh0 (m:=m) O (Q7 B) O (n:=s) O;rw[qw]at a3 b3;rw[vC a0]at a2 b2;rw[ea,bS,eb,bS];dsimp only;rw[iP O,aA,af O];have w3:wI (((lim A).length:Int)-((lim B).length:Int))=(((lim A).length-(lim B).length:Nat):Int):=by rw[wQ,wi O O];omega
   have w4:wI ((((lim A).length-(lim B).length:Nat):Int)+1)=(((lim A).length-(lim B).length+1:Nat):Int):=ax O;rw[w3,w4,iP O];simp only[tN];have u:0<2^s:=eQ O
   have g0:B*2^s<4294967296^(lim B).length:=by
    have G:=Qx (lim B) ((lim B).length-1) O;rw[qw,dt,show(lim B).length-1+1=(lim B).length by omega,qo (zJ _),zx,zQ]at G
    have h4:=Xr (Q7 B) (k:=(lim B).length-1) O;have h5:B<4294967296^((lim B).length-1)*(t+1):=by rw[zK,iZ];omega
    have h6:(t+1)*2^s<=4294967296:=by
     have:=Yy t
     calc (t+1)*2^s<=2^ak t*2^s:=zO _ O
      _=2^(ak t+s):=(sM ..).symm
      _=4294967296:=by rw[show ak t+s=32 by omega]
    calc B*2^s<4294967296^((lim B).length-1)*(t+1)*2^s:=Rt h5 u
     _=4294967296^((lim B).length-1)*((t+1)*2^s):=zV ..
     _<=4294967296^((lim B).length-1)*4294967296:=zi _ h6
     _=4294967296^(lim B).length:=by rw[<-Nat.pow_succ,show((lim B).length-1).succ=(lim B).length by omega]
   have J:vl (K.take (lim B).length)=B*2^s:=by
    have G:=Qx K (lim B).length O;rw[Ju (l:=K) (k:=(lim B).length) O (by rw[b3];exact g0),zx,zQ,b3]at G
    exact G.symm
   have gp:(K.take (lim B).length).length=(lim B).length:=by rw[zT];omega
   obtain⟨y,ey,hy,dy⟩:=(b1.take (lim B).length).get' ((lim B).length-1);have b0:=UQ hB;have l0:0<B*2^s:=EY O u
   have d0:0<y:=by
    rcases EX y with h0|h0
    . have G:=Qx (K.take (lim B).length) ((lim B).length-1) O;rw[J,dy,show(lim B).length-1+1=(lim B).length by omega,qo O,h0,zx,zQ]at G
      have h4:=Xr (b1.take (lim B).length) (k:=(lim B).length-1) O;have h5:B*1<=B*2^s:=zi _ u;omega
    . exact h0
   have wj:((((lim A).length-(lim B).length:Nat)):Int)=(((lim A).length-(lim B).length+1:Nat):Int)-1:=O;have c0:A<4294967296^(lim A).length:=by have:=cb (Q7 A);rwa [qw]at this
   have hstart:vl (ra.drop ((lim A).length-(lim B).length+1))<vl (K.take (lim B).length):=by
    rw[J];have G:=Qx ra ((lim A).length-(lim B).length+1) O;rw[a3]at G
    have h4:A*2^s<4294967296^((lim A).length-(lim B).length+1)*(B*2^s):=by
     calc A*2^s<4294967296^(lim A).length*2^s:=Rt c0 u
      _=4294967296^((lim A).length-(lim B).length+1)*(4294967296^((lim B).length-1)*2^s):=by rw[<-Nat.mul_assoc,<-Nat.pow_add,show(lim A).length-(lim B).length+1+((lim B).length-1)=(lim A).length by omega]
      _<=_:=zi _ (zO _ b0)
    have h5:4294967296^((lim A).length-(lim B).length+1)*vl (ra.drop ((lim A).length-(lim B).length+1))<4294967296^((lim A).length-(lim B).length+1)*(B*2^s):=O;exact Lz h5
   obtain⟨u',q',e1,g1,g2,g3,g4,g5,g6⟩:=qd5 hm (b1.take (lim B).length) O (y:=y) (by rw[gp];exact ey) d0 ((s:Nat):Int) ((lim A).length-(lim B).length+1) m ra (List.replicate ((lim A).length-(lim B).length+1) 0) O a1 Qo O O (by rw[zI];exact zJ _) (λp _=>by simp[List.getD,List.getElem?_replicate];split<;>rfl) hstart
   rw[gp]at e1;rw[wj,e1,bS];dsimp only;rw[J,a3]at g5 g6;rw[Qu,zH,Nat.mul_div_mul_right _ _ u]at g6;rw[Nat.mul_mod_mul_right]at g5;rw[zI]at g4;rw[Yx g1 O O,bS];dsimp only;obtain⟨r,er,r1,r2,r3⟩:=Vd (m:=m) O (Q7 (vl u')) (zf (Qw g1) O) (n:=s) O;rw[er,bS,Yx g2 O O,bS];dsimp only;rw[Yx r1 (wU (zf r2 (Qw g1)) O) (zf (zf r2 (Qw g1)) O),bS,r3,qw,g5,g6,Nat.mul_div_cancel _ u]
def Fl {r x:Nat} (K:r<4294967296) (J:x<4294967296):bf .u64 (bz .u64 (r:Int) 32) (x:Int)=((r*4294967296+x:Nat):Int):=by have G:bz .u64 (r:Int) 32=((r*2^32:Nat):Int):=fX (a:=r) (k:=32) O (by rw[show(2:Nat)^32=4294967296 by decide];omega);have u:(2:Nat)^32=4294967296:=by{decide};rw[G,lI (by rw[u];omega) O];have:=IF (i:=32) (b:=x) O r;rw[zY,<-this,u,zY]
section
variable {Q top v1 v2 u2:Nat}
structure QF (Q top v1 v2 u2:Nat):Prop where
 big:Q<4294967296
 ge: ∀q r,q*v1+r=top->r*4294967296+u2<q*v2->Q<q
 fin1: ∀q r,q*v1+r=top->q<4294967296->q*v2<=r*4294967296+u2->q<=Q+1
 fin2: ∀q r,q*v1+r=top->q<=4294967296->4294967296<=r->q<=Q
def qh2 (m:Nat) {u v:LI} {n:Nat} (hn:v.length=n) (h2:2<=n) (c0:u.length=n+1) (hl:n<=1000000)
 (e1:v.getD (n-1) 0=(v1:Int)) (e2:v.getD (n-2) 0=(v2:Int)) (e3:u.getD (n-2) 0=(u2:Int)) (h1:2147483648<=v1) (b0:v1<4294967296) (a0:v2<4294967296) (J:u2<4294967296) (G:QF Q top v1 v2 u2):
 ∀(N k q r:Nat),k<N->4294967296<=r+k*2147483648->q*v1+r=top->r<4294967296->Q<=q->q<=4294967297->
  ∃q':Nat,iK m N u v (n:Int) (q:Int) (r:Int)=some (.inl (u,v,(n:Int),(q':Int),()))/\Q<=q'/\q'<=Q+1/\q'<4294967296
 |0,k,q,r,h,_,_,_,_,_=>O
 |N+1,k,q,r,h,hk,K,hr,g0,hq=>by have w1:wI ((n:Int)-1)=((n-1:Nat):Int):=by{rw[wQ,wi O O];omega};have w2:wI ((n:Int)-2)=((n-2:Nat):Int):=by{rw[wQ,wi O O];omega};have w3:wJ (v1:Int)=(v1:Int):=bp O;have w4:wJ (v2:Int)=(v2:Int):=bp O;have w5:wJ (u2:Int)=(u2:Int):=bp O;have w6:wJ ((r:Int)+(v1:Int))=((r+v1:Nat):Int):=by{rw[<-Int.natCast_add];exact bp O};have i1:(0:Int)<=((n-1:Nat):Int)/\((n-1:Nat):Int)<(v.length:Int):=O;have i2:(0:Int)<=((n-2:Nat):Int)/\((n-2:Nat):Int)<(v.length:Int):=O;have i3:(0:Int)<=((n-2:Nat):Int)/\((n-2:Nat):Int)<(u.length:Int):=O;have down:1<=q->Q<q-> ∃q':Nat,(if(0:Int)<=((n-1:Nat):Int)/\((n-1:Nat):Int)<(v.length:Int)then bif decide (((r+v1:Nat):Int)>4294967295)then some (.inl (u,v,(n:Int),wJ ((q:Int)-1),())) else iK m N u v (n:Int) (wJ ((q:Int)-1)) ((r+v1:Nat):Int) else none)=some (.inl (u,v,(n:Int),(q':Int),()))/\Q<=q'/\q'<=Q+1/\q'<4294967296:=by{intro h0 j0;have w7:wJ ((q:Int)-1)=((q-1:Nat):Int):=by{rw[show(q:Int)-1=((q-1:Nat):Int) by omega];exact bp O};have hs:(q-1)*v1+(r+v1)=top:=by{have:q*v1=(q-1)*v1+v1:=by{rw[<-Nat.succ_mul];congr 1;omega};omega};rw[iP i1,bQ,w7];by_cases c:((r+v1:Nat):Int)>4294967295;{rw[iP c];have:=G.fin2 (q-1) (r+v1) hs O O;have:=G.big;exact⟨q-1,rfl,O,O,O⟩};{rw[af c];have i0:1<=k:=by{rcases EX k with e|e;{subst e;omega};{exact e}};exact qh2 m hn h2 c0 hl e1 e2 e3 h1 b0 a0 J G N (k-1) (q-1) (r+v1) O O hs O O O}};rw[iK,bQ];simp only[w1,w2,zH,tN,e1,e2,e3,w3,w4,w5,w6];by_cases c:(q:Int)>4294967295;{rw[iP c];exact down O (by have:=G.big;omega)};{have d0:q*v2<18446744073709551616:=by{have:q*v2<=4294967295*4294967295:=py O O;omega};have w8:wJ ((q:Int)*(v2:Int))=((q*v2:Nat):Int):=by{rw[<-Int.natCast_mul];exact bp d0};rw[af c,iP i2,iP i3,w8,Fl hr J,bQ];by_cases c2:((q*v2:Nat):Int)>((r*4294967296+u2:Nat):Int);{rw[iP c2];have e0:r*4294967296+u2<q*v2:=O;have:=G.ge q r K e0;exact down O this};{rw[af c2];exact⟨q,rfl,g0,G.fin1 q r K O O,O⟩}}
end
def QF.mk' {U V P top v1 v2 u2 lu u:Nat} (hP:0<P) (hU:U=lu+P*(top*4294967296+u2)) (e0:lu<P) (hV:V=u+P*(v1*4294967296+v2)) (d0:u<P) (h1:2147483648<=v1) (b0:v2<4294967296) (c0:u2<4294967296)
 (a0:U<V*4294967296):QF (U/V) top v1 v2 u2:=by have G:0<V:=by{have:P*1<=P*(v1*4294967296+v2):=zi _ O;omega};refine⟨Lt a0,λq r e h=> ?_,λq r e hq h=> ?_,λq r e hq h=> ?_⟩;{rw[Bc G];have J:top*4294967296+u2+1<=q*(v1*4294967296+v2):=by{rw[<-e,zK,fV,<-Nat.mul_assoc];omega};have K:P*(top*4294967296+u2+1)<=P*(q*(v1*4294967296+v2)):=zi _ J;have k3:P*(q*(v1*4294967296+v2))=q*(P*(v1*4294967296+v2)):=by{rw[uu]};have k4:q*V=q*u+q*(P*(v1*4294967296+v2)):=by{rw[hV,zK]};rw[zK P,iZ]at K;omega};{rcases EX q with h0|h0;{rw[h0];exact oY _};have J:q*(v1*4294967296+v2)<=top*4294967296+u2:=by{rw[<-e,zK,fV,<-Nat.mul_assoc];omega};have K:P*(q*(v1*4294967296+v2))<=P*(top*4294967296+u2):=zi _ J;have k3:P*(q*(v1*4294967296+v2))=q*(P*(v1*4294967296+v2)):=by{rw[uu]};have k4:q*V=q*u+q*(P*(v1*4294967296+v2)):=by{rw[hV,zK]};have k5:q*u<=4294967296*P:=py O O;have k6:P*4294967296<=P*(v1*4294967296+v2):=zi _ O;have k7:(q-1)*V<=U:=by{have:q*V=(q-1)*V+V:=by{rw[<-Nat.succ_mul];congr 1;omega};have:=zY P 4294967296;omega};have:=(Lu G).2 k7;omega};{rw[Lu G];have J:q*(v1*4294967296+v2+1)<=top*4294967296+u2:=by{have a1:q*(v2+1)<=4294967296*4294967296:=py hq O;have a2:q*(v1*4294967296+v2+1)=q*v1*4294967296+q*(v2+1):=by{rw[AW,zK,<-Nat.mul_assoc]};have a3:top*4294967296=q*v1*4294967296+r*4294967296:=by{rw[<-e,fV]};have a4:4294967296*4294967296<=r*4294967296:=zO _ h;omega};have K:P*(q*(v1*4294967296+v2+1))<=P*(top*4294967296+u2):=zi _ J;have k3:P*(q*(v1*4294967296+v2+1))=q*(P*(v1*4294967296+v2))+q*P:=by{rw[uu,zK P,iZ,zK]};have k4:q*V=q*u+q*(P*(v1*4294967296+v2)):=by{rw[hV,zK]};have k5:q*u<=q*P:=zi _ O;omega}
def SH {a:Nat} (u:a<18446744073709551616):qp .u64 (a:Int) 4294967295=((a%4294967296:Nat):Int):=by have:=jG u (show 4294967295<18446744073709551616 by decide);rw[show((4294967295:Nat):Int)=4294967295 from rfl]at this;rw[this,EV _ 32]
def vy {a:Nat} (u:a<18446744073709551616):qp .u64 (a:Int) 1=((a%2:Nat):Int):=by have:=jG u (show 1<18446744073709551616 by decide);rw[show((1:Nat):Int)=1 from rfl]at this;rw[this,EV _ 1]
def Sm {a:Nat}:aK .u64 (a:Int) 32=((a/4294967296:Nat):Int):=cJ (a:=a) (k:=32) O
def qi1 {x lo u:Nat} (K:x<4294967296) (G:lo<4294967296) (hb:u<=1): ∃d e:Nat,d<4294967296/\e<=1/\x+4294967296*e=d+lo+u/\
 wK (qp .u64 (wJ ((wJ ((x:Int)-(lo:Int)))-(u:Int))) 4294967295)=(d:Int)/\qp .u64 (aK .u64 (wJ ((wJ ((x:Int)-(lo:Int)))-(u:Int))) 32) 1=(e:Int):=by have J:wJ ((wJ ((x:Int)-(lo:Int)))-(u:Int))=((x:Int)-lo-u)%18446744073709551616:=by{rw[dJ,dJ];omega};rw[J];by_cases c:lo+u<=x;{rw[show((x:Int)-lo-u)%18446744073709551616=((x-lo-u:Nat):Int) by omega,SH O,Sm,vy O,fo];refine⟨x-lo-u,0,O,O,O,?_,?_⟩;{congr 1;omega};{congr 1;omega}};{rw[show((x:Int)-lo-u)%18446744073709551616=((18446744073709551616-(lo+u-x):Nat):Int) by omega,SH O,Sm,vy O,fo];refine⟨x+4294967296-lo-u,1,O,O,O,?_,?_⟩;{congr 1;omega};{congr 1;omega}}
def q5i {l:LI} (h:Lm l) {k y:Nat} (G:k<l.length) (e:l.getD k 0=(y:Int)):vl (l.take (k+1))=vl (l.take k)+4294967296^k*y:=by have J:=Qx l k O;have h2:=Qx l (k+1) O;have u:=X5 G;rw[e,tN]at u;rw[u,zK,<-Nat.mul_assoc]at J;rw[gM]at h2;omega
section
variable {m n:Nat} {v:LI} (hv:Lm v) (hn:v.length=n) (hl:n<=1000000)
include hv hn hl
theorem qq9 {q U:Nat} (hq:q<4294967296) (t1:LI) (t5:Int): ∀(N i:Nat) (u:LI) (G J:Nat),n-i<N->i<=n->Lm u->u.length=n+1->G<4294967296->J<=1->
 vl u+q*vl (v.take i)=U+4294967296^i*(J+G)->
 ∃(u':LI) (K a0:Nat),Lm u'/\u'.length=n+1/\K<4294967296/\a0<=1/\vl u'+q*vl v=U+4294967296^n*(a0+K)/\
  jP m N u t1 t5 (q:Int) (G:Int) (J:Int) v (v.length:Int) (i:Int)=some (.inl (u',t1,t5,(q:Int),(K:Int),(a0:Int),())):=by intro N;induction N with|zero=>{intro i u G J h;omega}|succ N ih=>{intro i u G J h hi hu b0 hc hb hinv;rw[jP,bQ];by_cases c:i<n;{obtain⟨x,ex,hx,_⟩:=hu.get' i;obtain⟨y,ey,hy,_⟩:=hv.get' i;have hp:q*y+G<18446744073709551616:=by{have:q*y<=4294967295*4294967295:=py O O;omega};have c0:q*y<18446744073709551616:=O;have wx:wJ (x:Int)=(x:Int):=bp O;have wy:wJ (y:Int)=(y:Int):=bp O;have wq:wJ ((q:Int)*(y:Int))=((q*y:Nat):Int):=by{rw[<-Int.natCast_mul];exact bp c0};have wp:wJ (((q*y:Nat):Int)+(G:Int))=((q*y+G:Nat):Int):=by{rw[<-Int.natCast_add];exact bp hp};rw[iP O,iP O,iP O,iP O];simp only[tN,zH,ex,ey,wx,wy,wq,wp,SH hp,Sm];obtain⟨d,e,hd,he,d0,g1,g2⟩:=qi1 (lo:=(q*y+G)%4294967296) hx (iY _ (by decide)) hb;have e0:qp .u64 (aK .u64 (wJ ((wJ ((x:Int)-(((q*y+G)%4294967296:Nat):Int)))-(J:Int))) 32) 1=(e:Int):=g2;rw[g1,e0,wQ,ax O];refine ih (i+1) (u.set i (d:Int)) ((q*y+G)/4294967296) e O O (Zw hu hd) (by rw[zU];exact b0) (Lt O) he ?_;have s1:=J5 (l:=u) (p:=i) (y:=(d:Int)) O;rw[ex,tN,tN]at s1;have s2:=q5i hv (k:=i) (y:=y) O ey;have s3:=ur (q*y+G) 4294967296;generalize g0:(q*y+G)%4294967296=lo at*;generalize h0:(q*y+G)/4294967296=ca at*;rw[s2,gM];generalize 4294967296^i=P at*;have k1:P*x+P*(4294967296*e)=P*d+P*lo+P*J:=by{rw[<-Nat.mul_add,d0,zK,zK]};have k2:P*(4294967296*ca)+P*lo=P*(q*y)+P*G:=by{rw[<-Nat.mul_add,s3,zK]};have k3:q*(vl (v.take i)+P*y)=q*vl (v.take i)+P*(q*y):=by{rw[zK,uu]};have k4:P*4294967296*(e+ca)=P*(4294967296*e)+P*(4294967296*ca):=by{rw[zV,zK,zK]};have k5:P*(J+G)=P*J+P*G:=zK ..;rw[k3,k4];rw[k5]at hinv;omega};{have:i=n:=O;subst this;rw[af O];rw[ux O]at hinv;exact⟨u,G,J,hu,b0,hc,hb,hinv,rfl⟩}}
theorem qpg {U:Nat} (t5 t7:Int): ∀(N i:Nat) (u:LI) (G:Nat),n-i<N->i<=n->Lm u->u.length=n+1->G<=1->
 vl u+4294967296^i*G=U+vl (v.take i)->
 ∃(u':LI) (J:Nat),Lm u'/\u'.length=n+1/\J<=1/\vl u'+4294967296^n*J=U+vl v/\
  jO m N u t5 t7 (G:Int) v (v.length:Int) (i:Int)=some (.inl (u',t5,t7,(J:Int),())):=by intro N;induction N with|zero=>{intro i u G h;omega}|succ N ih=>{intro i u G h hi hu K hc hinv;rw[jO,bQ];by_cases c:i<n;{obtain⟨x,ex,hx,_⟩:=hu.get' i;obtain⟨y,ey,hy,_⟩:=hv.get' i;have wx:wJ (x:Int)=(x:Int):=bp O;have wy:wJ (y:Int)=(y:Int):=bp O;have ws:wJ ((x:Int)+(y:Int))=((x+y:Nat):Int):=by{rw[<-Int.natCast_add];exact bp O};have wp:wJ (((x+y:Nat):Int)+(G:Int))=((x+y+G:Nat):Int):=by{rw[<-Int.natCast_add];exact bp O};rw[iP O,iP O,iP O,iP O];simp only[tN,zH,ex,ey,wx,wy,ws,wp,SH (show x+y+G<18446744073709551616 by omega),Sm,fo];rw[wQ,ax O];refine ih (i+1) (u.set i (((x+y+G)%4294967296%4294967296:Nat):Int)) ((x+y+G)/4294967296) O O (Zw hu O) (by rw[zU];exact K) O ?_;have s1:=J5 (l:=u) (p:=i) (y:=(((x+y+G)%4294967296%4294967296:Nat):Int)) O;rw[ex,tN,tN]at s1;have s2:=q5i hv (k:=i) (y:=y) O ey;have s3:4294967296*((x+y+G)/4294967296)+(x+y+G)%4294967296%4294967296=x+y+G:=O;generalize (x+y+G)%4294967296%4294967296=d at*;generalize (x+y+G)/4294967296=ca at*;rw[s2,gM];generalize 4294967296^i=P at*;have k1:P*(4294967296*ca)+P*d=P*x+P*y+P*G:=by{rw[<-Nat.mul_add,s3,zK,zK]};rw[zV];omega};{have:i=n:=O;subst this;rw[af O];rw[ux O]at hinv;exact⟨u,G,hu,K,hc,hinv,rfl⟩}}
end
end Go.Vs.F
set_option maxRecDepth 100000
namespace Go.Vs.F
def AC {m:Nat} (hm:2000000<m) {u v:LI} (hu:Lm u) (hv:Lm v) {n:Nat} (hn:v.length=n) (g0:u.length=n+1) (h2:2<=n) (hl:n<=1000000) {v1:Nat} (e1:v.getD (n-1) 0=(v1:Int)) (h1:2147483648<=v1)
 (p1:vl u<vl v*4294967296): ∃w,BW m u v=some (((vl u/vl v:Nat):Int),w,(),())/\Lm w/\w.length=n+1/\vl w=vl u%vl v:=by obtain⟨un,f1,t0,g1⟩:=hu.get' n;obtain⟨um,f2,u0,g2⟩:=hu.get' (n-1);obtain⟨u2,f3,h0,g3⟩:=hu.get' (n-2);obtain⟨G,b0,s0,k1⟩:=hv.get' (n-1);obtain⟨v2,e2,e0,k2⟩:=hv.get' (n-2);have:G=v1:=by{rw[b0]at e1;omega};subst this;have q1:=Qx u (n-2) O;have q2:=Qx v (n-2) O;have q3:=Qx u (n-1) O;have q4:=Qx v (n-1) O;have t1:=Xr hu (k:=n-2) O;have t2:=Xr hv (k:=n-2) O;have t3:=Xr hu (k:=n-1) O;have z1:vl (u.drop (n+1))=0:=qo O;have z2:vl (v.drop n)=0:=qo O;rw[z1]at g1;rw[show n-1+1=n by omega]at g2 k1;rw[show n-2+1=n-1 by omega]at g3 k2;rw[g1]at g2;rw[g2]at g3 q3;rw[z2]at k1;rw[k1]at k2 q4;rw[g3]at q1;rw[k2]at q2;obtain⟨top,i0⟩: ∃top,top=un*4294967296+um:=⟨_,rfl⟩;have hU:vl u=vl (u.take (n-2))+4294967296^(n-2)*(top*4294967296+u2):=by{rw[q1];congr 2;omega};have hV:vl v=vl (v.take (n-2))+4294967296^(n-2)*(G*4294967296+v2):=by{rw[q2];congr 2;omega};have r1:vl u=vl (u.take (n-1))+4294967296^(n-1)*top:=by{rw[q3];congr 2;omega};have m1:vl v=vl (v.take (n-1))+4294967296^(n-1)*G:=by{rw[q4,zx,zQ]};have d2:0<4294967296^(n-2):=eQ O;have y1:=QF.mk' d2 hU t1 hV t2 h1 e0 h0 p1;have x2:0<4294967296^(n-1):=eQ O;have m0:0<vl v:=by{have:4294967296^(n-1)*1<=4294967296^(n-1)*G:=zi _ O;omega};have w0:vl u/vl v<=top/G:=qj0 r1 t3 m1 O (Mq ..);have hle:top/G<=4294967297:=by{have a1:4294967296^(n-1)*top<4294967296^(n-1)*((G+1)*4294967296):=by{have t4:=Xr hv (k:=n-1) O;have:vl v*4294967296<=4294967296^(n-1)*(G+1)*4294967296:=zO _ (by rw[zK,iZ];omega);rw[zV]at this;omega};have a2:=Lz a1;rw[fV]at a2;have h5:top<4294967298*G:=O;have:top/G<4294967298:=(Bc O).2 h5;omega};have o2:=iY top (show 0<G by omega);have d1:=ur top G;have p2:top<18446744073709551616:=O;obtain⟨q,r0,b1,b2,b3⟩:=qh2 m hn h2 g0 hl b0 e2 f3 h1 s0 e0 h0 y1 m 2 (top/G) (top%G) O O (by rw[zY];exact d1) O w0 hle;obtain⟨u1,j2,m2,c1,c2,c3,c4,c5,c6⟩:=qq9 (m:=m) hv hn hl (q:=q) (U:=vl u) b3 v (n:Int) m 0 u 0 0 O O hu g0 O O (by simp[vl]);obtain⟨x,ex,hx,_⟩:=c1.get' n;obtain⟨d,e,hd,he,j1,s1,s2⟩:=qi1 hx c3 c4;have w1:wI ((n:Int)-1)=((n-1:Nat):Int):=by{rw[wQ,wi O O];omega};have w3:wJ (G:Int)=(G:Int):=bp O;have w4:wJ (un:Int)=(un:Int):=bp O;have w5:wJ (um:Int)=(um:Int):=bp O;have wx:wJ (x:Int)=(x:Int):=bp O;have wt:wJ ((top/G:Nat):Int)=((top/G:Nat):Int):=bp O;have i1:(0:Int)<=((n:Nat):Int)/\((n:Nat):Int)<(u.length:Int):=O;have i2:(0:Int)<=((n-1:Nat):Int)/\((n-1:Nat):Int)<(u.length:Int):=O;have i3:(0:Int)<=((n-1:Nat):Int)/\((n-1:Nat):Int)<(n:Int):=O;have i4:(0:Int)<=((n:Nat):Int)/\((n:Nat):Int)<(u1.length:Int):=O;have d0:=J5 (l:=u1) (p:=n) (y:=(d:Int)) O;rw[ex,tN,tN]at d0;have l1:Lm (u1.set n (d:Int)):=Zw c1 hd;have l2:(u1.set n (d:Int)).length=n+1:=by{rw[zU];exact c2};have J:vl (u1.set n (d:Int))+q*vl v=vl u+4294967296^n*(4294967296*e):=by{have k1:4294967296^n*x+4294967296^n*(4294967296*e)=4294967296^n*d+4294967296^n*j2+4294967296^n*m2:=by{rw[<-Nat.mul_add,j1,zK,zK]};rw[zK]at c5;omega};have hdiv:=ur (vl u) (vl v);have w2:=iY (vl u) m0;rw[BW];rw[hn,tN,w1,tN,zH,zH];rw[iP i1,iP i2,iP i3,b0,w3,iP O,iP i3,iP O,f1,f2,w4,w5,Fl t0 u0,<-i0,td,tm,wt,r0,bS];dsimp only;rw[show jP m m u v (n:Int) (q:Int) 0 0 v (v.length:Int) 0=_ from c6,bS];dsimp only;rw[iP i4,iP i4,tN,zH,ex,wx,aA,s1,s2];have hr:q*vl v=vl v*q:=zY ..;by_cases z0:e=0;{subst z0;have hq:q=vl u/vl v:=by{have:q<=vl u/vl v:=(Lu m0).2 (by simp only[zx,zQ]at J;omega);omega};rw[iP O,fo,i7 b3];refine⟨_,by rw[hq],l1,l2,?_⟩;simp only[zx,zQ]at J;rw[hr,hq]at J;omega};{have x0:e=1:=O;subst x0;have k0:=cb l1;rw[l2,gM]at k0;rw[iZ]at J;have hq:q=vl u/vl v+1:=by{rcases fQ (vl u/vl v) q with h|h;{omega};{exfalso;have:q*vl v<=vl u/vl v*vl v:=zO _ h;have:=Mq (vl u) (vl v);omega}};have r2:1<=q:=by{rw[hq];exact Nat.le_add_left 1 _};have v0:q-1=vl u/vl v:=by{rw[hq,RC]};obtain⟨u3,K,a1,a2,a3,a4,a5⟩:=qpg (m:=m) hv hn hl (U:=vl (u1.set n (d:Int))) (n:Int) (q:Int) m 0 (u1.set n (d:Int)) 0 O O l1 l2 O (by simp[vl]);obtain⟨y,ey,hy,_⟩:=a1.get' n;have i5:(0:Int)<=((n:Nat):Int)/\((n:Nat):Int)<(u3.length:Int):=O;have wq:wJ ((q:Int)-1)=((q-1:Nat):Int):=by{rw[show(q:Int)-1=((q-1:Nat):Int) by omega];exact bp O};have wc:wK (K:Int)=(K:Int):=by{rw[fo,i7 O]};have wy:wK ((y:Int)+(K:Int))=(((y+K)%4294967296:Nat):Int):=by{rw[<-Int.natCast_add];exact fo};rw[af O,show jO m m (u1.set n (d:Int)) (n:Int) (q:Int) 0 v (v.length:Int) 0=_ from a5,bS];dsimp only;rw[iP i5,iP i5,tN,zH,ey,wc,wy,wq,fo,i7 (show q-1<4294967296 by omega)];have a0:(y+K)%4294967296<4294967296:=iY _ (by decide);refine⟨_,by rw[v0],Zw a1 a0,by rw[zU];exact a2,?_⟩;have c0:=J5 (l:=u3) (p:=n) (y:=(((y+K)%4294967296:Nat):Int)) O;rw[ey,tN,tN]at c0;have j0:=cb (Zw (p:=n) a1 a0);rw[zU,a2,gM]at j0;have q0:=cb hv;rw[hn]at q0;have l0:=ur (y+K) 4294967296;have k1:4294967296^n*(4294967296*((y+K)/4294967296))+4294967296^n*((y+K)%4294967296)=4294967296^n*y+4294967296^n*K:=by{rw[<-Nat.mul_add,l0,zK]};have k2:q*vl v=vl v*(vl u/vl v)+vl v:=by{rw[hq,zY,zK,iZ]};have hf:(y+K)/4294967296=0\/(y+K)/4294967296=1:=O;generalize (y+K)/4294967296=f at*;generalize (y+K)%4294967296=g at*;generalize 4294967296^n=P at*;rcases hf with rfl|rfl;{exfalso;simp only[zx]at k1;omega};{omega}}
end Go.Vs.F
set_option maxRecDepth 100000
namespace Go.Vs.F
def UR {a b:LI} (J:Lm a) (G:Lm b):Lm (a++b):=λx u=>(zX.1 u).elim (J x) (G x)
def qo0 {m:Nat} (hm:2000000<m) {v:LI} (hv:Lm v) {n:Nat} (hn:v.length=n) (h2:2<=n) {v1:Nat} (e1:v.getD (n-1) 0=(v1:Int)) (h1:2147483648<=v1) {k U:Nat} (hk:k+n<=1000000) (t8:Int):
 ∀(j N:Nat) (u q:LI),j<N->j<=k->Lm u->Lm q->u.length=k+n->q.length=k->(∀p,p<j->q.getD p 0=0)->vl (u.drop j)<vl v->vl u+vl v*vl q=U->
  ∃u' q',jS m N q t8 v u (n:Int) ((j:Int)-1)=some (.inl (q',t8,u',(n:Int),()))/\Lm u'/\Lm q'/\u'.length=k+n/\q'.length=k/\vl u'<vl v/\vl u'+vl v*vl q'=U:=by intro j;induction j with|zero=>{intro N u q hN hj hu hq b0 K hz hr hs;obtain⟨N,rfl⟩: ∃M,N=M+1:=⟨N-1,O⟩;rw[jS,bQ,af O];exact⟨u,q,rfl,hu,hq,b0,K,by rwa [i6]at hr,hs⟩}|succ p ih=>{intro N u q hN hj hu hq b0 K hz hr hs;obtain⟨N,rfl⟩: ∃M,N=M+1:=⟨N-1,O⟩;have g0:=cb hv;rw[hn]at g0;have i0:(u.drop (p+1)).drop n=u.drop (p+(n+1)):=by{rw[Lw];congr 1;omega};have J:vl (u.drop (p+(n+1)))=0:=by{rw[<-i0];exact Ju (by rw[iA];omega) O};obtain⟨x,ex,hx,dx⟩:=hu.get' p;have e0:((u.drop p).take (n+1)).length=n+1:=by{rw[zT,iA];omega};have hw:vl (u.drop p)=vl ((u.drop p).take (n+1)):=by{have:=Qx (u.drop p) (n+1) (by rw[iA];omega);rw[Lw,J,zx,zQ]at this;exact this};have G:vl ((u.drop p).take (n+1))<vl v*4294967296:=by{rw[<-hw,dx];omega};obtain⟨w,d1,d2,d3,d4⟩:=AC hm ((hu.drop p).take (n+1)) hv hn e0 h2 O e1 h1 G;have l0:0<vl v:=O;have hd:vl ((u.drop p).take (n+1))/vl v<4294967296:=Lt G;generalize k0:vl ((u.drop p).take (n+1))/vl v=d at*;have j0:vl v*d+vl w=vl ((u.drop p).take (n+1)):=by{rw[<-k0,d4];exact ur ..};have d0:vl w<vl v:=by{rw[d4];exact iY _ l0};have w0:wI ((p:Int)+(n:Int))=((p+n:Nat):Int):=by{rw[wQ,wi O O];omega};have w1:wI (((p+n:Nat):Int)+1)=((p+n+1:Nat):Int):=ax O;have ei:((p+1:Nat):Int)-1=(p:Int):=O;rw[jS,ei,bQ,iP O,w0,w1,iP O];simp only[tN,zH];rw[show p+n+1-p=n+1 by omega,iP O,d1,bS];dsimp only;rw[iP O,wQ,wi O O];have h0:Lm (u.take p++(w++u.drop (p+(n+1)))):=UR (hu.take p) (UR d2 (hu.drop _));have c0:(u.take p).length=p:=by{rw[zT];omega};have a0:(u.take p++(w++u.drop (p+(n+1)))).length=k+n:=by{rw[zG,zG,c0,d3,iA];omega};have s1:=J5 (l:=q) (p:=p) (y:=(d:Int)) O;rw[hz p O,Lx,zx,zQ,tN]at s1;have s2:=Qx u p O;rw[hw,<-j0]at s2;have s3:vl (u.take p++(w++u.drop (p+(n+1))))=vl (u.take p)+4294967296^p*vl w:=by{rw[vN,vN,J,zx,zQ,c0]};refine ih N _ (q.set p (d:Int)) O O h0 (Zw hq hd) a0 (by rw[zU];exact K) (λp' m0=>by rw[bw O];exact hz p' O) ?_ ?_;{have e:(u.take p++(w++u.drop (p+(n+1)))).drop p=w++u.drop (p+(n+1)):=by{rw[List.drop_append_of_le_length O,List.drop_of_length_le O,vH]};rw[e,vN,J,zx,zQ];exact d0};{rw[s3,s1,zK];rw[zK]at s2;have:vl v*(4294967296^p*d)=4294967296^p*(vl v*d):=uu ..;omega}}
end Go.Vs.F
set_option maxRecDepth 100000
namespace Go.Vs.F
def qci {m:Nat} (hm:5000000<=m) {A B:Nat} (hB:B≠0) (hA:(lim A).length<=400000) (m0:(lim B).length<=1000000):
 rA m (lim A) (lim B)=some ((lim (A/B),lim (A%B),()),(),(),()):=by
 by_cases hsmall:B<4294967296
 . exact qce O O O hsmall
 by_cases J:A<B
 . have hc:da A B= -1:=by unfold da;rw[iP J]
   rw[rA,Je O O m0,bS,bQ];dsimp only;rw[hc,iP O,Nh O,bS,vC J,i7 J,Qe]
 . have m1:(lim B).length<=(lim A).length:=Q9 O;have hc: ¬da A B<0:=by unfold da;rw[af J];split<;>omega
   obtain⟨n,hn⟩: ∃n,n=(lim B).length:=⟨_,rfl⟩;obtain⟨L,hL⟩: ∃L,L=(lim A).length:=⟨_,rfl⟩
   have h2:2<=n:=by
    rcases fQ n 2 with h|h
    . exfalso;have:=cb (Q7 B);rw[qw,<-hn]at this;have G:4294967296^n<=4294967296^1:=zu O O;rw[Nat.pow_one]at G;omega
    . exact h
   obtain⟨t,et,ht,dt⟩:=(Q7 B).get' (n-1);have w1:wI ((n:Int)-1)=((n-1:Nat):Int):=by rw[wQ,wi O O];omega
   have k1:ak t<=32:=Qn O;have w2:wI (32-((ak t:Nat):Int))=((32-ak t:Nat):Int):=by rw[wQ,wi O O];omega
   have g0:=Qx (lim B) (n-1) O;rw[qw,dt,show n-1+1=n by omega,qo O,zx,zQ]at g0
   have i1:=Xr (Q7 B) (k:=n-1) O;have j0:=UQ hB;rw[<-hn]at j0
   have e0:t≠0:=by
    intro h0;rw[h0,zx,zQ]at g0;omega
   have l1:1<=ak t:=by rw[X6 e0];omega
   have v0:tl m (t:Int)=some (((32-ak t:Nat):Int),(),()):=by
    rw[tl,SY ht,bS];dsimp only;rw[w2]
   generalize hs:32-ak t=s at*
   have i0:s<=31:=O;have u:0<2^s:=eQ O
   have f1:2147483648<=t*2^s:=by
    have G:=Nn e0
    calc 2147483648=2^(ak t-1)*2^s:=by rw[<-Nat.pow_add,show ak t-1+s=31 by omega]
     _<=t*2^s:=zO _ G
   have d0:(t+1)*2^s<=4294967296:=by
    have:=Yy t
    calc (t+1)*2^s<=2^ak t*2^s:=zO _ O
     _=2^(ak t+s):=(sM ..).symm
     _=4294967296:=by rw[show ak t+s=32 by omega]
   have z0:4294967296^(n-1)*4294967296=4294967296^n:=by rw[<-Nat.pow_succ,show(n-1).succ=n by omega]
   have u0:B*2^s<4294967296^n:=by
    have h5:B<4294967296^(n-1)*(t+1):=by rw[zK,iZ];omega
    calc B*2^s<4294967296^(n-1)*(t+1)*2^s:=Rt h5 u
     _=4294967296^(n-1)*((t+1)*2^s):=zV ..
     _<=4294967296^(n-1)*4294967296:=zi _ d0
     _=4294967296^n:=z0
   have b1:B<=B*2^s:=Nat.le_mul_of_pos_right _ u
   have gp:(lim (B*2^s)).length=n:=by
    have a1:=Xq u0;have a2:=Q9 b1;omega
   obtain⟨v1,ev,h1,dv⟩:=(Q7 (B*2^s)).get' (n-1);have t0:=Qx (lim (B*2^s)) (n-1) O;rw[qw,dv,show n-1+1=n by omega,qo O,zx,zQ]at t0
   have g1:=Xr (Q7 (B*2^s)) (k:=n-1) O
   have hv1lo:2147483648<=v1:=by
    have a1:4294967296^(n-1)*(t*2^s)<=B*2^s:=by
     rw[<-Nat.mul_assoc];exact zO _ O
    have a2:4294967296^(n-1)*(t*2^s)<4294967296^(n-1)*(v1+1):=by rw[zK _ v1,iZ];omega
    have:=Lz a2;omega
   obtain⟨k,hk⟩: ∃k,k=L+1-n:=⟨_,rfl⟩;have q0:=cb (Q7 A);rw[qw,<-hL]at q0;have e1:2^s<=2147483648:=zf (zu O i0) (by decide)
   have r0:A*2^s<4294967296^L*2147483648:=wU (zi _ e1) (Rt q0 O)
   have hlenA:(lim (A*2^s)).length<=L+1:=by
    refine Xq (wZ r0 ?_);rw[gM];exact zi _ O
   have d1:0<(lim (A*2^s)).length:=by
    refine RE.2 λh=> ?_
    have G:=Zc.1 h;rcases Rp.1 G with h|h<;>omega
   obtain⟨R,hR⟩: ∃R,R=(lim (A*2^s)).take (List.replicate (L+1) (0:Int)).length++(List.replicate (L+1) (0:Int)).drop (lim (A*2^s)).length:=⟨_,rfl⟩
   have b0:R=lim (A*2^s)++List.replicate (L+1-(lim (A*2^s)).length) (0:Int):=by
    rw[hR,zI,ux hlenA,List.drop_replicate]
   have l0:R.length=k+n:=by rw[b0,zG,zI];omega
   have x0:Lm R:=by rw[b0];exact UR (Q7 _) Qo
   have k0:vl R=A*2^s:=by rw[b0,vN,Qu,zx,zQ,qw]
   have hdrop:vl (R.drop k)<vl (lim (B*2^s)):=by
    rw[qw];have G:=Qx R k O;rw[k0]at G
    have h4:4294967296^k*(B*2^s)>=4294967296^L*2147483648:=by
     have h5:4294967296^(n-1)*2147483648<=B*2^s:=by
      have:=zi (4294967296^(n-1)) hv1lo;omega
     have h6:=zi (4294967296^k) h5;rw[<-Nat.mul_assoc,<-Nat.pow_add,show k+(n-1)=L by omega]at h6
     exact h6
    refine Lz (a:=4294967296^k) ?_;omega
   obtain⟨u',q',r1,r2,r3,r4,r5,r6,r7⟩:=qo0 (m:=m) O (Q7 (B*2^s)) gp h2 ev hv1lo (k:=k) (U:=A*2^s) O (s:Int) k m R (List.replicate k 0) O (zJ _) x0 Qo l0 (by simp) (λp hp=>by simp[List.getD,hp]) hdrop (by rw[Qu,zx,zQ];exact k0)
   rw[qw]at r6 r7;have w0:0<B*2^s:=O
   have hq:vl q'=A/B:=by
    have:vl q'=A*2^s/(B*2^s):=by
     rw[<-r7,pJ,Rr w0,vC r6,zQ]
    rw[this,Nat.mul_div_mul_right _ _ u]
   have hr:vl u'=(A%B)*2^s:=by
    have:vl u'=A*2^s%(B*2^s):=by
     rw[<-r7,pJ,Rq,i7 r6]
    rw[this,Nat.mul_mod_mul_right]
   have wL:wI ((L:Int)+1)=((L+1:Nat):Int):=ax O;have wk:wI (((k+n:Nat):Int)-(n:Int))=(k:Int):=by rw[wQ,wi O O];omega
   have s0:wI ((k:Int)-1)=(k:Int)-1:=by rw[wQ,wi O O]
   have a0:=uF (m:=m) O (Q7 B) O (n:=s) O;have K:=uF (m:=m) O (Q7 A) O (n:=s) O;rw[qw]at a0 K;rw[rA,Je O O m0,bS,bQ];dsimp only;rw[af hc,<-hn,<-hL,aA,af O,w1,iP O,tN,et,v0,bS];dsimp only;rw[a0,bS,wL,iP O,K,bS,tN];dsimp only;rw[iP ⟨d1,by rw[zI];omega⟩,<-hR,l0,gp,wk,iP O,tN,zI,s0,r1,bS]
   dsimp only
   have c0:vl (u'.take n)=vl u':=by
    have G:=Qx u' n O;rw[Ju (l:=u') (k:=n) O O,zx,zQ]at G;exact G.symm
   have j1:(u'.take n).length=n:=by rw[zT];omega
   rw[iP O,tN,Qz (r2.take n) O O,bS,c0,hr];dsimp only
   rw[UN O (by
    have:=Qw (r2.take n);rw[c0,hr]at this;omega) O,bS,Qz r3 O O,bS,hq,Nat.mul_div_cancel _ u]
end Go.Vs.F
set_option maxRecDepth 100000
namespace Go.Vs.F
def qjk {m:Nat} (hm:5000000<=m) {A B:Nat} (u:B≠0) (hA:(lim A).length<=400000) (K:(lim B).length<=400000):
 yj m false (lim A) false (lim B)=some (((false,lim (A/B),()),(false,lim (A%B),()),0,()),(),(),()):=by have h1:(lim B).length≠0:=λh=>u (Zc.1 (List.eq_nil_of_length_eq_zero h));have J:(lim (A/B)).length<=1000001:=zf (Q9 (sH ..)) O;have G:(lim (A%B)).length<=1000001:=zf (Q9 (uA (iY _ O))) (by omega:(lim B).length<=1000001);have b1:=nx (m:=m) O J false;have b2:=nx (m:=m) O G false;rw[yj,Qz (Q7 B) O O,qw,bS,aA,af (show¬(((lim B).length:Int)=0) by omega),Qz (Q7 A) O O,qw,bS];dsimp only;rw[qci hm u hA O,bS];dsimp only;rw[cond_false,show(!(false==false))=false from rfl,b1,bS,b2,bS];rw[show(if(false=true)then-((A/B:Nat):Int)else((A/B:Nat):Int))=((A/B:Nat):Int)from af (by simp),show(if(false=true)then-((A%B:Nat):Int)else((A%B:Nat):Int))=((A%B:Nat):Int)from af (by simp),X7,X7]
def qju {v n j:Nat} (hn:1<=n) (more:Bool):dG v (n+j) more=dG (v/2^j) n (more||decide (v%2^j≠0)):=by have hJ:0<2^j:=eQ O;have e:v%2^(n+j)=2^j*(v/2^j%2^n)+v%2^j:=by{rw[pJ n j,sM,Nat.mod_mul,pJ]};have hc:=iY v hJ;obtain⟨h,hh⟩: ∃h,2^n=2*h:=⟨2^(n-1),by rw[<-Nat.pow_succ',show(n-1).succ=n by omega]⟩;have ep:2^(n+j)=2^j*(2*h):=by{rw[pJ n j,sM,hh]};unfold dG;rw[e,ep,hh];generalize v/2^j%(2*h)=a;generalize a0:v%2^j=c at*;generalize 2^j=J at*;have K:J*(2*h)=2*(J*h):=uu ..;have G:2*(J*a+c)=2*(J*a)+2*c:=by{rw[zK]};rw[K,G];by_cases c1:a<h;{have:J*(a+1)<=J*h:=zi _ c1;rw[zK,iZ]at this;rw[iP O,iP (show 2*a<2*h by omega)]};{have h3:J*h<=J*a:=zi _ O;rw[af O,af (show¬(2*a<2*h) by omega)];by_cases c2:a=h;{subst c2;by_cases u:c=0;{subst u;cases more<;>simp};{rw[af O,af (by simp[u])]}};{have h4:J*(h+1)<=J*a:=zi _ O;rw[zK,iZ]at h4;rw[af O,af (show¬(2*a=2*h/\(more||decide (c≠0))=false)from λq=>by omega)]}}
def qlr {neg:Bool} {v n j:Nat} (hn:1<=n) (more:Bool) (mode:Int):gU neg v (n+j) more mode=gU neg (v/2^j) n (more||decide (v%2^j≠0)) mode:=by have hJ:0<2^j:=eQ O;have e:v%2^(n+j)=2^j*(v/2^j%2^n)+v%2^j:=by{rw[pJ n j,sM,Nat.mod_mul,pJ]};have ed:v/2^(n+j)=v/2^j/2^n:=by{rw[Nat.div_div_eq_div_mul,<-Nat.pow_add,pJ]};unfold gU;rw[qju hn,ed];have u:(v%2^(n+j)=0/\more=false)↔(v/2^j%2^n=0/\(more||decide (v%2^j≠0))=false):=by{rw[e];constructor;{rintro ⟨G,h2⟩;have K:v%2^j=0:=O;have J:2^j*(v/2^j%2^n)=0:=O;rcases Rp.1 J with h|h;{omega};{exact⟨h,by simp[h2,K]⟩}};{rintro ⟨G,h2⟩;simp only[RG,decide_eq_false_iff_not,Decidable.not_not]at h2;rw[G,h2.2];exact⟨by simp,h2.1⟩}};by_cases c:v%2^(n+j)=0/\more=false;{rw[iP c,iP (u.1 c)]};{rw[af c,af (λh=>c (u.2 h))]}
def qji {X Y j:Nat} (u:0<Y):X*2^j/Y/2^j=X/Y/\(X%Y=0↔(X*2^j%Y=0/\X*2^j/Y%2^j=0)):=by have G:0<2^j:=eQ O;refine⟨by rw[Nat.div_div_eq_div_mul,Nat.mul_div_mul_right _ _ G],λh=> ?_,λ⟨J,h2⟩=> ?_⟩;{obtain⟨q,rfl⟩:=Nat.dvd_of_mod_eq_zero h;rw[zV,Nat.mul_mod_right,Nat.mul_div_cancel_left _ u,Nat.mul_mod_left];exact⟨rfl,rfl⟩};{obtain⟨v,hv⟩:=Nat.dvd_of_mod_eq_zero J;rw[hv,Nat.mul_div_cancel_left _ u]at h2;obtain⟨w,rfl⟩:=Nat.dvd_of_mod_eq_zero h2;have:X=Y*w:=by{refine Nat.eq_of_mul_eq_mul_right G ?_;rw[hv,zV,zY (2^j) w]};rw[this,Nat.mul_mod_right]}
end Go.Vs.F
set_option maxRecDepth 100000
namespace Go.Vs.F
def kQ (X Y prec:Nat):Nat:=prec+2+ak Y-ak X
def qt5 {v k:Nat} (h:2^k<=v):k+1<=ak v:=by refine xm λc=> ?_;have u:=Yy v;have h2:2^ak v<=2^k:=zu O O;omega
def qt9 {X Y p k:Nat} (u:X≠0) (G:Y≠0) (h:p+1+ak Y<=ak X-1+k):p+2<=ak (X*2^k/Y):=by
 refine qt5 (k:=p+1) ?_;rw[Lu O]
 calc 2^(p+1)*Y<=2^(p+1)*2^ak Y:=zi _ (uA (Yy Y))
  _=2^(p+1+ak Y):=(sM ..).symm
  _<=2^(ak X-1+k):=zu O h
  _=2^(ak X-1)*2^k:=sM ..
  _<=X*2^k:=zO _ (Nn u)
def Uc {X Y p:Nat} (u:X≠0) (G:Y≠0):p+2<=ak (X*2^kQ X Y p/Y):=by refine qt9 u G ?_;have:1<=ak X:=by{rw[X6 u];omega};unfold kQ;omega
def qns {r:Nat}:(sgn (zv false (lim r)) !=0)=decide (r≠0):=by have:zv false (lim r)=(r:Int):=by{unfold zv;rw[qw];rfl};rw[this];unfold sgn;rw[af O];by_cases c:r=0;{subst c;rfl};{rw[iP O,decide_eq_true c];rfl}
def SzL {q:Nat} (h:ak q<=1000000):Sz (lim q):=⟨Q7 q,by have:=Qi h;omega⟩
end Go.Vs.F
set_option maxRecDepth 100000
namespace Go.Vs.F
abbrev Bg:=Bool×LI
def BZ (z:Int):Bg:=((zB z).1,(zB z).2.1)
abbrev D5:=Bool×Bool×LI×Int×Unit
inductive Cn:D5->Prop
 |bad:Cn sw
 |ok {w f:Int} (k:NF w f w f):Cn (aE w f)
def NF.self {z e w f:Int} (k:NF z e w f):NF w f w f:=
 ⟨cU.refl ..,by rw[k.eq.mk,k.md],k.zero,k.odd,k.lo,k.hi⟩
def dz (z e:Int):Cn (aE z e):=by by_cases h:b7 z e;{obtain⟨w,f,k⟩:=h.nf;rw[<-k.eq.mk];exact .ok k.self};{rw[vO h];exact .bad}
def zD (a:D5):Int:=zv a.2.1 a.2.2.1
def eD (a:D5):Int:=a.2.2.2.1
def NF.mk_eq {w f:Int} (k:NF w f w f):aE w f=(false,(zB w).1,(zB w).2.1,f,()):=k.md
def NF.z {w f:Int} (k:NF w f w f):zD (aE w f)=w:=by rw[k.mk_eq];exact aP w
def NF.e {w f:Int} (k:NF w f w f):eD (aE w f)=f:=by rw[k.mk_eq];rfl
def NF.bad1 {w f:Int} (k:NF w f w f):(aE w f).1=false:=by rw[k.mk_eq]
section
variable {m:Nat} (hm:5000000000<=m)
include hm
theorem qr3 {a:Int} (u:fq a<=1000000):nO m (BZ a).1 (BZ a).2=some (zB a,(),()):=by have:=L4 (m:=m) O (neg:=(zB a).1) (vz u);rwa [aP]at this
theorem qut {a:Int} (u:fq a<=1000000):fU m (BZ a).1 (BZ a).2=some (sgn a,(),()):=by have:=Zg (m:=m) O (neg:=(zB a).1) (vz u);rwa [aP]at this
theorem qf7 {a b:Int} (hb:b≠0) (G:fq a<=400000) (u:fq b<=400000) (h:a<0->a.natAbs%b.natAbs=0):
 tD m (BZ a).1 (BZ a).2 (BZ b).1 (BZ b).2=some ((zB (if(!(decide (a<0)==decide (b<0)))=true then-((a.natAbs/b.natAbs:Nat):Int)else((a.natAbs/b.natAbs:Nat):Int)),zB ((a.natAbs%b.natAbs:Nat):Int),()),(),(),()):=by have hq:(lim (a.natAbs/b.natAbs)).length<=400000:=zf (Q9 (sH ..)) G;have K:(lim (a.natAbs%b.natAbs)).length<=400000:=zf (Q9 (RH ..)) G;have J:(if decide (a<0)=true then-((a.natAbs%b.natAbs:Nat):Int)else((a.natAbs%b.natAbs:Nat):Int))=((a.natAbs%b.natAbs:Nat):Int):=by{by_cases c:a<0;{rw[h c];split<;>rfl};{rw[af (by simpa using c)]}};rw[tD,qr3 hm O,bS,qr3 hm O,bS];show(yi m (lim a.natAbs) (lim b.natAbs)).bind _=_;rw[qm7 hm O G u,bS];dsimp only;rw[ZI O O,bS,ZI O O,bS];dsimp only;rw[show(zB a).1=decide (a<0)from rfl,show(zB b).1=decide (b<0)from rfl,J,show fU m (zB ((a.natAbs%b.natAbs:Nat):Int)).1 (zB ((a.natAbs%b.natAbs:Nat):Int)).2.1=some (sgn ((a.natAbs%b.natAbs:Nat):Int),(),())from qut hm (by show(lim ((a.natAbs%b.natAbs:Nat):Int).natAbs).length<=_;rw[zy];omega),bS,bQ];have: ¬sgn ((a.natAbs%b.natAbs:Nat):Int)<0:=by{unfold sgn;rw[af O];split<;>omega};rw[af this]
theorem qpl {x y:Nat} (J:y≠0) (G:(lim x).length<=400000) (u:(lim y).length<=400000):
 tD m (BZ (x:Int)).1 (BZ (x:Int)).2 (BZ (y:Int)).1 (BZ (y:Int)).2=some ((zB ((x/y:Nat):Int),zB ((x%y:Nat):Int),()),(),(),()):=by have:=qf7 hm (a:=(x:Int)) (b:=(y:Int)) O (by unfold fq;rw[zy];exact G) (by unfold fq;rw[zy];exact u) (λh=>O);rw[this,zy,zy,show decide ((x:Int)<0)=false from decide_eq_false O,show decide ((y:Int)<0)=false from decide_eq_false O];rfl
theorem qt6 {X Y:Nat} (G:Y≠0) (J:ak X<=400000) (u:ak Y<=400000):
 yj m (zB (X:Int)).1 (zB (X:Int)).2.1 (zB (Y:Int)).1 (zB (Y:Int)).2.1=some (((false,lim (X/Y),()),(false,lim (X%Y),()),0,()),(),(),()):=by rw[X7,X7];have K:=Qi J;have h2:=Qi u;exact qjk O G O O
theorem qh8 {X Y:Nat} (G:Y≠0) (J:ak X<=400000) (u:ak Y<=400000):
 tD m (zB (X:Int)).1 (zB (X:Int)).2.1 (zB (Y:Int)).1 (zB (Y:Int)).2.1=some (((false,lim (X/Y),()),(false,lim (X%Y),()),()),(),(),()):=by have K:=Qi J;have h2:=Qi u;have h:=qpl hm G (x:=X) (y:=Y) O O;rw[X7,X7]at h;exact h
theorem natAbs_pow {X k:Nat}:((X:Nat):Int)*2^k=((X*2^k:Nat):Int):=by rw[sK,pz];rfl
theorem qp0 {w f x g:Int} (k:NF w f w f) (l:NF x g x g) (hx:x≠0) {p:Nat} (hp:p<=4096):
 CR m false (zB w).1 (zB w).2.1 f false (zB x).1 (zB x).2.1 g (p:Int)=
  some ((decide (w<0) !=decide (x<0),false,lim (w.natAbs*2^(p+3+ak x.natAbs-ak w.natAbs)/x.natAbs),f-((p+3+ak x.natAbs-ak w.natAbs:Nat):Int)-g,decide (w.natAbs*2^(p+3+ak x.natAbs-ak w.natAbs)%x.natAbs≠0),()),(),(),(),()):=by have a0:=k.len;have K:=l.len;have b1:=k.lo;have b2:=k.hi;have b3:=l.lo;have b4:=l.hi;have hY:x.natAbs≠0:=O;have a1:vl (zB w).2.1=w.natAbs:=qw _;have a2:vl (zB x).2.1=x.natAbs:=qw _;have J:wI (wI (wI ((p:Int)+3)+((ak x.natAbs:Nat):Int))-((ak w.natAbs:Nat):Int))=(p:Int)+3+((ak x.natAbs:Nat):Int)-((ak w.natAbs:Nat):Int):=by{simp only[wQ];rw[wi (n:=(p:Int)+3) O O,wi (n:=(p:Int)+3+_) O O,wi O O]};rw[CR,Mb O l.Sz,a2,bS,Mb O k.Sz,a1,bS,Sb O k.Sz,aP,bS];dsimp only;rw[J,show(if(p:Int)+3+((ak x.natAbs:Nat):Int)-((ak w.natAbs:Nat):Int)>0 then(p:Int)+3+((ak x.natAbs:Nat):Int)-((ak w.natAbs:Nat):Int)else 0)=((p+3+ak x.natAbs-ak w.natAbs:Nat):Int) by split<;>omega];have hk:p+3+ak x.natAbs-ak w.natAbs<=140000:=O;generalize b0:p+3+ak x.natAbs-ak w.natAbs=j at*;have u:ak (w.natAbs*2^j)<=280000:=by{have:=I4 (a:=w.natAbs) (b:=2^j);rw[Qy]at this;omega};have G:wI (wI (f-(j:Int))-g)=f-(j:Int)-g:=by{simp only[wQ];rw[wi (n:=f-(j:Int)) O O,wi O O]};rw[dW O (by rw[zy];omega) O O,bS,tN,natAbs_pow hm];dsimp only;rw[Sb O l.Sz,aP,bS];dsimp only;rw[qt6 hm hY O O,bS];dsimp only;have hr:ak (w.natAbs*2^j%x.natAbs)<=280000:=zf (Qv (RH ..)) u;rw[Ff O (SzL O),bS,qns,G];rfl
theorem qlx {X Y:Nat} (K:Y≠0) (h1:ak X<=131072) (h2:ak Y<=131072) {p:Nat} (hp:p<=4096):
 DX m (zB (X:Int)).1 (zB (X:Int)).2.1 (zB (Y:Int)).1 (zB (Y:Int)).2.1 (p:Int)=
  some (((false,lim (X*2^kQ X Y p/Y),()),-((kQ X Y p:Nat):Int),decide (X*2^kQ X Y p%Y≠0),()),(),(),(),()):=by have a1:vl (zB (X:Int)).2.1=X:=by{rw[X7];exact qw _};have a2:vl (zB (Y:Int)).2.1=Y:=by{rw[X7];exact qw _};have J:wI (wI (wI ((p:Int)+2)+((ak Y:Nat):Int))-((ak X:Nat):Int))=(p:Int)+2+((ak Y:Nat):Int)-((ak X:Nat):Int):=by{simp only[wQ];rw[wi (n:=(p:Int)+2) O O,wi (n:=(p:Int)+2+_) O O,wi O O]};rw[DX,Jh O (lA O),a2,bS,Jh O (lA O),a1,bS];dsimp only;have hk:kQ X Y p<=140000:=by{unfold kQ;omega};rw[J,show(if(0:Int)>(p:Int)+2+((ak Y:Nat):Int)-((ak X:Nat):Int)then 0 else(p:Int)+2+((ak Y:Nat):Int)-((ak X:Nat):Int))=((kQ X Y p:Nat):Int) by unfold kQ;split<;>omega];generalize kQ X Y p=j at*;have u:ak (X*2^j)<=280000:=by{have:=I4 (a:=X) (b:=2^j);rw[Qy]at this;omega};have hr:ak (X*2^j%Y)<=280000:=zf (Qv (RH ..)) u;have G:wI (0-(j:Int))= -(j:Int):=by{rw[wQ,wi O O];omega};rw[Xx O (by rw[zy];omega) O O,bS,tN,natAbs_pow hm];dsimp only;rw[qh8 hm K O O,bS];dsimp only;rw[Zg O (SzL O),bS,qns,G]
end
end Go.Vs.F
set_option maxRecDepth 100000
namespace Go.Vs.F
def q66 {neg:Bool} {v j:Nat} {e:Int} {more:Bool} {mode:Int} (K:55<=ak (v/2^j)):
 Z4 neg v (e-(j:Int)) more mode=Z4 neg (v/2^j) e (more||decide (v%2^j≠0)) mode:=by have hJ:0<2^j:=eQ O;have u:v/2^j≠0:=λh=>by{rw[h,Xo]at K;omega};have G:ak v=j+ak (v/2^j):=by{have:=ur v (2^j);rw[<-this];have h2:=N1 (k:=j) u (iY v hJ);rw[h2,this]};have hu:bc v (e-(j:Int))=bc (v/2^j) e:=by{unfold bc;rw[G];omega};unfold Z4;rw[hu];congr 1;have J:e<bc (v/2^j) e:=by{unfold bc;omega};unfold eJ;rw[hu,af O,af O,show(bc (v/2^j) e-(e-(j:Int))).toNat=(bc (v/2^j) e-e).toNat+j by omega,qlr O]
def Cn.mk {a:D5} (h:Cn a): ∃z e,a=aE z e:=by
 cases h with
 |bad=>exact⟨1,1000000,by rw[vO];rw[Y8];rintro (h|h); · omega
                          . have:ak (1:Int).natAbs=1:=by decide
                            rw[this]at h;omega⟩
 |ok k=>exact⟨_,_,rfl⟩
def ES:Int:=9221120237041090560
def jL (a b:D5) (mode:Int):Int:=
 if a.1=true\/b.1=true\/zD b=0 then ES
 else if zD a=0 then 0
 else Z4 (decide (zD a<0) !=decide (zD b<0)) ((zD a).natAbs*2^kQ (zD a).natAbs (zD b).natAbs 57/(zD b).natAbs) (eD a-eD b-((kQ (zD a).natAbs (zD b).natAbs 57:Nat):Int)) (decide ((zD a).natAbs*2^kQ (zD a).natAbs (zD b).natAbs 57%(zD b).natAbs≠0)) mode
def M1 {neg:Bool} {X Y:Nat} {E mode:Int} (K:X≠0) (J:Y≠0):
 Z4 neg (X*2^kQ X Y 60/Y) (E-((kQ X Y 60:Nat):Int)) (decide (X*2^kQ X Y 60%Y≠0)) mode=Z4 neg (X*2^kQ X Y 57/Y) (E-((kQ X Y 57:Nat):Int)) (decide (X*2^kQ X Y 57%Y≠0)) mode:=by obtain⟨j,G⟩: ∃j,kQ X Y 60=kQ X Y 57+j:=⟨kQ X Y 60-kQ X Y 57,by unfold kQ;omega⟩;have hb:=Uc (p:=57) K J;rw[G];generalize kQ X Y 57=k at*;have u:0<Y:=O;obtain⟨s1,s2⟩:=qji (X:=X*2^k) (Y:=Y) (j:=j) u;have e1:X*2^(k+j)=X*2^k*2^j:=by{rw[sM,zV]};rw[e1,show E-((k+j:Nat):Int)=E-(k:Int)-(j:Int) by omega,q66 (by rw[s1];omega),s1];congr 1;by_cases c:X*2^k%Y=0;{obtain⟨a,b⟩:=s2.1 c;simp[a,b,c]};{by_cases a:X*2^k*2^j%Y=0;{have b:X*2^k*2^j/Y%2^j≠0:=λb=>c (s2.2 ⟨a,b⟩);simp[a,b,c]};{simp[a,c]}}
section
variable {m:Nat} (hm:5000000000<=m)
include hm
theorem uQ {a b:D5} (ha:Cn a) (hb:Cn b) (mode:Int):ua m a.1 a.2.1 a.2.2.1 a.2.2.2.1 b.1 b.2.1 b.2.2.1 b.2.2.2.1 mode=some (jL a b mode,(),(),(),()):=by have key:nM m a.1 a.2.1 a.2.2.1 a.2.2.2.1=some (a,(),())/\nM m b.1 b.2.1 b.2.2.1 b.2.2.2.1=some (b,(),()):=by{obtain⟨z,e,rfl⟩:=ha.mk;obtain⟨y,f,rfl⟩:=hb.mk;exact⟨SR O,SR O⟩};rw[ua,key.1,bS,key.2,bS];dsimp only;unfold jL;cases ha with|bad=>{rw[iP (.inl rfl)];rfl}| @ok w f k=>{rw[k.bad1,cond_false];cases hb with|bad=>{rw[iP (.inr (.inl rfl))];rfl}| @ok x g l=>{have hsx:=NA (m:=m) O l.ok;have hsw:=NA (m:=m) O k.ok;rw[l.bad1]at hsx;rw[k.bad1]at hsw;rw[l.bad1,cond_false,hsx,bS,aA];dsimp only;rw[l.z,k.z,k.e,l.e];by_cases c:x=0;{rw[iP (Qa.2 c),iP (.inr (.inr c))];rfl};{rw[af (λh=>c (Qa.1 h)),af (by simp[c]),hsw,bS,aA];dsimp only;by_cases d:w=0;{rw[iP (Qa.2 d),iP d]};{rw[af (λh=>d (Qa.1 h)),af d,k.mk_eq,l.mk_eq];dsimp only;rw[show(56:Int)=((56:Nat):Int)from rfl,qp0 hm k l c O,bS];dsimp only;have hY:x.natAbs≠0:=O;have hX:w.natAbs≠0:=O;have ek:56+3+ak x.natAbs-ak w.natAbs=kQ w.natAbs x.natAbs 57:=by{unfold kQ;omega};rw[ek];have hbig:=Uc (p:=57) hX hY;have hkk:kQ w.natAbs x.natAbs 57=59+ak x.natAbs-ak w.natAbs:=by{unfold kQ;omega};have q1:=k.lo;have q2:=k.hi;have q3:=l.lo;have q4:=l.hi;have hl1:=k.len;have hl2:=l.len;have hXb:ak (w.natAbs*2^kQ w.natAbs x.natAbs 57)<=280000:=by{have:=I4 (a:=w.natAbs) (b:=2^kQ w.natAbs x.natAbs 57);rw[Qy]at this;omega};have hvb:ak (w.natAbs*2^kQ w.natAbs x.natAbs 57/x.natAbs)<=280000:=zf (Qv (sH ..)) hXb;have hv0:w.natAbs*2^kQ w.natAbs x.natAbs 57/x.natAbs≠0:=λh=>by{rw[h,Xo]at hbig;omega};have hr:=Wj (m:=m) O (decide (w<0) !=decide (x<0)) hv0 O (e:=f-((kQ w.natAbs x.natAbs 57:Nat):Int)-g) (decide (w.natAbs*2^kQ w.natAbs x.natAbs 57%x.natAbs≠0)) mode O O;rw[X7]at hr;rw[hr,bS,show f-((kQ w.natAbs x.natAbs 57:Nat):Int)-g=f-g-((kQ w.natAbs x.natAbs 57:Nat):Int) by omega]}}}}
theorem MS {a b:D5} (ha:Cn a) (hb:Cn b) (mode:Int):TK m a.1 a.2.1 a.2.2.1 a.2.2.2.1 b.1 b.2.1 b.2.2.1 b.2.2.2.1 mode=some (jL a b mode,(),(),(),()):=by have key:nI m a.1 a.2.1 a.2.2.1 a.2.2.2.1=some (a,(),())/\nI m b.1 b.2.1 b.2.2.1 b.2.2.2.1=some (b,(),()):=by{obtain⟨z,e,rfl⟩:=ha.mk;obtain⟨y,f,rfl⟩:=hb.mk;exact⟨X4 O,X4 O⟩};rw[TK,key.1,bS,key.2,bS];dsimp only;unfold jL;cases ha with|bad=>{rw[iP (.inl rfl)];rfl}| @ok w f k=>{rw[k.bad1,cond_false];cases hb with|bad=>{rw[iP (.inr (.inl rfl))];rfl}| @ok x g l=>{have hsx:=Mc (m:=m) O l.ok;have hsw:=Mc (m:=m) O k.ok;rw[l.bad1,cond_false,hsx,bS,aA];dsimp only;rw[l.z,k.z,k.e,l.e];by_cases c:x=0;{rw[iP (Qa.2 c),iP (.inr (.inr c))];rfl};{rw[af (λh=>c (Qa.1 h)),af (by simp[c]),hsw,bS,aA];dsimp only;by_cases d:w=0;{rw[iP (Qa.2 d),iP d]};{rw[af (λh=>d (Qa.1 h)),af d,k.mk_eq,l.mk_eq];dsimp only;have hY:x.natAbs≠0:=O;have hX:w.natAbs≠0:=O;have q1:=k.lo;have q2:=k.hi;have q3:=l.lo;have q4:=l.hi;have hl1:=k.len;have hl2:=l.len;rw[Nq O k.Sz,aP,bS,Nq O l.Sz,aP,bS];dsimp only;rw[show(60:Int)=((60:Nat):Int)from rfl,qlx hm hY O O O,bS];dsimp only;have hkk:kQ w.natAbs x.natAbs 60=62+ak x.natAbs-ak w.natAbs:=by{unfold kQ;omega};have hbig:=Uc (p:=60) hX hY;have hXb:ak (w.natAbs*2^kQ w.natAbs x.natAbs 60)<=280000:=by{have:=I4 (a:=w.natAbs) (b:=2^kQ w.natAbs x.natAbs 60);rw[Qy]at this;omega};have hvb:ak (w.natAbs*2^kQ w.natAbs x.natAbs 60/x.natAbs)<=280000:=zf (Qv (sH ..)) hXb;have hv0:w.natAbs*2^kQ w.natAbs x.natAbs 60/x.natAbs≠0:=λh=>by{rw[h,Xo]at hbig;omega};have w1:wI (wI (f-g)+ -((kQ w.natAbs x.natAbs 60:Nat):Int))=f-g-((kQ w.natAbs x.natAbs 60:Nat):Int):=by{simp only[wQ];rw[wi (n:=f-g) O O,wi O O];omega};have hr:=Ww (m:=m) O (decide (w<0) !=decide (x<0)) hv0 O (e:=f-g-((kQ w.natAbs x.natAbs 60:Nat):Int)) (decide (w.natAbs*2^kQ w.natAbs x.natAbs 60%x.natAbs≠0)) mode O O (λ_=>by unfold bc;omega);rw[X7]at hr;have hs:(!((zB w).1==(zB x).1))=(decide (w<0) !=decide (x<0)):=rfl;rw[w1,hs,hr,bS,M1 hX hY]}}}}
end
end Go.Vs.F
set_option maxRecDepth 100000
namespace Go.Vs.F
def bT:Nat->Nat
 |0=>0
 |n+1=>if(bT n+1)*(bT n+1)<=n+1 then bT n+1 else bT n
def L6: ∀n:Nat,bT n*bT n<=n/\n<(bT n+1)*(bT n+1)
 |0=>⟨zJ _,by decide⟩
 |n+1=>by obtain⟨u,h2⟩:=L6 n;rw[bT];generalize bT n=r at*;have e:(r+1+1)*(r+1+1)=(r+1)*(r+1)+2*r+3:=by{simp only[fV,zK];omega};split;{omega};{omega}
def uJ {a b:Nat} (h:a*a<b*b):a<b:=by refine Nat.lt_of_not_le λc=> ?_;have:=py c c;omega
def qh1 {n r:Nat} (u:r*r<=n) (h2:n<(r+1)*(r+1)):bT n=r:=by obtain⟨J,G⟩:=L6 n;have O:=uJ (wU u G);have K:=uJ (wU J h2);omega
def M4 (n:Nat):bT n<=n:=by obtain⟨u,_⟩:=L6 n;rcases EX (bT n)with h|h;{omega};{have:=zi (bT n) h;omega}
def qnb (n j:Nat):bT (n*4^j)/2^j=bT n/\((bT n*bT n=n)↔(bT (n*4^j)*bT (n*4^j)=n*4^j/\bT (n*4^j)%2^j=0)):=by
 have u:0<2^j:=eQ O;have h4:4^j=2^j*2^j:=by rw[show(4:Nat)=2*2 from rfl,Nat.mul_pow]
 rw[h4];generalize 2^j=J at*;obtain⟨a1,a2⟩:=L6 n;obtain⟨b1,b2⟩:=L6 (n*(J*J));generalize bT (n*(J*J))=s at*;have a0:=ur s J;have b0:=iY s u
 have e0:s/J=bT n:=by
  refine(qh1 ?_ ?_).symm
  ·
   refine Nat.le_of_mul_le_mul_right (c:=J*J) ?_ (EY u u)
   calc s/J*(s/J)*(J*J)=(J*(s/J))*(J*(s/J)):=by ac_rfl
    _<=s*s:=py (Nat.mul_div_le ..) (Nat.mul_div_le ..)
    _<=n*(J*J):=b1
  . refine Nat.lt_of_mul_lt_mul_right (a:=J*J) ?_;have G:s+1<=J*(s/J+1):=by rw[zK];omega
    calc n*(J*J)<(s+1)*(s+1):=b2
     _<=(J*(s/J+1))*(J*(s/J+1)):=py G G
     _=(s/J+1)*(s/J+1)*(J*J):=by ac_rfl
 refine⟨e0,λh=> ?_,λ⟨h,h2⟩=> ?_⟩
 . have K:s=bT n*J:=by
    have G:bT n*J*(bT n*J)=n*(J*J):=by
     calc bT n*J*(bT n*J)=bT n*bT n*(J*J):=by ac_rfl
      _=n*(J*J):=by rw[h]
    have c1:bT n*J<s+1:=uJ (by rw[G];exact b2)
    have c2:s<bT n*J+1:=uJ (wU b1 (by rw[<-G];exact Nat.mul_lt_mul'' O O))
    omega
   refine⟨?_,by rw[K];exact Nat.mul_mod_left ..⟩
   rw[K]
   calc bT n*J*(bT n*J)=bT n*bT n*(J*J):=by ac_rfl
    _=n*(J*J):=by rw[h]
 . have K:s=bT n*J:=by rw[<-a0,h2,e0,zQ,zY]
   refine Nat.eq_of_mul_eq_mul_right (EY u u) ?_
   calc bT n*bT n*(J*J)=bT n*J*(bT n*J):=by ac_rfl
    _=n*(J*J):=by rw[<-K];exact h
def Uu {a x:Nat} (G:0<x) (h:a<(x+1)*(x+1)):a<((x+a/x)/2+1)*((x+a/x)/2+1):=by have J:a<x*(a/x+1):=by{have:=ur a x;have:=iY a G;rw[zK];omega};generalize a/x=q at*;have u:x+q+1<=2*((x+q)/2+1):=O;generalize (x+q)/2+1=y at*;have h1:(x+q+1)*(x+q+1)<=2*y*(2*y):=py u u;have h2:4*(x*(q+1))<=(x+q+1)*(x+q+1):=by{have e1:(x+q+1)*(x+q+1)=x*x+2*(x*(q+1))+(q+1)*(q+1):=by{generalize K:q+1=p;rw[show x+q+1=x+p by omega,fV,zK,zK,zY p x];omega};have e2:2*(x*(q+1))<=x*x+(q+1)*(q+1):=by{generalize q+1=p;rcases Nat.le_total x p with h|h;{obtain⟨d,rfl⟩: ∃d,p=x+d:=⟨p-x,O⟩;simp only[zK,fV];have:=zY d x;omega};{obtain⟨d,rfl⟩: ∃d,x=p+d:=⟨x-p,O⟩;simp only[zK,fV];have:=zY d p;omega}};omega};have h3:2*y*(2*y)=4*(y*y):=by{rw[Nat.mul_mul_mul_comm]};omega
def q8y {a x:Nat} (J:0<x) (h:a<(x+1)*(x+1)) (G:x<=(x+a/x)/2):bT a=x:=by refine qh1 ?_ h;have u:x<=a/x:=O;have:=Mq a x;exact zf (zO _ u) this
def q99 {a x:Nat} (J:a≠0) (G:0<x) (h:a<(x+1)*(x+1)):0<(x+a/x)/2:=by have:=Uu G h;rcases EX ((x+a/x)/2)with u|u;{rw[u]at this;omega};{exact u}
def q57 {a:Nat}:a<(2^((ak a+1)/2)+1)*(2^((ak a+1)/2)+1):=by have u:=Yy a;have h2:2^ak a<=2^((ak a+1)/2)*2^((ak a+1)/2):=by{rw[<-Nat.pow_add];exact zu O O};generalize 2^((ak a+1)/2)=x at*;have:(x+1)*(x+1)=x*x+2*x+1:=by{simp only[fV,zK];omega};omega
def dn1 (n:Nat):Nat:=2^n
def Wb1 {k n:Nat} (h:k<n):2^k<dn1 n:=Nat.pow_lt_pow_right O h
attribute [irreducible] dn1
def dn:Nat:=dn1 200000
def Wb {k:Nat} (h:k<200000):2^k<dn:=Wb1 h
def Xb {m:Nat} (h:dn<=m):5000000000<=m:=by have u:2^40<dn:=Wb O;have h2:(2:Nat)^40=1099511627776:=by{decide};omega
attribute [irreducible] dn
section
variable {m:Nat} (hm:5000000000<=m)
include hm
theorem qu9 {a:Nat} (ha:a≠0) (hl:ak a<=290000): ∀(n x:Nat),x<n->0<x->a<(x+1)*(x+1)->ak x<=290000->
 lZ m n (lim a) (lim x)=some (.inl (lim (bT a),())):=by intro n;induction n with|zero=>{intro x h;omega}|succ n ih=>{intro x hx K h J;have b0:=Qi J;have e0:=Qi hl;have d0:(lim (a/x)).length<=10000:=zf (Q9 (sH ..)) O;have u:ak (x+a/x)<=290001:=SQ J (zf (Qv (sH ..)) hl);have c0:=Qi u;have a0:(lim ((x+a/x)/2)).length<=10000:=zf (Q9 (sH ..)) O;rw[lZ,qci O O O O,bS];dsimp only;rw[UK O (Q7 _) (Q7 _) O O,qw,qw,bS];dsimp only;rw[show(1:Int)=((1:Nat):Int)from rfl,UN O O O,bS];dsimp only;rw[Nat.pow_one,Je O O O,bS,bQ];dsimp only;by_cases c:(x+a/x)/2<x;{have G: ¬da ((x+a/x)/2) x>=0:=by{unfold da;rw[iP c];omega};rw[af G];exact ih _ O (q99 ha K h) (Uu K h) (zf (Qv (uA c)) J)};{have G:da ((x+a/x)/2) x>=0:=by{unfold da;rw[af c];split<;>omega};rw[iP G,q8y K h O]}}
end
def qu7 {m:Nat} (hM:dn<=m) {a:Nat} (K:a≠0) (hl:ak a<=290000):Cb m (lim a)=some (lim (bT a),(),()):=by have hm:=Xb hM;have a0:=Qi hl;have u: ¬((lim a).length:Int)=0:=λh=>K (Zc.1 (LC.1 O));have w1:wI (Int.tdiv (wI (((ak a:Nat):Int)+1)) 2)=(((ak a+1)/2:Nat):Int):=by{rw[wQ,wQ,wi (n:=((ak a:Nat):Int)+1) O O,show((ak a:Nat):Int)+1=((ak a+1:Nat):Int) by omega,show(2:Int)=((2:Nat):Int)from rfl,<-Int.ofNat_tdiv,wi O O]};have J:Lm [1]:=λx hx=>by{simp only[zC]at hx;omega};have G:ak (2^((ak a+1)/2))<=290000:=by{rw[Qy];omega};rw[Cb,aA,af u,length_eq O,bS];dsimp only;rw[w1,uF O J (by simp) O,bS,show vl [1]=1 from rfl,xc];dsimp only;rw[qu9 hm K hl m _ (wZ (Wb O) hM) (eQ O) q57 G,bS]
def qtx {m:Nat} (G:dn<=m) {a:Nat} (J:a≠0) (hl:ak a<=290000):wv m (zB (a:Int)).1 (zB (a:Int)).2.1=some ((zB ((bT a:Nat):Int),0,()),(),()):=by have hm:=Xb G;have K:Sz (zB (a:Int)).2.1:=lA O;have u:ak (bT a)<=290000:=zf (Qv (M4 a)) hl;have:=Qi u;have:=Qi hl;rw[wv,Ff O K,aP,bS,bQ,af (by unfold sgn;dsimp only;rw[af O];split<;>omega),X7];dsimp only;rw[Qz (Q7 a) O O,qw,bS];dsimp only;rw[qu7 G J hl,bS];dsimp only;rw[nx O O,bS,af (by simp)]
section
variable {m:Nat} (hm:5000000000<=m)
include hm
theorem qoy {a:Nat} (ha:a≠0) (hl:ak a<=200000) (t0:Bool) (t1:LI): ∀(n x:Nat),x<n->0<x->a<(x+1)*(x+1)->ak x<=200000->
 ma m n (zB (a:Int)).1 (zB (a:Int)).2.1 t0 t1 (zB (x:Int)).1 (zB (x:Int)).2.1=some (.inl (zB ((bT a:Nat):Int),())):=by intro n;induction n with|zero=>{intro x h;omega}|succ n ih=>{intro x hx h0 h hb;have K:ak (a/x)<=200000:=zf (Qv (sH ..)) hl;have J:ak (x+a/x)<=200001:=SQ hb K;have a0:ak ((x+a/x)/2)<=200001:=zf (Qv (sH ..)) J;have b0:=Qi J;rw[ma,qh8 hm O O O,bS];dsimp only;have u:=LR (m:=m) O (n1:=(zB (x:Int)).1) (n2:=(zB ((a/x:Nat):Int)).1) (lA (v:=x) O) (lA (v:=a/x) O);rw[aP,aP,<-Int.natCast_add]at u;rw[X7 (a/x)]at u;rw[u,bS];dsimp only;have G:=q6x (m:=m) O (neg:=(zB ((x+a/x:Nat):Int)).1) (l:=(zB ((x+a/x:Nat):Int)).2.1) (di _) (by rw[X7];dsimp only;omega) (n:=1) O O;rw[aP,<-Int.natCast_ediv]at G;rw[show(-1:Int)= -((1:Nat):Int)from rfl,G,bS,Nat.pow_one];dsimp only;rw[UP O (by rw[zy];omega) (by rw[zy];omega),bS,bQ];dsimp only;by_cases c:(x+a/x)/2<x;{have hc: ¬eU (((x+a/x)/2:Nat):Int) (x:Int)>=0:=by{unfold eU;rw[iP O];omega};rw[af hc];exact ih _ O (q99 ha h0 h) (Uu h0 h) (zf (Qv (uA c)) hb)};{have hc:eU (((x+a/x)/2:Nat):Int) (x:Int)>=0:=by{unfold eU;rw[af O];split<;>omega};rw[iP hc,q8y h0 h O]}}
end
def qqq {m:Nat} (J:dn<=m) {a:Nat} (ha:a≠0) (hl:ak a<=190000):wm m (zB (a:Int)).1 (zB (a:Int)).2.1=some (zB ((bT a:Nat):Int),(),()):=by have hm:=Xb J;have G:Sz (zB (a:Int)).2.1:=lA O;have K:wI (Int.tdiv (wI (((ak a:Nat):Int)+1)) 2)=(((ak a+1)/2:Nat):Int):=by{rw[wQ,wQ,wi (n:=((ak a:Nat):Int)+1) O O,show((ak a:Nat):Int)+1=((ak a+1:Nat):Int) by omega,show(2:Int)=((2:Nat):Int)from rfl,<-Int.ofNat_tdiv,wi O O]};have u:ak (2^((ak a+1)/2))<=200000:=by{rw[Qy];omega};have gp:vl (zB (a:Int)).2.1=a:=by{rw[X7];exact qw a};rw[wm,Zg O G,aP,bS,aA];dsimp only;rw[af (λh=>by have:=Qa.1 h;omega),Tv O O O,bS,Jh O G,gp,bS];dsimp only;rw[K,Xx O (by decide) O O,bS,tN,RJ,show(2:Int)^((ak a+1)/2)=((2^((ak a+1)/2):Nat):Int) by rw[pz];rfl];dsimp only;rw[qoy hm ha O false [] m _ (wZ (Wb O) J) (eQ O) q57 u,bS]
end Go.Vs.F
set_option maxRecDepth 100000
namespace Go.Vs.F
def cM (X:Nat) (f:Int) (p:Nat):Nat:=if(f-((p-ak X:Nat):Int))%2=0 then p-ak X else p-ak X+1
def gZ (a:D5) (mode:Int):Int:=
 if a.1=true\/zD a<0 then ES
 else if zD a=0 then 0
 else Z4 false (bT ((zD a).natAbs*2^cM (zD a).natAbs (eD a) 118)) ((eD a-((cM (zD a).natAbs (eD a) 118:Nat):Int))/2) (decide (bT ((zD a).natAbs*2^cM (zD a).natAbs (eD a) 118)*bT ((zD a).natAbs*2^cM (zD a).natAbs (eD a) 118)≠(zD a).natAbs*2^cM (zD a).natAbs (eD a) 118)) mode
def Vv (X:Nat) (f:Int) (p:Nat):(f-((cM X f p:Nat):Int))%2=0:=by unfold cM;split<;>omega
def UI {X p:Nat} (u:X≠0) (f:Int):p<=ak (X*2^cM X f p):=by rw[zY,Xk u];unfold cM;split<;>omega
def Vb {M k:Nat} (h:2*k+1<=ak M):k+1<=ak (bT M):=by obtain⟨_,h2⟩:=L6 M;refine xm λc=> ?_;have u:M≠0:=λe=>by{rw[e,Xo]at h;omega};have G:bT M+1<=2^k:=by{have:=Yy (bT M);have:2^ak (bT M)<=2^k:=zu O O;omega};have J:(bT M+1)*(bT M+1)<=2^k*2^k:=py G G;rw[<-Nat.pow_add]at J;have h5:=Nn u;have K:2^(k+k)<=2^(ak M-1):=zu O O;omega
def qt7 {X:Nat} {f mode:Int} (G:X≠0):
 Z4 false (bT (X*2^cM X f 126)) ((f-((cM X f 126:Nat):Int))/2) (decide (bT (X*2^cM X f 126)*bT (X*2^cM X f 126)≠X*2^cM X f 126)) mode=
  Z4 false (bT (X*2^cM X f 118)) ((f-((cM X f 118:Nat):Int))/2) (decide (bT (X*2^cM X f 118)*bT (X*2^cM X f 118)≠X*2^cM X f 118)) mode:=by obtain⟨j,u⟩: ∃j,cM X f 126=cM X f 118+2*j:=by{have J:=Vv X f 126;have h2:=Vv X f 118;have h3:cM X f 118<=cM X f 126:=by{unfold cM at*;split at J<;>split at h2<;>simp_all<;>omega};exact⟨(cM X f 126-cM X f 118)/2,O⟩};have hb:=UI (p:=118) G f;have he:=Vv X f 118;rw[u];generalize cM X f 118=k at*;have hs:=Vb (M:=X*2^k) (k:=58) O;obtain⟨s1,s2⟩:=qnb (X*2^k) j;have K:X*2^(k+2*j)=X*2^k*4^j:=by{rw[sM,ze3,zV]};rw[K,show(f-((k+2*j:Nat):Int))/2=(f-(k:Int))/2-(j:Int) by omega,q66 (by rw[s1];omega),s1];congr 1;by_cases c:bT (X*2^k)*bT (X*2^k)=X*2^k;{obtain⟨a,b⟩:=s2.1 c;simp[a,b,c]};{by_cases a:bT (X*2^k*4^j)*bT (X*2^k*4^j)=X*2^k*4^j;{have b:bT (X*2^k*4^j)%2^j≠0:=λb=>c (s2.2 ⟨a,b⟩);simp[a,b,c]};{simp[a,c]}}
def qld {a b:Int}:(eU a b !=0)=decide (a≠b):=by unfold eU;split;{rw[show decide (a≠b)=true from decide_eq_true O];rfl};{split;{rw[show decide (a≠b)=true from decide_eq_true O];rfl};{rw[show decide (a≠b)=false from decide_eq_false O];rfl}}
def qgz {x:Int}:(Int.tmod x 2 !=0)= !decide (x%2=0):=by have h:Int.tmod x 2=0↔x%2=0:=by{rw[<-Int.dvd_iff_tmod_eq_zero,Int.dvd_iff_emod_eq_zero]};by_cases c:x%2=0;{rw[h.2 c,decide_eq_true c];rfl};{rw[decide_eq_false c];have:Int.tmod x 2≠0:=λe=>c (h.1 e);simp[this]}
def qh9 {x:Int} (h:x%2=0):Int.tdiv x 2=x/2:=Int.tdiv_eq_ediv_of_dvd (Int.dvd_iff_emod_eq_zero.2 h)
def qkm {m:Nat} (hM:dn<=m) {w f:Int} (k:NF w f w f) (hw:0<w) {n:Nat} (hn:n<=200) (he:(f-(n:Int))%2=0) {v:Int} (hv:v=(n:Int)) {u:Int} (hu:u=f-(n:Int)):
 ((jt m (zB w).1 (zB w).2.1 v).bind λJ=>
 (wv m J.1.1 J.1.2.1).bind λG=>
 (tB m G.1.1.1 G.1.1.2.1 G.1.1.1 G.1.1.2.1).bind λy4=>
 (tS m y4.1.1 y4.1.2.1 J.1.1 J.1.2.1).bind λy5=>
 some ((false,G.1.1.1,G.1.1.2.1,wI (Int.tdiv u 2),y5.1 !=0,()),((),(),())))=
  some ((false,false,lim (bT (w.natAbs*2^n)),(f-(n:Int))/2,decide (bT (w.natAbs*2^n)*bT (w.natAbs*2^n)≠w.natAbs*2^n),()),((),(),())):=by have hm:=Xb hM;subst hv hu;have hl:=k.len;have q1:=k.lo;have q2:=k.hi;have hX:w.natAbs≠0:=O;have a0:ak (w.natAbs*2^n)<=140000:=by{rw[zY,Xk hX];omega};have b0:w.natAbs*2^n≠0:=λh=>by{rcases Rp.1 h with h|h;{exact hX h};{exact absurd h (Nat.pos_iff_ne_zero.1 (eQ O))}};have K:ak (bT (w.natAbs*2^n))<=140000:=zf (Qv (M4 _)) a0;have e1:w*2^n=((w.natAbs*2^n:Nat):Int):=by{rw[<-natAbs_pow hm];rw[show((w.natAbs:Nat):Int)=w by omega]};rw[dW O O O O,bS,tN,e1];dsimp only;rw[qtx hM b0 O,bS];dsimp only;have d0:=Qi K;rw[ZB O (di _) (di _) (by rw[X7];dsimp only;omega),aP,bS];dsimp only;have c0:ak (bT (w.natAbs*2^n)*bT (w.natAbs*2^n))<=280000:=by{have:=I4 (a:=bT (w.natAbs*2^n)) (b:=bT (w.natAbs*2^n));omega};rw[<-Int.natCast_mul,ZZ O (lA O) (lA O),aP,aP,bS,qld,qh9 he,wQ,wi O O,X7];congr 4;simp only[ne_eq,decide_not,Ro]
def qps {m:Nat} (u:dn<=m) {w f:Int} (k:NF w f w f) (hw:0<w):
 CT m false (zB w).1 (zB w).2.1 f 56=some ((false,false,lim (bT (w.natAbs*2^cM w.natAbs f 118)),(f-((cM w.natAbs f 118:Nat):Int))/2,decide (bT (w.natAbs*2^cM w.natAbs f 118)*bT (w.natAbs*2^cM w.natAbs f 118)≠w.natAbs*2^cM w.natAbs f 118),()),(),(),()):=by have hm:=Xb u;have hl:=k.len;have q1:=k.lo;have q2:=k.hi;have a1:vl (zB w).2.1=w.natAbs:=qw _;have w1:wI (wI (2*wI (56+3))-((ak w.natAbs:Nat):Int))=118-((ak w.natAbs:Nat):Int):=by{simp only[wQ];rw[wi (n:=(56:Int)+3) O O,wi (n:=2*((56:Int)+3)) O O,wi O O];omega};have K:(if(118:Int)-((ak w.natAbs:Nat):Int)>0 then(118:Int)-((ak w.natAbs:Nat):Int)else 0)=((118-ak w.natAbs:Nat):Int):=by{split<;>omega};have J:wI (f-((118-ak w.natAbs:Nat):Int))=f-((118-ak w.natAbs:Nat):Int):=by{rw[wQ,wi O O]};have G:wI (((118-ak w.natAbs:Nat):Int)+1)=((118-ak w.natAbs+1:Nat):Int):=by{rw[wQ,wi O O];omega};rw[CT,Mb O k.Sz,a1,bS];dsimp only;rw[w1,K,J,G,qgz];by_cases c:(f-((118-ak w.natAbs:Nat):Int))%2=0;{have e:cM w.natAbs f 118=118-ak w.natAbs:=by{unfold cM;rw[iP c]};rw[decide_eq_true c,show(!true)=false from rfl,cond_false,e];exact qkm u k hw O c rfl rfl};{have e:cM w.natAbs f 118=118-ak w.natAbs+1:=by{unfold cM;rw[af c]};rw[decide_eq_false c,show(!false)=true from rfl,cond_true,e];exact qkm u k hw O O rfl (by rw[wQ,wi O O])}
def qv9 {m:Nat} (hM:dn<=m) {a:D5} (ha:Cn a) (mode:Int):Ew m a.1 a.2.1 a.2.2.1 a.2.2.2.1 mode=some (gZ a mode,(),(),()):=by have hm:=Xb hM;have key:nM m a.1 a.2.1 a.2.2.1 a.2.2.2.1=some (a,(),()):=by{obtain⟨z,e,rfl⟩:=ha.mk;exact SR O};rw[Ew,key,bS];dsimp only;unfold gZ;cases ha with|bad=>{rw[iP (.inl rfl)];rfl}| @ok w f k=>{have hsw:=NA (m:=m) O k.ok;rw[k.bad1]at hsw;rw[k.bad1,cond_false,hsw,bS,bQ,k.z,k.e];dsimp only;by_cases c:w<0;{rw[iP (by unfold sgn;rw[iP c];omega),iP (.inr c)];rfl};{rw[af (by unfold sgn;rw[af c];split<;>omega),af (by simp[c]),bS,aA];dsimp only;by_cases d:w=0;{rw[iP (Qa.2 d),iP d]};{rw[af (λh=>d (Qa.1 h)),af d,k.mk_eq];dsimp only;have hX:w.natAbs≠0:=O;have hl:=k.len;have q1:=k.lo;have q2:=k.hi;rw[qps hM k O,bS];dsimp only;have hbig:=UI (p:=118) hX f;have hr200:cM w.natAbs f 118<=200:=by{unfold cM;split<;>omega};have hXb:ak (w.natAbs*2^cM w.natAbs f 118)<=140000:=by{rw[zY,Xk hX];omega};have hs:=Vb (M:=w.natAbs*2^cM w.natAbs f 118) (k:=58) O;have hsb:ak (bT (w.natAbs*2^cM w.natAbs f 118))<=140000:=zf (Qv (M4 _)) hXb;have hr:=Wj (m:=m) O false (v:=bT (w.natAbs*2^cM w.natAbs f 118)) (λh=>by rw[h,Xo]at hs;omega) O (e:=(f-((cM w.natAbs f 118:Nat):Int))/2) (decide (bT (w.natAbs*2^cM w.natAbs f 118)*bT (w.natAbs*2^cM w.natAbs f 118)≠w.natAbs*2^cM w.natAbs f 118)) mode O O;rw[X7]at hr;rw[hr,bS]}}}
def qog {m:Nat} (hM:dn<=m) {w f:Int} (k:NF w f w f) (hw:0<w) {n:Nat} (hn:n<=200) (he:(f-(n:Int))%2=0) {v:Int} (hv:v=(n:Int)) {u:Int} (hu:u=f-(n:Int)):
 ((o8 m (zB w).1 (zB w).2.1 v).bind λJ=>
 (wm m J.1.1 J.1.2.1).bind λG=>
 (JY m G.1.1 G.1.2.1 G.1.1 G.1.2.1).bind λy4=>
 (rP m y4.1.1 y4.1.2.1 J.1.1 J.1.2.1).bind λy5=>
 some (((G.1.1,G.1.2.1,()),wI (Int.tdiv u 2),y5.1 !=0,()),((),(),(),())))=
  some (((false,lim (bT (w.natAbs*2^n)),()),(f-(n:Int))/2,decide (bT (w.natAbs*2^n)*bT (w.natAbs*2^n)≠w.natAbs*2^n),()),((),(),(),())):=by have hm:=Xb hM;subst hv hu;have hl:=k.len;have q1:=k.lo;have q2:=k.hi;have hX:w.natAbs≠0:=O;have a0:ak (w.natAbs*2^n)<=140000:=by{rw[zY,Xk hX];omega};have b0:w.natAbs*2^n≠0:=λh=>by{rcases Rp.1 h with h|h;{exact hX h};{exact absurd h (Nat.pos_iff_ne_zero.1 (eQ O))}};have K:ak (bT (w.natAbs*2^n))<=140000:=zf (Qv (M4 _)) a0;have e1:w*2^n=((w.natAbs*2^n:Nat):Int):=by{rw[<-natAbs_pow hm];rw[show((w.natAbs:Nat):Int)=w by omega]};rw[Xx O O O O,bS,tN,e1];dsimp only;rw[qqq hM b0 O,bS];dsimp only;have d0:=Qi K;rw[qki O (di _) (di _) (by rw[X7];dsimp only;omega),aP,bS];dsimp only;have c0:ak (bT (w.natAbs*2^n)*bT (w.natAbs*2^n))<=280000:=by{have:=I4 (a:=bT (w.natAbs*2^n)) (b:=bT (w.natAbs*2^n));omega};rw[<-Int.natCast_mul,UP O (by rw[zy];omega) (by rw[zy];omega),bS,qld,qh9 he,wQ,wi O O,X7];congr 4;simp only[ne_eq,decide_not,Ro]
def qom {m:Nat} (u:dn<=m) {w f:Int} (k:NF w f w f) (hw:0<w):
 CN m (zB w).1 (zB w).2.1 f 60=some (((false,lim (bT (w.natAbs*2^cM w.natAbs f 126)),()),(f-((cM w.natAbs f 126:Nat):Int))/2,decide (bT (w.natAbs*2^cM w.natAbs f 126)*bT (w.natAbs*2^cM w.natAbs f 126)≠w.natAbs*2^cM w.natAbs f 126),()),(),(),(),()):=by have hm:=Xb u;have hl:=k.len;have q1:=k.lo;have q2:=k.hi;have a1:vl (zB w).2.1=w.natAbs:=qw _;have w1:wI (wI (wI (2*60)+6)-((ak w.natAbs:Nat):Int))=126-((ak w.natAbs:Nat):Int):=by{simp only[wQ];rw[wi (n:=(2:Int)*60) O O,wi (n:=(2:Int)*60+6) O O,wi O O];omega};have K:(if(0:Int)>126-((ak w.natAbs:Nat):Int)then(0:Int)else 126-((ak w.natAbs:Nat):Int))=((126-ak w.natAbs:Nat):Int):=by{split<;>omega};have J:wI (f-((126-ak w.natAbs:Nat):Int))=f-((126-ak w.natAbs:Nat):Int):=by{rw[wQ,wi O O]};have G:wI (((126-ak w.natAbs:Nat):Int)+1)=((126-ak w.natAbs+1:Nat):Int):=by{rw[wQ,wi O O];omega};rw[CN,Jh O k.Sz,a1,bS];dsimp only;rw[w1,K,J,G,qgz];by_cases c:(f-((126-ak w.natAbs:Nat):Int))%2=0;{have e:cM w.natAbs f 126=126-ak w.natAbs:=by{unfold cM;rw[iP c]};rw[decide_eq_true c,show(!true)=false from rfl,cond_false,e];exact qog u k hw O c rfl rfl};{have e:cM w.natAbs f 126=126-ak w.natAbs+1:=by{unfold cM;rw[af c]};rw[decide_eq_false c,show(!false)=true from rfl,cond_true,e];exact qog u k hw O O rfl (by rw[wQ,wi O O])}
def quy {m:Nat} (hM:dn<=m) {a:D5} (ha:Cn a) (mode:Int):Eo m a.1 a.2.1 a.2.2.1 a.2.2.2.1 mode=some (gZ a mode,(),(),()):=by have hm:=Xb hM;have key:nI m a.1 a.2.1 a.2.2.1 a.2.2.2.1=some (a,(),()):=by{obtain⟨z,e,rfl⟩:=ha.mk;exact X4 O};rw[Eo,key,bS];dsimp only;unfold gZ;cases ha with|bad=>{rw[iP (.inl rfl)];rfl}| @ok w f k=>{have hsw:=Mc (m:=m) O k.ok;rw[k.bad1,cond_false,hsw,bS,bQ,k.z,k.e];dsimp only;by_cases c:w<0;{rw[iP (by unfold sgn;rw[iP c];omega),iP (.inr c)];rfl};{rw[af (by unfold sgn;rw[af c];split<;>omega),af (by simp[c]),bS,aA];dsimp only;by_cases d:w=0;{rw[iP (Qa.2 d),iP d]};{rw[af (λh=>d (Qa.1 h)),af d,k.mk_eq];dsimp only;have hX:w.natAbs≠0:=O;have hl:=k.len;have q1:=k.lo;have q2:=k.hi;rw[qom hM k O,bS];dsimp only;have hbig:=UI (p:=126) hX f;have hr200:cM w.natAbs f 126<=200:=by{unfold cM;split<;>omega};have hXb:ak (w.natAbs*2^cM w.natAbs f 126)<=140000:=by{rw[zY,Xk hX];omega};have hs:=Vb (M:=w.natAbs*2^cM w.natAbs f 126) (k:=62) O;have hsb:ak (bT (w.natAbs*2^cM w.natAbs f 126))<=140000:=zf (Qv (M4 _)) hXb;have hr:=Ww (m:=m) O false (v:=bT (w.natAbs*2^cM w.natAbs f 126)) (λh=>by rw[h,Xo]at hs;omega) O (e:=(f-((cM w.natAbs f 126:Nat):Int))/2) (decide (bT (w.natAbs*2^cM w.natAbs f 126)*bT (w.natAbs*2^cM w.natAbs f 126)≠w.natAbs*2^cM w.natAbs f 126)) mode O O (λ_=>by unfold bc;omega);rw[X7]at hr;rw[hr,bS,qt7 hX]}}}
end Go.Vs.F
