import Derived.Test.YtkbgfnhdfmmfcaaGreatDoorLd
import Derived.KernelRfl
import Derived.Test.YtkbgfnhdfmmfcaaGreatDoorFn
import Derived.Test.YtkbgfnhdfmmfcaaGreatDoorLc
set_option linter.unusedVariables false
set_option linter.unusedSimpArgs false
set_option linter.unusedSectionVars false
set_option linter.defProp false
set_option maxRecDepth 100000
namespace Go.Vs.F
def qnn (m:Nat) {a b:LI} (hb:Lm b) (hl:b.length<=1000000) {i x:Nat} (K:i<a.length) (G:a.getD i 0=(x:Int)) (hx:x<4294967296) (hi:i<=1000000): ∀(n j:Nat) (out:LI) (c:Nat),b.length-j<n->j<=b.length->Lm out->i+b.length<out.length->c<4294967296->
 ∃u c',oo m n a b out (i:Int) (c:Int) (j:Int)=some (.inl (a,b,u,(i:Int),((c':Nat):Int),()))/\Lm u/\u.length=out.length/\c'<4294967296/\
  (∀p,i+b.length<=p->u.getD p 0=out.getD p 0)/\vl u+4294967296^(i+b.length)*c'=vl out+4294967296^(i+j)*(c+x*vl (b.drop j))
 |0,j,out,c,h,_,_,_,_=>O
 |n+1,j,out,c,h,b0,J,a0,hc=>by rw[oo];by_cases hj:j<b.length;{have h1:((j:Int)<(b.length:Int)):=O;have c0:(0:Int)<=(i:Int)/\(i:Int)<(a.length:Int):=O;have c1:(0:Int)<=(j:Int)/\(j:Int)<(b.length:Int):=O;obtain⟨y,ey,hy⟩:=hb.get hj;have w0:wI ((i:Int)+(j:Int))=((i+j:Nat):Int):=by{rw[wQ,wi O O];omega};have c2:(0:Int)<=((i+j:Nat):Int)/\((i+j:Nat):Int)<(out.length:Int):=O;obtain⟨z,ez,hz⟩:=J.get (show i+j<out.length by omega);have hm:=XZ hx hy;have w1:wJ (x:Int)=(x:Int):=bt O;have w2:wJ (y:Int)=(y:Int):=bt O;have w3:wJ (z:Int)=(z:Int):=bt O;have w4:wJ ((x:Int)*(y:Int))=((x*y:Nat):Int):=by{rw[show(x:Int)*(y:Int)=((x*y:Nat):Int) by rw[oZ],bt O]};have w5:wJ ((c:Int)+((x*y:Nat):Int))=((c+x*y:Nat):Int):=by{rw[show(c:Int)+((x*y:Nat):Int)=((c+x*y:Nat):Int) by rw[yg],bt O]};have w6:wJ (((c+x*y:Nat):Int)+(z:Int))=((c+x*y+z:Nat):Int):=by{rw[show((c+x*y:Nat):Int)+(z:Int)=((c+x*y+z:Nat):Int) by rw[yg (c+x*y)],bt O]};have e1:wK ((c+x*y+z:Nat):Int)=(((c+x*y+z)%4294967296:Nat):Int):=fG;have e2:aJ .u64 ((c+x*y+z:Nat):Int) 32=(((c+x*y+z)/4294967296:Nat):Int):=cZ (a:=c+x*y+z) (k:=32) O;rw[bQ,iP h1,iP c0,iP c1,w0,iP c2,iP c2,tN,tN,tN,zH,G,ey,ez,w1,w2,w3,w4,w5,w6,e1,e2,show wI ((j:Int)+1)=((j+1:Nat):Int)from ay O];have hlen:(out.set (i+j) (((c+x*y+z)%4294967296:Nat):Int)).length=out.length:=zU ..;obtain⟨u,c',g1,g2,g3,g4,g5,g6⟩:=qnn m hb hl K G hx hi n (j+1) (out.set (i+j) (((c+x*y+z)%4294967296:Nat):Int)) ((c+x*y+z)/4294967296) O O (Zl J O) O O;refine⟨u,c',g1,g2,O,g4,λp hp=> ?_,?_⟩;{rw[g5 p hp,bD O]};{rw[g6];have hs:=J3 (l:=out) (p:=i+j) (y:=(((c+x*y+z)%4294967296:Nat):Int)) O;rw[ez,tN,tN]at hs;have hd:vl (b.drop j)=y+4294967296*vl (b.drop (j+1)):=by{rw[Xa hj,ey,tN]};rw[hd,show i+(j+1)=i+j+1 by omega,gx];generalize 4294967296^(i+j)=P at*;generalize vl (b.drop (j+1))=D at*;generalize vl (out.set (i+j) (((c+x*y+z)%4294967296:Nat):Int))=A at*;have ht:c+x*y+z=(c+x*y+z)%4294967296+4294967296*((c+x*y+z)/4294967296):=(Ny _ _).symm;have k1:P*(c+x*y+z)=P*((c+x*y+z)%4294967296)+P*(4294967296*((c+x*y+z)/4294967296)):=by{rw[<-Nat.mul_add,<-ht]};have k2:P*(c+x*y+z)=P*c+P*(x*y)+P*z:=by{rw[zJ,zJ]};have k3:P*4294967296*((c+x*y+z)/4294967296+x*D)=P*(4294967296*((c+x*y+z)/4294967296))+P*(4294967296*(x*D)):=by{rw[zJ,zV,zV]};have k4:P*(c+x*(y+4294967296*D))=P*c+(P*(x*y)+P*(4294967296*(x*D))):=by{rw[zJ,zJ x,zJ P (x*y),vC x 4294967296 D]};rw[k3,k4];omega}};{rw[bQ,ae O];have:j=b.length:=O;subst this;refine⟨out,c,rfl,J,rfl,hc,λ_ _=>rfl,?_⟩;rw[ql (zI _),zy,zS]}
def qni (m:Nat) {a b:LI} (hm:2000000<m) (ha:Lm a) (hb:Lm b) (K:a.length<=1000000) (G:b.length<=1000000): ∀(n i:Nat) (out:LI),a.length-i<n->i<=a.length->Lm out->out.length=a.length+b.length->(∀p,i+b.length<=p->out.getD p 0=0)->
 ∃u,oq m n a b out (i:Int)=some (.inl (u,()))/\Lm u/\u.length=a.length+b.length/\vl u=vl out+4294967296^i*(vl (a.drop i)*vl b)
 |0,i,out,h,_,_,_,_=>O
 |n+1,i,out,h,a0,ho,J,hz=>by rw[oq];by_cases hi:i<a.length;{have h1:((i:Int)<(a.length:Int)):=O;obtain⟨x,ex,hx⟩:=ha.get hi;obtain⟨o1,c,g1,g2,g3,g4,g5,g6⟩:=qnn m (a:=a) hb G (i:=i) hi ex hx O m 0 out 0 O O ho O O;rw[nZ]at g1;have w0:wI ((i:Int)+(b.length:Int))=((i+b.length:Nat):Int):=by{rw[wQ,wi O O];omega};have c2:(0:Int)<=((i+b.length:Nat):Int)/\((i+b.length:Nat):Int)<(o1.length:Int):=O;have w1:wK (c:Int)=(c:Int):=by{rw[fG];congr 1;omega};rw[bQ,iP h1,g1,bS];dsimp only;rw[w0,iP c2,tN,zH,w1,show wI ((i:Int)+1)=((i+1:Nat):Int)from ay O];have hs:=J3 (l:=o1) (p:=i+b.length) (y:=(c:Int)) O;rw[g5 _ (zI _),hz _ (zI _),tN]at hs;obtain⟨u,q1,q2,q3,q4⟩:=qni m hm ha hb K G n (i+1) (o1.set (i+b.length) (c:Int)) O O (Zl g2 g4) (by rw[zU];omega) (λp hp=>by{rw[bD O,g5 p O];exact hz p O});refine⟨u,q1,q2,q3,?_⟩;rw[q4,Xa hi,ex,tN,gx];simp only[K7,zy,zS,zH,lN]at hs g6;rw[gr,zJ];have k:4294967296^i*4294967296*(vl (a.drop (i+1))*vl b)=4294967296^i*(4294967296*vl (a.drop (i+1))*vl b):=by{rw[zV,zV]};rw[k];omega};{rw[bQ,ae O];refine⟨out,rfl,ho,J,?_⟩;rw[ql O,yi,zy,zS]}
def qsl {m:Nat} (hm:4000000<=m) {a b:LI} (ha:Lm a) (hb:Lm b) (a0:a.length<=400000) (K:b.length<=400000): ∃out,F9 m a b=some (out,(),(),())/\Lm out/\out.length=a.length+b.length/\vl out=vl a*vl b:=by have w:wI ((a.length:Int)+(b.length:Int))=((a.length+b.length:Nat):Int):=by{rw[wQ,wi O O];omega};obtain⟨out,e,J,G,u⟩:=qni m O ha hb O O m 0 (List.replicate (a.length+b.length) 0) O O Qr (by simp) (λp hp=>by{by_cases h:p<a.length+b.length;{rw[Xf h]};{rw[Z9 (by simpa using h)]}});rw[nZ]at e;refine⟨out,?_,J,G,?_⟩;{rw[F9,w,iP O,tN,e];rfl};{rw[u,Qw];simp}
def qwg {m:Nat} (hm:4000000<=m) {n1 n2:Bool} {l1 l2:LI} (u:Lm l1) (h2:Lm l2) (hl:l1.length+l2.length<=400000):WM m n1 l1 n2 l2=some (zB (zv n1 l1*zv n2 l2),(),(),()):=by have b1:=Qz u;have b2:=Qz h2;obtain⟨out,e,J,K,G⟩:=qsl hm (qy (vl l1)) (qy (vl l2)) O O;rw[WM,Yv u O O,bS,Yv h2 O O,bS];dsimp only;rw[e,bS];dsimp only;rw[Y4 O J O,bS];have:zv (!(n1==n2)) out=zv n1 l1*zv n2 l2:=by{unfold zv;rw[G,qo,qo];cases n1<;>cases n2<;>simp[OA,Uz]};rw[this]
end Go.Vs.F
set_option maxRecDepth 100000
namespace Go.Vs.F
def CJ (x:Int):Prop:= -9223372036854775808<=x/\x<9223372036854775808
def aE (f:Int):Int:=sc (tW f) (qQ f) (-1074)
def Qs {f:Int} (h:aS f):d8 f=ax (aE f) (-1074):=by have he:=Li (f:=f);unfold d8 aE;rw[iP h,Cw O]
def cq {f:Int} (h:aS f):cd (aE f) (-1074):=by have he:=Li (f:=f);have:=qxs h;unfold cd aE at*;rwa [Cw O]
abbrev bR:=Bool×(Bool×LI)×Int
def B3 (d:Bool×Bool×LI×Int×Unit):bR:=(d.1,((d.2.1,d.2.2.1),d.2.2.2.1))
def dK:LI->Int
 |[]=>0
 |x::l=>x+dK l
def qhp {a b:LI}:dK (a++b)=dK a+dK b:=by induction a with|nil=>simp[dK]|cons x a u=>{rw[Ct,dK,dK,u];omega}
def VN {v:Int} (h:aS v):ak (aE v).natAbs<=2100:=by have G:=PG v;have h2:=qo4 h;have u:=Li (f:=v);have:=P3 (w:=tW v) (f:=qQ v) (b:= -1074) O;unfold aE;omega
def Jf {a b:Int} (G:aS a) (u:aS b):cd (aE a*aE b) (-2148):=by by_cases h:aE a*aE b=0;{rw[h];exact qj2 _};{have h1:=VN G;have h2:=VN u;have K:=Wf (a:=aE a) (b:=aE b);have J:=QO (n:=(aE a*aE b).natAbs);exact Y2.2 (.inr ⟨O,O⟩)}
def qso {m:Nat} (hm:4000000<=m) {a b B C:Int}:
 oQ m (ax a B).1 (ax a B).2.1 (ax a B).2.2.1 (ax a B).2.2.2.1 (ax b C).1 (ax b C).2.1 (ax b C).2.2.1 (ax b C).2.2.2.1=some (if cd a B/\cd b C then ax (a*b) (B+C)else qH,(),(),()):=by rw[oQ,X9 O,bS,X9 O,bS];dsimp only;by_cases u:cd a B;{by_cases h2:cd b C;{obtain⟨w,f,k,k1,k2,k3⟩:=X5 u;obtain⟨x,g,l,l1,l2,K⟩:=X5 h2;have e0:=k.lo;have d0:=k.hi;have c0:=l.lo;have b0:=l.hi;have n1:=k.len;have n2:=l.len;have hl:=k.lim;have a0:=l.lim;have G:(ax a B).1=false:=u;have i2:(ax b C).1=false:=h2;have J:wI (f+g)=f+g:=by{rw[wQ,wi O O]};rw[iP ⟨u,h2⟩,k1,k2,k3,l1,l2,K,G,i2,cond_false,cond_false,qwg hm (dG w) (dG x) O,aM,aM,bS,J];dsimp only;rw[Jw O (zQ Wf O) O O,(k.eq.mul l.eq).mk];rfl};{have G:(ax a B).1=false:=u;rw[ae (λh=>h2 h.2),G,cond_false,xq h2];rfl}};{rw[ae (λh=>u h.1),xq u];rfl}
def q6i {m:Nat} (hm:3000000<m) {n:Int} (h:CJ n):MZ m n=some (ax n 0,(),()):=by have u:ak n.natAbs<=1000:=zQ (Qq (k:=64) (by unfold CJ at h;omega)) O;rw[MZ,q3i O h.1 h.2,bS];dsimp only;rw[Jw hm O O O];rfl
def j8 (x y:LI) (k:Nat):LI:=(List.range k).map λi=>aE (x.getD i 0)*aE (y.getD i 0)
def qi5 {a b:Int} (G:aS a) (u:aS b):ak (aE a*aE b).natAbs<=4200:=by have K:=VN G;have h2:=VN u;have J:=Wf (a:=aE a) (b:=aE b);omega
def qie {m:Nat} (hm:3000000<m) {z e:Int} (h:cd z e):A1 m (ax z e).1 (ax z e).2.1 (ax z e).2.2.1 (ax z e).2.2.2.1=some (ax (z.natAbs:Int) e,(),()):=by have i:(ax z e).1=false:=h;rw[A1,X9 hm,bS];dsimp only;rw[i,cond_false];obtain⟨w,f,k,J,G,u⟩:=X5 h;have hb:=k.len;have a0:=k.lo;have K:=k.hi;rw[J,G,u,N2 O k.Sz,bS,aM];dsimp only;rw[Jw hm (by rw[jy];omega) O O,bS];have e1:cW (w.natAbs:Int) f (z.natAbs:Int) e:=by{obtain⟨b,b1,b2,b3⟩:=k.eq;refine⟨b,b1,b2,?_⟩;unfold sc at*;have h1:(w.natAbs:Int)*2^(f-b).toNat=((w*2^(f-b).toNat).natAbs:Int):=by{rw[X7,oZ,oJ];exact K2 _ _};have h2:(z.natAbs:Int)*2^(e-b).toNat=((z*2^(e-b).toNat).natAbs:Int):=by{rw[X7,oZ,oJ];exact K2 _ _};rw[h1,h2,b3]};rw[e1.mk]
def qmo {z e:Int} (h:cd z e):cd (z.natAbs:Int) e:=by rw[Y2]at*;rw[jy];omega
def dy (B z:Int):bR:=B3 (ax z B)
def T6 {zs:LI} {B:Int} {k:Nat} (u:k<zs.length) {d:bR}:(zs.map (dy B)).getD k d=dy B (zs.getD k 0):=by simp[List.getD,u]
def Om {zs:LI} {k:Nat} (u:k<zs.length):dK (zs.take (k+1))=dK (zs.take k)+zs.getD k 0:=by rw[OJ u,qhp];simp[dK,List.getD,u]
def jL (B:Int):Int->LI->Int
 |e,[]=>e
 |e,z::zs=>jL B (if(ax z B).2.2.2.1<e then(ax z B).2.2.2.1 else e) zs
def ZJ {B:Int}: ∀{zs:LI} {e:Int},jL B e zs<=e/\ ∀z∈zs,jL B e zs<=(ax z B).2.2.2.1
 |[],e=>⟨ug _,λz h=>by cases h⟩
 |z::zs,e=>by have G:=ZJ (B:=B) (zs:=zs) (e:=if(ax z B).2.2.2.1<e then(ax z B).2.2.2.1 else e);unfold jL;have J:(if(ax z B).2.2.2.1<e then(ax z B).2.2.2.1 else e)<=e/\(if(ax z B).2.2.2.1<e then(ax z B).2.2.2.1 else e)<=(ax z B).2.2.2.1:=by{split<;>omega};refine⟨O,λy u=> ?_⟩;rcases mC u with rfl|u;{omega};{exact G.2 y u}
def YX {B:Int}: ∀{zs:LI} {e:Int},-65536<=e->(∀z∈zs,cd z B)-> -65536<=jL B e zs
 |[],e,h,_=>h
 |z::zs,e,h,u=>by unfold jL;refine YX ?_ λy J=>u y (mT J);obtain⟨w,f,k,O,K,G⟩:=X5 (u z mS);have:=k.lo;rw[G];split<;>omega
def qtv {m:Nat} (hm:3000000<m) {B:Int} {zs:LI} (hl:zs.length<=10000) (G: ∀z∈zs,cd z B) (t0 t1:Bool) (K:LI) (J:Int): ∀(n k:Nat) (e:Int),zs.length-k<n->k<=zs.length->
 oe m n t0 t1 K J ((zs.take k).map (dy B)) e (zs.map (dy B)) (zs.length:Int) (k:Int)=some (.inr (.inl ((t0,t1,K,J,()),zs.map (dy B),jL B e (zs.drop k),())))
 |0,k,e,h,_=>absurd h (zC _)
 |n+1,k,e,h,a0=>by rw[oe,bQ];by_cases u:k<zs.length;{have hz:cd (zs.getD k 0) B:=G _ (Xm u);have ih:=qtv hm hl G t0 t1 K J n (k+1) (if(ax (zs.getD k 0) B).2.2.2.1<e then(ax (zs.getD k 0) B).2.2.2.1 else e) O O;rw[iP O,iP (by rw[zi];omega),tN,T6 u,show gR m (dy B (zs.getD k 0)).1 (dy B (zs.getD k 0)).2.1.1 (dy B (zs.getD k 0)).2.1.2 (dy B (zs.getD k 0)).2.2=_ from Ly hm,bS];dsimp only;rw[decide_eq_true hz,qS,cond_false,iP (by simp;omega),show wI ((k:Int)+1)=((k+1:Nat):Int)from ay O];have e1:(zs.take k).map (dy B)++[((ax (zs.getD k 0) B).1,((ax (zs.getD k 0) B).2.1,(ax (zs.getD k 0) B).2.2.1),(ax (zs.getD k 0) B).2.2.2.1)]=(zs.take (k+1)).map (dy B):=by{rw[OJ u,tR];simp[dy,B3,List.getD,u]};have e2:jL B e (zs.drop k)=jL B (if(ax (zs.getD k 0) B).2.2.2.1<e then(ax (zs.getD k 0) B).2.2.2.1 else e) (zs.drop (k+1)):=by{rw[GE u,jL];simp[List.getD,u]};rw[e1,e2];exact ih};{have:k=zs.length:=O;subst this;rw[ae O,GG,List.drop_length];rfl}
def qt2 {m:Nat} (hm:3000000<m) {B:Int} {zs:LI} (hl:zs.length<=10000) (G: ∀z∈zs,cd z B) {E:Int} (K: -65536<=E) (a0:E<=0) (hE: ∀z∈zs,E<=(ax z B).2.2.2.1) (t0 t1:Bool) (t2:LI) (t3:Int): ∀(n k:Nat) (S:Int),zs.length-k<n->k<=zs.length->
 ak S.natAbs<=300000+k->cW S E (dK (zs.take k)) B->
 ∃T,od m n t0 t1 t2 t3 E (zB S).1 (zB S).2.1 (zs.map (dy B)) (zs.length:Int) (k:Int)=some (.inl ((t0,t1,t2,t3,()),E,((zB T).1,(zB T).2.1,()),()))/\ak T.natAbs<=400000/\cW T E (dK zs) B
 |0,k,S,h,_,_,_=>absurd h (zC _)
 |n+1,k,S,h,b0,hS,hQ=>by rw[od,bQ];by_cases hk:k<zs.length;{have hz:cd (zs.getD k 0) B:=G _ (Xm hk);obtain⟨w,f,u,k1,k2,k3⟩:=X5 hz;have J:E<=f:=by{rw[<-k3];exact hE _ (Xm hk)};have d0:=u.lo;have c0:=u.hi;have s1:=o7 u J K;have hle:=u.len;have w1:wI (f-E)=f-E:=by{rw[wQ,wi O O]};have q2:cW (S+sc w f E) E (dK (zs.take (k+1))) B:=by{rw[Om hk];exact hQ.add (c:=0) (g:=0) ((cW.sc J).trans u.eq)};have q1:ak (S+sc w f E).natAbs<=300000+(k+1):=by{have:=Y0 (k:=300000+k) hS (zQ s1 O);omega};obtain⟨T,i1,i2,i3⟩:=qt2 hm hl G K a0 hE t0 t1 t2 t3 n (k+1) (S+sc w f E) O O q1 q2;refine⟨T,?_,i2,i3⟩;rw[iP O,iP (by rw[zi];omega),tN,zH,T6 hk,show(dy B (zs.getD k 0)).2.1.1=(zB w).1 from k1,show(dy B (zs.getD k 0)).2.1.2=(zB w).2.1 from k2,show(dy B (zs.getD k 0)).2.2=f from k3,w1,eI hm O O O,bS];dsimp only;rw[NQ O (pR O) (pR (by unfold sc at s1;omega)),aM,aM,bS,show wI ((k:Int)+1)=((k+1:Nat):Int)from ay O];exact i1};{have:k=zs.length:=O;subst this;rw[GG]at hQ;exact⟨S,by rw[ae O],O,hQ⟩}
def qtm {m:Nat} (hm:3000000<m) {B:Int} {zs:LI} (hl:zs.length<=10000) (u: ∀z∈zs,cd z B):Bu m (zs.map (dy B))=some (ax (dK zs) B,(),()):=by have h0:=qtv hm hl u false false [] 0 m 0 0 O O;rw[xh,lN,GK,nZ]at h0;rw[Bu,zi,h0,bS];dsimp only;have K:=ZJ (B:=B) (zs:=zs) (e:=0);have G:=YX (B:=B) (zs:=zs) (e:=0) O u;obtain⟨T,J,i2,i3⟩:=qt2 hm hl u G K.1 K.2 false false [] 0 m 0 0 O O (zQ (Qq (n:=0) (k:=0) (by decide)) O) (cW.zero _ _);rw[nZ]at J;rw[zi,show([]:LI)=(zB 0).2.1 from Q5.symm,show false=(zB 0).1 from rfl];rw[show(zB 0).1=false from rfl,show(zB 0).2.1=([]:LI)from Q5]at*;rw[J,bS];dsimp only;rw[G1 hm O O O,i3.mk];rfl
end Go.Vs.F
set_option maxRecDepth 100000
namespace Go.Vs.F
def cf (l:LI):Prop:= ∀i,i<l.length->b7 (l.getD i 0)/\aS (l.getD i 0)
def UL (l:LI):Prop:= ∀i,i<l.length->b7 (l.getD i 0)
def Lk (m:Nat) (a:Int) {k:Nat} (G:0<k) (J:k<9223372036854775808): ∃r:Nat,r<k/\CI m a (k:Int)=some ((r:Int),(),(),()):=by have w:wJ (k:Int)=(k:Int):=bt O;obtain⟨x,hx,_⟩:=qxl a;have u:wJ a=(x:Int):=hx;refine⟨x%k,kh _ G,?_⟩;have:=kh x G;rw[CI,w,u,iP O,tm,wQ,wi O O]
def yr (a:Int):b7 (IntKind.wrap .u64 a):=XT a
def Vy (m:Nat) {raw:LI} (hl:raw.length<=9223372036854775807) (k:Int): ∃w,D6 m raw k=some (w,(),(),())/\b7 w:=by rw[D6,bQ];by_cases c:0<raw.length;{obtain⟨r,u,e⟩:=Lk m k (k:=raw.length) c O;rw[iP O,e,bS];dsimp only;rw[iP O];exact⟨_,rfl,yr _⟩};{rw[ae O];exact⟨_,rfl,yr _⟩}
def qth {x M E:Nat} (hx:x<18446744073709551616) (K:M<18446744073709551616) (G:M/4503599627370496%2048=0) (hE:E<2047):
 b7 (bf .u64 (qm .u64 (x:Int) (M:Int)) (bE .u64 (wJ (E:Int)) 52))/\aS (bf .u64 (qm .u64 (x:Int) (M:Int)) (bE .u64 (wJ (E:Int)) 52)):=by refine⟨yr _,?_⟩;have e2:bE .u64 (wJ (E:Int)) 52=((E*2^52:Nat):Int):=by{rw[bt O];exact gC (a:=E) (k:=52) O (by rw[show(2:Nat)^52=4503599627370496 by decide];omega)};have J:x&&&M<18446744073709551616:=vD Uf hx;have u:(2:Nat)^52=4503599627370496:=by{decide};rw[ga hx K,e2,mH J (by rw[u];omega)];unfold aS de;have key:(x&&&M|||E*2^52)/2^52%2^11=E:=by{rw[<-Nat.shiftRight_eq_div_pow,Nat.shiftRight_or_distrib,Nat.or_mod_two_pow,Nat.shiftRight_and_distrib,Nat.and_mod_two_pow,Nat.shiftRight_eq_div_pow M,u];rw[show(2:Nat)^11=2048 by decide,G,Nat.and_zero,Nat.zero_or,Nat.shiftRight_eq_div_pow,u,Ur _ (by decide)];omega};rw[u,show(2:Nat)^11=2048 by decide]at key;rw[u];generalize (x&&&M|||E*4503599627370496)=Z at*;omega
def O2:LI:=[13844628204490326016,13844065254536904704,13842939354630062080,13841813454723219456,13840687554816376832,13839561654909534208,13837309855095848960,13835058055282163712,13830554455654793216,0,4607182418800017408,4611686018427387904,4613937818241073152,4616189618054758400,4617315517961601024,4618441417868443648,4619567317775286272,4620693217682128896,4621256167635550208]
def qrg (j:Nat):((List.range 19).map λr=>tj (j+100) ((r:Nat):Int))=O2.map λf=>some (f,(),()):=by kernel_rfl
def qy6:(O2.all λf=>decide ((0<=f/\f<18446744073709551616)/\f/4503599627370496%2048≠2047))=true:=by decide+kernel
def qqt {m:Nat} (hm:5000000000<=m) {x:Int} (hx:b7 x): ∃f,tj m x=some (f,(),())/\b7 f/\aS f:=by obtain⟨j,rfl⟩: ∃j,m=j+100:=⟨m-100,O⟩;obtain⟨y,rfl⟩: ∃y:Nat,x=(y:Int):=⟨x.toNat,by have:=hx.1;omega⟩;have J:y%19<19:=kh _ (by decide);have e:tj (j+100) ((y:Nat):Int)=tj (j+100) ((y%19:Nat):Int):=by{rw[tj,tj,show(19:Int)=((19:Nat):Int)from rfl,tm,tm,CN]};have G:=congrArg (λl=>l[y%19]?) (qrg j);have hl:O2.length=19:=by{decide};simp only[List.getElem?_map,List.getElem?_range J,List.getElem?_eq_getElem (show y%19<O2.length by omega),yo,zf]at G;have h2:=zq.1 qy6 O2[y%19] (zW _);have u:=of_decide_eq_true h2;exact⟨_,by rw[e];exact G,u.1,u.2⟩
def qt4 {m:Nat} (hm:5000000000<=m) {x:Int} (hx:b7 x) (style:Int): ∃f,Rv m x style=some (f,(),(),())/\b7 f/\aS f:=by obtain⟨r,hr,e⟩:=Lk m style (k:=4) (by decide) (by decide);obtain⟨y,rfl⟩: ∃y:Nat,x=(y:Int):=⟨x.toNat,by have:=hx.1;omega⟩;have J:y<18446744073709551616:=by{have:=hx.2;omega};rw[Rv,show(4:Int)=((4:Nat):Int)from rfl,e,bS,aB,aB,aB];dsimp only;by_cases c1:r=1;{subst c1;have G:qm .u64 (aJ .u64 (y:Int) 52) 7=((y/4503599627370496%8:Nat):Int):=by{have u:aJ .u64 (y:Int) 52=((y/4503599627370496:Nat):Int):=cZ (a:=y) (k:=52) O;have h2:qm .u64 ((y/4503599627370496:Nat):Int) ((7:Nat):Int)=((y/4503599627370496&&&7:Nat):Int):=ga O (by decide);rw[u,show(7:Int)=((7:Nat):Int)from rfl,h2,ym _ 3]};have:=qth (x:=y) (M:=9227875636482146303) (E:=1019+y/4503599627370496%8) J (by decide) (by decide) O;rw[iP (by decide),G,show(1019:Int)+((y/4503599627370496%8:Nat):Int)=((1019+y/4503599627370496%8:Nat):Int) by omega];exact⟨_,rfl,this⟩};{rw[ae O];by_cases c2:r=2;{subst c2;have G:Int.tmod (aJ .u64 (y:Int) 8) 81=((y/256%81:Nat):Int):=by{have u:aJ .u64 (y:Int) 8=((y/256:Nat):Int):=cZ (a:=y) (k:=8) O;rw[u,show(81:Int)=((81:Nat):Int)from rfl,tm]};have:=qth (x:=y) (M:=9225623836668461056) (E:=983+y/256%81) J (by decide) (by decide) O;rw[iP (by decide),G,show(983:Int)+((y/256%81:Nat):Int)=((983+y/256%81:Nat):Int) by omega];exact⟨_,rfl,this⟩};{rw[ae O];by_cases c3:r=3;{subst c3;rw[iP (by decide),P7 hx,bS];dsimp only;by_cases f:aS (y:Int);{rw[decide_eq_true f];exact⟨_,rfl,hx,f⟩};{rw[decide_eq_false f];exact⟨_,rfl,⟨by decide,by decide⟩,by decide⟩}};{rw[ae O];obtain⟨f,K,u,h2⟩:=qqt hm hx;rw[K,bS];exact⟨_,rfl,u,h2⟩}}}
def PE:cf []:=λi u=>absurd u (zC _)
def VU {l:LI} (h:cf l) {f:Int} (G:b7 f) (h2:aS f):cf (l++[f]):=by intro i u;rw[zG,zN]at u;by_cases c:i<l.length;{have:(l++[f]).getD i 0=l.getD i 0:=by{rw[List.getD,List.getElem?_append_left c];rfl};rw[this];exact h i c};{have:i=l.length:=O;subst this;have:(l++[f]).getD l.length 0=f:=by{simp[List.getD]};rw[this];exact⟨G,h2⟩}
def qq3 {m:Nat} (hm:5000000000<=m) {raw:LI} (hl:raw.length<=9223372036854775807) {at0 n:Nat} (K:at0<=1000) (hn:n<=1000) (style:Int): ∀(N k:Nat) (out:LI),n-k<N->k<=n->out.length=k->cf out->
 ∃l,s5 m N raw (at0:Int) (n:Int) style out (k:Int)=some (.inl (l,()))/\l.length=n/\cf l:=by intro N;induction N with|zero=>{intro k out h;omega}|succ N J=>{intro k out h hk u G;rw[s5,bQ];by_cases c:k<n;{obtain⟨w,ew,hw⟩:=Vy m hl (wI ((at0:Int)+(k:Int)));obtain⟨f,ef,h1,h2⟩:=qt4 hm hw style;rw[iP O,ew,bS,ef,bS,u,iP (by show k+1<=_;omega),wQ,ay O];exact J (k+1) _ O O (by simp[u]) (VU G h1 h2)};{rw[ae O];exact⟨out,rfl,O,G⟩}}
def qmi {m:Nat} (hm:5000000000<=m) {raw:LI} (hl:raw.length<=9223372036854775807) {at0 n:Nat} (u:at0<=1000) (hn:n<=1000) (style:Int): ∃l,Ow m raw (at0:Int) (n:Int) style=some (l,(),(),(),(),())/\l.length=n/\cf l:=by obtain⟨l,e,G,h2⟩:=qq3 hm hl u hn style m 0 [] O O rfl PE;refine⟨l,?_,G,h2⟩;rw[Ow];rw[nZ]at e;rw[e,bS]
def cf.U {l:LI} (h:cf l):UL l:=λi u=>(h i u).1
def PA {m:Nat} (hm:3000000<m) {B:Int} {zs:LI} (hl:zs.length<=10000) (u: ∀z∈zs,cd z B) (t0 t1:Bool) (t2:LI) (t3:Int): ∀(n k:Nat) (T e:Int),zs.length-k<n->k<=zs.length->
 cW T e (dK (zs.take k)) B-> -65536<=e->e<=65536->(ak T.natAbs:Int)+e<=65536+(k:Int)->
 ∃T' e',l9 m n (zs.map (dy B)) t0 t1 t2 t3 (zB T).1 (zB T).2.1 e (k:Int)=some (.inr (.inl ((t0,t1,t2,t3,()),((zB T').1,(zB T').2.1,()),e',())))/\ak T'.natAbs<=200000/\cW T' e' (dK zs) B/\ -65536<=e'/\e'<=65536
 |0,k,T,e,h,_,_,_,_,_=>absurd h (zC _)
 |n+1,k,T,e,h,e0,hQ,a0,K,hb=>by rw[l9,bQ];by_cases hk:k<zs.length;{have hz:cd (zs.getD k 0) B:=u _ (Xm hk);obtain⟨w,f,J,k1,k2,k3⟩:=X5 hz;have c0:=J.lo;have g0:=J.hi;have hle:=J.len;have w0:wI ((k:Int)+1)=((k+1:Nat):Int):=ay O;have d0:(ax (zs.getD k 0) B).1=false:=hz;rw[iP (by rw[zi];omega),iP (by rw[zi];omega),tN,T6 hk,show pZ m (dy B (zs.getD k 0)).1 (dy B (zs.getD k 0)).2.1.1 (dy B (zs.getD k 0)).2.1.2 (dy B (zs.getD k 0)).2.2=_ from X9 hm,bS];dsimp only;rw[d0,cond_false,Qt hm hz,bS,aB];dsimp only;by_cases z0:zs.getD k 0=0;{rw[iP (Qb.2 z0),w0];exact PA hm hl u t0 t1 t2 t3 n (k+1) T e O O (by rw[Om hk,z0,K1];exact hQ) a0 K O};{have hT:Sz (zB T).2.1:=pR O;rw[ae (λh=>z0 (Qb.1 h)),Ja O hT,bS,aM,aB];dsimp only;by_cases b0:T=0;{rw[iP (Qb.2 b0),w0,k1,k2,k3];subst b0;refine PA hm hl u t0 t1 t2 t3 n (k+1) w f O O ?_ c0 O O;have q:=((cW.zero f e).trans hQ).add (c:=0) (g:=0) J.eq;rw[GL]at q;rw[Om hk];exact q};{rw[ae (λh=>b0 (Qb.1 h)),bQ,k1,k2,k3];by_cases G:f>=e;{have w1:wI (f-e)=f-e:=by{rw[wQ,wi O O]};have s1:=P3 (w:=w) G;have s2:ak (T+sc w f e).natAbs<=(65536+(k:Int)-e).toNat+1:=Y0 O O;rw[iP G,w1,Zb hm O O O,bS];dsimp only;rw[PC O hT (pR (by unfold sc at s1;omega)),aM,aM,bS,w0];refine PA hm hl u t0 t1 t2 t3 n (k+1) (T+sc w f e) e O O ?_ a0 K O;rw[Om hk];exact hQ.add (c:=0) (g:=0) ((cW.sc G).trans J.eq)};{have w1:wI (e-f)=e-f:=by{rw[wQ,wi O O]};have s1:=P3 (w:=T) (f:=e) (b:=f) O;have s2:ak (sc T e f+w).natAbs<=(65536+(k:Int)-f).toNat+1:=Y0 O O;rw[ae G,w1,Zb hm O O O,bS];dsimp only;rw[PC O (pR (by unfold sc at s1;omega)) J.Sz,aM,aM,bS,w0];refine PA hm hl u t0 t1 t2 t3 n (k+1) (sc T e f+w) f O O ?_ c0 O O;rw[Om hk];exact((cW.sc O).trans hQ).add (c:=0) (g:=0) J.eq}}}};{have:k=zs.length:=O;subst this;rw[GG]at hQ;exact⟨T,e,by rw[ae (by rw[zi];omega)],O,hQ,a0,K⟩}
def qx4 {m:Nat} (hm:3000000<m) {B:Int} {zs:LI} (hl:zs.length<=10000) (u: ∀z∈zs,cd z B):Ov m (zs.map (dy B))=some (ax (dK zs) B,(),()):=by obtain⟨T,e,G,i2,J,i4,K⟩:=PA hm hl u false false [] 0 m 0 0 0 O O (cW.zero _ _) O O (by rw[show(0:Int).natAbs=0 from rfl,Xz];omega);rw[nZ,show(zB 0).1=false from rfl,show(zB 0).2.1=([]:LI)from Q5]at G;rw[Ov,G,bS];dsimp only;rw[Jw hm O O O,J.mk];rfl
def T7 {x y:LI} {k:Nat}:(j8 x y k).map (dy (-2148))++[((ax (aE (x.getD k 0)*aE (y.getD k 0)) (-2148)).1,((ax (aE (x.getD k 0)*aE (y.getD k 0)) (-2148)).2.1,(ax (aE (x.getD k 0)*aE (y.getD k 0)) (-2148)).2.2.1),(ax (aE (x.getD k 0)*aE (y.getD k 0)) (-2148)).2.2.2.1)]=(j8 x y (k+1)).map (dy (-2148)):=by unfold j8;rw[Cr,tR,tR];rfl
def Gs {x y:LI} {k:Nat}:(j8 x y k).length=k:=by unfold j8;simp
def qo2 {x y:LI} (hx:cf x) (G:cf y) (he:x.length=y.length) {k:Nat} (hk:k<=x.length): ∀z∈j8 x y k,cd z (-2148):=by intro z u;obtain⟨i,K,rfl⟩:=zk.1 u;have J:=vH.1 K;exact Jf (hx i O).2 (G i O).2
def qiu {m:Nat} (hm:4000000<=m) {x y:LI} (hl:x.length<=1000) (he:x.length=y.length) (hx:cf x) (hy:cf y) (K J:Bool) (G:LI) (u:Int): ∀(n k:Nat),x.length-k<n->k<=x.length->
 sr m n x y K J G u ((j8 x y k).map (dy (-2148))) (x.length:Int) (k:Int)=some (.inl ((K,J,G,u,()),(j8 x y x.length).map (dy (-2148)),()))
 |0,k,h,_=>absurd h (zC _)
 |n+1,k,h,a0=>by rw[sr,bQ];by_cases hk:k<x.length;{have ih:=qiu hm hl he hx hy K J G u n (k+1) O O;obtain⟨u1,f1⟩:=hx k hk;obtain⟨u2,f2⟩:=hy k O;rw[iP O,iP O,tN,cw O u1,bS,iP O,cw O u2,bS,Qs f1,Qs f2];dsimp only;rw[Lw hm,iP ⟨cq f1,cq f2⟩,bS,show(-1074:Int)+ -1074= -2148 by decide];dsimp only;rw[iP (by simp[Gs];omega),T7,show wI ((k:Int)+1)=((k+1:Nat):Int)from ay O];exact ih};{rw[ae O,show k=x.length by omega]}
def qsy {m:Nat} (hm:4000000<=m) {x y:LI} (hl:x.length<=1000) (he:x.length=y.length) (hx:cf x) (u:cf y):WI m x y=some (ax (dK (j8 x y x.length)) (-2148),(),(),()):=by have h:=qiu hm hl he hx u false false [] 0 m 0 O O;rw[nZ]at h;rw[WI,show([]:List (Bool×(Bool×LI)×Int))=(j8 x y 0).map (dy (-2148))from rfl,h,bS];dsimp only;rw[qtm O (by rw[Gs];omega) (qo2 hx u he (zI _))];rfl
def qmw (j:Nat):ck (j+300)=some (true,()):=by kernel_rfl
end Go.Vs.F
set_option maxRecDepth 100000
namespace Go.Vs.F
def qqh {m:Nat} (hm:300<=m):ck m=some (true,()):=by obtain⟨j,rfl⟩: ∃j,m=j+300:=⟨m-300,O⟩;exact qmw j
def bJ (l:LI):Bool:=qw (λi=>decide (aS (l.getD i 0))) 0 l.length
def G4 {l:LI} (h:UL l) (G:bJ l=true):cf l:=λi u=>⟨h i u,of_decide_eq_true (qp.1 G i (lM _) u)⟩
def qnj (m:Nat) {a:LI} (G:UL a) (K:a.length<=1000): ∀(n k:Nat),a.length-k<n->
 ∃j:Nat,nt m n a (a.length:Int) (k:Int)=some (bif qw (λi=>decide (aS (a.getD i 0))) k a.length then .inr (.inl ())else .inl ((j:Int),()))
 |0,k,h=>O
 |n+1,k,h=>by rw[nt,bQ];by_cases u:k<a.length;{obtain⟨j,J⟩:=qnj m G K n (k+1) O;rw[iP O,iP O,tN,M3,Zt (G k u),bS,bS,show wI ((k:Int)+1)=((k+1:Nat):Int)from ay O,J,Qd u];by_cases f:aS (a.getD k 0);{rw[decide_eq_true f];exact⟨j,rfl⟩};{rw[decide_eq_false f];exact⟨k,rfl⟩}};{rw[ae O,Qk u];exact⟨0,rfl⟩}
def YO {m:Nat} (hm:3000000<m) {a:LI} (J:UL a) (G:a.length<=1000):xU m a=some (bJ a,(),()):=by obtain⟨j,u⟩:=qnj m J G m 0 O;rw[nZ]at u;rw[xU,M5,MS,u];unfold bJ;cases qw (λi=>decide (aS (a.getD i 0))) 0 a.length;{simp};{simp}
def qq1 (m:Nat) {a:LI} (G:UL a) (J:a.length<=1000): ∀(n k:Nat),a.length-k<n->
 sv m n a (k:Int)=some (bif qw (λi=>decide (aS (a.getD i 0))) k a.length then .inr (.inl ())else .inl (false,()))
 |0,k,h=>O
 |n+1,k,h=>by rw[sv,bQ];by_cases u:k<a.length;{rw[iP O,iP O,tN,P7 (G k u),bS,show wI ((k:Int)+1)=((k+1:Nat):Int)from ay O,qq1 m G J n (k+1) O,Qd u];by_cases f:aS (a.getD k 0);{rw[decide_eq_true f];rfl};{rw[decide_eq_false f];rfl}};{rw[ae O,Qk u];rfl}
def qqp {m:Nat} (hm:3000000<m) {a:LI} (J:UL a) (G:a.length<=1000):Mk m a=some (bJ a,(),()):=by have u:=qq1 m J G m 0 O;rw[nZ]at u;rw[Mk,u];unfold bJ;cases qw (λi=>decide (aS (a.getD i 0))) 0 a.length<;>rfl
structure VV (V:List LI):Prop where
 n:V.length<=10
 l: ∀i,i<V.length->(V.getD i []).length<=100
 u: ∀i,i<V.length->UL (V.getD i [])
section
variable {m:Nat} (hm:5000000000<=m) {V:List LI} (hV:VV V)
include hm hV
end
def C9:Int:=sc 1 0 (-2148)
def qy3:ax 1 0=ax C9 (-2148):=(Cw O).symm
def qv5:ak C9.natAbs<=3000:=by have h:=P3 (w:=1) (f:=0) (b:= -2148) O;have u:ak (1:Int).natAbs<=1:=Qq (by decide);unfold C9;omega
def qtn {z:Int} (h:ak z.natAbs<=60000):cd z (-2148):=Y2.2 (.inr ⟨O,O⟩)
structure WV (V:List LI):Prop where
 v:VV V
 e: ∀i,i<V.length->(V.getD i []).length=(V.getD 0 []).length
 f: ∀i,i<V.length->cf (V.getD i [])
section
variable {m:Nat} (hm:5000000000<=m) {V:List LI} (hV:WV V)
include hV
end
section
variable {m:Nat} (hm:5000000000<=m) {V:List LI}
include hm
end
def qm8 {r x:Nat} (G:r<4294967296) (hx:x<4294967296):bf .u64 (bE .u64 (r:Int) 32) (x:Int)=((r*4294967296+x:Nat):Int):=by have u:bE .u64 (r:Int) 32=((r*4294967296:Nat):Int):=by{have h:=gC (a:=r) (k:=32) O (by rw[show(2:Nat)^32=4294967296 by decide];omega);rw[show(2:Nat)^32=4294967296 by decide]at h;exact h};rw[u,mH O O];have:=Nw (i:=32) (b:=x) O r;rw[zY,show(4294967296:Nat)=2^32 by decide,<-this]
def oW {l:LI} {i:Nat} {x:Int} (h:i<l.length):(l.set i x).drop i=x::l.drop (i+1):=by rw[GE (by rw[zU];exact h)];congr 1;{simp};{rw[List.drop_set];simp}
def qio (m:Nat) {a:LI} (ha:Lm a) (hl:a.length<=1000000) {d:Nat} (hd:0<d) (G:d<4294967296): ∀(k n:Nat) (out:LI),k<n->k<=a.length->Lm out->out.length=a.length->vl (out.drop k)=vl (a.drop k)/d->
 ∃u,kz m n a (d:Int) out ((vl (a.drop k)%d:Nat):Int) ((k:Int)-1)=some (.inl (u,((vl a%d:Nat):Int),()))/\Lm u/\u.length=a.length/\vl u=vl a/d
 |0,n+1,out,_,_,K,h2,J=>by{refine⟨out,?_,K,h2,by simpa using J⟩;rw[kz,bQ,ae O,lN]}
 |k+1,n+1,out,hn,hk,K,h2,J=>by obtain⟨x,ex,hx,hv⟩:=ha.get' k;have hr:vl (a.drop (k+1))%d<d:=kh _ hd;have w:((k+1:Nat):Int)-1=(k:Int):=O;rw[kz,w,bQ,iP O,iP O];have wd:wJ (d:Int)=(d:Int):=bt O;rw[wd,iP O,iP O,iP O,tN,ex,bt O,qm8 O hx,td,tm];have hq:(vl (a.drop (k+1))%d*4294967296+x)/d<4294967296:=by{rw[Cp hd];have:(vl (a.drop (k+1))%d+1)*4294967296<=d*4294967296:=zO _ hr;omega};have wq:wK (wJ (((vl (a.drop (k+1))%d*4294967296+x)/d:Nat):Int))=(((vl (a.drop (k+1))%d*4294967296+x)/d:Nat):Int):=by{rw[bt O,fG,kl hq]};rw[wq,zH];have e1:vl (a.drop k)=d*(4294967296*(vl (a.drop (k+1))/d))+(vl (a.drop (k+1))%d*4294967296+x):=by{rw[hv];have:=vB (vl (a.drop (k+1))) d;generalize vl (a.drop (k+1))/d=q at*;generalize vl (a.drop (k+1))%d=r at*;rw[<-this,zJ,<-Nat.mul_assoc,zY 4294967296 d,zV];omega};have e2:vl (a.drop k)/d=4294967296*(vl (a.drop (k+1))/d)+(vl (a.drop (k+1))%d*4294967296+x)/d:=by{rw[e1,Ue hd]};have e3:vl (a.drop k)%d=(vl (a.drop (k+1))%d*4294967296+x)%d:=by{rw[e1,UN]};rw[<-e3,wQ,wi O O];refine qio m ha hl hd G k n _ O O (Zl K hq) (by rw[zU];exact h2) ?_;rw[oW O,vl,tN,J,e2];omega
def qsc {m:Nat} (hm:2000000<m) {a:LI} (K:Lm a) (hl:a.length<=1000000) {d:Nat} (hd:0<d) (u:d<4294967296):
 Af m a (d:Int)=some ((lim (vl a/d),((vl a%d:Nat):Int),()),(),(),()):=by rw[Af,iP O,tN,wQ,wi O O];have J:(a.drop a.length)=[]:=List.drop_length;obtain⟨out,G,h2,h3,h4⟩:=qio m K hl hd u a.length m (List.replicate a.length 0) O (zI _) Qr (zM ..) (by{rw[Nu (by rw[zM];exact zI _),J];show 0=0/d;rw[UD]});rw[J]at G;have e0:((vl ([]:LI)%d:Nat):Int)=0:=by{show((0%d:Nat):Int)=0;rw[Nat.zero_mod];rfl};rw[e0]at G;rw[G,bS];dsimp only;rw[Qy h2 O O,bS,h4,fG,kl (Nat.lt_trans (kh _ hd) u)]
def q6s {d:Nat} (u:0<d) (h:d<4294967296):lim d=[(d:Int)]:=by rw[G3 O,wZ h,Q5,kl h]
def q5h {m:Nat} (hm:2000000<m) {A d:Nat} (K:(lim A).length<=1000000) (u:0<d) (h:d<4294967296):
 sH m (lim A) (lim d)=some ((lim (A/d),lim (A%d),()),(),(),()):=by have G:(lim d).length=1:=by{rw[q6s u h];rfl};rw[sH,Jc hm K O,bS,bQ];dsimp only;by_cases c:A<d;{have J:dk A d= -1:=by{unfold dk;rw[iP c]};rw[J,iP O,Po O,bS,wZ c,kl c,Q5]};{have J: ¬dk A d<0:=by{unfold dk;rw[ae c];split<;>omega};rw[ae J,G,aB,iP (show((1:Nat):Int)=1 from rfl),iP O,q6s u h];show(Af m (lim A) (d:Int)).bind _=_;rw[qsc hm (qy A) K u h,bS,qo];dsimp only;have hr:A%d<4294967296:=Nat.lt_trans (kh _ u) h;rw[Qy (λx hx=>by rw[zA.1 hx];omega) (by simp;omega) (by simp),bS];show some ((_,lim ((((A%d:Nat):Int)).toNat+4294967296*0),()),_)=_;rw[tN,zy,zS]}
def qpq {m:Nat} (hm:2000000<m) {a:Int} {d:Nat} (J:0<d) (h:d<4294967296) (ha:bc ((d:Int)*a)<=1000000):
 DD m (zB ((d:Int)*a)).1 (zB ((d:Int)*a)).2.1 (zB (d:Int)).1 (zB (d:Int)).2.1=some ((zB a,0,()),(),(),()):=by have a0:(lim d).length=1:=by{rw[q6s J h];rfl};have hN:((d:Int)*a).natAbs=d*a.natAbs:=by{rw[K6,jy]};have b0:(zB (d:Int)).2.1=lim d:=by{show lim (d:Int).natAbs=_;rw[jy]};have c0:(zB ((d:Int)*a)).2.1=lim (d*a.natAbs):=by{show lim _=_;rw[hN]};have hA:(lim (d*a.natAbs)).length<=1000000:=by{rw[<-hN];exact ha};have hq:(lim a.natAbs).length<=1000000:=zQ (qx (Nat.le_mul_of_pos_left _ J)) hA;have hs:((zB ((d:Int)*a)).1=true)↔a<0:=by{show(decide ((d:Int)*a<0)=true)↔_;rw[decide_eq_true_eq];constructor;{intro hl;refine Int.not_le.1 λhn=> ?_;have:=Int.mul_nonneg (show(0:Int)<=d by omega) hn;omega};{intro hl;exact Int.mul_neg_of_pos_of_neg O hl}};have K:(zB (d:Int)).1=false:=by{show decide ((d:Int)<0)=false;exact decide_eq_false O};rw[DD,uJ,b0,Qy (qy d) O O,qo,bS,a0,aB,ae O,c0,Qy (qy _) O O,qo,bS];dsimp only;rw[q5h hm hA J h,bS];dsimp only;rw[UG _ J,Nat.mul_mod_right,Q5,K];have big: ∀neg:Bool,(neg=true↔a<0)->dH m neg (lim a.natAbs)=some (zB a,(),(),()):=by{intro neg u;rw[lK hm O];congr 2;cases neg;{have: ¬a<0:=λh=>by{have:=u.2 h;cases this};rw[ae (by decide)];congr 1;omega};{have:a<0:=u.1 rfl;rw[iP rfl];congr 1;omega}};have G:dH m false []=some (zB 0,(),(),()):=by{have:=lK hm (n:=0) (by rw[Q5];simp) false;rw[Q5]at this;exact this};have z0:(zB 0).2.1=[]:=Q5;cases hc:(zB ((d:Int)*a)).1;{have hn: ¬a<0:=λh=>by{have:=hs.2 h;rw[hc]at this;cases this};rw[cond_false,show(!(false==false))=false from rfl,big false (by simp[hn]),bS,G,bS,bS];dsimp only;rw[z0];rfl};{have hn:a<0:=hs.1 hc;rw[cond_true,bQ];rw[ae (show¬((([]:LI).length:Nat):Int)>0 by simp),show(!(true==false))=true from rfl,big true (by simp[hn]),bS,G,bS,bS];dsimp only;rw[z0];rfl}
def qk2 {m:Nat} (hm:3000000<m) {a:LI} (J:Lm a) (hl:a.length<=500000) {n:Nat} (hn:n<=10000000):
 ∃r,qB m a (n:Int)=some (r,(),(),())/\Lm r/\r.length=a.length+n/32+1/\vl r=vl a*2^n:=by have G:wI (Int.tdiv (n:Int) 32)=((n/32:Nat):Int):=by{rw[Ps,wQ,wi O O]};have u:2^(n%32)<=2^31:=zh O O;obtain⟨out,c,e,h1,h2,h3,K⟩:=qq5 m (N:=n) (w:=n/32) (p:=n%32) J O O O Pz m 0 (List.replicate (n/32) 0) 0 O O Qr (by simp) (dU O);rw[nZ]at e;have w:wK (c:Int)=(c:Int):=by{rw[fG,kl O]};refine⟨out++[(c:Int)],?_,CA h1 O,by simp[h2];omega,?_⟩;{rw[qB,G,iP O,tN,e,bS];dsimp only;rw[w,iP (by rw[h2];show n/32+a.length+1<=_;omega)]};{rw[Jj,h2,K,Qw,lN,zH,zH,zS,<-Nat.mul_assoc,rm,show 32*(n/32)+n%32=n by omega,zY]}
def qrq {P B d x e b c g y u G V0 O K Q R c' lo:Nat} (h1:O+P*B*(e+c'+g*u)+R=K+P*B*G+Q) (h2:K=V0+P*d) (h3:d+lo+b=x+B*e) (h4:c+g*y=lo+B*c'):
 O+P*(b+c+g*(y+B*u))+R=V0+P*(x+B*G)+Q:=by have k1:P*(d+lo+b)=P*d+P*lo+P*b:=by{rw[zJ,zJ]};have k2:P*(x+B*e)=P*x+P*B*e:=by{rw[zJ,zV]};have k3:P*B*(e+c'+g*u)=P*B*e+P*B*c'+P*B*(g*u):=by{rw[zJ,zJ]};have J:P*(b+c+g*(y+B*u))=P*b+P*(c+g*y)+P*B*(g*u):=by{rw[show b+c+g*(y+B*u)=b+(c+g*y)+B*(g*u) by rw[zJ,vC g B];omega,zJ,zJ,zV]};have k5:P*(lo+B*c')=P*lo+P*B*c':=by{rw[zJ,zV]};have k6:P*(x+B*G)=P*x+P*B*G:=by{rw[zJ,zV]};rw[h4]at J;rw[h3]at k1;rw[J,k6,k5];rw[k3]at h1;omega
def qw4 (m:Nat) {u v:LI} (hu:Lm u) (hv:Lm v) (hl:u.length<=1000001) {j g:Nat} (hj:j+v.length<u.length) (hg:g<4294967296): ∀(N k:Nat) (out:LI) (b c:Nat),v.length+1-k<N->k<=v.length+1->Lm out->out.length=v.length+1->(∀p,k<=p->out.getD p 0=0)->b<2->c<4294967296->(k=v.length+1->c=0)->
 ∃G b',jj m N u v (j:Int) (g:Int) (v.length:Int) out (b:Int) (c:Int) (k:Int)=some (.inl (u,(j:Int),(v.length:Int),G,((b':Nat):Int),()))/\Lm G/\G.length=v.length+1/\b'<2/\
  vl G+4294967296^k*(b+c+g*vl (v.drop k))+4294967296^(v.length+1)*vl (u.drop (j+v.length+1))=vl out+4294967296^k*vl (u.drop (j+k))+4294967296^(v.length+1)*b':=by intro N;induction N with|zero=>{intro k out b c h;omega}|succ N ih=>{intro k out b c h j0 ho a0 hz hb hc hlast;rw[jj];by_cases hk:k<=v.length;{obtain⟨x,ex,hx,dx⟩:=hu.get' (j+k);have w0:wI ((k:Int)+(j:Int))=((j+k:Nat):Int):=by{rw[wQ,wi O O];omega};have c2:(0:Int)<=((j+k:Nat):Int)/\((j+k:Nat):Int)<(u.length:Int):=O;have c3:(0:Int)<=(k:Int)/\(k:Int)<(out.length:Int):=O;have w1:wJ (x:Int)=(x:Int):=bt O;have ws:wI ((k:Int)+1)=((k+1:Nat):Int):=ay O;have oz:out.getD k 0=0:=hz k (zI _);have K: ∀d:Nat,vl (out.set k (d:Int))=vl out+4294967296^k*d:=by{intro d;have:=J3 (l:=out) (p:=k) (y:=(d:Int)) O;rw[oz,K7,zy,tN]at this;omega};have b0: ∀d:Nat,∀p,k+1<=p->(out.set k (d:Int)).getD p 0=0:=λd p hp=>by{rw[bD O];exact hz p O};have fin: ∀(t y:Nat),t<18446744073709551616->c+g*y=t->(k=v.length->t<4294967296)->vl (v.drop k)=y+4294967296*vl (v.drop (k+1))-> ∃G b',jj m N u v (j:Int) (g:Int) (v.length:Int) (out.set k (wK (wJ ((wJ ((x:Int)-(b:Int)))-(qm .u64 (t:Int) 4294967295))))) (aJ .u64 (wJ ((wJ ((x:Int)-(b:Int)))-(qm .u64 (t:Int) 4294967295))) 63) (aJ .u64 (t:Int) 32) ((k+1:Nat):Int)=some (.inl (u,(j:Int),(v.length:Int),G,((b':Nat):Int),()))/\Lm G/\G.length=v.length+1/\b'<2/\ vl G+4294967296^k*(b+c+g*vl (v.drop k))+4294967296^(v.length+1)*vl (u.drop (j+v.length+1))=vl out+4294967296^k*vl (u.drop (j+k))+4294967296^(v.length+1)*b':=by{intro t y ht d0 g0 c0;obtain⟨d,e,hd,he,h0,q1,q2⟩:=q6n hx (show t%4294967296<4294967296 by omega) hb;have e2:aJ .u64 (t:Int) 32=((t/4294967296:Nat):Int):=cZ (a:=t) (k:=32) O;rw[jN ht,q1,q2,e2];obtain⟨G,b',g1,g2,g3,g4,g5⟩:=ih (k+1) (out.set k (d:Int)) e (t/4294967296) O O (Zl ho hd) (by rw[zU];exact a0) (b0 d) he O (λhh=>by have:=g0 O;omega);refine⟨G,b',g1,g2,g3,g4,?_⟩;rw[gx,<-Nat.add_assoc j k 1]at g5;rw[dx,c0];exact qrq g5 (K d) h0 (by rw[d0];omega)};rw[bQ,iP O,bQ];by_cases kv:k<v.length;{obtain⟨y,ey,hy,dy⟩:=hv.get' k;have hm:=XZ hg hy;have w3:wJ (y:Int)=(y:Int):=bt O;have w4:wJ ((g:Int)*(y:Int))=((g*y:Nat):Int):=by{rw[show(g:Int)*(y:Int)=((g*y:Nat):Int) by rw[oZ],bt O]};have w5:wJ ((c:Int)+((g*y:Nat):Int))=((c+g*y:Nat):Int):=by{rw[show(c:Int)+((g*y:Nat):Int)=((c+g*y:Nat):Int) by rw[yg c],bt O]};rw[iP O,iP O,w0,iP c2,iP c3,ws];simp only[tN,zH];rw[ex,ey,w1,w3,w4,w5];exact fin _ y O rfl (λh=>O) dy};{have J:k=v.length:=O;rw[ae O,w0,iP c2,iP c3,ws];simp only[tN,zH];rw[ex,w1];have i0:vl (v.drop k)=0+4294967296*vl (v.drop (k+1)):=by{rw[ql O,ql O]};exact fin c 0 O (by rw[zy,zS]) (λ_=>hc) i0}};{have J:k=v.length+1:=O;rw[bQ,ae O];refine⟨out,b,rfl,ho,a0,hb,?_⟩;have e0:b+0+0=b:=rfl;rw[hlast J,J,ql (l:=v) O,zy,e0,<-Nat.add_assoc j];omega}}
def qxc (m:Nat) {u:LI} {j n:Nat} (hl:u.length<=1000001) (hj:j+n<u.length) {out:LI} (ho:out.length=n+1): ∀(N k:Nat),n+1-k<N->k<=n+1->
 kN m N (u.take j++out.take k++u.drop (j+k)) (j:Int) (n:Int) out (k:Int)=some (.inl (u.take j++out++u.drop (j+n+1),())):=by intro N;induction N with|zero=>{intro k h;omega}|succ N K=>{intro k h hk;rw[kN];by_cases c:k<=n;{have hlen:(u.take j++out.take k++u.drop (j+k)).length=u.length:=by{simp only[zG,zX,mA];omega};have J:wI ((k:Int)+(j:Int))=((j+k:Nat):Int):=by{rw[wQ,wi O O];omega};have ws:wI ((k:Int)+1)=((k+1:Nat):Int):=ay O;rw[bQ,iP O,iP O,J,hlen,iP O,ws];simp only[tN,zH];have e:(u.take j++out.take k++u.drop (j+k)).set (j+k) (out.getD k 0)=u.take j++out.take (k+1)++u.drop (j+(k+1)):=by{have l1:(u.take j++out.take k).length=j+k:=by{simp only[zG,zX];omega};rw[List.set_append_right _ _ (by rw[l1];exact zI _),l1,x9,GE (by omega:j+k<u.length),List.set_cons_zero,o5 (l:=out) (k:=k) O rfl,<-Nat.add_assoc];simp[qT]};rw[e];exact K (k+1) O O};{have G:k=n+1:=O;rw[bQ,ae O,G,xd (l:=out) O,<-Nat.add_assoc]}}
def qwm {m:Nat} (hm:2000000<m) {u v:LI} (hu:Lm u) (hv:Lm v) (hl:u.length<=1000001) {j g:Nat} (hj:j+v.length<u.length) (hg:g<4294967296) (hz:vl (u.drop (j+v.length+1))=0):
 (g*vl v<=vl (u.drop j)-> ∃G,xF m u v (j:Int) (g:Int)=some (true,G,(),(),(),())/\Lm G/\G.length=u.length/\vl G+4294967296^j*(g*vl v)=vl u/\vl (G.drop j)=vl (u.drop j)-g*vl v)/\
 (vl (u.drop j)<g*vl v->xF m u v (j:Int) (g:Int)=some (false,u,(),(),(),())):=by
 have w:wI ((v.length:Int)+1)=((v.length+1:Nat):Int):=ay O;obtain⟨out,b,e,h1,h2,h3,K⟩:=qw4 m hu hv hl hj hg m 0 (List.replicate (v.length+1) 0) 0 0 O O Qr (zM ..) (λp _=>by simp[List.getD,List.getElem?_replicate];split<;>rfl) O O (λh=>O)
 rw[nZ]at e;have a0:=cg h1;rw[h2]at a0;rw[Qw,hz,lN,yj,x7,x7,zy,zS,zS,zH,zH,zS]at K
 have start:xF m u v (j:Int) (g:Int)=bif ((b:Nat):Int) !=0 then some (false,u,(),(),(),())else(kN m m u (j:Int) (v.length:Int) out 0).bind λy3=>match y3 with
  | .inl z4=>some (true,(z4.1,(),(),(),()))
  | .inr e=>e.elim:=by
  rw[xF,w,iP O,tN,e,bS];rfl
 constructor
 . intro hle
   have hb:b=0:=by
    rcases gq b 1 with h|h
    . omega
    . have:b=1:=O;subst this;rw[jF]at K;omega
   subst hb;have e1:=qxc m hl hj h2 m 0 O O;rw[xh,mz,zS,yp]at e1;rw[nZ]at e1;rw[start,nZ,show((0:Int) !=0)=false from rfl,cond_false,e1,bS]
   have d1:(u.take j++out++u.drop (j+v.length+1)).drop j=out++u.drop (j+v.length+1):=by
    rw[qT,List.drop_append,Nu (by rw[zX];omega),yn,zX,show j-min j u.length=0 by omega,lN]
   have v1:vl (out++u.drop (j+v.length+1))=vl out:=by rw[xn,hz,zy,zS]
   have J:(u.take j).length=j:=by rw[zX];omega
   refine⟨_,rfl,?_,?_,?_,?_⟩
   . intro x hx;rcases zZ.1 hx with hx|hx
     . rcases zZ.1 hx with hx|hx
       . exact hu x (oK hx)
       . exact h1 x hx
     . exact hu x (xa hx)
   . simp only[zG,zX,mA];omega
   . have hsplit:vl u=vl (u.take j)+4294967296^j*vl (u.drop j):=by
      conv=>lhs;rw[<-List.take_append_drop j u]
      rw[xn,J]
     rw[qT,xn,v1,J,hsplit];rw[zy]at K;have:vl (u.drop j)=vl out+g*vl v:=O;rw[this,zJ];omega
   . rw[d1,v1];rw[zy]at K;omega
 . intro b0
   have hb:b=1:=by
    rcases gq b 1 with h|h
    . have:b=0:=O;subst this;rw[zy]at K;omega
    . omega
   subst hb;rw[start];rfl
def X0 (l:LI) (k:Nat) (h:k<=l.length):vl l=vl (l.take k)+4294967296^k*vl (l.drop k):=by
 conv=>lhs;rw[<-List.take_append_drop k l]
 rw[xn,zX,K9 h]
def Lm.take {l:LI} (h:Lm l) (k:Nat):Lm (l.take k):=λx hx=>h x (oK hx)
def Lm.drop {l:LI} (h:Lm l) (k:Nat):Lm (l.drop k):=λx hx=>h x (xa hx)
def Xr {l:LI} (h:Lm l) {k:Nat} (u:k<=l.length):vl (l.take k)<4294967296^k:=by have:=cg (h.take k);rwa [zX,K9 u]at this
def Ww {l:LI} {k:Nat} (G:k<=l.length) (u:vl l<4294967296^k):vl (l.drop k)=0:=by have:=X0 l k G;rcases GJ (vl (l.drop k))with h|h;{exact h};{have:=OB (4294967296^k) h;omega}
def qjj {W lo P t V u y d:Nat} (K:W=lo+P*t) (J:lo<P) (hV:V=u+P*y) (G:0<y) (hd:d*V<=W):d<=t/y:=by rw[K5 G];have h1:d*(P*y)<=d*V:=zn _ O;have h2:P*(d*y)<P*(t+1):=by{rw[vC P d y,zJ,jF];omega};have:=NA h2;omega
def qn2 {m:Nat} (hm:2000000<m) {u v:LI} (hu:Lm u) (hv:Lm v) (hl:u.length<=1000001) {j:Nat} (hj:j+v.length<u.length) (hz:vl (u.drop (j+v.length+1))=0) (hV:0<vl v) (n s:Int) (q:LI) {d:Nat} (hd:d=vl (u.drop j)/vl v):
 ∀(N k:Nat),k<N->d+k<4294967296-> ∃G,np m N n s u v q (j:Int) ((d+k:Nat):Int)=some (.inl (n,s,G,v,q,(j:Int),(d:Int),()))/\Lm G/\G.length=u.length/\vl G+4294967296^j*(d*vl v)=vl u/\vl (G.drop j)=vl (u.drop j)%vl v:=by intro N;induction N with|zero=>{intro k h;omega}|succ N ih=>{intro k hk hb;obtain⟨t1,t2⟩:=qwm hm hu hv hl hj hb hz;have K:=vB (vl (u.drop j)) (vl v);have a0:=kh (vl (u.drop j)) hV;rw[<-hd]at K;rw[np];by_cases c:k=0;{subst c;obtain⟨G,e,h1,h2,h3,h4⟩:=t1 (by rw[zS,zY];omega);rw[zS]at*;refine⟨G,?_,h1,h2,h3,?_⟩;{rw[e,bS];rfl};{rw[h4,zY];omega}};{have J:vl (u.drop j)<(d+k)*vl v:=by{have:(d+1)*vl v<=(d+k)*vl v:=zO _ O;rw[gr,x7,zY]at this;omega};rw[t2 J,bS];dsimp only;rw[CK,cond_true];have w:wJ (((d+k:Nat):Int)-1)=((d+(k-1):Nat):Int):=by{rw[dV];omega};rw[w];exact ih (k-1) O O}}
def qe0 {m:Nat} (hm:5000000000<=m) {v:LI} (hv:Lm v) (h1:1<=v.length) {y:Nat} (ey:v.getD (v.length-1) 0=(y:Int)) (hy:0<y) (s:Int): ∀(k N:Nat) (u q:LI),k<N->Lm u->Lm q->u.length<=1000001->k+v.length<=u.length->k<=q.length->(∀p,p<k->q.getD p 0=0)->vl (u.drop k)<vl v->
 ∃u' q',jm m N (v.length:Int) s u v q ((k:Int)-1)=some (.inl (s,u',q',()))/\Lm u'/\Lm q'/\u'.length=u.length/\q'.length=q.length/\vl u'=vl u%vl v/\vl q'=vl q+vl u/vl v
 |0,N+1,u,q,_,hu,hq,hl,hk,m0,hz,J=>by{rw[lN]at J;refine⟨u,q,?_,hu,hq,rfl,rfl,(kl J).symm,by rw[wZ J,zS]⟩;rw[jm,bQ,ae O]}
 |k+1,N+1,u,q,hN,hu,hq,hl,hk,m0,hz,J=>by have wk:((k+1:Nat):Int)-1=(k:Int):=O;have b1:=cg hv;obtain⟨x,ex,hx,dx⟩:=hu.get' k;obtain⟨G,t0,i0,v0⟩:=hu.get' (k+v.length);obtain⟨x1,s0,h0,u0⟩:=hu.get' (k+v.length-1);have hW:vl (u.drop k)<4294967296^(v.length+1):=by{rw[dx,gx,zY (4294967296^v.length)];omega};have b0:vl (u.drop (k+v.length+1))=0:=by{have:=Ww (l:=u.drop k) (k:=v.length+1) (by rw[mA];omega) hW;rwa [Nv,<-Nat.add_assoc]at this};have e0:vl (u.drop k)=vl ((u.drop k).take (v.length-1))+4294967296^(v.length-1)*(G*4294967296+x1):=by{rw[X0 (u.drop k) (v.length-1) (by rw[mA];omega),Nv,show k+(v.length-1)=k+v.length-1 by omega,u0,show k+v.length-1+1=k+v.length by omega,v0,b0];congr 2;omega};have l0:vl ((u.drop k).take (v.length-1))<4294967296^(v.length-1):=Xr (hu.drop k) (by rw[mA];omega);have w0:y<4294967296:=by{obtain⟨y',r0,z0,_⟩:=hv.get' (v.length-1);rw[ey]at r0;omega};have a0:vl v=vl (v.take (v.length-1))+4294967296^(v.length-1)*y:=by{rw[X0 v (v.length-1) O,Xa O,ey,tN,ql (l:=v) O,zy,zS]};have hV:0<vl v:=by{rw[a0];exact x5 (Np (dU O) hy) (Nat.le_add_left _ _)};have c0:vl (u.drop k)/vl v*vl v<=vl (u.drop k):=Nq ..;have hg:=qjj e0 l0 a0 hy c0;have d0:vl (u.drop k)/vl v<4294967296:=by{rw[Cp hV,dx];omega};generalize hd:vl (u.drop k)/vl v=d at*;have g0:G*4294967296+x1<18446744073709551616:=O;have j0:(G*4294967296+x1)/y<18446744073709551616:=vD (vA ..) g0;rw[jm,wk];have w1:wI ((k:Int)+(v.length:Int))=((k+v.length:Nat):Int):=by{rw[wQ,wi O O];omega};have w2:wI (((k+v.length:Nat):Int)-1)=((k+v.length-1:Nat):Int):=by{rw[wQ,wi O O];omega};have w3:wI ((v.length:Int)-1)=((v.length-1:Nat):Int):=by{rw[wQ,wi O O];omega};have w4:wJ (y:Int)=(y:Int):=bt O;have w5:wJ (G:Int)=(G:Int):=bt O;have w6:wJ (x1:Int)=(x1:Int):=bt O;rw[bQ,iP O,w1,w2,w3,iP O,iP O,iP O];simp only[tN,zH];rw[ey,t0,s0,w4,w5,w6,iP O,qm8 i0 h0,td,bt j0];obtain⟨g,eg,q0,a1⟩: ∃g:Nat,(if(4294967295:Int)<(((G*4294967296+x1)/y:Nat):Int)then(4294967295:Int)else(((G*4294967296+x1)/y:Nat):Int))=((d+g:Nat):Int)/\d+g<4294967296/\g<4294967296:=by{by_cases c:(4294967295:Int)<(((G*4294967296+x1)/y:Nat):Int);{rw[iP c];exact⟨4294967295-d,O,O,O⟩};{rw[ae c];exact⟨(G*4294967296+x1)/y-d,O,O,O⟩}};rw[eg];obtain⟨u1,e1,f1,f2,f3,f4⟩:=qn2 (m:=m) O hu hv hl (j:=k) O b0 hV (v.length:Int) s q hd.symm m g O q0;rw[e1,bS];dsimp only;have w7:wK (d:Int)=(d:Int):=by{rw[fG,kl d0]};have w8:wI ((k:Int)-1)=(k:Int)-1:=by{rw[wQ,wi O O]};rw[iP O,w7,w8,tN];have k0:vl (q.set k (d:Int))=vl q+4294967296^k*d:=by{have:=J3 (l:=q) (p:=k) (y:=(d:Int)) O;rw[hz k O,K7,zy,tN]at this;omega};obtain⟨u',q',e2,g1,g2,g3,g4,g5,g6⟩:=qe0 hm hv h1 ey hy s k N u1 (q.set k (d:Int)) O f1 (Zl hq d0) O O (by rw[zU];omega) (λp hp=>by rw[bD O];exact hz p O) (by rw[f4];exact kh _ hV);have K:vl u=vl u1+vl v*(4294967296^k*d):=by{rw[<-f3,zY d,vC]};refine⟨u',q',e2,g1,g2,O,by rw[g4,zU],?_,?_⟩;{rw[g5,K,Nz]};{rw[g6,k0,K,Nat.add_mul_div_left _ _ hV];omega}
def YW {B:Nat} (h:B≠0):4294967296^((lim B).length-1)<=B:=by refine ue λu=> ?_;have G:=Xl u;have:lim B≠[]:=λh2=>h (Yp.1 h2);have:=Us.2 this;omega
def qnd {m:Nat} (hm:5000000000<=m) {A B:Nat} (hB:B≠0) (hA:(lim A).length<=400000) (q0:(lim B).length<=400000):
 At m (lim A) (lim B)=some ((lim (A/B),lim (A%B),()),(),(),()):=by
 rw[At,qaa O O O,bS,bQ];dsimp only;by_cases c:A<B
 . have hc:dk A B= -1:=by unfold dk;rw[iP c]
   rw[hc,iP O,wZ c,kl c,Q5]
 . have hc: ¬dk A B<0:=by unfold dk;rw[ae c];split<;>omega
   have hn:1<=(lim B).length:=Us.2 λh2=>hB (Yp.1 h2)
   have m0:(lim B).length<=(lim A).length:=qx O;obtain⟨t,et,ht,dt⟩:=(qy B).get' ((lim B).length-1);have w1:wI (((lim B).length:Int)-1)=(((lim B).length-1:Nat):Int):=by rw[wQ,wi O O];omega
   have j0:ak t<=32:=Qq O;have w2:wI (32-((ak t:Nat):Int))=((32-ak t:Nat):Int):=by rw[wQ,wi O O];omega
   have e0:t≠0:=by
    intro h0;have h2:=YW hB;have G:=X0 (lim B) ((lim B).length-1) O;rw[qo,dt,show(lim B).length-1+1=(lim B).length by omega,ql (zI _),h0]at G
    have h4:=Xr (qy B) (k:=(lim B).length-1) O;omega
   have k0:1<=ak t:=by rw[X6 e0];omega
   have i0:uG m (t:Int)=some (((32-ak t:Nat):Int),(),()):=by
    rw[uG,VK ht,bS];dsimp only;rw[w2]
   rw[ae hc,w1,iP O,tN,et,i0,bS];dsimp only;generalize hs:32-ak t=s at*;have a0:s<32:=O;obtain⟨ra,ea,a1,a2,a3⟩:=qk2 (m:=m) O (qy A) O (n:=s) O;obtain⟨K,eb,b1,b2,b3⟩:=qk2 (m:=m) O (qy B) O (n:=s) O;rw[qo]at a3 b3;rw[wZ a0]at a2 b2;rw[ea,bS,eb,bS];dsimp only;rw[iP O,aB,ae O];have w3:wI (((lim A).length:Int)-((lim B).length:Int))=(((lim A).length-(lim B).length:Nat):Int):=by rw[wQ,wi O O];omega
   have w4:wI ((((lim A).length-(lim B).length:Nat):Int)+1)=(((lim A).length-(lim B).length+1:Nat):Int):=ay O;rw[w3,w4,iP O];simp only[tN];have u:0<2^s:=dU O
   have g0:B*2^s<4294967296^(lim B).length:=by
    have G:=X0 (lim B) ((lim B).length-1) O;rw[qo,dt,show(lim B).length-1+1=(lim B).length by omega,ql (zI _),zy,zS]at G
    have h4:=Xr (qy B) (k:=(lim B).length-1) O;have h5:B<4294967296^((lim B).length-1)*(t+1):=by rw[zJ,jF];omega
    have h6:(t+1)*2^s<=4294967296:=by
     have:=Yk t
     calc (t+1)*2^s<=2^ak t*2^s:=zO _ O
      _=2^(ak t+s):=(qM ..).symm
      _=4294967296:=by rw[show ak t+s=32 by omega]
    calc B*2^s<4294967296^((lim B).length-1)*(t+1)*2^s:=NG h5 u
     _=4294967296^((lim B).length-1)*((t+1)*2^s):=zV ..
     _<=4294967296^((lim B).length-1)*4294967296:=zn _ h6
     _=4294967296^(lim B).length:=by rw[<-Nat.pow_succ,show((lim B).length-1).succ=(lim B).length by omega]
   have J:vl (K.take (lim B).length)=B*2^s:=by
    have G:=X0 K (lim B).length O;rw[Ww (l:=K) (k:=(lim B).length) O (by rw[b3];exact g0),zy,zS,b3]at G
    exact G.symm
   have ix:(K.take (lim B).length).length=(lim B).length:=by rw[zX];omega
   obtain⟨y,ey,hy,dy⟩:=(b1.take (lim B).length).get' ((lim B).length-1);have b0:=YW hB;have l0:0<B*2^s:=Np O u
   have d0:0<y:=by
    rcases GJ y with h0|h0
    . have G:=X0 (K.take (lim B).length) ((lim B).length-1) O;rw[J,dy,show(lim B).length-1+1=(lim B).length by omega,ql O,h0,zy,zS]at G
      have h4:=Xr (b1.take (lim B).length) (k:=(lim B).length-1) O;have h5:B*1<=B*2^s:=zn _ u;omega
    . exact h0
   have wj:((((lim A).length-(lim B).length:Nat)):Int)=(((lim A).length-(lim B).length+1:Nat):Int)-1:=O;have c0:A<4294967296^(lim A).length:=by have:=cg (qy A);rwa [qo]at this
   have hstart:vl (ra.drop ((lim A).length-(lim B).length+1))<vl (K.take (lim B).length):=by
    rw[J];have G:=X0 ra ((lim A).length-(lim B).length+1) O;rw[a3]at G
    have h4:A*2^s<4294967296^((lim A).length-(lim B).length+1)*(B*2^s):=by
     calc A*2^s<4294967296^(lim A).length*2^s:=NG c0 u
      _=4294967296^((lim A).length-(lim B).length+1)*(4294967296^((lim B).length-1)*2^s):=by rw[<-Nat.mul_assoc,<-Nat.pow_add,show(lim A).length-(lim B).length+1+((lim B).length-1)=(lim A).length by omega]
      _<=_:=zn _ (zO _ b0)
    have h5:4294967296^((lim A).length-(lim B).length+1)*vl (ra.drop ((lim A).length-(lim B).length+1))<4294967296^((lim A).length-(lim B).length+1)*(B*2^s):=O;exact NA h5
   obtain⟨u',q',e1,g1,g2,g3,g4,g5,g6⟩:=qe0 hm (b1.take (lim B).length) O (y:=y) (by rw[ix];exact ey) d0 ((s:Nat):Int) ((lim A).length-(lim B).length+1) m ra (List.replicate ((lim A).length-(lim B).length+1) 0) O a1 Qr O O (by rw[zM];exact zI _) (λp _=>by simp[List.getD,List.getElem?_replicate];split<;>rfl) hstart
   rw[ix]at e1;rw[wj,e1,bS];dsimp only;rw[J,a3]at g5 g6;rw[Qw,zH,Uu _ _ u]at g6;rw[Nat.mul_mod_mul_right]at g5;rw[zM]at g4;rw[Yv g1 O O,bS];dsimp only;obtain⟨r,er,r1,r2,r3⟩:=YZ (m:=m) O (qy (vl u')) (zQ (Qz g1) O) (n:=s) O;rw[er,bS,Yv g2 O O,bS];dsimp only;rw[Yv r1 (vD (zQ r2 (Qz g1)) O) (zQ (zQ r2 (Qz g1)) O),bS,r3,qo,g5,g6,Ur _ u]
def G7 {r x:Nat} (J:r<4294967296) (hx:x<4294967296):bf .u64 (bE .u64 (r:Int) 32) (x:Int)=((r*4294967296+x:Nat):Int):=by have G:bE .u64 (r:Int) 32=((r*2^32:Nat):Int):=gC (a:=r) (k:=32) O (by rw[show(2:Nat)^32=4294967296 by decide];omega);have u:(2:Nat)^32=4294967296:=by{decide};rw[G,mH (by rw[u];omega) O];have:=Nw (i:=32) (b:=x) O r;rw[zY,<-this,u,zY]
section
variable {Q top v1 v2 u2:Nat}
structure QF (Q top v1 v2 u2:Nat):Prop where
 big:Q<4294967296
 ge: ∀q r,q*v1+r=top->r*4294967296+u2<q*v2->Q<q
 fin1: ∀q r,q*v1+r=top->q<4294967296->q*v2<=r*4294967296+u2->q<=Q+1
 fin2: ∀q r,q*v1+r=top->q<=4294967296->4294967296<=r->q<=Q
def qj8 (m:Nat) {u v:LI} {n:Nat} (hn:v.length=n) (h2:2<=n) (d0:u.length=n+1) (hl:n<=1000000)
 (e1:v.getD (n-1) 0=(v1:Int)) (e2:v.getD (n-2) 0=(v2:Int)) (e3:u.getD (n-2) 0=(u2:Int)) (h1:2147483648<=v1) (c0:v1<4294967296) (b0:v2<4294967296) (K:u2<4294967296) (J:QF Q top v1 v2 u2):
 ∀(N k q r:Nat),k<N->4294967296<=r+k*2147483648->q*v1+r=top->r<4294967296->Q<=q->q<=4294967297->
  ∃G:Nat,ji m N u v (n:Int) (q:Int) (r:Int)=some (.inl (u,v,(n:Int),(G:Int),()))/\Q<=G/\G<=Q+1/\G<4294967296
 |0,k,q,r,h,_,_,_,_,_=>O
 |N+1,k,q,r,h,hk,a0,hr,h0,hq=>by have w1:wI ((n:Int)-1)=((n-1:Nat):Int):=by{rw[wQ,wi O O];omega};have w2:wI ((n:Int)-2)=((n-2:Nat):Int):=by{rw[wQ,wi O O];omega};have w3:wJ (v1:Int)=(v1:Int):=bt O;have w4:wJ (v2:Int)=(v2:Int):=bt O;have w5:wJ (u2:Int)=(u2:Int):=bt O;have w6:wJ ((r:Int)+(v1:Int))=((r+v1:Nat):Int):=by{rw[<-Int.natCast_add];exact bt O};have i1:(0:Int)<=((n-1:Nat):Int)/\((n-1:Nat):Int)<(v.length:Int):=O;have i2:(0:Int)<=((n-2:Nat):Int)/\((n-2:Nat):Int)<(v.length:Int):=O;have i3:(0:Int)<=((n-2:Nat):Int)/\((n-2:Nat):Int)<(u.length:Int):=O;have down:1<=q->Q<q-> ∃G:Nat,(if(0:Int)<=((n-1:Nat):Int)/\((n-1:Nat):Int)<(v.length:Int)then bif decide (((r+v1:Nat):Int)>4294967295)then some (.inl (u,v,(n:Int),wJ ((q:Int)-1),())) else ji m N u v (n:Int) (wJ ((q:Int)-1)) ((r+v1:Nat):Int) else none)=some (.inl (u,v,(n:Int),(G:Int),()))/\Q<=G/\G<=Q+1/\G<4294967296:=by{intro i0 k0;have w7:wJ ((q:Int)-1)=((q-1:Nat):Int):=by{rw[show(q:Int)-1=((q-1:Nat):Int) by omega];exact bt O};have hs:(q-1)*v1+(r+v1)=top:=by{have:q*v1=(q-1)*v1+v1:=by{rw[<-Nat.succ_mul];congr 1;omega};omega};rw[iP i1,bQ,w7];by_cases c:((r+v1:Nat):Int)>4294967295;{rw[iP c];have:=J.fin2 (q-1) (r+v1) hs O O;have:=J.big;exact⟨q-1,rfl,O,O,O⟩};{rw[ae c];have j0:1<=k:=by{rcases GJ k with e|e;{subst e;omega};{exact e}};exact qj8 m hn h2 d0 hl e1 e2 e3 h1 c0 b0 K J N (k-1) (q-1) (r+v1) O O hs O O O}};rw[ji,bQ];simp only[w1,w2,zH,tN,e1,e2,e3,w3,w4,w5,w6];by_cases c:(q:Int)>4294967295;{rw[iP c];exact down O (by have:=J.big;omega)};{have e0:q*v2<18446744073709551616:=by{have:q*v2<=4294967295*4294967295:=qK O O;omega};have w8:wJ ((q:Int)*(v2:Int))=((q*v2:Nat):Int):=by{rw[<-Int.natCast_mul];exact bt e0};rw[ae c,iP i2,iP i3,w8,G7 hr K,bQ];by_cases c2:((q*v2:Nat):Int)>((r*4294967296+u2:Nat):Int);{rw[iP c2];have g0:r*4294967296+u2<q*v2:=O;have:=J.ge q r a0 g0;exact down O this};{rw[ae c2];exact⟨q,rfl,h0,J.fin1 q r a0 O O,O⟩}}
end
def QF.mk' {U V P top v1 v2 u2 lu u:Nat} (hP:0<P) (hU:U=lu+P*(top*4294967296+u2)) (e0:lu<P) (hV:V=u+P*(v1*4294967296+v2)) (d0:u<P) (h1:2147483648<=v1) (b0:v2<4294967296) (c0:u2<4294967296)
 (a0:U<V*4294967296):QF (U/V) top v1 v2 u2:=by have G:0<V:=by{have:P*1<=P*(v1*4294967296+v2):=zn _ O;omega};refine⟨Ns a0,λq r e h=> ?_,λq r e hq h=> ?_,λq r e hq h=> ?_⟩;{rw[Cp G];have J:top*4294967296+u2+1<=q*(v1*4294967296+v2):=by{rw[<-e,zJ,gr,<-Nat.mul_assoc];omega};have K:P*(top*4294967296+u2+1)<=P*(q*(v1*4294967296+v2)):=zn _ J;have k3:P*(q*(v1*4294967296+v2))=q*(P*(v1*4294967296+v2)):=by{rw[vC]};have k4:q*V=q*u+q*(P*(v1*4294967296+v2)):=by{rw[hV,zJ]};rw[zJ P,jF]at K;omega};{rcases GJ q with h0|h0;{rw[h0];exact lM _};have J:q*(v1*4294967296+v2)<=top*4294967296+u2:=by{rw[<-e,zJ,gr,<-Nat.mul_assoc];omega};have K:P*(q*(v1*4294967296+v2))<=P*(top*4294967296+u2):=zn _ J;have k3:P*(q*(v1*4294967296+v2))=q*(P*(v1*4294967296+v2)):=by{rw[vC]};have k4:q*V=q*u+q*(P*(v1*4294967296+v2)):=by{rw[hV,zJ]};have k5:q*u<=4294967296*P:=qK O O;have k6:P*4294967296<=P*(v1*4294967296+v2):=zn _ O;have k7:(q-1)*V<=U:=by{have:q*V=(q-1)*V+V:=by{rw[<-Nat.succ_mul];congr 1;omega};have:=zY P 4294967296;omega};have:=(K5 G).2 k7;omega};{rw[K5 G];have J:q*(v1*4294967296+v2+1)<=top*4294967296+u2:=by{have a1:q*(v2+1)<=4294967296*4294967296:=qK hq O;have a2:q*(v1*4294967296+v2+1)=q*v1*4294967296+q*(v2+1):=by{rw[yb,zJ,<-Nat.mul_assoc]};have a3:top*4294967296=q*v1*4294967296+r*4294967296:=by{rw[<-e,gr]};have a4:4294967296*4294967296<=r*4294967296:=zO _ h;omega};have K:P*(q*(v1*4294967296+v2+1))<=P*(top*4294967296+u2):=zn _ J;have k3:P*(q*(v1*4294967296+v2+1))=q*(P*(v1*4294967296+v2))+q*P:=by{rw[vC,zJ P,jF,zJ]};have k4:q*V=q*u+q*(P*(v1*4294967296+v2)):=by{rw[hV,zJ]};have k5:q*u<=q*P:=zn _ O;omega}
def Vt {a:Nat} (u:a<18446744073709551616):qm .u64 (a:Int) 4294967295=((a%4294967296:Nat):Int):=by have:=ga u (show 4294967295<18446744073709551616 by decide);rw[show((4294967295:Nat):Int)=4294967295 from rfl]at this;rw[this,ym _ 32]
def wX {a:Nat} (u:a<18446744073709551616):qm .u64 (a:Int) 1=((a%2:Nat):Int):=by have:=ga u (show 1<18446744073709551616 by decide);rw[show((1:Nat):Int)=1 from rfl]at this;rw[this,ym _ 1]
def Vf {a:Nat}:aJ .u64 (a:Int) 32=((a/4294967296:Nat):Int):=cZ (a:=a) (k:=32) O
def qjr {x lo u:Nat} (hx:x<4294967296) (G:lo<4294967296) (K:u<=1): ∃d e:Nat,d<4294967296/\e<=1/\x+4294967296*e=d+lo+u/\
 wK (qm .u64 (wJ ((wJ ((x:Int)-(lo:Int)))-(u:Int))) 4294967295)=(d:Int)/\qm .u64 (aJ .u64 (wJ ((wJ ((x:Int)-(lo:Int)))-(u:Int))) 32) 1=(e:Int):=by have J:wJ ((wJ ((x:Int)-(lo:Int)))-(u:Int))=((x:Int)-lo-u)%18446744073709551616:=by{rw[dV,dV];omega};rw[J];by_cases c:lo+u<=x;{rw[show((x:Int)-lo-u)%18446744073709551616=((x-lo-u:Nat):Int) by omega,Vt O,Vf,wX O,fG];refine⟨x-lo-u,0,O,O,O,?_,?_⟩;{congr 1;omega};{congr 1;omega}};{rw[show((x:Int)-lo-u)%18446744073709551616=((18446744073709551616-(lo+u-x):Nat):Int) by omega,Vt O,Vf,wX O,fG];refine⟨x+4294967296-lo-u,1,O,O,O,?_,?_⟩;{congr 1;omega};{congr 1;omega}}
def q5m {l:LI} (h:Lm l) {k y:Nat} (G:k<l.length) (e:l.getD k 0=(y:Int)):vl (l.take (k+1))=vl (l.take k)+4294967296^k*y:=by have J:=X0 l k O;have h2:=X0 l (k+1) O;have u:=Xa G;rw[e,tN]at u;rw[u,zJ,<-Nat.mul_assoc]at J;rw[gx]at h2;omega
section
variable {m n:Nat} {v:LI} (hv:Lm v) (hn:v.length=n) (hl:n<=1000000)
include hv hn hl
theorem qsk {q U:Nat} (hq:q<4294967296) (t1:LI) (t5:Int): ∀(N i:Nat) (u:LI) (G J:Nat),n-i<N->i<=n->Lm u->u.length=n+1->G<4294967296->J<=1->
 vl u+q*vl (v.take i)=U+4294967296^i*(J+G)->
 ∃(u':LI) (K a0:Nat),Lm u'/\u'.length=n+1/\K<4294967296/\a0<=1/\vl u'+q*vl v=U+4294967296^n*(a0+K)/\
  ky m N u t1 t5 (q:Int) (G:Int) (J:Int) v (v.length:Int) (i:Int)=some (.inl (u',t1,t5,(q:Int),(K:Int),(a0:Int),())):=by intro N;induction N with|zero=>{intro i u G J h;omega}|succ N ih=>{intro i u G J h hi hu b0 hc hb hinv;rw[ky,bQ];by_cases c:i<n;{obtain⟨x,ex,hx,_⟩:=hu.get' i;obtain⟨y,ey,hy,_⟩:=hv.get' i;have hp:q*y+G<18446744073709551616:=by{have:q*y<=4294967295*4294967295:=qK O O;omega};have c0:q*y<18446744073709551616:=O;have wx:wJ (x:Int)=(x:Int):=bt O;have wy:wJ (y:Int)=(y:Int):=bt O;have wq:wJ ((q:Int)*(y:Int))=((q*y:Nat):Int):=by{rw[<-Int.natCast_mul];exact bt c0};have wp:wJ (((q*y:Nat):Int)+(G:Int))=((q*y+G:Nat):Int):=by{rw[<-Int.natCast_add];exact bt hp};rw[iP O,iP O,iP O,iP O];simp only[tN,zH,ex,ey,wx,wy,wq,wp,Vt hp,Vf];obtain⟨d,e,hd,he,d0,g1,g2⟩:=qjr (lo:=(q*y+G)%4294967296) hx (kh _ (by decide)) hb;have e0:qm .u64 (aJ .u64 (wJ ((wJ ((x:Int)-(((q*y+G)%4294967296:Nat):Int)))-(J:Int))) 32) 1=(e:Int):=g2;rw[g1,e0,wQ,ay O];refine ih (i+1) (u.set i (d:Int)) ((q*y+G)/4294967296) e O O (Zl hu hd) (by rw[zU];exact b0) (Ns O) he ?_;have s1:=J3 (l:=u) (p:=i) (y:=(d:Int)) O;rw[ex,tN,tN]at s1;have s2:=q5m hv (k:=i) (y:=y) O ey;have s3:=vB (q*y+G) 4294967296;generalize g0:(q*y+G)%4294967296=lo at*;generalize h0:(q*y+G)/4294967296=ca at*;rw[s2,gx];generalize 4294967296^i=P at*;have k1:P*x+P*(4294967296*e)=P*d+P*lo+P*J:=by{rw[<-Nat.mul_add,d0,zJ,zJ]};have k2:P*(4294967296*ca)+P*lo=P*(q*y)+P*G:=by{rw[<-Nat.mul_add,s3,zJ]};have k3:q*(vl (v.take i)+P*y)=q*vl (v.take i)+P*(q*y):=by{rw[zJ,vC]};have k4:P*4294967296*(e+ca)=P*(4294967296*e)+P*(4294967296*ca):=by{rw[zV,zJ,zJ]};have k5:P*(J+G)=P*J+P*G:=zJ ..;rw[k3,k4];rw[k5]at hinv;omega};{have:i=n:=O;subst this;rw[ae O];rw[xd O]at hinv;exact⟨u,G,J,hu,b0,hc,hb,hinv,rfl⟩}}
theorem qs0 {U:Nat} (t5 t7:Int): ∀(N i:Nat) (u:LI) (G:Nat),n-i<N->i<=n->Lm u->u.length=n+1->G<=1->
 vl u+4294967296^i*G=U+vl (v.take i)->
 ∃(u':LI) (J:Nat),Lm u'/\u'.length=n+1/\J<=1/\vl u'+4294967296^n*J=U+vl v/\
  kx m N u t5 t7 (G:Int) v (v.length:Int) (i:Int)=some (.inl (u',t5,t7,(J:Int),())):=by intro N;induction N with|zero=>{intro i u G h;omega}|succ N ih=>{intro i u G h hi hu K hc hinv;rw[kx,bQ];by_cases c:i<n;{obtain⟨x,ex,hx,_⟩:=hu.get' i;obtain⟨y,ey,hy,_⟩:=hv.get' i;have wx:wJ (x:Int)=(x:Int):=bt O;have wy:wJ (y:Int)=(y:Int):=bt O;have ws:wJ ((x:Int)+(y:Int))=((x+y:Nat):Int):=by{rw[<-Int.natCast_add];exact bt O};have wp:wJ (((x+y:Nat):Int)+(G:Int))=((x+y+G:Nat):Int):=by{rw[<-Int.natCast_add];exact bt O};rw[iP O,iP O,iP O,iP O];simp only[tN,zH,ex,ey,wx,wy,ws,wp,Vt (show x+y+G<18446744073709551616 by omega),Vf,fG];rw[wQ,ay O];refine ih (i+1) (u.set i (((x+y+G)%4294967296%4294967296:Nat):Int)) ((x+y+G)/4294967296) O O (Zl hu O) (by rw[zU];exact K) O ?_;have s1:=J3 (l:=u) (p:=i) (y:=(((x+y+G)%4294967296%4294967296:Nat):Int)) O;rw[ex,tN,tN]at s1;have s2:=q5m hv (k:=i) (y:=y) O ey;have s3:4294967296*((x+y+G)/4294967296)+(x+y+G)%4294967296%4294967296=x+y+G:=O;generalize (x+y+G)%4294967296%4294967296=d at*;generalize (x+y+G)/4294967296=ca at*;rw[s2,gx];generalize 4294967296^i=P at*;have k1:P*(4294967296*ca)+P*d=P*x+P*y+P*G:=by{rw[<-Nat.mul_add,s3,zJ,zJ]};rw[zV];omega};{have:i=n:=O;subst this;rw[ae O];rw[xd O]at hinv;exact⟨u,G,hu,K,hc,hinv,rfl⟩}}
end
end Go.Vs.F
set_option maxRecDepth 100000
namespace Go.Vs.F
def B6 {m:Nat} (hm:2000000<m) {u v:LI} (hu:Lm u) (hv:Lm v) {n:Nat} (hn:v.length=n) (g0:u.length=n+1) (h2:2<=n) (hl:n<=1000000) {v1:Nat} (e1:v.getD (n-1) 0=(v1:Int)) (h1:2147483648<=v1)
 (p1:vl u<vl v*4294967296): ∃w,DA m u v=some (((vl u/vl v:Nat):Int),w,(),())/\Lm w/\w.length=n+1/\vl w=vl u%vl v:=by obtain⟨un,f1,t0,g1⟩:=hu.get' n;obtain⟨um,f2,u0,g2⟩:=hu.get' (n-1);obtain⟨u2,f3,h0,g3⟩:=hu.get' (n-2);obtain⟨G,b0,s0,k1⟩:=hv.get' (n-1);obtain⟨v2,e2,e0,k2⟩:=hv.get' (n-2);have:G=v1:=by{rw[b0]at e1;omega};subst this;have q1:=X0 u (n-2) O;have q2:=X0 v (n-2) O;have q3:=X0 u (n-1) O;have q4:=X0 v (n-1) O;have t1:=Xr hu (k:=n-2) O;have t2:=Xr hv (k:=n-2) O;have t3:=Xr hu (k:=n-1) O;have z1:vl (u.drop (n+1))=0:=ql O;have z2:vl (v.drop n)=0:=ql O;rw[z1]at g1;rw[show n-1+1=n by omega]at g2 k1;rw[show n-2+1=n-1 by omega]at g3 k2;rw[g1]at g2;rw[g2]at g3 q3;rw[z2]at k1;rw[k1]at k2 q4;rw[g3]at q1;rw[k2]at q2;obtain⟨top,i0⟩: ∃top,top=un*4294967296+um:=⟨_,rfl⟩;have hU:vl u=vl (u.take (n-2))+4294967296^(n-2)*(top*4294967296+u2):=by{rw[q1];congr 2;omega};have hV:vl v=vl (v.take (n-2))+4294967296^(n-2)*(G*4294967296+v2):=by{rw[q2];congr 2;omega};have r1:vl u=vl (u.take (n-1))+4294967296^(n-1)*top:=by{rw[q3];congr 2;omega};have m1:vl v=vl (v.take (n-1))+4294967296^(n-1)*G:=by{rw[q4,zy,zS]};have d2:0<4294967296^(n-2):=dU O;have y1:=QF.mk' d2 hU t1 hV t2 h1 e0 h0 p1;have x2:0<4294967296^(n-1):=dU O;have m0:0<vl v:=by{have:4294967296^(n-1)*1<=4294967296^(n-1)*G:=zn _ O;omega};have w0:vl u/vl v<=top/G:=qjj r1 t3 m1 O (Nq ..);have hle:top/G<=4294967297:=by{have a1:4294967296^(n-1)*top<4294967296^(n-1)*((G+1)*4294967296):=by{have t4:=Xr hv (k:=n-1) O;have:vl v*4294967296<=4294967296^(n-1)*(G+1)*4294967296:=zO _ (by rw[zJ,jF];omega);rw[zV]at this;omega};have a2:=NA a1;rw[gr]at a2;have h5:top<4294967298*G:=O;have:top/G<4294967298:=(Cp O).2 h5;omega};have o2:=kh top (show 0<G by omega);have d1:=vB top G;have p2:top<18446744073709551616:=O;obtain⟨q,r0,b1,b2,b3⟩:=qj8 m hn h2 g0 hl b0 e2 f3 h1 s0 e0 h0 y1 m 2 (top/G) (top%G) O O (by rw[zY];exact d1) O w0 hle;obtain⟨u1,j2,m2,c1,c2,c3,c4,c5,c6⟩:=qsk (m:=m) hv hn hl (q:=q) (U:=vl u) b3 v (n:Int) m 0 u 0 0 O O hu g0 O O (by simp[vl]);obtain⟨x,ex,hx,_⟩:=c1.get' n;obtain⟨d,e,hd,he,j1,s1,s2⟩:=qjr hx c3 c4;have w1:wI ((n:Int)-1)=((n-1:Nat):Int):=by{rw[wQ,wi O O];omega};have w3:wJ (G:Int)=(G:Int):=bt O;have w4:wJ (un:Int)=(un:Int):=bt O;have w5:wJ (um:Int)=(um:Int):=bt O;have wx:wJ (x:Int)=(x:Int):=bt O;have wt:wJ ((top/G:Nat):Int)=((top/G:Nat):Int):=bt O;have i1:(0:Int)<=((n:Nat):Int)/\((n:Nat):Int)<(u.length:Int):=O;have i2:(0:Int)<=((n-1:Nat):Int)/\((n-1:Nat):Int)<(u.length:Int):=O;have i3:(0:Int)<=((n-1:Nat):Int)/\((n-1:Nat):Int)<(n:Int):=O;have i4:(0:Int)<=((n:Nat):Int)/\((n:Nat):Int)<(u1.length:Int):=O;have d0:=J3 (l:=u1) (p:=n) (y:=(d:Int)) O;rw[ex,tN,tN]at d0;have l1:Lm (u1.set n (d:Int)):=Zl c1 hd;have l2:(u1.set n (d:Int)).length=n+1:=by{rw[zU];exact c2};have J:vl (u1.set n (d:Int))+q*vl v=vl u+4294967296^n*(4294967296*e):=by{have k1:4294967296^n*x+4294967296^n*(4294967296*e)=4294967296^n*d+4294967296^n*j2+4294967296^n*m2:=by{rw[<-Nat.mul_add,j1,zJ,zJ]};rw[zJ]at c5;omega};have hdiv:=vB (vl u) (vl v);have w2:=kh (vl u) m0;rw[DA];rw[hn,tN,w1,tN,zH,zH];rw[iP i1,iP i2,iP i3,b0,w3,iP O,iP i3,iP O,f1,f2,w4,w5,G7 t0 u0,<-i0,td,tm,wt,r0,bS];dsimp only;rw[show ky m m u v (n:Int) (q:Int) 0 0 v (v.length:Int) 0=_ from c6,bS];dsimp only;rw[iP i4,iP i4,tN,zH,ex,wx,aB,s1,s2];have hr:q*vl v=vl v*q:=zY ..;by_cases z0:e=0;{subst z0;have hq:q=vl u/vl v:=by{have:q<=vl u/vl v:=(K5 m0).2 (by simp only[zy,zS]at J;omega);omega};rw[iP O,fG,kl b3];refine⟨_,by rw[hq],l1,l2,?_⟩;simp only[zy,zS]at J;rw[hr,hq]at J;omega};{have x0:e=1:=O;subst x0;have k0:=cg l1;rw[l2,gx]at k0;rw[jF]at J;have hq:q=vl u/vl v+1:=by{rcases gq (vl u/vl v) q with h|h;{omega};{exfalso;have:q*vl v<=vl u/vl v*vl v:=zO _ h;have:=Nq (vl u) (vl v);omega}};have r2:1<=q:=by{rw[hq];exact Nat.le_add_left 1 _};have v0:q-1=vl u/vl v:=by{rw[hq,Nm]};obtain⟨u3,K,a1,a2,a3,a4,a5⟩:=qs0 (m:=m) hv hn hl (U:=vl (u1.set n (d:Int))) (n:Int) (q:Int) m 0 (u1.set n (d:Int)) 0 O O l1 l2 O (by simp[vl]);obtain⟨y,ey,hy,_⟩:=a1.get' n;have i5:(0:Int)<=((n:Nat):Int)/\((n:Nat):Int)<(u3.length:Int):=O;have wq:wJ ((q:Int)-1)=((q-1:Nat):Int):=by{rw[show(q:Int)-1=((q-1:Nat):Int) by omega];exact bt O};have wc:wK (K:Int)=(K:Int):=by{rw[fG,kl O]};have wy:wK ((y:Int)+(K:Int))=(((y+K)%4294967296:Nat):Int):=by{rw[<-Int.natCast_add];exact fG};rw[ae O,show kx m m (u1.set n (d:Int)) (n:Int) (q:Int) 0 v (v.length:Int) 0=_ from a5,bS];dsimp only;rw[iP i5,iP i5,tN,zH,ey,wc,wy,wq,fG,kl (show q-1<4294967296 by omega)];have a0:(y+K)%4294967296<4294967296:=kh _ (by decide);refine⟨_,by rw[v0],Zl a1 a0,by rw[zU];exact a2,?_⟩;have c0:=J3 (l:=u3) (p:=n) (y:=(((y+K)%4294967296:Nat):Int)) O;rw[ey,tN,tN]at c0;have j0:=cg (Zl (p:=n) a1 a0);rw[zU,a2,gx]at j0;have q0:=cg hv;rw[hn]at q0;have l0:=vB (y+K) 4294967296;have k1:4294967296^n*(4294967296*((y+K)/4294967296))+4294967296^n*((y+K)%4294967296)=4294967296^n*y+4294967296^n*K:=by{rw[<-Nat.mul_add,l0,zJ]};have k2:q*vl v=vl v*(vl u/vl v)+vl v:=by{rw[hq,zY,zJ,jF]};have hf:(y+K)/4294967296=0\/(y+K)/4294967296=1:=O;generalize (y+K)/4294967296=f at*;generalize (y+K)%4294967296=g at*;generalize 4294967296^n=P at*;rcases hf with rfl|rfl;{exfalso;simp only[zy]at k1;omega};{omega}}
end Go.Vs.F
set_option maxRecDepth 100000
namespace Go.Vs.F
def YV {a b:LI} (G:Lm a) (u:Lm b):Lm (a++b):=λx hx=>(zZ.1 hx).elim (G x) (u x)
def qpz {m:Nat} (hm:2000000<m) {v:LI} (hv:Lm v) {n:Nat} (hn:v.length=n) (h2:2<=n) {v1:Nat} (e1:v.getD (n-1) 0=(v1:Int)) (h1:2147483648<=v1) {k U:Nat} (hk:k+n<=1000000) (t8:Int):
 ∀(j N:Nat) (u q:LI),j<N->j<=k->Lm u->Lm q->u.length=k+n->q.length=k->(∀p,p<j->q.getD p 0=0)->vl (u.drop j)<vl v->vl u+vl v*vl q=U->
  ∃u' q',kO m N q t8 v u (n:Int) ((j:Int)-1)=some (.inl (q',t8,u',(n:Int),()))/\Lm u'/\Lm q'/\u'.length=k+n/\q'.length=k/\vl u'<vl v/\vl u'+vl v*vl q'=U:=by intro j;induction j with|zero=>{intro N u q hN hj hu hq b0 K hz hr hs;obtain⟨N,rfl⟩: ∃M,N=M+1:=⟨N-1,O⟩;rw[kO,bQ,ae O];exact⟨u,q,rfl,hu,hq,b0,K,by rwa [lN]at hr,hs⟩}|succ p ih=>{intro N u q hN hj hu hq b0 K hz hr hs;obtain⟨N,rfl⟩: ∃M,N=M+1:=⟨N-1,O⟩;have g0:=cg hv;rw[hn]at g0;have i0:(u.drop (p+1)).drop n=u.drop (p+(n+1)):=by{rw[Nv];congr 1;omega};have J:vl (u.drop (p+(n+1)))=0:=by{rw[<-i0];exact Ww (by rw[mA];omega) O};obtain⟨x,ex,hx,dx⟩:=hu.get' p;have e0:((u.drop p).take (n+1)).length=n+1:=by{rw[zX,mA];omega};have hw:vl (u.drop p)=vl ((u.drop p).take (n+1)):=by{have:=X0 (u.drop p) (n+1) (by rw[mA];omega);rw[Nv,J,zy,zS]at this;exact this};have G:vl ((u.drop p).take (n+1))<vl v*4294967296:=by{rw[<-hw,dx];omega};obtain⟨w,d1,d2,d3,d4⟩:=B6 hm ((hu.drop p).take (n+1)) hv hn e0 h2 O e1 h1 G;have l0:0<vl v:=O;have hd:vl ((u.drop p).take (n+1))/vl v<4294967296:=Ns G;generalize k0:vl ((u.drop p).take (n+1))/vl v=d at*;have j0:vl v*d+vl w=vl ((u.drop p).take (n+1)):=by{rw[<-k0,d4];exact vB ..};have d0:vl w<vl v:=by{rw[d4];exact kh _ l0};have w0:wI ((p:Int)+(n:Int))=((p+n:Nat):Int):=by{rw[wQ,wi O O];omega};have w1:wI (((p+n:Nat):Int)+1)=((p+n+1:Nat):Int):=ay O;have ei:((p+1:Nat):Int)-1=(p:Int):=O;rw[kO,ei,bQ,iP O,w0,w1,iP O];simp only[tN,zH];rw[show p+n+1-p=n+1 by omega,iP O,d1,bS];dsimp only;rw[iP O,wQ,wi O O];have h0:Lm (u.take p++(w++u.drop (p+(n+1)))):=YV (hu.take p) (YV d2 (hu.drop _));have c0:(u.take p).length=p:=by{rw[zX];omega};have a0:(u.take p++(w++u.drop (p+(n+1)))).length=k+n:=by{rw[zG,zG,c0,d3,mA];omega};have s1:=J3 (l:=q) (p:=p) (y:=(d:Int)) O;rw[hz p O,K7,zy,zS,tN]at s1;have s2:=X0 u p O;rw[hw,<-j0]at s2;have s3:vl (u.take p++(w++u.drop (p+(n+1))))=vl (u.take p)+4294967296^p*vl w:=by{rw[xn,xn,J,zy,zS,c0]};refine ih N _ (q.set p (d:Int)) O O h0 (Zl hq hd) a0 (by rw[zU];exact K) (λp' m0=>by rw[bD O];exact hz p' O) ?_ ?_;{have e:(u.take p++(w++u.drop (p+(n+1)))).drop p=w++u.drop (p+(n+1)):=by{rw[List.drop_append_of_le_length O,List.drop_of_length_le O,yn]};rw[e,xn,J,zy,zS];exact d0};{rw[s3,s1,zJ];rw[zJ]at s2;have:vl v*(4294967296^p*d)=4294967296^p*(vl v*d):=vC ..;omega}}
end Go.Vs.F
set_option maxRecDepth 100000
namespace Go.Vs.F
def qeq {m:Nat} (hm:5000000<=m) {A B:Nat} (hB:B≠0) (hA:(lim A).length<=400000) (m0:(lim B).length<=1000000):
 sH m (lim A) (lim B)=some ((lim (A/B),lim (A%B),()),(),(),()):=by
 by_cases hsmall:B<4294967296
 . exact q5h O O O hsmall
 by_cases J:A<B
 . have hc:dk A B= -1:=by unfold dk;rw[iP J]
   rw[sH,Jc O O m0,bS,bQ];dsimp only;rw[hc,iP O,Po O,bS,wZ J,kl J,Q5]
 . have p1:(lim B).length<=(lim A).length:=qx O;have hc: ¬dk A B<0:=by unfold dk;rw[ae J];split<;>omega
   obtain⟨n,hn⟩: ∃n,n=(lim B).length:=⟨_,rfl⟩;obtain⟨L,hL⟩: ∃L,L=(lim A).length:=⟨_,rfl⟩
   have h2:2<=n:=by
    rcases gq n 2 with h|h
    . exfalso;have:=cg (qy B);rw[qo,<-hn]at this;have G:4294967296^n<=4294967296^1:=zh O O;rw[Uw]at G;omega
    . exact h
   obtain⟨t,et,ht,dt⟩:=(qy B).get' (n-1);have w1:wI ((n:Int)-1)=((n-1:Nat):Int):=by rw[wQ,wi O O];omega
   have k1:ak t<=32:=Qq O;have w2:wI (32-((ak t:Nat):Int))=((32-ak t:Nat):Int):=by rw[wQ,wi O O];omega
   have g0:=X0 (lim B) (n-1) O;rw[qo,dt,show n-1+1=n by omega,ql O,zy,zS]at g0
   have i1:=Xr (qy B) (k:=n-1) O;have j0:=YW hB;rw[<-hn]at j0
   have e0:t≠0:=by
    intro h0;rw[h0,zy,zS]at g0;omega
   have m1:1<=ak t:=by rw[X6 e0];omega
   have v0:uG m (t:Int)=some (((32-ak t:Nat):Int),(),()):=by
    rw[uG,VK ht,bS];dsimp only;rw[w2]
   generalize hs:32-ak t=s at*
   have i0:s<=31:=O;have u:0<2^s:=dU O
   have f1:2147483648<=t*2^s:=by
    have G:=N7 e0
    calc 2147483648=2^(ak t-1)*2^s:=by rw[<-Nat.pow_add,show ak t-1+s=31 by omega]
     _<=t*2^s:=zO _ G
   have d0:(t+1)*2^s<=4294967296:=by
    have:=Yk t
    calc (t+1)*2^s<=2^ak t*2^s:=zO _ O
     _=2^(ak t+s):=(qM ..).symm
     _=4294967296:=by rw[show ak t+s=32 by omega]
   have z0:4294967296^(n-1)*4294967296=4294967296^n:=by rw[<-Nat.pow_succ,show(n-1).succ=n by omega]
   have u0:B*2^s<4294967296^n:=by
    have h5:B<4294967296^(n-1)*(t+1):=by rw[zJ,jF];omega
    calc B*2^s<4294967296^(n-1)*(t+1)*2^s:=NG h5 u
     _=4294967296^(n-1)*((t+1)*2^s):=zV ..
     _<=4294967296^(n-1)*4294967296:=zn _ d0
     _=4294967296^n:=z0
   have b1:B<=B*2^s:=OB _ u
   have ix:(lim (B*2^s)).length=n:=by
    have a1:=Xl u0;have a2:=qx b1;omega
   obtain⟨v1,ev,h1,dv⟩:=(qy (B*2^s)).get' (n-1);have t0:=X0 (lim (B*2^s)) (n-1) O;rw[qo,dv,show n-1+1=n by omega,ql O,zy,zS]at t0
   have g1:=Xr (qy (B*2^s)) (k:=n-1) O
   have hv1lo:2147483648<=v1:=by
    have a1:4294967296^(n-1)*(t*2^s)<=B*2^s:=by
     rw[<-Nat.mul_assoc];exact zO _ O
    have a2:4294967296^(n-1)*(t*2^s)<4294967296^(n-1)*(v1+1):=by rw[zJ _ v1,jF];omega
    have:=NA a2;omega
   obtain⟨k,hk⟩: ∃k,k=L+1-n:=⟨_,rfl⟩;have q0:=cg (qy A);rw[qo,<-hL]at q0;have e1:2^s<=2147483648:=zQ (zh O i0) (by decide)
   have r0:A*2^s<4294967296^L*2147483648:=vD (zn _ e1) (NG q0 O)
   have hlenA:(lim (A*2^s)).length<=L+1:=by
    refine Xl (x5 r0 ?_);rw[gx];exact zn _ O
   have d1:0<(lim (A*2^s)).length:=by
    refine Us.2 λh=> ?_
    have G:=Yp.1 h;rcases UM.1 G with h|h<;>omega
   obtain⟨R,hR⟩: ∃R,R=(lim (A*2^s)).take (List.replicate (L+1) (0:Int)).length++(List.replicate (L+1) (0:Int)).drop (lim (A*2^s)).length:=⟨_,rfl⟩
   have b0:R=lim (A*2^s)++List.replicate (L+1-(lim (A*2^s)).length) (0:Int):=by
    rw[hR,zM,xd hlenA,List.drop_replicate]
   have l0:R.length=k+n:=by rw[b0,zG,zM];omega
   have x0:Lm R:=by rw[b0];exact YV (qy _) Qr
   have k0:vl R=A*2^s:=by rw[b0,xn,Qw,zy,zS,qo]
   have hdrop:vl (R.drop k)<vl (lim (B*2^s)):=by
    rw[qo];have G:=X0 R k O;rw[k0]at G
    have h4:4294967296^k*(B*2^s)>=4294967296^L*2147483648:=by
     have h5:4294967296^(n-1)*2147483648<=B*2^s:=by
      have:=zn (4294967296^(n-1)) hv1lo;omega
     have h6:=zn (4294967296^k) h5;rw[<-Nat.mul_assoc,<-Nat.pow_add,show k+(n-1)=L by omega]at h6
     exact h6
    refine NA (a:=4294967296^k) ?_;omega
   obtain⟨u',q',r1,r2,r3,r4,r5,r6,r7⟩:=qpz (m:=m) O (qy (B*2^s)) ix h2 ev hv1lo (k:=k) (U:=A*2^s) O (s:Int) k m R (List.replicate k 0) O (zI _) x0 Qr l0 (by simp) (λp hp=>by simp[List.getD,hp]) hdrop (by rw[Qw,zy,zS];exact k0)
   rw[qo]at r6 r7;have w0:0<B*2^s:=O
   have hq:vl q'=A/B:=by
    have:vl q'=A*2^s/(B*2^s):=by
     rw[<-r7,tS,Ue w0,wZ r6,zS]
    rw[this,Uu _ _ u]
   have hr:vl u'=(A%B)*2^s:=by
    have:vl u'=A*2^s%(B*2^s):=by
     rw[<-r7,tS,UN,kl r6]
    rw[this,Nat.mul_mod_mul_right]
   have wL:wI ((L:Int)+1)=((L+1:Nat):Int):=ay O;have wk:wI (((k+n:Nat):Int)-(n:Int))=(k:Int):=by rw[wQ,wi O O];omega
   have s0:wI ((k:Int)-1)=(k:Int)-1:=by rw[wQ,wi O O]
   have a0:=vI (m:=m) O (qy B) O (n:=s) O;have K:=vI (m:=m) O (qy A) O (n:=s) O;rw[qo]at a0 K;rw[sH,Jc O O m0,bS,bQ];dsimp only;rw[ae hc,<-hn,<-hL,aB,ae O,w1,iP O,tN,et,v0,bS];dsimp only;rw[a0,bS,wL,iP O,K,bS,tN];dsimp only;rw[iP ⟨d1,by rw[zM];omega⟩,<-hR,l0,ix,wk,iP O,tN,zM,s0,r1,bS]
   dsimp only
   have c0:vl (u'.take n)=vl u':=by
    have G:=X0 u' n O;rw[Ww (l:=u') (k:=n) O O,zy,zS]at G;exact G.symm
   have j1:(u'.take n).length=n:=by rw[zX];omega
   rw[iP O,tN,Qy (r2.take n) O O,bS,c0,hr];dsimp only
   rw[ZM O (by
    have:=Qz (r2.take n);rw[c0,hr]at this;omega) O,bS,Qy r3 O O,bS,hq,Ur _ u]
end Go.Vs.F
set_option maxRecDepth 100000
namespace Go.Vs.F
def qll {m:Nat} (hm:5000000<=m) {A B:Nat} (u:B≠0) (J:(lim A).length<=400000) (G:(lim B).length<=400000):
 uJ m false (lim A) false (lim B)=some (((false,lim (A/B),()),(false,lim (A%B),()),0,()),(),(),()):=by have h1:(lim B).length≠0:=λh=>u (Yp.1 (List.eq_nil_of_length_eq_zero h));have l1:(lim (A/B)).length<=1000001:=zQ (qx (vA ..)) O;have l2:(lim (A%B)).length<=1000001:=zQ (qx (uh (kh _ O))) (by omega:(lim B).length<=1000001);have b1:=lK (m:=m) O l1 false;have K:=lK (m:=m) O l2 false;rw[uJ,Qy (qy B) O O,qo,bS,aB,ae (show¬(((lim B).length:Int)=0) by omega),Qy (qy A) O O,qo,bS];dsimp only;rw[qeq hm u J O,bS];dsimp only;rw[cond_false,show(!(false==false))=false from rfl,b1,bS,K,bS];rw[show(if(false=true)then-((A/B:Nat):Int)else((A/B:Nat):Int))=((A/B:Nat):Int)from ae (by simp),show(if(false=true)then-((A%B:Nat):Int)else((A%B:Nat):Int))=((A%B:Nat):Int)from ae (by simp),Xu,Xu]
def qkx {v n j:Nat} (hn:1<=n) (more:Bool):dP v (n+j) more=dP (v/2^j) n (more||decide (v%2^j≠0)):=by have hJ:0<2^j:=dU O;have e:v%2^(n+j)=2^j*(v/2^j%2^n)+v%2^j:=by{rw[tS n j,qM,Nat.mod_mul,tS]};have hc:=kh v hJ;obtain⟨h,hh⟩: ∃h,2^n=2*h:=⟨2^(n-1),by rw[<-Nat.pow_succ',show(n-1).succ=n by omega]⟩;have ep:2^(n+j)=2^j*(2*h):=by{rw[tS n j,qM,hh]};unfold dP;rw[e,ep,hh];generalize v/2^j%(2*h)=a;generalize a0:v%2^j=c at*;generalize 2^j=J at*;have K:J*(2*h)=2*(J*h):=vC ..;have G:2*(J*a+c)=2*(J*a)+2*c:=by{rw[zJ]};rw[K,G];by_cases c1:a<h;{have:J*(a+1)<=J*h:=zn _ c1;rw[zJ,jF]at this;rw[iP O,iP (show 2*a<2*h by omega)]};{have h3:J*h<=J*a:=zn _ O;rw[ae O,ae (show¬(2*a<2*h) by omega)];by_cases c2:a=h;{subst c2;by_cases u:c=0;{subst u;cases more<;>simp};{rw[ae O,ae (by simp[u])]}};{have h4:J*(h+1)<=J*a:=zn _ O;rw[zJ,jF]at h4;rw[ae O,ae (show¬(2*a=2*h/\(more||decide (c≠0))=false)from λq=>by omega)]}}
def qlt {neg:Bool} {v n j:Nat} (hn:1<=n) (more:Bool) (mode:Int):gU neg v (n+j) more mode=gU neg (v/2^j) n (more||decide (v%2^j≠0)) mode:=by have hJ:0<2^j:=dU O;have e:v%2^(n+j)=2^j*(v/2^j%2^n)+v%2^j:=by{rw[tS n j,qM,Nat.mod_mul,tS]};have ed:v/2^(n+j)=v/2^j/2^n:=by{rw[Nat.div_div_eq_div_mul,<-Nat.pow_add,tS]};unfold gU;rw[qkx hn,ed];have u:(v%2^(n+j)=0/\more=false)↔(v/2^j%2^n=0/\(more||decide (v%2^j≠0))=false):=by{rw[e];constructor;{rintro ⟨G,h2⟩;have K:v%2^j=0:=O;have J:2^j*(v/2^j%2^n)=0:=O;rcases UM.1 J with h|h;{omega};{exact⟨h,by simp[h2,K]⟩}};{rintro ⟨G,h2⟩;simp only[Ut,decide_eq_false_iff_not,Decidable.not_not]at h2;rw[G,h2.2];exact⟨by simp,h2.1⟩}};by_cases c:v%2^(n+j)=0/\more=false;{rw[iP c,iP (u.1 c)]};{rw[ae c,ae (λh=>c (u.2 h))]}
def qkm {X Y j:Nat} (u:0<Y):X*2^j/Y/2^j=X/Y/\(X%Y=0↔(X*2^j%Y=0/\X*2^j/Y%2^j=0)):=by have G:0<2^j:=dU O;refine⟨by rw[Nat.div_div_eq_div_mul,Uu _ _ G],λh=> ?_,λ⟨J,h2⟩=> ?_⟩;{obtain⟨q,rfl⟩:=Nat.dvd_of_mod_eq_zero h;rw[zV,Nat.mul_mod_right,UG _ u,Nat.mul_mod_left];exact⟨rfl,rfl⟩};{obtain⟨v,hv⟩:=Nat.dvd_of_mod_eq_zero J;rw[hv,UG _ u]at h2;obtain⟨w,rfl⟩:=Nat.dvd_of_mod_eq_zero h2;have:X=Y*w:=by{refine Nat.eq_of_mul_eq_mul_right G ?_;rw[hv,zV,zY (2^j) w]};rw[this,Nat.mul_mod_right]}
end Go.Vs.F
set_option maxRecDepth 100000
namespace Go.Vs.F
def kQ (X Y prec:Nat):Nat:=prec+2+ak Y-ak X
def qx1 {v k:Nat} (h:2^k<=v):k+1<=ak v:=by refine ue λc=> ?_;have u:=Yk v;have h2:2^ak v<=2^k:=zh O O;omega
def qxa {X Y p k:Nat} (u:X≠0) (G:Y≠0) (h:p+1+ak Y<=ak X-1+k):p+2<=ak (X*2^k/Y):=by
 refine qx1 (k:=p+1) ?_;rw[K5 O]
 calc 2^(p+1)*Y<=2^(p+1)*2^ak Y:=zn _ (uh (Yk Y))
  _=2^(p+1+ak Y):=(qM ..).symm
  _<=2^(ak X-1+k):=zh O h
  _=2^(ak X-1)*2^k:=qM ..
  _<=X*2^k:=zO _ (N7 u)
def XM {X Y p:Nat} (u:X≠0) (G:Y≠0):p+2<=ak (X*2^kQ X Y p/Y):=by refine qxa u G ?_;have:1<=ak X:=by{rw[X6 u];omega};unfold kQ;omega
def qp5 {r:Nat}:(sgn (zv false (lim r)) !=0)=decide (r≠0):=by have:zv false (lim r)=(r:Int):=by{unfold zv;rw[qo];rfl};rw[this];unfold sgn;rw[ae O];by_cases c:r=0;{subst c;rfl};{rw[iP O,decide_eq_true c];rfl}
def SzL {q:Nat} (h:ak q<=1000000):Sz (lim q):=⟨qy q,by have:=Qi h;omega⟩
end Go.Vs.F
set_option maxRecDepth 100000
namespace Go.Vs.F
abbrev Bg:=Bool×LI
def BZ (z:Int):Bg:=((zB z).1,(zB z).2.1)
abbrev D5:=Bool×Bool×LI×Int×Unit
inductive Cn:D5->Prop
 |bad:Cn qH
 |ok {w f:Int} (k:NF w f w f):Cn (ax w f)
def NF.self {z e w f:Int} (k:NF z e w f):NF w f w f:=
 ⟨cW.refl ..,by rw[k.eq.mk,k.md],k.zero,k.odd,k.lo,k.hi⟩
def fo (z e:Int):Cn (ax z e):=by by_cases h:cd z e;{obtain⟨w,f,k⟩:=h.nf;rw[<-k.eq.mk];exact .ok k.self};{rw[xq h];exact .bad}
def zD (a:D5):Int:=zv a.2.1 a.2.2.1
def eD (a:D5):Int:=a.2.2.2.1
def NF.mk_eq {w f:Int} (k:NF w f w f):ax w f=(false,(zB w).1,(zB w).2.1,f,()):=k.md
def NF.z {w f:Int} (k:NF w f w f):zD (ax w f)=w:=by rw[k.mk_eq];exact aM w
def NF.e {w f:Int} (k:NF w f w f):eD (ax w f)=f:=by rw[k.mk_eq];rfl
def NF.bad1 {w f:Int} (k:NF w f w f):(ax w f).1=false:=by rw[k.mk_eq]
section
variable {m:Nat} (hm:5000000000<=m)
include hm
theorem qu5 {a:Int} (u:bc a<=1000000):oR m (BZ a).1 (BZ a).2=some (zB a,(),()):=by have:=N9 (m:=m) O (neg:=(zB a).1) (hH u);rwa [aM]at this
theorem qyd {a:Int} (u:bc a<=1000000):iy m (BZ a).1 (BZ a).2=some (sgn a,(),()):=by have:=Ja (m:=m) O (neg:=(zB a).1) (hH u);rwa [aM]at this
theorem qft {a b:Int} (hb:b≠0) (G:bc a<=400000) (u:bc b<=400000) (h:a<0->a.natAbs%b.natAbs=0):
 xJ m (BZ a).1 (BZ a).2 (BZ b).1 (BZ b).2=some ((zB (if(!(decide (a<0)==decide (b<0)))=true then-((a.natAbs/b.natAbs:Nat):Int)else((a.natAbs/b.natAbs:Nat):Int)),zB ((a.natAbs%b.natAbs:Nat):Int),()),(),(),()):=by have hq:(lim (a.natAbs/b.natAbs)).length<=400000:=zQ (qx (vA ..)) G;have K:(lim (a.natAbs%b.natAbs)).length<=400000:=zQ (qx (Uv ..)) G;have J:(if decide (a<0)=true then-((a.natAbs%b.natAbs:Nat):Int)else((a.natAbs%b.natAbs:Nat):Int))=((a.natAbs%b.natAbs:Nat):Int):=by{by_cases c:a<0;{rw[h c];split<;>rfl};{rw[ae (by simpa using c)]}};rw[xJ,qu5 hm O,bS,qu5 hm O,bS];show(At m (lim a.natAbs) (lim b.natAbs)).bind _=_;rw[qnd hm O G u,bS];dsimp only;rw[qul O O,bS,qul O O,bS];dsimp only;rw[show(zB a).1=decide (a<0)from rfl,show(zB b).1=decide (b<0)from rfl,J,show iy m (zB ((a.natAbs%b.natAbs:Nat):Int)).1 (zB ((a.natAbs%b.natAbs:Nat):Int)).2.1=some (sgn ((a.natAbs%b.natAbs:Nat):Int),(),())from qyd hm (by show(lim ((a.natAbs%b.natAbs:Nat):Int).natAbs).length<=_;rw[jy];omega),bS,bQ];have: ¬sgn ((a.natAbs%b.natAbs:Nat):Int)<0:=by{unfold sgn;rw[ae O];split<;>omega};rw[ae this]
theorem qrk {x y:Nat} (G:y≠0) (hx:(lim x).length<=400000) (u:(lim y).length<=400000):
 xJ m (BZ (x:Int)).1 (BZ (x:Int)).2 (BZ (y:Int)).1 (BZ (y:Int)).2=some ((zB ((x/y:Nat):Int),zB ((x%y:Nat):Int),()),(),(),()):=by have:=qft hm (a:=(x:Int)) (b:=(y:Int)) O (by unfold bc;rw[jy];exact hx) (by unfold bc;rw[jy];exact u) (λh=>O);rw[this,jy,jy,show decide ((x:Int)<0)=false from decide_eq_false O,show decide ((y:Int)<0)=false from decide_eq_false O];rfl
theorem qvh {X Y:Nat} (G:Y≠0) (J:ak X<=400000) (u:ak Y<=400000):
 uJ m (zB (X:Int)).1 (zB (X:Int)).2.1 (zB (Y:Int)).1 (zB (Y:Int)).2.1=some (((false,lim (X/Y),()),(false,lim (X%Y),()),0,()),(),(),()):=by rw[Xu,Xu];have K:=Qi J;have h2:=Qi u;exact qll O G O O
theorem qrz {X Y:Nat} (G:Y≠0) (J:ak X<=400000) (u:ak Y<=400000):
 xJ m (zB (X:Int)).1 (zB (X:Int)).2.1 (zB (Y:Int)).1 (zB (Y:Int)).2.1=some (((false,lim (X/Y),()),(false,lim (X%Y),()),()),(),(),()):=by have K:=Qi J;have h2:=Qi u;have h:=qrk hm G (x:=X) (y:=Y) O O;rw[Xu,Xu]at h;exact h
theorem natAbs_pow {X k:Nat}:((X:Nat):Int)*2^k=((X*2^k:Nat):Int):=by rw[oZ,oJ];rfl
theorem qsm {w f x g:Int} (k:NF w f w f) (l:NF x g x g) (hx:x≠0) {p:Nat} (hp:p<=4096):
 ER m false (zB w).1 (zB w).2.1 f false (zB x).1 (zB x).2.1 g (p:Int)=
  some ((decide (w<0) !=decide (x<0),false,lim (w.natAbs*2^(p+3+ak x.natAbs-ak w.natAbs)/x.natAbs),f-((p+3+ak x.natAbs-ak w.natAbs:Nat):Int)-g,decide (w.natAbs*2^(p+3+ak x.natAbs-ak w.natAbs)%x.natAbs≠0),()),(),(),(),()):=by have a0:=k.len;have K:=l.len;have b1:=k.lo;have b2:=k.hi;have b3:=l.lo;have b4:=l.hi;have hY:x.natAbs≠0:=O;have a1:vl (zB w).2.1=w.natAbs:=qo _;have a2:vl (zB x).2.1=x.natAbs:=qo _;have J:wI (wI (wI ((p:Int)+3)+((ak x.natAbs:Nat):Int))-((ak w.natAbs:Nat):Int))=(p:Int)+3+((ak x.natAbs:Nat):Int)-((ak w.natAbs:Nat):Int):=by{simp only[wQ];rw[wi (n:=(p:Int)+3) O O,wi (n:=(p:Int)+3+_) O O,wi O O]};rw[ER,Oi O l.Sz,a2,bS,Oi O k.Sz,a1,bS,UW O k.Sz,aM,bS];dsimp only;rw[J,show(if(p:Int)+3+((ak x.natAbs:Nat):Int)-((ak w.natAbs:Nat):Int)>0 then(p:Int)+3+((ak x.natAbs:Nat):Int)-((ak w.natAbs:Nat):Int)else 0)=((p+3+ak x.natAbs-ak w.natAbs:Nat):Int) by split<;>omega];have hk:p+3+ak x.natAbs-ak w.natAbs<=140000:=O;generalize b0:p+3+ak x.natAbs-ak w.natAbs=j at*;have u:ak (w.natAbs*2^j)<=280000:=by{have:=Od (a:=w.natAbs) (b:=2^j);rw[Xd]at this;omega};have G:wI (wI (f-(j:Int))-g)=f-(j:Int)-g:=by{simp only[wQ];rw[wi (n:=f-(j:Int)) O O,wi O O]};rw[eI O (by rw[jy];omega) O O,bS,tN,natAbs_pow hm];dsimp only;rw[UW O l.Sz,aM,bS];dsimp only;rw[qvh hm hY O O,bS];dsimp only;have hr:ak (w.natAbs*2^j%x.natAbs)<=280000:=zQ (Xi (Uv ..)) u;rw[C3 O (SzL O),bS,qp5,G];rfl
theorem qmm {X Y:Nat} (K:Y≠0) (h1:ak X<=131072) (h2:ak Y<=131072) {p:Nat} (hp:p<=4096):
 FW m (zB (X:Int)).1 (zB (X:Int)).2.1 (zB (Y:Int)).1 (zB (Y:Int)).2.1 (p:Int)=
  some (((false,lim (X*2^kQ X Y p/Y),()),-((kQ X Y p:Nat):Int),decide (X*2^kQ X Y p%Y≠0),()),(),(),(),()):=by have a1:vl (zB (X:Int)).2.1=X:=by{rw[Xu];exact qo _};have a2:vl (zB (Y:Int)).2.1=Y:=by{rw[Xu];exact qo _};have J:wI (wI (wI ((p:Int)+2)+((ak Y:Nat):Int))-((ak X:Nat):Int))=(p:Int)+2+((ak Y:Nat):Int)-((ak X:Nat):Int):=by{simp only[wQ];rw[wi (n:=(p:Int)+2) O O,wi (n:=(p:Int)+2+_) O O,wi O O]};rw[FW,Wq O (oX O),a2,bS,Wq O (oX O),a1,bS];dsimp only;have hk:kQ X Y p<=140000:=by{unfold kQ;omega};rw[J,show(if(0:Int)>(p:Int)+2+((ak Y:Nat):Int)-((ak X:Nat):Int)then 0 else(p:Int)+2+((ak Y:Nat):Int)-((ak X:Nat):Int))=((kQ X Y p:Nat):Int) by unfold kQ;split<;>omega];generalize kQ X Y p=j at*;have u:ak (X*2^j)<=280000:=by{have:=Od (a:=X) (b:=2^j);rw[Xd]at this;omega};have hr:ak (X*2^j%Y)<=280000:=zQ (Xi (Uv ..)) u;have G:wI (0-(j:Int))= -(j:Int):=by{rw[wQ,wi O O];omega};rw[Zb O (by rw[jy];omega) O O,bS,tN,natAbs_pow hm];dsimp only;rw[qrz hm K O O,bS];dsimp only;rw[Ja O (SzL O),bS,qp5,G]
end
end Go.Vs.F
set_option maxRecDepth 100000
namespace Go.Vs.F
def qh7 {neg:Bool} {v j:Nat} {e:Int} {more:Bool} {mode:Int} (K:55<=ak (v/2^j)):
 Yz neg v (e-(j:Int)) more mode=Yz neg (v/2^j) e (more||decide (v%2^j≠0)) mode:=by have hJ:0<2^j:=dU O;have u:v/2^j≠0:=λh=>by{rw[h,Xz]at K;omega};have G:ak v=j+ak (v/2^j):=by{have:=vB v (2^j);rw[<-this];have h2:=QK (k:=j) u (kh v hJ);rw[h2,this]};have hu:aY v (e-(j:Int))=aY (v/2^j) e:=by{unfold aY;rw[G];omega};unfold Yz;rw[hu];congr 1;have J:e<aY (v/2^j) e:=by{unfold aY;omega};unfold d9;rw[hu,ae O,ae O,show(aY (v/2^j) e-(e-(j:Int))).toNat=(aY (v/2^j) e-e).toNat+j by omega,qlt O]
def Cn.mk {a:D5} (h:Cn a): ∃z e,a=ax z e:=by
 cases h with
 |bad=>exact⟨1,1000000,by rw[xq];rw[Y2];rintro (h|h); · omega
                          . have:ak (1:Int).natAbs=1:=by decide
                            rw[this]at h;omega⟩
 |ok k=>exact⟨_,_,rfl⟩
def GC:Int:=9221120237041090560
def mf (a b:D5) (mode:Int):Int:=
 if a.1=true\/b.1=true\/zD b=0 then GC
 else if zD a=0 then 0
 else Yz (decide (zD a<0) !=decide (zD b<0)) ((zD a).natAbs*2^kQ (zD a).natAbs (zD b).natAbs 57/(zD b).natAbs) (eD a-eD b-((kQ (zD a).natAbs (zD b).natAbs 57:Nat):Int)) (decide ((zD a).natAbs*2^kQ (zD a).natAbs (zD b).natAbs 57%(zD b).natAbs≠0)) mode
def Pa {neg:Bool} {X Y:Nat} {E mode:Int} (K:X≠0) (J:Y≠0):
 Yz neg (X*2^kQ X Y 60/Y) (E-((kQ X Y 60:Nat):Int)) (decide (X*2^kQ X Y 60%Y≠0)) mode=Yz neg (X*2^kQ X Y 57/Y) (E-((kQ X Y 57:Nat):Int)) (decide (X*2^kQ X Y 57%Y≠0)) mode:=by obtain⟨j,G⟩: ∃j,kQ X Y 60=kQ X Y 57+j:=⟨kQ X Y 60-kQ X Y 57,by unfold kQ;omega⟩;have hb:=XM (p:=57) K J;rw[G];generalize kQ X Y 57=k at*;have u:0<Y:=O;obtain⟨s1,s2⟩:=qkm (X:=X*2^k) (Y:=Y) (j:=j) u;have e1:X*2^(k+j)=X*2^k*2^j:=by{rw[qM,zV]};rw[e1,show E-((k+j:Nat):Int)=E-(k:Int)-(j:Int) by omega,qh7 (by rw[s1];omega),s1];congr 1;by_cases c:X*2^k%Y=0;{obtain⟨a,b⟩:=s2.1 c;simp[a,b,c]};{by_cases a:X*2^k*2^j%Y=0;{have b:X*2^k*2^j/Y%2^j≠0:=λb=>c (s2.2 ⟨a,b⟩);simp[a,b,c]};{simp[a,c]}}
section
variable {m:Nat} (hm:5000000000<=m)
include hm
theorem vR {a b:D5} (ha:Cn a) (hb:Cn b) (mode:Int):vg m a.1 a.2.1 a.2.2.1 a.2.2.2.1 b.1 b.2.1 b.2.2.1 b.2.2.2.1 mode=some (mf a b mode,(),(),(),()):=by have key:mi m a.1 a.2.1 a.2.2.1 a.2.2.2.1=some (a,(),())/\mi m b.1 b.2.1 b.2.2.1 b.2.2.2.1=some (b,(),()):=by{obtain⟨z,e,rfl⟩:=ha.mk;obtain⟨y,f,rfl⟩:=hb.mk;exact⟨P5 O,P5 O⟩};rw[vg,key.1,bS,key.2,bS];dsimp only;unfold mf;cases ha with|bad=>{rw[iP (.inl rfl)];rfl}| @ok w f k=>{rw[k.bad1,cond_false];cases hb with|bad=>{rw[iP (.inr (.inl rfl))];rfl}| @ok x g l=>{have hsx:=Ob (m:=m) O l.ok;have hsw:=Ob (m:=m) O k.ok;rw[l.bad1]at hsx;rw[k.bad1]at hsw;rw[l.bad1,cond_false,hsx,bS,aB];dsimp only;rw[l.z,k.z,k.e,l.e];by_cases c:x=0;{rw[iP (Qb.2 c),iP (.inr (.inr c))];rfl};{rw[ae (λh=>c (Qb.1 h)),ae (by simp[c]),hsw,bS,aB];dsimp only;by_cases d:w=0;{rw[iP (Qb.2 d),iP d]};{rw[ae (λh=>d (Qb.1 h)),ae d,k.mk_eq,l.mk_eq];dsimp only;rw[show(56:Int)=((56:Nat):Int)from rfl,qsm hm k l c O,bS];dsimp only;have hY:x.natAbs≠0:=O;have hX:w.natAbs≠0:=O;have ek:56+3+ak x.natAbs-ak w.natAbs=kQ w.natAbs x.natAbs 57:=by{unfold kQ;omega};rw[ek];have hbig:=XM (p:=57) hX hY;have hkk:kQ w.natAbs x.natAbs 57=59+ak x.natAbs-ak w.natAbs:=by{unfold kQ;omega};have q1:=k.lo;have q2:=k.hi;have q3:=l.lo;have q4:=l.hi;have hl1:=k.len;have hl2:=l.len;have hXb:ak (w.natAbs*2^kQ w.natAbs x.natAbs 57)<=280000:=by{have:=Od (a:=w.natAbs) (b:=2^kQ w.natAbs x.natAbs 57);rw[Xd]at this;omega};have hvb:ak (w.natAbs*2^kQ w.natAbs x.natAbs 57/x.natAbs)<=280000:=zQ (Xi (vA ..)) hXb;have hv0:w.natAbs*2^kQ w.natAbs x.natAbs 57/x.natAbs≠0:=λh=>by{rw[h,Xz]at hbig;omega};have hr:=q4r (m:=m) O (decide (w<0) !=decide (x<0)) hv0 O (e:=f-((kQ w.natAbs x.natAbs 57:Nat):Int)-g) (decide (w.natAbs*2^kQ w.natAbs x.natAbs 57%x.natAbs≠0)) mode O O;rw[Xu]at hr;rw[hr,bS,show f-((kQ w.natAbs x.natAbs 57:Nat):Int)-g=f-g-((kQ w.natAbs x.natAbs 57:Nat):Int) by omega]}}}}
theorem O9 {a b:D5} (ha:Cn a) (hb:Cn b) (mode:Int):WK m a.1 a.2.1 a.2.2.1 a.2.2.2.1 b.1 b.2.1 b.2.2.1 b.2.2.2.1 mode=some (mf a b mode,(),(),(),()):=by have key:pZ m a.1 a.2.1 a.2.2.1 a.2.2.2.1=some (a,(),())/\pZ m b.1 b.2.1 b.2.2.1 b.2.2.2.1=some (b,(),()):=by{obtain⟨z,e,rfl⟩:=ha.mk;obtain⟨y,f,rfl⟩:=hb.mk;exact⟨X9 O,X9 O⟩};rw[WK,key.1,bS,key.2,bS];dsimp only;unfold mf;cases ha with|bad=>{rw[iP (.inl rfl)];rfl}| @ok w f k=>{rw[k.bad1,cond_false];cases hb with|bad=>{rw[iP (.inr (.inl rfl))];rfl}| @ok x g l=>{have hsx:=Qt (m:=m) O l.ok;have hsw:=Qt (m:=m) O k.ok;rw[l.bad1,cond_false,hsx,bS,aB];dsimp only;rw[l.z,k.z,k.e,l.e];by_cases c:x=0;{rw[iP (Qb.2 c),iP (.inr (.inr c))];rfl};{rw[ae (λh=>c (Qb.1 h)),ae (by simp[c]),hsw,bS,aB];dsimp only;by_cases d:w=0;{rw[iP (Qb.2 d),iP d]};{rw[ae (λh=>d (Qb.1 h)),ae d,k.mk_eq,l.mk_eq];dsimp only;have hY:x.natAbs≠0:=O;have hX:w.natAbs≠0:=O;have q1:=k.lo;have q2:=k.hi;have q3:=l.lo;have q4:=l.hi;have hl1:=k.len;have hl2:=l.len;rw[N2 O k.Sz,aM,bS,N2 O l.Sz,aM,bS];dsimp only;rw[show(60:Int)=((60:Nat):Int)from rfl,qmm hm hY O O O,bS];dsimp only;have hkk:kQ w.natAbs x.natAbs 60=62+ak x.natAbs-ak w.natAbs:=by{unfold kQ;omega};have hbig:=XM (p:=60) hX hY;have hXb:ak (w.natAbs*2^kQ w.natAbs x.natAbs 60)<=280000:=by{have:=Od (a:=w.natAbs) (b:=2^kQ w.natAbs x.natAbs 60);rw[Xd]at this;omega};have hvb:ak (w.natAbs*2^kQ w.natAbs x.natAbs 60/x.natAbs)<=280000:=zQ (Xi (vA ..)) hXb;have hv0:w.natAbs*2^kQ w.natAbs x.natAbs 60/x.natAbs≠0:=λh=>by{rw[h,Xz]at hbig;omega};have w1:wI (wI (f-g)+ -((kQ w.natAbs x.natAbs 60:Nat):Int))=f-g-((kQ w.natAbs x.natAbs 60:Nat):Int):=by{simp only[wQ];rw[wi (n:=f-g) O O,wi O O];omega};have hr:=q7t (m:=m) O (decide (w<0) !=decide (x<0)) hv0 O (e:=f-g-((kQ w.natAbs x.natAbs 60:Nat):Int)) (decide (w.natAbs*2^kQ w.natAbs x.natAbs 60%x.natAbs≠0)) mode O O (λ_=>by unfold aY;omega);rw[Xu]at hr;have hs:(!((zB w).1==(zB x).1))=(decide (w<0) !=decide (x<0)):=rfl;rw[w1,hs,hr,bS,Pa hX hY]}}}}
end
end Go.Vs.F
set_option maxRecDepth 100000
namespace Go.Vs.F
def fq:Nat->Nat
 |0=>0
 |n+1=>if(fq n+1)*(fq n+1)<=n+1 then fq n+1 else fq n
def VP: ∀n:Nat,fq n*fq n<=n/\n<(fq n+1)*(fq n+1)
 |0=>⟨zI _,by decide⟩
 |n+1=>by obtain⟨u,h2⟩:=VP n;rw[fq];generalize fq n=r at*;have e:(r+1+1)*(r+1+1)=(r+1)*(r+1)+2*r+3:=by{simp only[gr,zJ];omega};split;{omega};{omega}
def GT {a b:Nat} (h:a*a<b*b):a<b:=by refine Nat.lt_of_not_le λc=> ?_;have:=qK c c;omega
def qsa {n r:Nat} (u:r*r<=n) (h2:n<(r+1)*(r+1)):fq n=r:=by obtain⟨J,G⟩:=VP n;have O:=GT (vD u G);have K:=GT (vD J h2);omega
def XP (n:Nat):fq n<=n:=by obtain⟨u,_⟩:=VP n;rcases GJ (fq n)with h|h;{omega};{have:=zn (fq n) h;omega}
def quh {a x:Nat} (hx:0<x) (h:a<(x+1)*(x+1)):a<((x+a/x)/2+1)*((x+a/x)/2+1):=by have G:a<x*(a/x+1):=by{have:=vB a x;have:=kh a hx;rw[zJ];omega};generalize a/x=q at*;have u:x+q+1<=2*((x+q)/2+1):=O;generalize (x+q)/2+1=y at*;have h1:(x+q+1)*(x+q+1)<=2*y*(2*y):=qK u u;have h2:4*(x*(q+1))<=(x+q+1)*(x+q+1):=by{have e1:(x+q+1)*(x+q+1)=x*x+2*(x*(q+1))+(q+1)*(q+1):=by{generalize J:q+1=p;rw[show x+q+1=x+p by omega,gr,zJ,zJ,zY p x];omega};have e2:2*(x*(q+1))<=x*x+(q+1)*(q+1):=by{generalize q+1=p;rcases Nat.le_total x p with h|h;{obtain⟨d,rfl⟩: ∃d,p=x+d:=⟨p-x,O⟩;simp only[zJ,gr];have:=zY d x;omega};{obtain⟨d,rfl⟩: ∃d,x=p+d:=⟨x-p,O⟩;simp only[zJ,gr];have:=zY d p;omega}};omega};have K:2*y*(2*y)=4*(y*y):=by{rw[Nat.mul_mul_mul_comm]};omega
def qkg {a x:Nat} (hx:0<x) (h:a<(x+1)*(x+1)) (G:x<=(x+a/x)/2):fq a=x:=by refine qsa ?_ h;have u:x<=a/x:=O;have:=Nq a x;exact zQ (zO _ u) this
def qkp {a x:Nat} (G:a≠0) (hx:0<x) (h:a<(x+1)*(x+1)):0<(x+a/x)/2:=by have:=quh hx h;rcases GJ ((x+a/x)/2)with u|u;{rw[u]at this;omega};{exact u}
def qdj {a:Nat}:a<(2^((ak a+1)/2)+1)*(2^((ak a+1)/2)+1):=by have u:=Yk a;have h2:2^ak a<=2^((ak a+1)/2)*2^((ak a+1)/2):=by{rw[<-Nat.pow_add];exact zh O O};generalize 2^((ak a+1)/2)=x at*;have:(x+1)*(x+1)=x*x+2*x+1:=by{simp only[gr,zJ];omega};omega
def yD (n:Nat):Nat:=2^n
def qmy {k n:Nat} (h:k<n):2^k<yD n:=Nat.pow_lt_pow_right O h
attribute [irreducible] yD
def d6:Nat:=yD 200000
def qet {k:Nat} (h:k<200000):2^k<d6:=qmy h
def Yu {m:Nat} (h:d6<=m):5000000000<=m:=by have u:2^40<d6:=qet O;have h2:(2:Nat)^40=1099511627776:=by{decide};omega
attribute [irreducible] d6
section
variable {m:Nat} (hm:5000000000<=m)
include hm
theorem qxe {a:Nat} (ha:a≠0) (hl:ak a<=290000): ∀(n x:Nat),x<n->0<x->a<(x+1)*(x+1)->ak x<=290000->
 ni m n (lim a) (lim x)=some (.inl (lim (fq a),())):=by intro n;induction n with|zero=>{intro x h;omega}|succ n ih=>{intro x hx K h J;have b0:=Qi J;have e0:=Qi hl;have d0:(lim (a/x)).length<=10000:=zQ (qx (vA ..)) O;have u:ak (x+a/x)<=290001:=qbj J (zQ (Xi (vA ..)) hl);have c0:=Qi u;have a0:(lim ((x+a/x)/2)).length<=10000:=zQ (qx (vA ..)) O;rw[ni,qeq O O O O,bS];dsimp only;rw[ZE O (qy _) (qy _) O O,qo,qo,bS];dsimp only;rw[show(1:Int)=((1:Nat):Int)from rfl,ZM O O O,bS];dsimp only;rw[Uw,Jc O O O,bS,bQ];dsimp only;by_cases c:(x+a/x)/2<x;{have G: ¬dk ((x+a/x)/2) x>=0:=by{unfold dk;rw[iP c];omega};rw[ae G];exact ih _ O (qkp ha K h) (quh K h) (zQ (Xi (uh c)) J)};{have G:dk ((x+a/x)/2) x>=0:=by{unfold dk;rw[ae c];split<;>omega};rw[iP G,qkg K h O]}}
end
def qvw {m:Nat} (hM:d6<=m) {a:Nat} (K:a≠0) (hl:ak a<=290000):DT m (lim a)=some (lim (fq a),(),()):=by have hm:=Yu hM;have a0:=Qi hl;have u: ¬((lim a).length:Int)=0:=λh=>K (Yp.1 (ND.1 O));have w1:wI (Int.tdiv (wI (((ak a:Nat):Int)+1)) 2)=(((ak a+1)/2:Nat):Int):=by{rw[wQ,wQ,wi (n:=((ak a:Nat):Int)+1) O O,show((ak a:Nat):Int)+1=((ak a+1:Nat):Int) by omega,show(2:Int)=((2:Nat):Int)from rfl,<-Int.ofNat_tdiv,wi O O]};have J:Lm [1]:=λx hx=>by{simp only[zA]at hx;omega};have G:ak (2^((ak a+1)/2))<=290000:=by{rw[Xd];omega};rw[DT,aB,ae u,length_eq O,bS];dsimp only;rw[w1,vI O J (by simp) O,bS,show vl [1]=1 from rfl,x7];dsimp only;rw[qxe hm K hl m _ (x5 (qet O) hM) (dU O) qdj G,bS]
def qwf {m:Nat} (G:d6<=m) {a:Nat} (J:a≠0) (hl:ak a<=290000):xI m (zB (a:Int)).1 (zB (a:Int)).2.1=some ((zB ((fq a:Nat):Int),0,()),(),()):=by have hm:=Yu G;have K:Sz (zB (a:Int)).2.1:=oX O;have u:ak (fq a)<=290000:=zQ (Xi (XP a)) hl;have:=Qi u;have:=Qi hl;rw[xI,C3 O K,aM,bS,bQ,ae (by unfold sgn;dsimp only;rw[ae O];split<;>omega),Xu];dsimp only;rw[Qy (qy a) O O,qo,bS];dsimp only;rw[qvw G J hl,bS];dsimp only;rw[lK O O,bS,ae (by simp)]
section
variable {m:Nat} (hm:5000000000<=m)
include hm
end
end Go.Vs.F
set_option maxRecDepth 100000
namespace Go.Vs.F
def lO (X:Nat) (f:Int) (p:Nat):Nat:=if(f-((p-ak X:Nat):Int))%2=0 then p-ak X else p-ak X+1
def rj (a:D5) (mode:Int):Int:=
 if a.1=true\/zD a<0 then GC
 else if zD a=0 then 0
 else Yz false (fq ((zD a).natAbs*2^lO (zD a).natAbs (eD a) 118)) ((eD a-((lO (zD a).natAbs (eD a) 118:Nat):Int))/2) (decide (fq ((zD a).natAbs*2^lO (zD a).natAbs (eD a) 118)*fq ((zD a).natAbs*2^lO (zD a).natAbs (eD a) 118)≠(zD a).natAbs*2^lO (zD a).natAbs (eD a) 118)) mode
def qvs {X p:Nat} (u:X≠0) (f:Int):p<=ak (X*2^lO X f p):=by rw[zY,Xw u];unfold lO;split<;>omega
def qvy {M k:Nat} (h:2*k+1<=ak M):k+1<=ak (fq M):=by obtain⟨_,h2⟩:=VP M;refine ue λc=> ?_;have u:M≠0:=λe=>by{rw[e,Xz]at h;omega};have G:fq M+1<=2^k:=by{have:=Yk (fq M);have:2^ak (fq M)<=2^k:=zh O O;omega};have J:(fq M+1)*(fq M+1)<=2^k*2^k:=qK G G;rw[<-Nat.pow_add]at J;have h5:=N7 u;have K:2^(k+k)<=2^(ak M-1):=zh O O;omega
def quz {a b:Int}:(eZ a b !=0)=decide (a≠b):=by unfold eZ;split;{rw[show decide (a≠b)=true from decide_eq_true O];rfl};{split;{rw[show decide (a≠b)=true from decide_eq_true O];rfl};{rw[show decide (a≠b)=false from decide_eq_false O];rfl}}
def qsu {x:Int}:(Int.tmod x 2 !=0)= !decide (x%2=0):=by have h:Int.tmod x 2=0↔x%2=0:=by{rw[<-Int.dvd_iff_tmod_eq_zero,Int.dvd_iff_emod_eq_zero]};by_cases c:x%2=0;{rw[h.2 c,decide_eq_true c];rfl};{rw[decide_eq_false c];have:Int.tmod x 2≠0:=λe=>c (h.1 e);simp[this]}
def qrh {x:Int} (h:x%2=0):Int.tdiv x 2=x/2:=Int.tdiv_eq_ediv_of_dvd (Int.dvd_iff_emod_eq_zero.2 h)
def qm9 {m:Nat} (hM:d6<=m) {w f:Int} (k:NF w f w f) (hw:0<w) {n:Nat} (hn:n<=200) (he:(f-(n:Int))%2=0) {v:Int} (hv:v=(n:Int)) {u:Int} (hu:u=f-(n:Int)):
 ((jZ m (zB w).1 (zB w).2.1 v).bind λJ=>
 (xI m J.1.1 J.1.2.1).bind λG=>
 (qn m G.1.1.1 G.1.1.2.1 G.1.1.1 G.1.1.2.1).bind λy4=>
 (qA m y4.1.1 y4.1.2.1 J.1.1 J.1.2.1).bind λy5=>
 some ((false,G.1.1.1,G.1.1.2.1,wI (Int.tdiv u 2),y5.1 !=0,()),((),(),())))=
  some ((false,false,lim (fq (w.natAbs*2^n)),(f-(n:Int))/2,decide (fq (w.natAbs*2^n)*fq (w.natAbs*2^n)≠w.natAbs*2^n),()),((),(),())):=by have hm:=Yu hM;subst hv hu;have hl:=k.len;have q1:=k.lo;have q2:=k.hi;have hX:w.natAbs≠0:=O;have a0:ak (w.natAbs*2^n)<=140000:=by{rw[zY,Xw hX];omega};have b0:w.natAbs*2^n≠0:=λh=>by{rcases UM.1 h with h|h;{exact hX h};{exact absurd h (Nat.pos_iff_ne_zero.1 (dU O))}};have K:ak (fq (w.natAbs*2^n))<=140000:=zQ (Xi (XP _)) a0;have e1:w*2^n=((w.natAbs*2^n:Nat):Int):=by{rw[<-natAbs_pow hm];rw[show((w.natAbs:Nat):Int)=w by omega]};rw[eI O O O O,bS,tN,e1];dsimp only;rw[qwf hM b0 O,bS];dsimp only;have d0:=Qi K;rw[X1 O (dG _) (dG _) (by rw[Xu];dsimp only;omega),aM,bS];dsimp only;have c0:ak (fq (w.natAbs*2^n)*fq (w.natAbs*2^n))<=280000:=by{have:=Od (a:=fq (w.natAbs*2^n)) (b:=fq (w.natAbs*2^n));omega};rw[<-Int.natCast_mul,XW O (oX O) (oX O),aM,aM,bS,quz,qrh he,wQ,wi O O,Xu];congr 4;simp only[ne_eq,decide_not,Int.natCast_inj]
def qr7 {m:Nat} (u:d6<=m) {w f:Int} (k:NF w f w f) (hw:0<w):
 ET m false (zB w).1 (zB w).2.1 f 56=some ((false,false,lim (fq (w.natAbs*2^lO w.natAbs f 118)),(f-((lO w.natAbs f 118:Nat):Int))/2,decide (fq (w.natAbs*2^lO w.natAbs f 118)*fq (w.natAbs*2^lO w.natAbs f 118)≠w.natAbs*2^lO w.natAbs f 118),()),(),(),()):=by have hm:=Yu u;have hl:=k.len;have q1:=k.lo;have q2:=k.hi;have a1:vl (zB w).2.1=w.natAbs:=qo _;have w1:wI (wI (2*wI (56+3))-((ak w.natAbs:Nat):Int))=118-((ak w.natAbs:Nat):Int):=by{simp only[wQ];rw[wi (n:=(56:Int)+3) O O,wi (n:=2*((56:Int)+3)) O O,wi O O];omega};have K:(if(118:Int)-((ak w.natAbs:Nat):Int)>0 then(118:Int)-((ak w.natAbs:Nat):Int)else 0)=((118-ak w.natAbs:Nat):Int):=by{split<;>omega};have J:wI (f-((118-ak w.natAbs:Nat):Int))=f-((118-ak w.natAbs:Nat):Int):=by{rw[wQ,wi O O]};have G:wI (((118-ak w.natAbs:Nat):Int)+1)=((118-ak w.natAbs+1:Nat):Int):=by{rw[wQ,wi O O];omega};rw[ET,Oi O k.Sz,a1,bS];dsimp only;rw[w1,K,J,G,qsu];by_cases c:(f-((118-ak w.natAbs:Nat):Int))%2=0;{have e:lO w.natAbs f 118=118-ak w.natAbs:=by{unfold lO;rw[iP c]};rw[decide_eq_true c,show(!true)=false from rfl,cond_false,e];exact qm9 u k hw O c rfl rfl};{have e:lO w.natAbs f 118=118-ak w.natAbs+1:=by{unfold lO;rw[ae c]};rw[decide_eq_false c,show(!false)=true from rfl,cond_true,e];exact qm9 u k hw O O rfl (by rw[wQ,wi O O])}
def qye {m:Nat} (hM:d6<=m) {a:D5} (ha:Cn a) (mode:Int):Gd m a.1 a.2.1 a.2.2.1 a.2.2.2.1 mode=some (rj a mode,(),(),()):=by have hm:=Yu hM;have key:mi m a.1 a.2.1 a.2.2.1 a.2.2.2.1=some (a,(),()):=by{obtain⟨z,e,rfl⟩:=ha.mk;exact P5 O};rw[Gd,key,bS];dsimp only;unfold rj;cases ha with|bad=>{rw[iP (.inl rfl)];rfl}| @ok w f k=>{have hsw:=Ob (m:=m) O k.ok;rw[k.bad1]at hsw;rw[k.bad1,cond_false,hsw,bS,bQ,k.z,k.e];dsimp only;by_cases c:w<0;{rw[iP (by unfold sgn;rw[iP c];omega),iP (.inr c)];rfl};{rw[ae (by unfold sgn;rw[ae c];split<;>omega),ae (by simp[c]),bS,aB];dsimp only;by_cases d:w=0;{rw[iP (Qb.2 d),iP d]};{rw[ae (λh=>d (Qb.1 h)),ae d,k.mk_eq];dsimp only;have hX:w.natAbs≠0:=O;have hl:=k.len;have q1:=k.lo;have q2:=k.hi;rw[qr7 hM k O,bS];dsimp only;have hbig:=qvs (p:=118) hX f;have hr200:lO w.natAbs f 118<=200:=by{unfold lO;split<;>omega};have hXb:ak (w.natAbs*2^lO w.natAbs f 118)<=140000:=by{rw[zY,Xw hX];omega};have hs:=qvy (M:=w.natAbs*2^lO w.natAbs f 118) (k:=58) O;have hsb:ak (fq (w.natAbs*2^lO w.natAbs f 118))<=140000:=zQ (Xi (XP _)) hXb;have hr:=q4r (m:=m) O false (v:=fq (w.natAbs*2^lO w.natAbs f 118)) (λh=>by rw[h,Xz]at hs;omega) O (e:=(f-((lO w.natAbs f 118:Nat):Int))/2) (decide (fq (w.natAbs*2^lO w.natAbs f 118)*fq (w.natAbs*2^lO w.natAbs f 118)≠w.natAbs*2^lO w.natAbs f 118)) mode O O;rw[Xu]at hr;rw[hr,bS]}}}
def Vz:BZ 0=(false,[]):=by show(decide ((0:Int)<0),lim 0)=_;rw[Q5];rfl
def mr {α:Type} (n:Nat) (f:Nat->α):List α:=(List.range n).map f
def Qj {α:Type} {n:Nat} {f:Nat->α}:(mr n f).length=n:=by unfold mr;rw[zi,yf]
def Xg {α:Type} {n:Nat} {f:Nat->α} {j:Nat} {d:α} (h:j<n):(mr n f).getD j d=f j:=by unfold mr;simp[List.getD,h]
def Qg {α:Type} {n:Nat} {f g:Nat->α} (h: ∀i,i<n->f i=g i):mr n f=mr n g:=
 Cm λi u=>h i (vH.1 u)
def XS {α:Type} {n:Nat} {f:Nat->α} {i:Nat} (h:i<(mr n f).length):(mr n f)[i]=f i:=by simp[mr]
def Cv {α:Type} {n:Nat} {f:Nat->α} {j:Nat} {x:α}:(mr n f).set j x=mr n (λk=>if k=j then x else f k):=by apply Uj;{rw[zU,Qj,Qj]};{intro i u h2;rw[List.getElem_set,XS,XS];by_cases c:j=i;{rw[iP c,iP c.symm]};{rw[ae c,ae (λh=>c h.symm)]}}
def PK {α:Type} {n:Nat} {f:Nat->α}:mr n f++[f n]=mr (n+1) f:=by unfold mr;rw[Cr,tR];rfl
def NL {α:Type} {n:Nat} {x:α}:List.replicate n x=mr n (λ_=>x):=by apply Uj;{rw[zM,Qj]};{intro i u h2;rw[XS];simp}
def PP {α:Type} {f:Nat->α}:mr 0 f=[]:=rfl
def bm (n:Nat) (f:Nat->Int):List Bg:=mr n λj=>BZ (f j)
def aZ (n:Nat) (M:Nat->Nat->Int):List (List Bg):=mr n λi=>bm n (M i)
def zs:Nat->(Nat->Int)->Int
 |0,_=>0
 |k+1,f=>zs k f+f k
def NO {f:Nat->Int} {B:Nat}: ∀{k:Nat},(∀i,i<k->bc (f i)<=B)->bc (zs k f)<=B+k
 |0,_=>by show bc 0<=_;unfold bc;rw[show(0:Int).natAbs=0 from rfl,Q5];exact lM _
 |k+1,h=>by have u:=NO (k:=k) λi G=>h i O;have h2:=h k O;exact V3 (k:=B+k) u O
def Nf {m:Nat} (hm:4000000<=m) {a b:Int} (G:bc a<=1000000) (u:bc b<=1000000):gh m (BZ a).1 (BZ a).2 (BZ b).1 (BZ b).2=some (zB (a+b),(),(),()):=by have:=NQ (m:=m) O (n1:=(zB a).1) (n2:=(zB b).1) (hH G) (hH u);rwa [aM,aM]at this
def bMul {m:Nat} (hm:4000000<=m) {a b:Int} (h:bc a+bc b<=1000000):qn m (BZ a).1 (BZ a).2 (BZ b).1 (BZ b).2=some (zB (a*b),(),(),()):=by have:=X1 (m:=m) hm (n1:=(zB a).1) (n2:=(zB b).1) (l1:=(zB a).2.1) (l2:=(zB b).2.1) (qy _) (qy _) h;rwa [aM,aM]at this
def KH {m:Nat} (hm:4000000<=m) {a:Int} (u:bc a<=1000000):qk m (BZ a).1 (BZ a).2=some (zB a,(),()):=by have:=qpd (m:=m) O (neg:=(zB a).1) (hH u);rwa [aM]at this
def bNeg {m:Nat} (hm:4000000<=m) {a:Int} (u:bc a<=1000000):dR m (BZ a).1 (BZ a).2=some (zB (-a),(),()):=by have:=NP (m:=m) O (neg:=(zB a).1) (hH u);rwa [aM]at this
def KG {m:Nat} (hm:4000000<=m) {a:Int} (u:bc a<=1000000):iz m (BZ a).1 (BZ a).2=some (sgn a,(),()):=by have:=C3 (m:=m) O (neg:=(zB a).1) (hH u);rwa [aM]at this
def bCmp {m:Nat} (hm:4000000<=m) {a b:Int} (G:bc a<=1000000) (u:bc b<=1000000):qA m (BZ a).1 (BZ a).2 (BZ b).1 (BZ b).2=some (eZ a b,(),(),()):=by have:=XW (m:=m) O (n1:=(zB a).1) (n2:=(zB b).1) (hH G) (hH u);rwa [aM,aM]at this
def qlb {m:Nat} (hm:4000000<=m) {n:Nat} (hn:n<=1000) {A B:Nat->Nat->Int} {i j:Nat} (hi:i<n) (hj:j<n) {e1 e2:Nat} (h1: ∀k,k<n->bc (A i k)<=e1) (h2: ∀k,k<n->bc (B k j)<=e2) (he:e1+e2<=900000)
 (out:List (List Bg)) (row l:List Bg) (K:List (List Bg)) (J G u:Int): ∀(N k:Nat),n-k<N->k<=n->
 kJ m N (aZ n B) out row l (j:Int) (BZ (zs k λk=>A i k*B k j)).1 (BZ (zs k λk=>A i k*B k j)).2 K J G u (j:Int) (bm n (A i)) (n:Int) (k:Int)=
  some (.inl (aZ n B,out,row,l,zB (zs n λk=>A i k*B k j),K,J,G,u,(j:Int),())):=by intro N;induction N with|zero=>{intro k h;omega}|succ N ih=>{intro k h hk;have hr:(bm n (A i)).length=n:=Qj;have hb:(aZ n B).length=n:=Qj;rw[kJ,hr,hb];by_cases c:k<n;{have e3:(aZ n B).getD k []=bm n (B k):=Xg c;have e4:(bm n (B k)).length=n:=Qj;have e5:(bm n (B k)).getD j (false,[])=BZ (B k j):=Xg hj;have e6:(bm n (A i)).getD k (false,[])=BZ (A i k):=Xg c;have l1:=h1 k c;have l2:=h2 k c;have l3:bc (A i k*B k j)<=e1+e2:=zQ VJ O;have l4:bc (zs k λk=>A i k*B k j)<=e1+e2+k:=NO λq hq=>zQ VJ (by have:=h1 q O;have:=h2 q O;omega);simp only[tN,e3,e4,e5,e6];rw[bQ,iP O,iP O,iP O,iP O,bMul hm O,bS];dsimp only;rw[show gh m (BZ (zs k λk=>A i k*B k j)).1 (BZ (zs k λk=>A i k*B k j)).2 (zB (A i k*B k j)).1 (zB (A i k*B k j)).2.1=some (zB ((zs k λk=>A i k*B k j)+A i k*B k j),(),(),())from Nf hm O O,bS,wQ,ay O];exact ih (k+1) O O};{have:k=n:=O;subst this;rw[bQ,ae O];rfl}}
def ql8 {m:Nat} (hm:4000000<=m) {n:Nat} (hn:n<=1000) {A B:Nat->Nat->Int} {i:Nat} (hi:i<n) {K e2:Nat} (h1: ∀k,k<n->bc (A i k)<=K) (h2: ∀k j,k<n->j<n->bc (B k j)<=e2) (he:K+e2<=900000)
 (out:List (List Bg)) (J:List (List Bg)) (G u:Int): ∀(N j:Nat),n-j<N->j<=n->
 kK m N (aZ n B) out (bm n (A i)) (mr j λj=>BZ (zs n λk=>A i k*B k j)) J G u (n:Int) (j:Int)=
  some (.inl (aZ n B,out,bm n (λj=>zs n λk=>A i k*B k j),J,G,u,())):=by intro N;induction N with|zero=>{intro k h;omega}|succ N ih=>{intro j h hj;rw[kK];by_cases c:j<n;{have hr:(bm n (A i)).length=n:=Qj;have e0:=qlb hm hn hi c h1 (λk hk=>h2 k j hk c) he out (bm n (A i)) (mr j λj=>BZ (zs n λk=>A i k*B k j)) J G u (n:Int) m 0 O O;rw[show zs 0 (λk=>A i k*B k j)=0 from rfl,Vz]at e0;rw[bQ,iP O,hr];rw[show kJ m m (aZ n B) out (bm n (A i)) (mr j λj=>BZ (zs n λk=>A i k*B k j)) (j:Int) false [] J G u (n:Int) (j:Int) (bm n (A i)) (n:Int) 0=_ from e0,bS];dsimp only;have hl:(mr j λj=>BZ (zs n λk=>A i k*B k j)).length=j:=Qj;rw[hl,iP (by show j+1<=_;omega),wQ,ay O];have K:(mr j λj=>BZ (zs n λk=>A i k*B k j))++[((zB (zs n λk=>A i k*B k j)).1,(zB (zs n λk=>A i k*B k j)).2.1)]=mr (j+1) λj=>BZ (zs n λk=>A i k*B k j):=PK (f:=λj=>BZ (zs n λk=>A i k*B k j));rw[K];exact ih (j+1) O O};{have:j=n:=O;subst this;rw[bQ,ae O];rfl}}
def ko (n:Nat) (A B:Nat->Nat->Int):Nat->Nat->Int:=λi j=>zs n λk=>A i k*B k j
def qka {m:Nat} (hm:4000000<=m) {n:Nat} (hn:n<=1000) {A B:Nat->Nat->Int} {u e2:Nat} (h1: ∀i k,i<n->k<n->bc (A i k)<=u) (h2: ∀k j,k<n->j<n->bc (B k j)<=e2) (he:u+e2<=900000): ∀(N i:Nat),n-i<N->i<=n->
 kL m N (aZ n B) (mr i λi=>bm n (ko n A B i)) (aZ n A) (n:Int) (i:Int)=some (.inl (aZ n (ko n A B),())):=by intro N;induction N with|zero=>{intro k h;omega}|succ N J=>{intro i h hi;have ha:(aZ n A).length=n:=Qj;rw[kL,ha];by_cases c:i<n;{have e3:(aZ n A).getD i []=bm n (A i):=Xg c;have K:(bm n (A i)).length=n:=Qj;have G:=ql8 hm hn c (λk hk=>h1 i k c hk) h2 he (mr i λi=>bm n (ko n A B i)) (aZ n A) (n:Int) (i:Int) m 0 O O;rw[PP]at G;simp only[tN,e3,K];rw[bQ,iP O,iP O];rw[show kK m m (aZ n B) (mr i λi=>bm n (ko n A B i)) (bm n (A i)) [] (aZ n A) (n:Int) (i:Int) (n:Int) 0=_ from G,bS];dsimp only;have hl:(mr i λi=>bm n (ko n A B i)).length=i:=Qj;rw[hl,iP (by show 0<1/\i+1<=_;omega),wQ,ay O];have u:(mr i λi=>bm n (ko n A B i))++[bm n (λj=>zs n λk=>A i k*B k j)]=mr (i+1) λi=>bm n (ko n A B i):=PK (f:=λi=>bm n (ko n A B i));rw[u];exact J (i+1) O O};{have:i=n:=O;subst this;rw[bQ,ae O];rfl}}
def qku {m:Nat} (hm:4000000<=m) {n:Nat} (hn:n<=1000) {A B:Nat->Nat->Int} {u e2:Nat} (K: ∀i k,i<n->k<n->bc (A i k)<=u) (h2: ∀k j,k<n->j<n->bc (B k j)<=e2) (he:u+e2<=900000):
 DH m (aZ n A) (aZ n B)=some (aZ n (ko n A B),(),(),()):=by have J:(aZ n A).length=n:=Qj;rw[DH,J];have G:=qka hm hn K h2 he m 0 O O;rw[PP]at G;rw[show kL m m (aZ n B) [] (aZ n A) (n:Int) 0=_ from G,bS]
def qxf {m:Nat} (hm:4000000<=m) {n:Nat} (hn:n<=1000) {f:Nat->Int} (h1: ∀k,k<n->bc (f k)<=1000000) (b:List Bg) (out:List (List Bg)) (i:Int) (J:List (List Bg)) (G u:Int): ∀(N j:Nat),n-j<N->j<=n->
 kP m N b out i (mr j λj=>BZ (f j)) J G u (bm n f) (n:Int) (j:Int)=some (.inl (b,out,i,bm n f,J,G,u,())):=by intro N;induction N with|zero=>{intro k h;omega}|succ N K=>{intro j h hj;have hr:(bm n f).length=n:=Qj;rw[kP,hr];by_cases c:j<n;{have e6:(bm n f).getD j (false,[])=BZ (f j):=Xg c;have hl:(mr j λj=>BZ (f j)).length=j:=Qj;simp only[tN,e6,hl];rw[bQ,iP O,iP O,KH hm (h1 j c),bS];dsimp only;rw[iP (by show j+1<=_;omega),wQ,ay O];have e1:(mr j λj=>BZ (f j))++[((zB (f j)).1,(zB (f j)).2.1)]=mr (j+1) λj=>BZ (f j):=PK (f:=λj=>BZ (f j));rw[e1];exact K (j+1) O O};{have:j=n:=O;subst this;rw[bQ,ae O];rfl}}
def qv1 {m:Nat} (hm:4000000<=m) {n:Nat} (hn:n<=1000) {A:Nat->Nat->Int} (h1: ∀i k,i<n->k<n->bc (A i k)<=1000000): ∀(N i:Nat),n-i<N->i<=n->
 jk m N [] (mr i λi=>bm n (A i)) (aZ n A) (n:Int) (i:Int)=some (.inl (aZ n A,())):=by intro N;induction N with|zero=>{intro k h;omega}|succ N G=>{intro i h hi;have ha:(aZ n A).length=n:=Qj;rw[jk,ha];by_cases c:i<n;{have e3:(aZ n A).getD i []=bm n (A i):=Xg c;have J:(bm n (A i)).length=n:=Qj;have u:=qxf hm hn (λk K=>h1 i k c K) [] (mr i λi=>bm n (A i)) (i:Int) (aZ n A) (n:Int) (i:Int) m 0 O O;rw[PP]at u;simp only[tN,e3,J];rw[bQ,iP O,iP O];rw[show kP m m [] (mr i λi=>bm n (A i)) (i:Int) [] (aZ n A) (n:Int) (i:Int) (bm n (A i)) (n:Int) 0=_ from u,bS];dsimp only;have hl:(mr i λi=>bm n (A i)).length=i:=Qj;rw[bQ,ae (by show¬((i:Int)<((0:Nat):Int));omega),hl,iP (by show 0<1/\i+1<=_;omega),wQ,ay O];have e1:(mr i λi=>bm n (A i))++[bm n (A i)]=mr (i+1) λi=>bm n (A i):=PK (f:=λi=>bm n (A i));rw[e1];exact G (i+1) O O};{have:i=n:=O;subst this;rw[bQ,ae O];rfl}}
def qvk {m:Nat} (hm:4000000<=m) {n:Nat} (hn:n<=1000) {A:Nat->Nat->Int} (J: ∀i k,i<n->k<n->bc (A i k)<=1000000):DY m (aZ n A) []=some (aZ n A,(),(),()):=by have G:(aZ n A).length=n:=Qj;rw[DY,G];have u:=qv1 hm hn J m 0 O O;rw[PP]at u;rw[show jk m m [] [] (aZ n A) (n:Int) 0=_ from u,bS]
def NN (n:Nat) (M:Nat->Nat->Int) (c:Nat->Int):Nat->Nat->Nat->Int
 |0=>λ_ _=>0
 |k+1=>ko n M (λi j=>NN n M c k i j+if i=j then c k else 0)
def qv6 {m:Nat} (hm:4000000<=m) {n:Nat} (hn:n<=1000) {P:Nat->Nat->Int} {cc:Int} {k:Nat} (b0:1<=k) (a0:k<=n) {pl:List Bg} (G:pl.length=n+1) (J:pl.getD (n-k+1) (false,[])=BZ cc)
 (h1: ∀i,i<n->bc (P i i)<=900000) (h2:bc cc<=900000) (K:List (List Bg)): ∀(N a:Nat),n-a<N->a<=n->
 kT m N K (n:Int) pl (aZ n λi j=>P i j+if i=j/\i<a then cc else 0) (k:Int) (n:Int) (a:Int)=some (.inl (K,(n:Int),pl,aZ n (λi j=>P i j+if i=j then cc else 0),(k:Int),())):=by intro N;induction N with|zero=>{intro k h;omega}|succ N ih=>{intro a h ha;have hl:(aZ n λi j=>P i j+if i=j/\i<a then cc else 0).length=n:=Qj;have w:wI ((wI ((n:Int)-(k:Int)))+1)=((n-k+1:Nat):Int):=by{rw[wQ,wQ,wi (n:=(n:Int)-(k:Int)) O O,wi O O];omega};rw[kT,hl,G,w];by_cases c:a<n;{have e3:(aZ n λi j=>P i j+if i=j/\i<a then cc else 0).getD a []=bm n (λj=>P a j+if a=j/\a<a then cc else 0):=Xg c;have e4:(bm n (λj=>P a j+if a=j/\a<a then cc else 0)).length=n:=Qj;have e5:(bm n (λj=>P a j+if a=j/\a<a then cc else 0)).getD a (false,[])=BZ (P a a):=by{have:(bm n (λj=>P a j+if a=j/\a<a then cc else 0)).getD a (false,[])=BZ (P a a+if a=a/\a<a then cc else 0):=Xg c;rw[this,ae O,K1]};simp only[tN,e3,e4,e5,zH,J];rw[bQ,iP O,iP O,iP O,iP O,iP O,Nf hm (zQ (h1 a c) O) O,bS];dsimp only;rw[iP O,wQ,ay O];have e6:(aZ n λi j=>P i j+if i=j/\i<a then cc else 0).set a ((bm n (λj=>P a j+if a=j/\a<a then cc else 0)).set a ((zB (P a a+cc)).1,(zB (P a a+cc)).2.1))=aZ n λi j=>P i j+if i=j/\i<a+1 then cc else 0:=by{unfold aZ bm;rw[Cv,Cv];refine Qg λi hi=> ?_;by_cases ci:i=a;{subst ci;rw[iP rfl];refine Qg λj hj=> ?_;dsimp only;by_cases u:j=i;{subst u;rw[iP rfl];have q:(if j=j/\j<j+1 then cc else 0)=cc:=iP ⟨rfl,O⟩;rw[q];rfl};{rw[ae u,ae O,ae O]}};{rw[ae ci];refine Qg λj hj=> ?_;dsimp only;by_cases u:i=j/\i<a;{rw[iP u,iP O]};{rw[ae u,ae O]}}};rw[e6];exact ih (a+1) O O};{have:a=n:=O;subst this;rw[bQ,ae O];have:(aZ a λi j=>P i j+if i=j/\i<a then cc else 0)=aZ a λi j=>P i j+if i=j then cc else 0:=by{refine Qg λi hi=>Qg λj hj=> ?_;dsimp only;by_cases u:i=j;{rw[iP ⟨u,hi⟩,iP u]};{rw[ae O,ae u]}};rw[this]}}
def qwe {m:Nat} (hm:4000000<=m) {n:Nat} (hn:n<=1000) {Q:Nat->Nat->Int} (K: ∀i,i<n->bc (Q i i)<=900000) (u:List (List Bg)) (J:Int) (pl:List Bg) (G:Int): ∀(N a:Nat),n-a<N->a<=n->
 kS m N u J pl G (aZ n Q) (BZ (zs a λi=>Q i i)).1 (BZ (zs a λi=>Q i i)).2 (n:Int) (a:Int)=some (.inl (u,J,pl,G,aZ n Q,zB (zs n λi=>Q i i),())):=by intro N;induction N with|zero=>{intro k h;omega}|succ N ih=>{intro a h ha;have hl:(aZ n Q).length=n:=Qj;rw[kS,hl];by_cases c:a<n;{have e3:(aZ n Q).getD a []=bm n (Q a):=Xg c;have e4:(bm n (Q a)).length=n:=Qj;have e5:(bm n (Q a)).getD a (false,[])=BZ (Q a a):=Xg c;have l4:bc (zs a λi=>Q i i)<=900000+a:=NO λq hq=>K q O;have:=K a c;simp only[tN,e3,e4,e5];rw[bQ,iP O,iP O,iP O,Nf hm O O,bS,wQ,ay O];exact ih (a+1) O O};{have:a=n:=O;subst this;rw[bQ,ae O];rfl}}
def dN (n:Nat) (c:Nat->Int) (k:Nat):List Bg:=mr (n+1) λi=>if n-i<k then BZ (c (n-i))else BZ 0
def qvt {m:Nat} (hm:4000000<=m) {n:Nat} (hn:n<=1000) {M:Nat->Nat->Int} {c:Nat->Int} {e:Nat} (he:e<=300000) (h1: ∀i k,i<n->k<n->bc (M i k)<=e)
 (h2: ∀k,k<=n-> ∀i j,i<n->j<n->bc (NN n M c k i j)<=300000) (h3: ∀k,k<=n->bc (c k)<=300000) (ht: ∀k,1<=k->k<=n->(zs n λi=>NN n M c k i i)=(k:Int)*(-c k)):
 ∀(N k:Nat),n+1-k<N->1<=k->k<=n+1->kU m N (aZ n M) (n:Int) (dN n c k) (aZ n (NN n M c (k-1))) (k:Int)=some (.inl (dN n c (n+1),())):=by intro N;induction N with|zero=>{intro k h;omega}|succ N ih=>{intro k h g0 d0;rw[kU];by_cases cc:k<=n;{obtain⟨k,rfl⟩: ∃k',k=k'+1:=⟨k-1,O⟩;have hl:(aZ n (NN n M c k)).length=n:=Qj;have J:(dN n c (k+1)).length=n+1:=Qj;have a0:(dN n c (k+1)).getD (n-(k+1)+1) (false,[])=BZ (c k):=by{have:(dN n c (k+1)).getD (n-(k+1)+1) (false,[])=if n-(n-(k+1)+1)<k+1 then BZ (c (n-(n-(k+1)+1)))else BZ 0:=Xg O;have q:n-(n-(k+1)+1)=k:=O;rw[this,q,iP O]};have e0:=qv6 hm hn (P:=NN n M c k) (cc:=c k) (k:=k+1) O cc J a0 (λi u=>zQ (h2 k O i i u u) O) (zQ (h3 k O) O) (aZ n M) m 0 O O;have c0:(aZ n λi j=>NN n M c k i j+if i=j/\i<0 then c k else 0)=aZ n (NN n M c k):=Qg λi u=>Qg λj hj=>by{dsimp only;rw[ae O,K1]};rw[c0]at e0;rw[bQ,iP O,Nm,hl];rw[show kT m m (aZ n M) (n:Int) (dN n c (k+1)) (aZ n (NN n M c k)) ((k+1:Nat):Int) (n:Int) 0=_ from e0,bS];dsimp only;rw[qku hm hn h1 (B:=λi j=>NN n M c k i j+if i=j then c k else 0) (e2:=300001) (λi j u hj=>V3 (h2 k O i j u hj) (by{by_cases cj:i=j;{rw[iP cj];exact h3 k O};{rw[ae cj];unfold bc;rw[show(0:Int).natAbs=0 from rfl,Q5];exact lM _}})) O,bS];dsimp only;have eN:ko n M (λi j=>NN n M c k i j+if i=j then c k else 0)=NN n M c (k+1):=rfl;rw[eN];have b0:(aZ n (NN n M c (k+1))).length=n:=Qj;rw[b0];have e3:=qwe hm hn (Q:=NN n M c (k+1)) (λi u=>zQ (h2 (k+1) cc i i u u) O) (aZ n M) (n:Int) (dN n c (k+1)) ((k+1:Nat):Int) m 0 O O;rw[show zs 0 (λi=>NN n M c (k+1) i i)=0 from rfl,Vz]at e3;rw[show kS m m (aZ n M) (n:Int) (dN n c (k+1)) ((k+1:Nat):Int) (aZ n (NN n M c (k+1))) false [] (n:Int) 0=_ from e3,bS];dsimp only;have G:=ht (k+1) O cc;have hlen:bc (((k+1:Nat):Int)*(-c (k+1)))<=1000000:=by{rw[<-G];exact zQ (NO (B:=300000) λi u=>h2 (k+1) cc i i u u) O};rw[Jb O O O,bS,G];dsimp only;rw[qpq O O O hlen,bS];dsimp only;have K:bc (-c (k+1))<=1000000:=by{have:=h3 (k+1) cc;unfold bc at this⊢;rw[xg];omega};rw[show dR m (zB (-c (k+1))).1 (zB (-c (k+1))).2.1=_ from bNeg hm K,bS,Int.neg_neg];dsimp only;have w:wI ((n:Int)-((k+1:Nat):Int))=((n-(k+1):Nat):Int):=by{rw[wQ,wi O O];omega};rw[w,J,iP O,wQ,ay O,tN,zH];have e6:(dN n c (k+1)).set (n-(k+1)) ((zB (c (k+1))).1,(zB (c (k+1))).2.1)=dN n c (k+1+1):=by{unfold dN;rw[Cv];refine Qg λi u=> ?_;by_cases ci:i=n-(k+1);{subst ci;have q:n-(n-(k+1))=k+1:=O;rw[iP rfl,q,iP O];rfl};{rw[ae ci];by_cases cj:n-i<k+1;{rw[iP cj,iP O]};{rw[ae cj,ae O]}}};rw[e6];have:=ih (k+1+1) O O O;rw[Nm]at this;exact this};{have:k=n+1:=O;subst this;rw[bQ,ae O]}}
def qvm {m:Nat} {n:Nat} (hn:n<=1000) (u:List (List Bg)) (pl:List Bg): ∀(N a:Nat),n-a<N->a<=n->
 kV m N u (n:Int) pl (mr n λi=>if i<a then bm n (λ_=>0)else []) (n:Int) (a:Int)=some (.inl (u,(n:Int),pl,aZ n (λ_ _=>0),())):=by intro N;induction N with|zero=>{intro k h;omega}|succ N K=>{intro a h ha;have hl:(mr n λi=>if i<a then bm n (λ_=>0)else []).length=n:=Qj;rw[kV,hl];by_cases c:a<n;{rw[bQ,iP O,iP O,iP O,wQ,ay O,tN,tN,Cv];have e:(mr n λk=>if k=a then List.replicate n ((false,([]:LI)):Bool×LI)else if k<a then bm n (λ_=>0)else [])=mr n λi=>if i<a+1 then bm n (λ_=>0)else []:=by{refine Qg λi G=> ?_;by_cases ci:i=a;{subst ci;rw[iP rfl,iP O,NL];exact Qg λj hj=>Vz.symm};{rw[ae ci];by_cases J:i<a;{rw[iP J,iP O]};{rw[ae J,ae O]}}};rw[e];exact K (a+1) O O};{have:a=n:=O;subst this;rw[bQ,ae O];have:(mr a λi=>if i<a then bm a (λ_=>0)else [])=aZ a (λ_ _=>0):=Qg λi G=>iP G;rw[this]}}
def qx2 {m:Nat} (hm:4000000<=m) {n:Nat} (hn:n<=1000) {M:Nat->Nat->Int} {c:Nat->Int} {e:Nat} (he:e<=300000) (K: ∀i k,i<n->k<n->bc (M i k)<=e)
 (h2: ∀k,k<=n-> ∀i j,i<n->j<n->bc (NN n M c k i j)<=300000) (J: ∀k,k<=n->bc (c k)<=300000) (h0:c 0=1) (u: ∀k,1<=k->k<=n->(zs n λi=>NN n M c k i i)=(k:Int)*(-c k)):
 D3 m (aZ n M)=some (dN n c (n+1),(),()):=by have hl:(aZ n M).length=n:=Qj;have w:wI ((n:Int)+1)=((n+1:Nat):Int):=by{rw[wQ,ay O]};rw[D3,hl,w,iP O,Jb O O O,bS];dsimp only;rw[tN,zM,iP O,iP O,tN,zM,zH];have e1:(List.replicate (n+1) ((false,([]:LI)):Bool×LI)).set n ((zB 1).1,(zB 1).2.1)=dN n c 1:=by{rw[NL,Cv];refine Qg λi G=> ?_;by_cases ci:i=n;{subst ci;rw[iP rfl,iP O,x9,h0];rfl};{rw[ae ci,ae O,Vz]}};have e2:List.replicate n ([]:List (Bool×LI))=mr n λi=>if i<0 then bm n (λ_=>0)else []:=by{rw[NL];exact Qg λi G=>(ae O).symm};rw[e1,e2];rw[show kV m m (aZ n M) (n:Int) (dN n c 1) (mr n λi=>if i<0 then bm n (λ_=>0)else []) (n:Int) 0=_ from qvm hn (aZ n M) (dN n c 1) m 0 O O,bS];dsimp only;have e3:=qvt hm hn he K h2 J u m 1 O O O;rw[show kU m m (aZ n M) (n:Int) (dN n c 1) (aZ n (λ_ _=>0)) 1=_ from e3,bS]
def qN (p:Nat->Int):Nat->Nat->Int->Nat
 |_,0,_=>0
 |a,k+1,s=>(if sgn (p a)*s<0 then 1 else 0)+qN p (a+1) k (if sgn (p a)=0 then s else sgn (p a))
def XB (z:Int):sgn z= -1\/sgn z=0\/sgn z=1:=by unfold sgn;by_cases h:z<0;{rw[iP h];exact .inl rfl};{rw[ae h];by_cases h2:0<z;{rw[iP h2];exact .inr (.inr rfl)};{rw[ae h2];exact .inr (.inl rfl)}}
def qlm {m:Nat} (hm:4000000<=m) {n:Nat} (hn:n<=1000) {p:Nat->Int} (h1: ∀i,i<=n->bc (p i)<=1000000) (G:List (List Bg)) (J:Int): ∀(N a q:Nat) (s:Int),n+1-a<N->a<=n+1->q<=a->(s= -1\/s=0\/s=1)->
 fM m N G J (q:Int) s (mr (n+1) λi=>BZ (p i)) ((n+1:Nat):Int) (a:Int)=some (.inl (G,J,((q+qN p a (n+1-a) s:Nat):Int),())):=by intro N;induction N with|zero=>{intro a q s h;omega}|succ N u=>{intro a q s h ha hq hs;have hl:(mr (n+1) λi=>BZ (p i)).length=n+1:=Qj;rw[fM,hl];by_cases c:a<n+1;{have e5:(mr (n+1) λi=>BZ (p i)).getD a (false,[])=BZ (p a):=Xg c;have K:n+1-a=(n+1-(a+1))+1:=O;simp only[tN,zH,e5];rw[bQ,iP O,iP O,KG hm (h1 a O),bS,K,qN];dsimp only;have g:=XB (p a);have w:wI (sgn (p a)*s)=sgn (p a)*s:=by{rw[wQ];rcases g with g|g|g<;>rcases hs with rfl|rfl|rfl<;>rw[g]<;>decide};rw[w,bQ,aO,aO,wQ,ay (show q<4611686018427387904 by omega),wQ,ay (show a<4611686018427387904 by omega)];by_cases c1:sgn (p a)*s<0;{rw[iP c1,iP c1];by_cases c2:sgn (p a)=0;{rw[iP c2,iP c2,u (a+1) (q+1) s O O O hs,yb]};{rw[ae c2,ae c2,u (a+1) (q+1) (sgn (p a)) O O O g,yb]}};{rw[ae c1,ae c1,zH];by_cases c2:sgn (p a)=0;{rw[iP c2,iP c2,u (a+1) q s O O O hs]};{rw[ae c2,ae c2,u (a+1) q (sgn (p a)) O O O g]}}};{have:a=n+1:=O;subst this;rw[bQ,ae O,x9];rfl}}
def qkt {m:Nat} (hm:4000000<=m) {n:Nat} (hn:n<=1000) {p:Nat->Int} (h1: ∀i,i<=n->bc (p i)<=1000000) {u:List (List Bg)} (hv:u.length=n) (K:Int) {z:Nat} (hz:z<=n) (J: ∀i,i<z->p i=0) (G:z<n->p z≠0): ∀(N a:Nat),n-a<N->a<=z->
 kX m N u (a:Int) K (mr (n+1) λi=>BZ (p i))=some (.inl (u,(z:Int),K,(mr (n+1) λi=>BZ (p i)),())):=by intro N;induction N with|zero=>{intro a h;omega}|succ N ih=>{intro a h ha;have hl:(mr (n+1) λi=>BZ (p i)).length=n+1:=Qj;rw[kX,hl,hv];by_cases c:a<n;{have e5:(mr (n+1) λi=>BZ (p i)).getD a (false,[])=BZ (p a):=Xg O;simp only[tN,zH,e5];rw[bQ,iP O,iP O,KG hm (h1 a O),bS,aB];dsimp only;by_cases c2:sgn (p a)=0;{have:a≠z:=by{rintro rfl;exact G c (Qb.1 c2)};rw[iP c2,wQ,ay O,ih (a+1) O O]};{have:a=z:=by{refine Nat.le_antisymm ha (ue λhl=> ?_);exact c2 (Qb.2 (J a hl))};subst this;rw[ae c2]}};{have:a=z:=O;subst this;rw[bQ,ae O]}}
def qkw {m:Nat} (hm:4000000<=m) {n:Nat} (hn:n<=1000) {M:Nat->Nat->Int} (h1: ∀i k,i<n->k<n->bc (M i k)<=1000000) (hs: ∀i k,i<n->k<n->M i k=M k i) {i:Nat} (K:i<n) (t3 t4:Int) (J:List (List Bg)) (G u:Int): ∀(N j:Nat),n-j<N->j<=n->
 kY m N (aZ n M) t3 t4 (i:Int) J G u (bm n (M i)) (n:Int) (j:Int)=some (.inr (.inl (aZ n M,t3,t4,J,G,u,()))):=by intro N;induction N with|zero=>{intro a h;omega}|succ N ih=>{intro j h hj;have hl:(aZ n M).length=n:=Qj;have hr:(bm n (M i)).length=n:=Qj;rw[kY,hl,hr];by_cases c:j<n;{have e3:(aZ n M).getD j []=bm n (M j):=Xg c;have e4:(bm n (M j)).length=n:=Qj;have e5:(bm n (M j)).getD i (false,[])=BZ (M j i):=Xg K;have e6:(bm n (M i)).getD j (false,[])=BZ (M i j):=Xg c;simp only[tN,e3,e4,e5,e6];rw[bQ,iP O,iP O,iP O,iP O,bCmp hm (h1 i j K c) (h1 j i c K),bS,aO];dsimp only;have:eZ (M i j) (M j i)=0:=by{unfold eZ;rw[hs i j K c,ae O,ae O]};rw[iP this,wQ,ay O];exact ih (j+1) O O};{have:j=n:=O;subst this;rw[bQ,ae O]}}
def qkb {m:Nat} (hm:4000000<=m) {n:Nat} (hn:n<=1000) {M:Nat->Nat->Int} (K: ∀i k,i<n->k<n->bc (M i k)<=1000000) (hs: ∀i k,i<n->k<n->M i k=M k i) (G u:Int): ∀(N i:Nat),n-i<N->i<=n->
 kZ m N (aZ n M) G u (aZ n M) (n:Int) (i:Int)=some (.inr (.inl (aZ n M,G,u,()))):=by intro N;induction N with|zero=>{intro a h;omega}|succ N J=>{intro i h hi;have hl:(aZ n M).length=n:=Qj;rw[kZ,hl];by_cases c:i<n;{have e3:(aZ n M).getD i []=bm n (M i):=Xg c;have e4:(bm n (M i)).length=n:=Qj;simp only[tN,e3,e4];rw[bQ,iP O,iP O];rw[show kY m m (aZ n M) G u (i:Int) (aZ n M) (n:Int) (i:Int) (bm n (M i)) (n:Int) 0=_ from qkw hm hn K hs c G u (aZ n M) (n:Int) (i:Int) m 0 O O,bS];dsimp only;rw[wQ,ay O];exact J (i+1) O O};{have:i=n:=O;subst this;rw[bQ,ae O]}}
def qme {m:Nat} {n:Nat} (hn:n<=1000) {M:Nat->Nat->Int}: ∀(N i:Nat),n-i<N->i<=n->
 ku m N (aZ n M) ([(n:Int)],0) (n:Int) (i:Int)=some (.inr (.inl ())):=by intro N;induction N with|zero=>{intro a h;omega}|succ N u=>{intro i h K;have hl:(aZ n M).length=n:=Qj;rw[ku,hl];by_cases c:i<n;{have J:(aZ n M).getD i []=bm n (M i):=Xg c;have G:(bm n (M i)).length=n:=Qj;simp only[tN,J];rw[bQ,iP O,iP O,MM,G,bS];dsimp only;rw[show([(n:Int)].getD 0 0)=(n:Int)from rfl,aO,iP rfl,wQ,ay O];exact u (i+1) O O};{rw[bQ,ae O]}}
def qmx {m:Nat} (hm:4000000<=m) {n:Nat} (hn:n<=16) {M:Nat->Nat->Int}:D4 m (aZ n M)=some (0,(),()):=by have hl:(aZ n M).length=n:=Qj;have u:Ag m (aZ n M)=some ((n:Int),(),()):=by{rw[Ag,hl,aB];by_cases c:n=0;{subst c;rfl};{have J:(aZ n M).getD 0 []=bm n (M 0):=Xg O;have G:(bm n (M 0)).length=n:=Qj;rw[ae O,iP O,J,G]}};rw[D4,MP,u,bS,MN,MJ,hl];dsimp only;rw[show ku m m (aZ n M) ([(n:Int)],0) (n:Int) 0=_ from qme O m 0 O O,bS];dsimp only;rw[bS,bS];dsimp only;rw[bQ,ae O,bQ,ae O,bQ,show([(n:Int)].getD 0 0)=(n:Int)from rfl,ae O,bS,aB,iP rfl,bS,aO,iP rfl]
def qgw {m:Nat} (hm:4000000<=m) {n:Nat} (hn:n<=16) {M:Nat->Nat->Int} {c:Nat->Int} {e:Nat} (he:e<=300000) (h1: ∀i k,i<n->k<n->bc (M i k)<=e) (hs: ∀i k,i<n->k<n->M i k=M k i)
 (h2: ∀k,k<=n-> ∀i j,i<n->j<n->bc (NN n M c k i j)<=300000) (h3: ∀k,k<=n->bc (c k)<=300000) (h0:c 0=1) (ht: ∀k,1<=k->k<=n->(zs n λi=>NN n M c k i i)=(k:Int)*(-c k))
 {z:Nat} (hz:z<=n) (K: ∀i,i<z->c (n-i)=0) (J:z<n->c (n-z)≠0) {q:Nat} (hq:qN (λi=>c (n-i)) 0 (n+1) 0=q) (b0:z+q<=n):
 AH m (aZ n M)=some ((((n-z-q:Nat):Int),(z:Int),(q:Int),0,()),(),()):=by have hl:(aZ n M).length=n:=Qj;have G: ∀i k,i<n->k<n->bc (M i k)<=1000000:=λi k hi hk=>zQ (h1 i k hi hk) O;have hp:dN n c (n+1)=mr (n+1) λi=>BZ (c (n-i)):=Qg λi hi=>iP O;have u: ∀i,i<=n->bc (c (n-i))<=1000000:=λi hi=>zQ (h3 (n-i) O) O;rw[AH,qmx hm hn,bS,aO,iP rfl,hl];rw[show kZ m m (aZ n M) 0 0 (aZ n M) (n:Int) 0=_ from qkb hm O G hs 0 0 m 0 O O,bS];dsimp only;rw[qvk hm O G,bS];dsimp only;rw[qx2 hm O he h1 h2 h3 h0 ht,bS,hp];dsimp only;rw[show kX m m (aZ n M) 0 0 (mr (n+1) λi=>BZ (c (n-i)))=_ from qkt hm O (p:=λi=>c (n-i)) u hl 0 hz K J m 0 O O,bS];dsimp only;have a0:(mr (n+1) λi=>BZ (c (n-i))).length=n+1:=Qj;have e3:=qlm hm O (p:=λi=>c (n-i)) u (aZ n M) (z:Int) m 0 0 0 O O O O;rw[OM,hq,zH]at e3;rw[a0,show fM m m (aZ n M) (z:Int) 0 0 (mr (n+1) λi=>BZ (c (n-i))) ((n+1:Nat):Int) 0=_ from e3,bS];dsimp only;rw[hl];have w:wI ((wI ((n:Int)-(z:Int)))-(q:Int))=((n-z-q:Nat):Int):=by{rw[wQ,wQ,wi (n:=(n:Int)-(z:Int)) O O,wi O O];omega};rw[w]
def qf5:bc 0=0:=by unfold bc;rw[show(0:Int).natAbs=0 from rfl,Q5];rfl
def qrr {z:Int}:bc (-z)=bc z:=by unfold bc;rw[xg]
def qg5 {k:Nat} {z:Int} (u:1<=k):bc z<=bc ((k:Int)*z):=by unfold bc;refine qx ?_;rw[K6,jy];exact Nat.le_mul_of_pos_left _ u
def qrf {n:Nat} (hn:n<=16) {M:Nat->Nat->Int} {c:Nat->Int} {e:Nat} (h1: ∀i k,i<n->k<n->bc (M i k)<=e) (h0:c 0=1) (ht: ∀k,1<=k->k<=n->(zs n λi=>NN n M c k i i)=(k:Int)*(-c k)):
 ∀k,k<=n->(∀i j,i<n->j<n->bc (NN n M c k i j)<=k*(e+40))/\bc (c k)<=k*(e+40)+17:=by intro k;induction k with|zero=>{intro _;refine⟨λi j _ _=>by rw[show NN n M c 0 i j=0 from rfl,qf5];exact lM _,?_⟩;rw[h0];have:bc 1<=1:=qgr (k:=1) (by decide);omega}|succ k G=>{intro hk;obtain⟨K,J⟩:=G O;have e0:(k+1)*(e+40)=k*(e+40)+e+40:=by{rw[gr,x7];omega};have key: ∀i j,i<n->j<n->bc (NN n M c (k+1) i j)<=(k+1)*(e+40):=by{intro i j u hj;show bc (zs n λl=>M i l*(NN n M c k l j+if l=j then c k else 0))<=_;have:bc (zs n λl=>M i l*(NN n M c k l j+if l=j then c k else 0))<=(e+(k*(e+40)+18))+n:=NO λl hl=>by{refine zQ VJ (Nat.add_le_add (h1 i l u hl) (V3 (k:=k*(e+40)+17) (zQ (K l j hl hj) O) ?_));by_cases d:l=j;{rw[iP d];exact J};{rw[ae d,qf5];exact lM _}};omega};refine⟨key,?_⟩;have h3:bc (c (k+1))<=bc (((k+1:Nat):Int)*(-c (k+1))):=by{rw[<-qrr (z:=c (k+1))];exact qg5 O};rw[<-ht (k+1) O hk]at h3;have h4:bc (zs n λi=>NN n M c (k+1) i i)<=(k+1)*(e+40)+n:=NO λi u=>key i i u u;omega}
def c2 (n:Nat) (M:Nat->Nat->Int):Nat->Int
 |0=>1
 |1=>if n=1 then-M 0 0 else-(M 0 0+M 1 1)
 |2=>M 0 0*M 1 1-M 0 1*M 0 1
 |_=>0
def tr2 {n:Nat} (hn:n<=2) {M:Nat->Nat->Int} (hs: ∀i k,i<n->k<n->M i k=M k i): ∀k,1<=k->k<=n->(zs n λi=>NN n M (c2 n M) k i i)=(k:Int)*(-c2 n M k):=by
 intro k G u
 match n,hn with
 |0,_=>omega
 |1,_=>
  obtain rfl:k=1:=O;simp[zs,NN,ko,c2]
 |2,_=>
  have s1:=hs 1 0 (by decide) (by decide)
  rcases(show k=1\/k=2 by omega)with rfl|rfl<;>simp[zs,NN,ko,c2,s1]<;>grind
def jG {z:Int} (h:0<z):sgn z=1:=by unfold sgn;rw[ae O,iP h]
def rh {z:Int} (h:z<0):sgn z= -1:=by unfold sgn;rw[iP h]
def ri:sgn 0=0:=by decide
def qZ (n:Nat) (M:Nat->Nat->Int):Prop:= ∀i,i<n->M i i+(if n=2 then((M 0 1).natAbs:Int)else 0)<=0
def tE (n:Nat) (M:Nat->Nat->Int):Prop:= ∀i,i<n->(if n=2 then((M 0 1).natAbs:Int)else 0)<M i i
def chg2 {n:Nat} (hn:n<=2) (M:Nat->Nat->Int): ∃z q,z<=n/\(∀i,i<z->c2 n M (n-i)=0)/\(z<n->c2 n M (n-z)≠0)/\qN (λi=>c2 n M (n-i)) 0 (n+1) 0=q/\z+q<=n/\(qZ n M->q=0)/\(tE n M->q=n):=by
 match n,hn with
 |0,_=>exact⟨0,0,by simp,by simp,by simp,by simp[qN,c2,sgn],by simp,by simp,by simp⟩
 |1,_=>
  have J:c2 1 M 0=1:=rfl;have G:c2 1 M 1= -M 0 0:=rfl;have t:qZ 1 M->M 0 0<=0:=λh=>by simpa [qZ]using h 0 (by decide)
  have b:tE 1 M->0<M 0 0:=λh=>by simpa [tE]using h 0 (by decide)
  generalize M 0 0=u at*
  generalize c2 1 M=g at*
  rcases(show 0<u\/u=0\/u<0 by omega)with w|w|w
  . have:=rh (z:= -u) O;exact⟨0,1,by simp,by simp,λ_=>by rw[show g (1-0)= -u from G];omega,by simp[qN,J,G,this,jG],by simp,λh=>by have:=t h;omega,by simp⟩
  . subst w;exact⟨1,0,by simp,λi hi=>by rw[show i=0 by omega,show g (1-0)= -0 from G];rfl,by simp,by simp[qN,J,G,ri,jG],by simp,by simp,λh=>by have:=b h;omega⟩
  . have:=jG (z:= -u) O;exact⟨0,0,by simp,by simp,λ_=>by rw[show g (1-0)= -u from G];omega,by simp[qN,J,G,this,jG],by simp,by simp,λh=>by have:=b h;omega⟩
 |2,_=>
  have J:c2 2 M 0=1:=rfl;have G:c2 2 M 1= -(M 0 0+M 1 1):=rfl;have e2:c2 2 M 2=M 0 0*M 1 1-M 0 1*M 0 1:=rfl;have a0:M 0 1*M 0 1=((M 0 1).natAbs:Int)*((M 0 1).natAbs:Int):=Int.natAbs_mul_self.symm
  have t:qZ 2 M->0<=M 0 0*M 1 1-M 0 1*M 0 1/\0<= -(M 0 0+M 1 1):=λh=>by
   have a1:M 0 0+((M 0 1).natAbs:Int)<=0:=by simpa using h 0 (by decide)
   have a2:M 1 1+((M 0 1).natAbs:Int)<=0:=by simpa using h 1 (by decide)
   have:=Int.mul_le_mul (show((M 0 1).natAbs:Int)<= -M 0 0 by omega) (show((M 0 1).natAbs:Int)<= -M 1 1 by omega) O O
   rw[Int.neg_mul_neg]at this;rw[a0];exact⟨O,O⟩
  have b:tE 2 M->0<M 0 0*M 1 1-M 0 1*M 0 1/\ -(M 0 0+M 1 1)<0:=λh=>by
   have a1:((M 0 1).natAbs:Int)<M 0 0:=by simpa using h 0 (by decide)
   have a2:((M 0 1).natAbs:Int)<M 1 1:=by simpa using h 1 (by decide)
   have:=Int.mul_le_mul (show((M 0 1).natAbs:Int)+1<=M 0 0 by omega) (show((M 0 1).natAbs:Int)+1<=M 1 1 by omega) O O
   rw[a0];have e:(((M 0 1).natAbs:Int)+1)*(((M 0 1).natAbs:Int)+1)=((M 0 1).natAbs:Int)*((M 0 1).natAbs:Int)+2*((M 0 1).natAbs:Int)+1:=by grind
   rw[e]at this;exact⟨O,O⟩
  generalize M 0 0*M 1 1-M 0 1*M 0 1=u2 at*
  generalize-(M 0 0+M 1 1)=K at*
  generalize qZ 2 M=T at*
  generalize tE 2 M=B at*
  generalize c2 2 M=g at*
  have f0:g (2-0)=u2:=e2;have f1:g (2-1)=K:=G;have k2:u2=0-> ∀i,i<1->g (2-i)=0:=λh i hi=>by rw[show i=0 by omega,f0,h]
  have k1:u2=0->K=0-> ∀i,i<2->g (2-i)=0:=λh h' i hi=>by
   rcases(show i=0\/i=1 by omega)with rfl|rfl
   . rw[f0,h]
   . rw[f1,h']
  have p1:=jG (z:=1) (by decide)
  rcases(show 0<u2\/u2=0\/u2<0 by omega)with w|w|w
  . have s2:=jG w;rcases(show 0<K\/K=0\/K<0 by omega)with v|v|v
    . exact⟨0,0,by simp,by simp,λ_=>by rw[f0];omega,by simp[qN,J,G,e2,s2,p1,jG v],by simp,by simp,λh=>by have:=b h;omega⟩
    . exact⟨0,0,by simp,by simp,λ_=>by rw[f0];omega,by simp[qN,J,G,e2,s2,p1,v,ri],by simp,by simp,λh=>by have:=b h;omega⟩
    . exact⟨0,2,by simp,by simp,λ_=>by rw[f0];omega,by simp[qN,J,G,e2,s2,p1,rh v],by simp,λh=>by have:=t h;omega,by simp⟩
  . have s2:sgn u2=0:=by rw[w];exact ri
    rcases(show 0<K\/K=0\/K<0 by omega)with v|v|v
    . exact⟨1,0,by simp,k2 w,λ_=>by rw[f1];omega,by simp[qN,J,G,e2,s2,p1,jG v],by simp,by simp,λh=>by have:=b h;omega⟩
    . exact⟨2,0,by simp,k1 w v,by simp,by simp[qN,J,G,e2,s2,p1,v,ri],by simp,by simp,λh=>by have:=b h;omega⟩
    . exact⟨1,1,by simp,k2 w,λ_=>by rw[f1];omega,by simp[qN,J,G,e2,s2,p1,rh v],by simp,λh=>by have:=t h;omega,λh=>by have:=b h;omega⟩
  . have s2:=rh w;rcases(show 0<K\/K=0\/K<0 by omega)with v|v|v
    . exact⟨0,1,by simp,by simp,λ_=>by rw[f0];omega,by simp[qN,J,G,e2,s2,p1,jG v],by simp,λh=>by have:=t h;omega,λh=>by have:=b h;omega⟩
    . exact⟨0,1,by simp,by simp,λ_=>by rw[f0];omega,by simp[qN,J,G,e2,s2,p1,v,ri],by simp,λh=>by have:=t h;omega,λh=>by have:=b h;omega⟩
    . exact⟨0,1,by simp,by simp,λ_=>by rw[f0];omega,by simp[qN,J,G,e2,s2,p1,rh v],by simp,λh=>by have:=t h;omega,λh=>by have:=b h;omega⟩
def qr1 {m:Nat} (hm:4000000<=m) {n:Nat} (hn:n<=2) {M:Nat->Nat->Int} {e:Nat} (he:e<=10000) (K: ∀i k,i<n->k<n->bc (M i k)<=e) (hs: ∀i k,i<n->k<n->M i k=M k i):
 ∃a z p:Nat,AH m (aZ n M)=some (((a:Int),(z:Int),(p:Int),0,()),(),())/\a+z+p=n/\(qZ n M->p=0)/\(tE n M->p=n):=by have J:=tr2 hn hs;have G:=qrf O K (c:=c2 n M) rfl J;obtain⟨z,q,z1,z2,z3,z4,z5,z6,z7⟩:=chg2 hn M;have bd: ∀k,k<=n->k*(e+40)<=160640:=λk u=>zQ (qK (show k<=16 by omega) (show e+40<=10040 by omega)) (by decide);exact⟨n-z-q,z,q,qgw hm O (c:=c2 n M) (e:=e) O K hs (λk u i j hi hj=>zQ ((G k u).1 i j hi hj) (zQ (bd k u) O)) (λk u=>zQ (G k u).2 (by have:=bd k u;omega)) rfl J z1 z2 z3 z4 z5,O,z6,z7⟩
end Go.Vs.F
set_option maxRecDepth 100000
namespace Go.Vs.F
def qmh {m:Nat} (hm:3000000<m) {a B:Int} {n:Int}:
 xG m (ax a B).1 (ax a B).2.1 (ax a B).2.2.1 (ax a B).2.2.2.1 n=some (if cd a B then ax a (B+xp n)else qH,(),(),()):=by rw[xG,Ly hm,bS];dsimp only;by_cases h:cd a B;{obtain⟨w,f,k,K,J,G⟩:=X5 h;have b0:=k.lo;have a0:=k.hi;have n1:=k.len;have e1:(if(-262144)>(if 262144<n then 262144 else n)then(-262144)else(if 262144<n then 262144 else n))=xp n:=by{unfold xp;(repeat' split);all_goals omega};have hc: -262144<=xp n/\xp n<=262144:=by{unfold xp;omega};have u:wI (f+xp n)=f+xp n:=by{rw[wQ,wi O O]};have hE:cW w (f+xp n) a (B+xp n):=by{have:=k.eq.mul (cW.refl 1 (xp n));rwa [Nn,Nn]at this};rw[decide_eq_true h,qS,cond_false,iP h,e1,K,J,G,u,G1 hm O O O,hE.mk];rfl};{rw[decide_eq_false h,ae h];rfl}
abbrev KS:=Bool×(Bool×LI)×Int
def dE (z:Int):KS:=((ax z (-1074)).1,((ax z (-1074)).2.1,(ax z (-1074)).2.2.1),(ax z (-1074)).2.2.2.1)
def dM (n:Nat) (f:Nat->Int):List KS:=mr n λj=>dE (f j)
def dZ (n:Nat) (D:Nat->Nat->Int):List (List KS):=mr n λi=>dM n (D i)
def PT {n:Nat} {D:Nat->Nat->Int}:(dZ n D).length=n:=Qj
def Oa {n:Nat} {f:Nat->Int}:(dM n f).length=n:=Qj
def VQ {n i:Nat} {D:Nat->Nat->Int} (h:i<n):(dZ n D).getD i []=dM n (D i):=Xg h
def qji {n j:Nat} {f:Nat->Int} (h:j<n):(dM n f).getD j qz=dE (f j):=Xg h
def X3 {z e:Int} (h:ak z.natAbs<=10000) (u: -1074<=e) (h2:e<=0):cd z e:=Y2.2 (.inr ⟨O,O⟩)
def BV {z e:Int} (h:cd z e) (u:z≠0):(ax z e).2.2.2.1=e+(tz z.natAbs:Int):=by rcases Y2.1 h with h|⟨G,h2⟩;{exact absurd h u};{unfold ax;rw[ae u,ae O]}
def Cu (l z:Int):Int:=if z=0 then l else if-1074+(tz z.natAbs:Int)<l then-1074+(tz z.natAbs:Int)else l
def Hq (f:Nat->Int):Nat->Int->Int
 |0,l=>l
 |k+1,l=>Cu (Hq f k l) (f k)
def ua (n:Nat) (D:Nat->Nat->Int):Nat->Int
 |0=>0
 |i+1=>Hq (D i) n (ua n D i)
def qtd {l z:Int}:Cu l z<=l:=by unfold Cu;(repeat' split);all_goals omega
def qya {l z:Int} (h: -1074<=l): -1074<=Cu l z:=by unfold Cu;(repeat' split);all_goals omega
def O3 {l z:Int} (h:z≠0):Cu l z<= -1074+(tz z.natAbs:Int):=by unfold Cu;rw[ae h];split<;>omega
def XN {f:Nat->Int}: ∀{k:Nat} {l:Int},Hq f k l<=l
 |0,_=>ug _
 |k+1,l=>OO qtd (XN (k:=k))
def qtl {f:Nat->Int}: ∀{k:Nat} {l:Int},-1074<=l-> -1074<=Hq f k l
 |0,_,h=>h
 |k+1,l,h=>qya (qtl (k:=k) h)
def Hp {f:Nat->Int}: ∀{k:Nat} {l:Int} {j:Nat},j<k->f j≠0->Hq f k l<= -1074+(tz (f j).natAbs:Int)
 |0,_,_,h,_=>absurd h (zC _)
 |k+1,l,j,h,u=>by by_cases c:j=k;{subst c;exact O3 u};{exact OO qtd (Hp (k:=k) O u)}
def qun {n:Nat} {D:Nat->Nat->Int}: ∀{i:Nat},ua n D i<=0
 |0=>ug _
 |i+1=>OO XN (qun (i:=i))
def XO {n:Nat} {D:Nat->Nat->Int}: ∀{i:Nat},-1074<=ua n D i
 |0=>by show(-1074:Int)<=0;omega
 |i+1=>qtl (XO (i:=i))
def yW {n:Nat} {D:Nat->Nat->Int}: ∀{k i j:Nat},i<k->j<n->D i j≠0->ua n D k<= -1074+(tz (D i j).natAbs:Int)
 |0,_,_,h,_,_=>absurd h (zC _)
 |k+1,i,j,h,G,u=>by by_cases c:i=k;{subst c;exact Hp G u};{exact OO XN (yW (k:=k) O G u)}
def kM (n:Nat) (D:Nat->Nat->Int):Nat:=(ua n D n+1074).toNat
section
variable {m:Nat} (hm:5000000000<=m)
include hm
theorem QR {z:Int} (h:ak z.natAbs<=10000):nP m (ax z (-1074)).1 (ax z (-1074)).2.1 (ax z (-1074)).2.2.1 (ax z (-1074)).2.2.2.1=some (sgn z,(),()):=Ob O (X3 h O O)
theorem qxi {z L:Int} (h:ak z.natAbs<=10000) (u: -1074<=L) (G:L<=0):xG m (ax z (-1074)).1 (ax z (-1074)).2.1 (ax z (-1074)).2.2.1 (ax z (-1074)).2.2.2.1 (wI (0-L))=some (ax z (-1074-L),(),(),()):=by have w:wI (0-L)= -L:=by{rw[wQ,wi O O];omega};rw[qmh O,iP (X3 h O O),w];have:xp (-L)= -L:=by{unfold xp;omega};rw[this,zY2]
theorem qks {w f z c:Int} {k:Nat} (e:cW w f z c) (h:c+(k:Int)<=f):w*2^(f-(c+(k:Int))).toNat=z/2^k:=by have u:=e.low (c:=c) O O;rw[VD]at u;unfold sc at u;have h2:(f-c).toNat=(f-(c+(k:Int))).toNat+k:=O;rw[h2,Int.pow_add,<-Int.mul_assoc]at u;rw[<-u,Int.mul_ediv_cancel];have:=Jy k;omega
theorem qxy {z L:Int} (h:ak z.natAbs<=10000) (h1: -1074<=L) (h0:L<=0) (hz:z≠0->L<= -1074+(tz z.natAbs:Int)):
 DV m (ax z (-1074-L)).1 (ax z (-1074-L)).2.1 (ax z (-1074-L)).2.2.1 (ax z (-1074-L)).2.2.2.1=some ((zB (z/2^(L+1074).toNat),true,()),(),()):=by have u:cd z (-1074-L):=X3 h O O;obtain⟨w,f,k,k1,K,G⟩:=X5 u;rw[DV,ZA O u,bS];dsimp only;rw[qS,cond_false,k1,K,G];by_cases c:z=0;{subst c;have J:f=0:=by{rw[<-G];rfl};have hw:w=0:=by{have:=k.eq.low (c:=min f (-1074-L)) O O;unfold sc at this;rw[xe]at this;rcases Int.mul_eq_zero.1 this with h|h;{exact h};{have:=Jy (f-min f (-1074-L)).toNat;omega}};subst J hw;rw[show(0:Int)=((0:Nat):Int)from rfl,VS O (dG _) (by rw[CQ];simp[Q5]) O,bS,aM];rw[nZ,xe,Int.zero_ediv]};{have J:f= -1074-L+(tz z.natAbs:Int):=by{rw[<-G];exact BV u c};have a0:=hz c;have b0:=QO (n:=z.natAbs);have n1:=k.len;have hl:=yG n1;obtain⟨fn,rfl⟩: ∃fn:Nat,f=(fn:Int):=⟨f.toNat,O⟩;rw[VS O (dG _) O O,bS,aM];have e:=qks (m:=m) hm k.eq (k:=(L+1074).toNat) O;rw[show((fn:Int)-(-1074-L+(((L+1074).toNat:Nat):Int))).toNat=fn by omega]at e;rw[e]}
variable {n:Nat} (hn:n<=1000) {D:Nat->Nat->Int} (hD: ∀i j,i<n->j<n->ak (D i j).natAbs<=10000)
include hn hD
theorem qy8 {z:Int} {α:Type} {a b:α}:(bif sgn z !=0 then a else b)=if z=0 then b else a:=by rw[aO];by_cases c:z=0;{subst c;rw[iP rfl,iP (by rfl)]};{rw[ae c,ae (λh=>c (Qb.1 h))]}
theorem qvb {l z:Int} (h:ak z.natAbs<=10000) (u:z≠0):(if(ax z (-1074)).2.2.2.1<l then(ax z (-1074)).2.2.2.1 else l)=Cu l z:=by rw[BV (X3 h O O) u,Cu,ae u]
theorem qwk (R:List (List KS)) (J:List (List KS)) (G u:Int) {i:Nat} (hi:i<n) (l:Int): ∀(N j:Nat),n-j<N->j<=n->
 jn m N R (Hq (D i) j l) J G u (dM n (D i)) (n:Int) (j:Int)=some (.inl (R,Hq (D i) n l,J,G,u,())):=by intro N;induction N with|zero=>{intro j h;omega}|succ N K=>{intro j h hj;rw[jn,Oa,bQ];by_cases c:j<n;{have hz:=hD i j hi c;rw[iP O,iP O];simp only[tN,qji c];rw[show mi m (dE (D i j)).1 (dE (D i j)).2.1.1 (dE (D i j)).2.1.2 (dE (D i j)).2.2=_ from P5 O,bS,QR hm hz,bS];dsimp only;rw[wQ,ay O,qy8 hm hn hD];by_cases z:D i j=0;{rw[iP z];have:=K (j+1) O O;rw[Hq,Cu,iP z]at this;exact this};{rw[ae z,qvb hm hn hD hz z];exact K (j+1) O O}};{have:j=n:=O;subst this;rw[ae O]}}
theorem qws (R:List (List KS)): ∀(N i:Nat),n-i<N->i<=n->
 kW m N R (ua n D i) (dZ n D) (n:Int) (i:Int)=some (.inl (R,ua n D n,())):=by intro N;induction N with|zero=>{intro j h;omega}|succ N u=>{intro i h G;rw[kW,PT,bQ];by_cases c:i<n;{rw[iP O,iP O];simp only[tN,VQ c,Oa];have e:=qwk hm hn hD R (dZ n D) (n:Int) (i:Int) c (ua n D i) m 0 O O;rw[nZ]at e;rw[show jn m m R (ua n D i) (dZ n D) (n:Int) (i:Int) (dM n (D i)) (n:Int) 0=_ from e,bS];dsimp only;rw[wQ,ay O];exact u (i+1) O O};{have:i=n:=O;subst this;rw[ae O]}}
def qD (n:Nat) (D:Nat->Nat->Int):Nat->Nat->Int:=λi j=>D i j/2^kM n D
theorem qvj (K:List (List KS)) (J G:Int) {i:Nat} (hi:i<n) (out:List (List Bg)) (ho:out.length=n): ∀(N j:Nat) (o:List Bg),n-j<N->j<=n->o=(mr j λj=>BZ (qD n D i j))->
 nE m N (ua n D n) (out.set i o) (i:Int) K J G (dM n (D i)) (n:Int) (j:Int)=some (.inl (ua n D n,out.set i (bm n (qD n D i)),K,J,G,())):=by intro N;induction N with|zero=>{intro j o h;omega}|succ N ih=>{intro j o h hj u;rw[nE,Oa,bQ];by_cases c:j<n;{have hz:=hD i j hi c;have a0:=XO (n:=n) (D:=D) (i:=n);have b0:=qun (n:=n) (D:=D) (i:=n);have e0:D i j≠0->ua n D n<= -1074+(tz (D i j).natAbs:Int):=λd0=>yW hi c d0;have hg:(out.set i o).getD i []=o:=Wu O;have hlen:(out.set i o).length=n:=by{rw[zU];exact ho};have c0:o.length=j:=by{rw[u];exact Qj};have hq:bc (qD n D i j)<=1000000:=by{have:(qD n D i j).natAbs<=(D i j).natAbs:=by{unfold qD;exact Int.natAbs_ediv_le_natAbs _ _};refine zQ (qx this) (zQ (Qi hz) O)};rw[iP O,iP O];simp only[tN,qji c,hg,hlen];rw[show xG m (dE (D i j)).1 (dE (D i j)).2.1.1 (dE (D i j)).2.1.2 (dE (D i j)).2.2 (wI (0-ua n D n))=_ from qxi hm hz a0 b0,bS,qxy hm hz a0 b0 e0,bS];dsimp only;rw[iP O,show qk m (zB (D i j/2^(ua n D n+1074).toNat)).1 (zB (D i j/2^(ua n D n+1074).toNat)).2.1=_ from KH O hq,bS,c0,iP (by show j+1<=_;omega),iP O,iP trivial,wQ,ay O,List.set_set];refine ih (j+1) _ O O ?_;rw[u];exact PK (f:=λj=>BZ (qD n D i j))};{have:j=n:=O;subst this;rw[ae O,u];rfl}}
theorem qv0: ∀(N i:Nat),n-i<N->i<=n->
 nF m N (ua n D n) (mr n λk=>if k<i then bm n (qD n D k)else []) (dZ n D) (n:Int) (i:Int)=some (.inl (aZ n (qD n D),())):=by intro N;induction N with|zero=>{intro j h;omega}|succ N J=>{intro i h hi;rw[nF,PT,bQ];by_cases c:i<n;{have e:=qvj hm hn hD (dZ n D) (n:Int) (i:Int) c (mr n λk=>if k<i then bm n (qD n D k)else []) Qj m 0 [] O O PP.symm;have e0:(mr n λk=>if k<i then bm n (qD n D k)else []).set i []=mr n λk=>if k<i then bm n (qD n D k)else []:=by{rw[Cv];refine Qg λk u=> ?_;by_cases d:k=i;{rw[iP d,ae O]};{rw[ae d]}};have K:(mr n λk=>if k<i then bm n (qD n D k)else []).set i (bm n (qD n D i))=mr n λk=>if k<i+1 then bm n (qD n D k)else []:=by{rw[Cv];refine Qg λk u=> ?_;by_cases d:k=i;{subst d;rw[iP rfl,iP O]};{rw[ae d];by_cases G:k<i;{rw[iP G,iP O]};{rw[ae G,ae O]}}};rw[e0,K,nZ]at e;rw[iP O,iP O];simp only[tN,VQ c,Oa];rw[e,bS];dsimp only;rw[wQ,ay O];exact J (i+1) O O};{have:i=n:=O;subst this;rw[ae O];congr 3;exact Qg λk u=>iP u}}
theorem qx8:EF m (dZ n D)=some (aZ n (qD n D),(),()):=by have u:=qws hm hn hD (dZ n D) m 0 O O;rw[nZ]at u;have e2:=qv0 hm hn hD m 0 O O;rw[show(mr n λk=>if k<0 then bm n (qD n D k)else [])=List.replicate n [] by rw[NL];exact Qg λk _=>ae O,nZ]at e2;rw[EF,PT,show kW m m (dZ n D) 0 (dZ n D) (n:Int) 0=_ from u,bS];dsimp only;rw[PT,iP O,tN,e2,bS]
end
end Go.Vs.F
set_option maxRecDepth 100000
namespace Go.Vs.F
def qrm {m:Nat} (hm:3000000<m) {a b:Int} (G:aS a) (u:aS b):
 ud m (d8 a).1 (d8 a).2.1 (d8 a).2.2.1 (d8 a).2.2.2.1 (d8 b).1 (d8 b).2.1 (d8 b).2.2.1 (d8 b).2.2.2.1=some (ax (aE a-aE b) (-1074),(),(),())/\
 sX m (d8 a).1 (d8 a).2.1 (d8 a).2.2.1 (d8 a).2.2.2.1 (d8 b).1 (d8 b).2.1 (d8 b).2.2.1 (d8 b).2.2.2.1=some (ax (aE a-aE b) (-1074),(),(),()):=by rw[Qs G,Qs u,Lz hm,ZR hm,iP ⟨cq G,cq u⟩];exact⟨rfl,rfl⟩
def Zu {f:Int} (h:aS f):ak (aE f).natAbs<=2098:=by have G:=PG f;have h2:=qo4 h;have u:=(Li (f:=f)).1;unfold aE sc;refine zQ q7g ?_;omega
def qht {a b:Int} {k:Nat} (G:ak a.natAbs<=k) (u:ak b.natAbs<=k):ak (a-b).natAbs<=k+1:=by rw[zY2];exact Y0 G (by rw[xg];exact u)
def ur (a b:Nat->Int):Nat->Nat->Int:=λi j=>if i=j then a i else if j=i+1 then b i else if i=j+1 then b j else 0
def d5 (a b:Nat->Int) (k:Nat):Nat->Nat->Int:=λi j=>if j=i then a i else if j=i+1 then(if i<k then b i else 0)else if i=j+1 then(if j<k then b j else 0)else 0
def qsq (a b:Nat->Int) (i j:Nat):ur a b i j=ur a b j i:=by unfold ur;grind
def qle (a b:Nat->Int) (i j:Nat):d5 a b 0 i j=if j=i then a i else 0:=by unfold d5;grind
def qkc (a b:Nat->Int) (n i j:Nat) (G:i<n) (u:j<n):d5 a b (n-1) i j=ur a b i j:=by unfold d5 ur;grind
def qlh (a b:Nat->Int) (k i j:Nat):(if i=k+1 then(if j=k then b k else d5 a b k (k+1) j)else if i=k then(if j=k+1 then b k else d5 a b k k j)else d5 a b k i j)=d5 a b (k+1) i j:=by unfold d5;grind
def vo (d:LI) (x:Int) (i:Nat):Int:=aE (d.getD i 0)-aE x
def ki (e:LI) (i:Nat):Int:=aE (e.getD i 0)
def mB (d e:LI) (x:Int):Nat->Nat->Int:=ur (vo d x) (ki e)
def qre (d e:LI) (x:Int) (i j:Nat):mB d e x i j=mB d e x j i:=qsq ..
def qqx {d e:LI} {x:Int} (hd:cf d) (he:cf e) (hle:e.length=d.length-1) (hx:aS x) {i j:Nat} (u:i<d.length) (G:j<d.length):ak (mB d e x i j).natAbs<=2099:=by unfold mB ur;by_cases c:i=j;{rw[iP c];exact qht (Zu (hd i u).2) (Zu hx)};{rw[ae c];by_cases c1:j=i+1;{rw[iP c1];exact zQ (Zu (he i O).2) (by decide)};{rw[ae c1];by_cases c2:i=j+1;{rw[iP c2];exact zQ (Zu (he j O).2) (by decide)};{rw[ae c2];decide}}}
def qrw {n j:Nat} {f:Nat->Int} {v:Int}:(dM n f).set j (dE v)=dM n (λk=>if k=j then v else f k):=by unfold dM;rw[Cv];refine Qg λk u=> ?_;show(if k=j then dE v else dE (f k))=dE (if k=j then v else f k);by_cases c:k=j;{rw[iP c,iP c]};{rw[ae c,ae c]}
def qms {n:Nat}:List.replicate n (qz:KS)=dM n (λ_=>0):=NL
def q8o {n i:Nat} {D:Nat->Nat->Int} {f:Nat->Int}:(dZ n D).set i (dM n f)=dZ n (λk=>if k=i then f else D k):=by unfold dZ;rw[Cv];refine Qg λk u=> ?_;show(if k=i then dM n f else dM n (D k))=dM n (if k=i then f else D k);by_cases c:k=i;{rw[iP c,iP c]};{rw[ae c,ae c]}
def q76 {n j:Nat} {f:Nat->Int} {v:Int}:(dM n f).set j ((ax v (-1074)).1,((ax v (-1074)).2.1,(ax v (-1074)).2.2.1),(ax v (-1074)).2.2.2.1)=dM n (λk=>if k=j then v else f k):=qrw
section
variable {m:Nat} (hm:5000000000<=m) {d e:LI} {x:Int} (hd:cf d) (he:cf e) (hle:e.length=d.length-1) (hl:d.length<=1000) (hxU:b7 x) (hx:aS x)
include hm hd he hle hl hxU hx
theorem qkv: ∀(N i:Nat),d.length-i<N->i<=d.length->
 nD m N d e x (mr d.length λk=>if k<i then dM d.length (λj=>if j=k then vo d x k else 0)else []) (d.length:Int) (i:Int)=
  some (.inl (e,dZ d.length (λk j=>if j=k then vo d x k else 0),())):=by intro N;induction N with|zero=>{intro j h;omega}|succ N J=>{intro i h hi;rw[nD,bQ];by_cases c:i<d.length;{obtain⟨G,K⟩:=hd i c;have hlen:(mr d.length λk=>if k<i then dM d.length (λj=>if j=k then vo d x k else 0)else []).length=d.length:=Qj;rw[iP O,iP O,hlen,iP O];simp only[tN,zU,hlen];rw[iP O,iP O,cw O G,bS,cw O hxU,bS,(qrm O K hx).1,bS,Wu (by rw[hlen];exact c),zM,iP O,List.set_set,qms];dsimp only;rw[q76];have e2:(mr d.length λk=>if k<i then dM d.length (λj=>if j=k then vo d x k else 0)else []).set i (dM d.length (λj=>if j=i then aE (d.getD i 0)-aE x else 0))=mr d.length λk=>if k<i+1 then dM d.length (λj=>if j=k then vo d x k else 0)else []:=by{rw[Cv];refine Qg λk u=> ?_;by_cases c1:k=i;{subst c1;rw[iP rfl,iP O];rfl};{rw[ae c1];by_cases c2:k<i;{rw[iP c2,iP O]};{rw[ae c2,ae O]}}};rw[e2,wQ,ay O];exact J (i+1) O O};{have:i=d.length:=O;subst this;rw[ae O];congr 4;exact Qg λk u=>iP u}}
theorem qke: ∀(N k:Nat),e.length-k<N->k<=e.length->nC m N (dZ d.length (d5 (vo d x) (ki e) k)) e (e.length:Int) (k:Int)=some (.inl (dZ d.length (mB d e x),())):=by intro N;induction N with|zero=>{intro j h;omega}|succ N ih=>{intro k h hk;rw[nC,bQ];by_cases c:k<e.length;{obtain⟨u1,f1⟩:=he k c;have K:wI ((k:Int)+1)=((k+1:Nat):Int):=ay O;rw[iP O,iP O,PT,K,iP O,tN,tN,cw O u1,Qs f1,bS,bS];dsimp only;rw[VQ (show k<d.length by omega),Oa,iP O,q76,q8o,VQ (show k+1<d.length by omega),Oa,iP O,q76,q8o];have e3:dZ d.length (λi=>if i=k+1 then(λj=>if j=k then aE (e.getD k 0)else(if k+1=k then(λj=>if j=k+1 then aE (e.getD k 0)else d5 (vo d x) (ki e) k k j)else d5 (vo d x) (ki e) k (k+1)) j)else(if i=k then(λj=>if j=k+1 then aE (e.getD k 0)else d5 (vo d x) (ki e) k k j)else d5 (vo d x) (ki e) k i))=dZ d.length (d5 (vo d x) (ki e) (k+1)):=by{unfold dZ;refine Qg λi J=> ?_;unfold dM;refine Qg λj G=> ?_;congr 1;rw[<-qlh];rw[ae (show¬k+1=k by omega)];show _=if i=k+1 then(if j=k then aE (e.getD k 0)else _)else if i=k then(if j=k+1 then aE (e.getD k 0)else _)else _;dsimp only;by_cases c1:i=k+1;{rw[iP c1,iP c1]};{rw[ae c1,ae c1];by_cases c2:i=k;{rw[iP c2,iP c2]};{rw[ae c2,ae c2]}}};rw[e3,iP O];exact ih (k+1) O O};{have u:k=d.length-1:=O;rw[ae O];congr 3;unfold dZ;refine Qg λi J=> ?_;unfold dM;refine Qg λj G=> ?_;rw[u,qkc _ _ _ _ _ J G];rfl}}
theorem qkf:EA m d e x=some (dZ d.length (mB d e x),(),(),(),()):=by have G:=qkv hm hd he hle hl hxU hx m 0 O O;rw[show(mr d.length λk=>if k<0 then dM d.length (λj=>if j=k then vo d x k else 0)else [])=List.replicate d.length [] by rw[NL];exact Qg λk _=>ae O,nZ]at G;have u:=qke hm hd he hle hl hxU hx m 0 O O;have e2:dZ d.length (d5 (vo d x) (ki e) 0)=dZ d.length (λk j=>if j=k then vo d x k else 0):=by{unfold dZ;refine Qg λi K=> ?_;unfold dM;refine Qg λj J=> ?_;rw[qle]};rw[e2,nZ]at u;rw[EA,iP O,tN,zM,G,bS];dsimp only;rw[u,bS]
end
end Go.Vs.F
