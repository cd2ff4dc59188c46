import Derived.Test.YtkbgfnhdfmmfcaaGreatDoorLe
set_option linter.unusedVariables false
set_option linter.unusedSimpArgs false
set_option linter.unusedSectionVars false
set_option linter.defProp false
set_option maxRecDepth 100000
namespace Go.Vs.F
def Vc {neg:Bool} {f:Int} (u:0<=f) (h2:f<9223372036854775808):b7 (gd neg f):=by unfold gd b7;split<;>omega
def qoq {neg:Bool} {mode:Int}:b7 (fT neg mode):=by unfold fT;split<;>exact Vc O O
def qwz {neg:Bool} {n:Nat} {u mode:Int} (hu: -1074<=u) (hn:n<=9007199254740992):b7 (iK neg n u mode):=by unfold iK;split;{split;{exact qoq};{exact Vc O O}};{split;{exact Vc O O};{split;{exact qoq};{exact Vc O O}}}
def qaw {neg:Bool} {v:Nat} {e:Int} {more:Bool} {mode:Int}:b7 (Yz neg v e more mode):=qwz (qax v e) qbe
def yV:b7 GC:=by unfold GC b7;omega
def NU:b7 0:=by unfold b7;omega
def LA {d:D5} {mode:Int}:b7 (Xp d mode):=by unfold Xp;split;{exact yV};{split;{exact NU};{exact qaw}}
def Pn {a b:D5} {mode:Int}:b7 (mf a b mode):=by unfold mf;split;{exact yV};{split;{exact NU};{exact qaw}}
def qvp {a:D5} {mode:Int}:b7 (rj a mode):=by unfold rj;split;{exact yV};{split;{exact NU};{exact qaw}}
def NW (f:Int):Cn (d8 f):=by unfold d8;split;{exact fo _ _};{exact .bad}
def eU (b:LI) (k:Nat) (q:Nat->Int):LI:=(List.range b.length).map λi=>if i<k then q i else b.getD i 0
def Y1 {b:LI} {k:Nat} {q:Nat->Int}:(eU b k q).length=b.length:=by unfold eU;simp
def P8 {b:LI} {k i:Nat} {q:Nat->Int} (u:i<b.length):(eU b k q).getD i 0=if i<k then q i else b.getD i 0:=by unfold eU;rw[List.getD_eq_getElem?_getD,List.getElem?_map,List.getElem?_range u];rfl
def VW {a b:LI} (h:a.length=b.length) (G: ∀i,i<a.length->a.getD i 0=b.getD i 0):a=b:=by refine Uj h λi u h2=> ?_;have:=G i u;simpa [List.getD_eq_getElem?_getD,u,h2]using this
def q78 {l:LI} {k i:Nat} {a:Int} (u:k<l.length):(l.set k a).getD i 0=if i=k then a else l.getD i 0:=by simp only[List.getD_eq_getElem?_getD,List.getElem?_set];split;{rename_i h;subst h;rw[iP rfl];simp[u]};{rename_i h;rw[ae (λe=>h e.symm)]}
def q51 {b:LI} {q:Nat->Int}:eU b 0 q=b:=
 VW Y1 λi u=>by rw[Y1]at u;rw[P8 u,ae O]
def q81 {b:LI} {k:Nat} {q:Nat->Int} (G:k<b.length):(eU b k q).set k (q k)=eU b (k+1) q:=
 VW (by rw[zU,Y1,Y1]) λi u=>by rw[zU,Y1]at u;rw[q78 (by rw[Y1];exact G),P8 u,P8 u];by_cases e:i=k;{subst e;rw[iP rfl,iP O]};{rw[ae e];by_cases c:i<k;{rw[iP c,iP O]};{rw[ae c,ae O]}}
def q52 {b:LI} {q:Nat->Int}:eU b b.length q=(List.range b.length).map q:=by unfold eU;refine Cm λi u=> ?_;rw[iP (vH.1 u)]
def fH (n:Nat) (q:Nat->Int):LI:=(List.range n).map q
def Zw {n:Nat} {q:Nat->Int}:(fH n q).length=n:=by unfold fH;simp
def VI {n i:Nat} {q:Nat->Int} (u:i<n):(fH n q).getD i 0=q i:=by unfold fH;rw[List.getD_eq_getElem?_getD,List.getElem?_map,List.getElem?_range u];rfl
def qiz {n:Nat} {q:Nat->Int}:fH n q++[q n]=fH (n+1) q:=by unfold fH;rw[Cr,tR];rfl
def GS {n:Nat} {q:Nat->Int} (h: ∀i,i<n->b7 (q i)):UL (fH n q):=λi u=>by rw[Zw]at u;rw[VI u];exact h i u
def Gu (x:LI) (g:Int) (i:Nat):Int:=mf (d8 (x.getD i 0)) (d8 g) 0
def qF (x:LI) (g:Int):LI:=fH x.length (Gu x g)
def YD {x:LI} {g:Int}:UL (qF x g):=GS λi _=>Pn
def qav {x:LI} {g:Int}:(qF x g).length=x.length:=Zw
section
variable {m:Nat} (hm:5000000000<=m)
include hm
theorem q9h {x:LI} {g:Int} (hl:x.length<=1000) (u:UL x) (G:b7 g): ∀(n k:Nat),x.length-k<n->k<=x.length->
 sx m n g (fH k (Gu x g)) x (x.length:Int) (k:Int)=some (.inl (qF x g,()))
 |0,k,h,_=>absurd h (zC _)
 |n+1,k,h,K=>by rw[sx,bQ];by_cases hk:k<x.length;{have J:=q9h hl u G n (k+1) O O;rw[iP O,iP O,tN,cw O (u k hk),bS,cw O G,bS];dsimp only;rw[vR hm (NW _) (NW _),bS];dsimp only;rw[iP (by show _+1<=_;rw[Zw];omega),show mf (d8 (x.getD k 0)) (d8 g) 0=Gu x g k from rfl,qiz,show wI ((k:Int)+1)=((k+1:Nat):Int)from ay O];exact J};{rw[ae O,show k=x.length by omega];rfl}
theorem q9s {x:LI} {g:Int} (hl:x.length<=1000) (u:UL x) (G:b7 g):Oq m x g=some ((qF x g,bJ (qF x g),()),(),(),()):=by have h:=q9h hm hl u G m 0 O O;rw[nZ]at h;rw[Oq,show([]:LI)=fH 0 (Gu x g)from rfl,h,bS];dsimp only;rw[YO O YD (by rw[qav];exact hl),bS]
theorem qyh {a b:D5} (u:Cn a) (hb:Cn b):oS m a.1 a.2.1 a.2.2.1 a.2.2.2.1 b.1 b.2.1 b.2.2.1 b.2.2.2.1=some (mf a b 0,(),(),()):=by rw[oS,O9 hm u hb,bS]
theorem qs6 {z e:Int}:CG m (ax z e).1 (ax z e).2.1 (ax z e).2.2.1 (ax z e).2.2.2.1=some (Xp (ax z e) 0,(),()):=by rw[CG,V8 O,bS]
end
def B5 (x y:LI):Int:=dK (j8 x y x.length)
def mM (x:LI):Int:=rj (ax (B5 x x) (-2148)) 0
section
variable {m:Nat} (hM:d6<=m)
include hM
theorem q9c {x:LI} (hl:x.length<=1000) (u:cf x):Ot m x=some (mM x,(),()):=by have hm:=Yu hM;rw[Ot,qsy O hl rfl u u,bS];dsimp only;rw[qye hM (fo _ _),bS];rfl
end
def qfj {m:Nat} (hm:4000000<=m) {x y:LI} (hl:x.length<=1000) (he:x.length=y.length) (hx:cf x) (hy:cf y) (K J:Bool) (G:LI) (u:Int): ∀(n k:Nat),x.length-k<n->k<=x.length->
 m8 m n x y K J G u ((j8 x y k).map (dy (-2148))) (x.length:Int) (k:Int)=some (.inl (y,(K,J,G,u,()),(j8 x y x.length).map (dy (-2148)),()))
 |0,k,h,_=>absurd h (zC _)
 |n+1,k,h,c0=>by rw[m8,bQ];by_cases hk:k<x.length;{have ih:=qfj hm hl he hx hy K J G u n (k+1) O O;obtain⟨u1,f1⟩:=hx k hk;obtain⟨u2,f2⟩:=hy k O;rw[iP O,iP O,tN,zH,cw O u1,bS,iP O,cw O u2,bS,Qs f1,Qs f2];dsimp only;rw[Lw hm,iP ⟨cq f1,cq f2⟩,bS,show(-1074:Int)+ -1074= -2148 by decide];dsimp only;rw[iP (by simp[Gs];omega),T7,show wI ((k:Int)+1)=((k+1:Nat):Int)from ay O];exact ih};{rw[ae O,show k=x.length by omega]}
def qf4 {m:Nat} (hm:4000000<=m) {x y:LI} (hl:x.length<=1000) (he:x.length=y.length) (u:cf x) (hy:cf y):zt m x y=some (ax (B5 x y) (-2148),(),y,()):=by have h:=qfj hm hl he u hy false false [] 0 m 0 O O;rw[nZ]at h;rw[zt,show([]:List (Bool×(Bool×LI)×Int))=(j8 x y 0).map (dy (-2148))from rfl,h,bS];dsimp only;rw[qtm O (by rw[Gs];omega) (qo2 u hy he (zI _))];rfl
def iu (f:Int):Int:=sc (aE f) (-1074) (-2148)
def ZU {f:Int} (h:aS f):d8 f=ax (iu f) (-2148):=by rw[Qs h];exact(Cw O).symm
def qpy {f:Int} (h:aS f):cd (iu f) (-2148):=by have:(ax (iu f) (-2148)).1=(ax (aE f) (-1074)).1:=by{rw[<-ZU h,Qs h]};exact this.trans (cq h)
def yZ (w v:LI) (h:Int) (i:Nat):Int:=Xp (ax (iu (w.getD i 0)-aE h*aE (v.getD i 0)) (-2148)) 0
def da (v w:LI):Int:=Xp (ax (B5 v w) (-2148)) 0
def mL (w v:LI) (h:Int):LI:=fH w.length (yZ w v h)
def qmp {w v:LI} {h:Int}:UL (mL w v h):=GS λi _=>LA
def qdg {w v:LI} {h:Int}:(mL w v h).length=w.length:=Zw
section
variable {m:Nat} (hm:5000000000<=m)
include hm
theorem qlx {w v:LI} {h:Int} (hl:w.length<=1000) (he:v.length=w.length) (hw:cf w) (hv:cf v) (hh:b7 h) (u:aS h): ∀(n k:Nat),w.length-k<n->k<=w.length->
 ot m n (eU w k (yZ w v h)) v h (w.length:Int) (k:Int)=some (.inl (mL w v h,()))
 |0,k,h,_=>absurd h (zC _)
 |n+1,k,hn,c0=>by rw[ot,bQ];by_cases G:k<w.length;{have ih:=qlx hl he hw hv hh u n (k+1) O O;obtain⟨K,f1⟩:=hw k G;obtain⟨J,f2⟩:=hv k O;rw[iP O,iP (by rw[Y1];omega),zH,tN,P8 G,ae O,cw O K,bS,cw O hh,bS,iP O,cw O J,bS,Qs u,Qs f2,ZU f1];dsimp only;rw[Lw O,iP ⟨cq u,cq f2⟩,bS,show(-1074:Int)+ -1074= -2148 by decide];dsimp only;rw[Lz O,iP ⟨qpy f1,Jf u f2⟩,bS];dsimp only;rw[LG O,bS,iP (by rw[Y1];omega)];dsimp only;rw[show Xp (ax (iu (w.getD k 0)-aE h*aE (v.getD k 0)) (-2148)) 0=yZ w v h k from rfl,q81 G,show wI ((k:Int)+1)=((k+1:Nat):Int)from ay O];exact ih};{rw[ae O,show k=w.length by omega,q52];rfl}
def jJ (w v:LI):Option LI:=if aS (da v w)/\bJ (mL w v (da v w))=true then some (mL w v (da v w))else none
omit hm in
theorem qjx {w v x:LI} (h:jJ w v=some x):cf x/\x.length=w.length:=by unfold jJ at h;split at h;{rename_i c;injection h with h;subst h;exact⟨G4 qmp c.2,qdg⟩};{cases h}
theorem qw7 {w v:LI} (hl:w.length<=1000) (he:v.length=w.length) (hw:cf w) (hv:cf v):
 (∃y,Gf m w v=some ((jJ w v).isSome,y,(),())/\ ∀x,jJ w v=some x->y=x):=by rw[Gf,qf4 O O he hv hw,bS];dsimp only;rw[LG O,bS];dsimp only;rw[show Xp (ax (B5 v w) (-2148)) 0=da v w from rfl,Zt (show b7 (da v w)from LA),bS];dsimp only;unfold jJ;by_cases c:aS (da v w);{have h0:=qlx hm hl he hw hv (h:=da v w) LA c m 0 O O;rw[nZ,q51]at h0;rw[decide_eq_true c,show(!true)=false from rfl,cond_false,h0,bS];dsimp only;rw[YO O qmp (by rw[qdg];exact hl),bS];refine⟨mL w v (da v w),?_,λx u=> ?_⟩;{cases G:bJ (mL w v (da v w))with|true=>{rw[iP ⟨c,rfl⟩];rfl}|false=>{rw[ae (λq=>by cases q.2)];rfl}};{split at u;{injection u};{cases u}}};{rw[decide_eq_false c,show(!false)=true from rfl,cond_true];refine⟨w,?_,λx u=> ?_⟩;{rw[ae (λq=>c q.1)];rfl};{rw[ae (λq=>c q.1)]at u;cases u}}
end
end Go.Vs.F
set_option maxRecDepth 100000
namespace Go.Vs.F
def fi (f:Int):Int:=if de f=2047 then(if eW f=0 then 2 else 3)else if de f=0/\eW f=0 then 0 else 1
def Lx {m:Nat} {f:Int} (h:b7 f):CH m f=some (fi f,(),())/\xQ m f=some (fi f,(),()):=by have hl:=NZ f;rw[CH,jI h,bS,xQ,(Px h).1,(Px h).2];simp only[aB,aO];unfold fi;by_cases c:de f=2047;{by_cases d:eW f=0;{simp[c,d]};{simp[c,d]}};{by_cases e:de f=0;{by_cases d:eW f=0;{simp[e,d]};{simp[e,d]}};{simp[c,e]}}
def Df (f:Int):Bool:=f==0||f==9223372036854775808
def qvr {m:Nat} {f:Int}:Rz m f=some (Df f,(),()):=by rw[Rz];unfold Df;cases f==0<;>rfl
def q6l {f:Int} (h:b7 f):(fi f==0)=Df f:=by have u:fi f=0↔(f=0\/f=9223372036854775808):=by{obtain⟨G,h2⟩:=h;unfold fi de eW;constructor;{intro h;(repeat' split at h);all_goals omega};{intro h;rw[ae O,iP O]}};unfold Df;by_cases c:fi f=0;{rcases u.1 c with h|h;{subst h;rw[c];rfl};{subst h;rw[c];rfl}};{have G:f≠0:=λe=>c (u.2 (.inl e));have h2:f≠9223372036854775808:=λe=>c (u.2 (.inr e));rw[show(fi f==0)=false from by simpa using c,show(f==0)=false from by simpa using G,show(f==9223372036854775808)=false from by simpa using h2];rfl}
section
variable {m:Nat} (hm:5000000000<=m)
include hm
end
end Go.Vs.F
set_option maxRecDepth 100000
namespace Go.Vs.F
def qm7 {m:Nat} {l:LI} (u:cf l) (hl:l.length<=1000000): ∀(N k:Nat),l.length-k<N->k<=l.length->jY m N l (l.length:Int) (k:Int)=some (.inr (.inl ())):=by intro N;induction N with|zero=>{intro j h;omega}|succ N G=>{intro k h J;rw[jY,bQ];by_cases c:k<l.length;{rw[iP O,iP O,tN,MW,Zt (u k c).1,bS,bS];dsimp only;rw[decide_eq_true (u k c).2,qS,cond_false,wQ,ay O];exact G (k+1) O O};{rw[ae O]}}
def qqf {m:Nat} (hm:5000000000<=m) {l:LI} (u:cf l) (hl:l.length<=1000):sY m l=some (false,(),(),()):=by have e:=qm7 (m:=m) u O m 0 O O;rw[nZ]at e;rw[sY,AA,e];rfl
def qo3 {l:LI} (h:cf l):bJ l=true:=qp.2 λi _ u=>decide_eq_true (h i u).2
def qus {m:Nat} (hm:5000000000<=m) {d e:LI} (hd:cf d) (he:cf e) (hle:e.length=d.length-1) (hl:d.length<=16):Bl m d e=some (0,(),(),())/\WE m d e=some (0,(),(),()):=by have w:(if 0>wI ((d.length:Int)-1)then 0 else wI ((d.length:Int)-1))=((d.length-1:Nat):Int):=by{rw[wQ,wi O O];split<;>omega};constructor;{rw[Bl,w,qqf hm hd O,qqf hm he O];simp only[bS,bQ,aO];rw[ae O,iP O];rfl};{rw[WE,w,qqp O hd.U O,qqp O he.U O,qo3 hd,qo3 he];simp only[bS,bQ,aO];rw[ae O,iP O];rfl}
def YM {n:Nat} {D:Nat->Nat->Int} {i j:Nat} (K:i<n) (J:j<n):D i j=qD n D i j*2^kM n D:=by unfold qD;by_cases z:D i j=0;{rw[z,Int.zero_ediv,xe]};{have h1:=yW (n:=n) (D:=D) (k:=n) K J z;have h2:=XO (n:=n) (D:=D) (i:=n);obtain⟨k1,u,k3⟩:=U9 (n:=(D i j).natAbs) O;have G:kM n D<=tz (D i j).natAbs:=by{unfold kM;omega};have hd:((2^kM n D:Nat):Int)∣D i j:=by{rw[Int.ofNat_dvd_left];exact Nat.dvd_trans (Nat.pow_dvd_pow 2 G) ⟨_,u⟩};rw[oJ]at hd;exact(Int.ediv_mul_cancel hd).symm}
def qxx {n:Nat} {D:Nat->Nat->Int} {i j k:Nat} (h:ak (D i j).natAbs<=k):bc (qD n D i j)<=k/32+1:=
 zQ (qx (by unfold qD;exact Int.natAbs_ediv_le_natAbs _ _)) (Qi h)
def KJ {n:Nat} {D:Nat->Nat->Int} (c:n=2):((D 0 1).natAbs:Int)=((qD n D 0 1).natAbs:Int)*2^kM n D:=by have u:(0:Int)<2^kM n D:=Nr (by decide);have e:=congrArg Int.natAbs (YM (n:=n) (D:=D) (i:=0) (j:=1) O O);rw[K6]at e;rw[e,oZ,Int.natAbs_of_nonneg (K3 u)]
def OW {n:Nat} {D:Nat->Nat->Int} (h:qZ n D):qZ n (qD n D):=λi u=>by have J:(0:Int)<2^kM n D:=Nr (by decide);have G:=h i u;refine Int.le_of_mul_le_mul_right (a:=2^kM n D) ?_ J;rw[xe,Int.add_mul,<-YM u u];by_cases c:n=2;{rw[iP c]at G⊢;rw[<-KJ c];exact G};{rw[ae c]at G⊢;omega}
def T9 {n:Nat} {D:Nat->Nat->Int} (h:tE n D):tE n (qD n D):=λi u=>by have J:(0:Int)<2^kM n D:=Nr (by decide);have G:=h i u;refine Int.lt_of_mul_lt_mul_right (a:=2^kM n D) ?_ (K3 J);rw[<-YM u u];by_cases c:n=2;{rw[iP c]at G⊢;rw[<-KJ c];exact G};{rw[ae c]at G⊢;omega}
def oI (e:LI) (i:Nat):Int:=(if 0<i then((ki e (i-1)).natAbs:Int)else 0)+(if i<e.length then((ki e i).natAbs:Int)else 0)
def rB (d e:LI) (i:Nat):Int:=aE (d.getD i 0)-oI e i
def rS (d e:LI) (i:Nat):Int:=aE (d.getD i 0)+oI e i
def O7 {d e:LI} (hle:e.length=d.length-1) (h2:d.length<=2) (x:Int) {i:Nat} (G:i<d.length):oI e i=if d.length=2 then((mB d e x 0 1).natAbs:Int)else 0:=by have u:mB d e x 0 1=ki e 0:=rfl;rw[u];unfold oI;rcases(show i=0\/i=1 by omega)with rfl|rfl;{split;{omega};{split;{rw[iP O];omega};{rw[ae O];omega}}};{rw[iP O,ae O,iP O];exact K1 _}
def qm3 {d e:LI} {x:Int} {i:Nat}:mB d e x i i=aE (d.getD i 0)-aE x:=iP rfl
abbrev zd:Int:=9218868437227405312
def Gx {m:Nat} (hm:5000000000<=m) {d e:LI} (hd:cf d) (he:cf e) (hle:e.length=d.length-1) (h2:d.length<=2) {x:Int} (J:b7 x):
 ∃c:Nat,s9 m d e x=some ((c:Int),(),(),(),())/\c<=d.length/\(x=zd->c=d.length)/\(x≠zd-> ¬aS x->c=0)/\(aS x->(∀i,i<d.length->rS d e i<=aE x)->c=d.length)/\(aS x->(∀i,i<d.length->aE x<rB d e i)->c=0):=by rw[s9,aB];by_cases c1:x=zd;{rw[iP c1];have: ¬aS x:=by{rw[c1];decide};exact⟨d.length,rfl,zI _,λ_=>rfl,λh=>absurd c1 h,λh=>absurd h this,λh=>absurd h this⟩};{rw[ae c1,Zt J,bS];dsimp only;by_cases c2:aS x;{rw[decide_eq_true c2,qS,cond_false,qkf hm hd he hle O J c2,bS];have hD: ∀i j,i<d.length->j<d.length->ak (mB d e x i j).natAbs<=2099:=λi j u G=>qqx hd he hle c2 u G;rw[qx8 hm O (λi j u G=>zQ (hD i j u G) (by decide)),bS];dsimp only;obtain⟨a,z,p,h3,h4,h5,h6⟩:=qr1 (m:=m) O h2 (M:=qD d.length (mB d e x)) (e:=66) (by decide) (λi k u K=>qxx (hD i k u K)) (λi k u K=>by unfold qD;rw[qre]);have w:wI ((a:Int)+(z:Int))=((a+z:Nat):Int):=by{rw[wQ,wi O O];omega};rw[h3,bS];dsimp only;rw[w];refine⟨a+z,rfl,O,λh=>absurd h c1,λ_ h=>absurd c2 h,λ_ h=> ?_,λ_ h=> ?_⟩;{have:=h5 (OW λi u=>by rw[<-O7 hle h2 x u,qm3];have:=h i u;unfold rS at this;omega);omega};{have:=h6 (T9 λi u=>by rw[<-O7 hle h2 x u,qm3];have:=h i u;unfold rB at this;omega);omega}};{rw[decide_eq_false c2,CK,cond_true];exact⟨0,rfl,lM _,λh=>absurd h c1,λ_ _=>rfl,λh=>absurd h c2,λh=>absurd h c2⟩}}
def qdm {a:Int} {k:Nat}:Int.fdiv a (2^k)=a/2^k:=
 Int.fdiv_eq_ediv_of_nonneg _ (by exact K3 (Nr O))
def VT {a:Int}:(BitVec.ofInt 64 a).toNat=(a%18446744073709551616).toNat:=by rw[BitVec.toNat_ofInt];rfl
def qgu {n:Nat} (h:n<18446744073709551616):n&&&9223372036854775808=if 9223372036854775808<=n then 9223372036854775808 else 0:=by have hb:n&&&9223372036854775808=if n.testBit 63 then 9223372036854775808 else 0:=by{rw[show(9223372036854775808:Nat)=2^63 by decide];apply ON;intro i;rw[La,Co];by_cases c:63=i;{subst c;cases hb:n.testBit 63;{simp};{rw[iP rfl,Co];simp}};{cases hb:n.testBit 63;{simp[c]};{rw[iP rfl,Co];simp[c]}}};have u:n.testBit 63=decide (9223372036854775808<=n):=by{rw[Nat.testBit_eq_decide_div_mod_eq];rw[show(2:Nat)^63=9223372036854775808 by decide];by_cases c:9223372036854775808<=n;{rw[decide_eq_decide];omega};{rw[decide_eq_decide];omega}};rw[hb,u];by_cases c:9223372036854775808<=n;{simp[c]};{simp[c]}
def qbm: ∀(k a b:Nat),a<2^k->b<2^k->a+b=2*(a&&&b)+(a^^^b)
 |0,a,b,G,hb=>by{have:a=0:=by{simpa using G};have:b=0:=by{simpa using hb};subst a;subst b;rfl}
 |k+1,a,b,G,hb=>by have O:=qbm k (a/2) (b/2) (by rw[gx]at G;omega) (by rw[gx]at hb;omega);have e1:(a&&&b)/2=a/2&&&b/2:=Nat.and_div_two;have e2:(a^^^b)/2=a/2^^^b/2:=Nat.xor_div_two;have K:(a&&&b)%2=a%2*(b%2):=by{have h:=Nat.and_mod_two_pow (a:=a) (b:=b) (n:=1);rw[Uw]at h;rw[h];rcases NB a with u|u<;>rcases NB b with h2|h2<;>rw[u,h2]<;>rfl};have J:(a^^^b)%2=(a%2+b%2)%2:=by{have h:=Nat.xor_mod_two_pow (a:=a) (b:=b) (n:=1);rw[Uw]at h;rw[h];rcases NB a with u|u<;>rcases NB b with h2|h2<;>rw[u,h2]<;>rfl};rw[<-e1,<-e2]at O;rcases NB a with u|u<;>rcases NB b with h2|h2<;>rw[u,h2]at K J<;>omega
def qig {a b:Nat} (u:a<18446744073709551616) (hb:b<18446744073709551616):
 (a&&&b)<18446744073709551616/\(a^^^b)<18446744073709551616/\
 (9223372036854775808<=(a&&&b)↔9223372036854775808<=a/\9223372036854775808<=b)/\
 (9223372036854775808<=(a^^^b)↔ ¬(9223372036854775808<=a↔9223372036854775808<=b)):=by have G:(a&&&b)<2^64:=vD Uf u;have h2:(a^^^b)<2^64:=Nat.xor_lt_two_pow u hb;have t: ∀n:Nat,n<18446744073709551616->(9223372036854775808<=n↔n.testBit 63=true):=by{intro n hn;rw[Nat.testBit_eq_decide_div_mod_eq,decide_eq_true_eq,show(2:Nat)^63=9223372036854775808 by decide];omega};refine⟨G,h2,?_,?_⟩;{rw[t _ G,t _ u,t _ hb,La,zK]};{rw[t _ h2,t _ u,t _ hb,Nat.testBit_xor];cases a.testBit 63<;>cases b.testBit 63<;>simp}
def bU (f:Int):Int:=f%9223372036854775808
def bO (f:Int):Int:=if 9223372036854775808<=f then-bU f else bU f
def eP (f:Int):Bool:=decide (9218868437227405312<bU f)
def ig (k:Int):Prop:= -9218868437227405312<=k/\k<=9218868437227405312
instance {k:Int}:Decidable (ig k):=inferInstanceAs (Decidable (_/\_))
def cD (k:Int):Int:=if k<0 then 9223372036854775808-k else k
def cu {f:Int} (h:b7 f):qm .u64 (aJ .u64 f 52) 2047=f/4503599627370496%2048/\qm .u64 f 4503599627370495=f%4503599627370496:=by obtain⟨n,rfl⟩: ∃n:Nat,f=(n:Int):=⟨f.toNat,by have:=h.1;omega⟩;have hn:n<18446744073709551616:=by{have:=h.2;omega};have G:aJ .u64 (n:Int) 52=((n/4503599627370496:Nat):Int):=by{unfold aJ;rw[show min (52:Int).toNat (IntKind.u64.bits)=52 by decide,qdm];rfl};have e2:=ga (a:=n/4503599627370496) (b:=2047) O O;have u:=ga (a:=n) (b:=4503599627370495) hn O;rw[show((2047:Nat):Int)=2047 from rfl,show(2047:Nat)=2^11-1 by decide,ym]at e2;rw[show((4503599627370495:Nat):Int)=4503599627370495 from rfl,show(4503599627370495:Nat)=2^52-1 by decide,ym]at u;rw[G,e2,u];constructor<;>omega
def CR {f:Int} (h:b7 f):qm .u64 f 9223372036854775808=(if 9223372036854775808<=f then 9223372036854775808 else 0)/\Of .u64 f 9223372036854775808=bU f/\
 Zy .u64 f 9223372036854775808=(if 9223372036854775808<=f then f-9223372036854775808 else f+9223372036854775808)/\bf .u64 f 9223372036854775808=bU f+9223372036854775808:=by obtain⟨n,rfl⟩: ∃n:Nat,f=(n:Int):=⟨f.toNat,by have:=h.1;omega⟩;have hn:n<18446744073709551616:=by{have:=h.2;omega};have u:=qgu hn;have hs:=qbm 64 n 9223372036854775808 hn O;obtain⟨p1,K,-,-⟩:=qig hn (show 9223372036854775808<18446744073709551616 by omega);have J:(n^^^9223372036854775808)=if 9223372036854775808<=n then n-9223372036854775808 else n+9223372036854775808:=by{split at u<;>split<;>omega};have ho:(n|||9223372036854775808)=n%9223372036854775808+9223372036854775808:=by{have hl:n%9223372036854775808<2^63:=O;have e:=Nw hl 1;rw[jF]at e;have e2:n|||9223372036854775808=9223372036854775808|||n%9223372036854775808:=by{apply ON;intro i;rw[show(9223372036854775808:Nat)=2^63 by decide];simp only[UK,Co,Nat.testBit_mod_two_pow];by_cases c:i<63;{simp[c,UA]};{by_cases d:63=i;{simp[d]};{have:n.testBit i=false:=Nat.testBit_lt_two_pow (x5 hn (by{rw[show(18446744073709551616:Nat)=2^64 by decide];exact zh O O}));simp[c,d,this]}}};rw[e2];rw[show(9223372036854775808:Nat)=2^63 by decide,<-e];omega};have G:=ga hn (show 9223372036854775808<18446744073709551616 by omega);have n1:(BitVec.ofInt 64 (n:Int)).toNat=n:=ie hn;have n2:(BitVec.ofInt 64 9223372036854775808).toNat=9223372036854775808:=ie (a:=9223372036854775808) O;refine⟨?_,?_,?_,?_⟩;{rw[show((9223372036854775808:Nat):Int)=9223372036854775808 from rfl]at G;rw[G,u];split<;>split<;>omega};{unfold Of bU;show IntKind.wrap .u64 ((BitVec.ofInt 64 (n:Int)&&& ~~~(BitVec.ofInt 64 9223372036854775808)).toNat:Int)=_;have e:(BitVec.ofInt 64 (n:Int)&&& ~~~(BitVec.ofInt 64 9223372036854775808)).toNat=n%9223372036854775808:=by{rw[BitVec.toNat_and,n1,show(~~~(BitVec.ofInt 64 9223372036854775808)).toNat=2^63-1 by decide,ym]};rw[e,wu O O];omega};{unfold Zy;show IntKind.wrap .u64 ((BitVec.ofInt 64 (n:Int)^^^BitVec.ofInt 64 9223372036854775808).toNat:Int)=_;rw[BitVec.toNat_xor,n1,n2,J,wu (by split<;>omega) (by split<;>omega)];split<;>split<;>omega};{unfold bf bU;show IntKind.wrap .u64 ((BitVec.ofInt 64 (n:Int)|||BitVec.ofInt 64 9223372036854775808).toNat:Int)=_;rw[BitVec.toNat_or,n1,n2,ho,wu O O];omega}
def qvc {f:Int} (h:b7 f):9218868437227405312<bU f↔f/4503599627370496%2048=2047/\f%4503599627370496≠0:=by unfold bU;have:=h.1;have:=h.2;omega
def qjz {m:Nat} {f:Int} (h:b7 f): ∃k,CH m f=some (k,(),())/\xQ m f=some (k,(),())/\(k=3↔eP f=true):=by have u:=cu h;have hn:=qvc h;have hl:0<=f/4503599627370496%2048/\f/4503599627370496%2048<2048:=O;unfold eP;rw[decide_eq_true_eq,hn,CH,qE,xQ,u.1,u.2,bS,wQ,wi O O];dsimp only;simp only[aB,aO];generalize f/4503599627370496%2048=a;generalize f%4503599627370496=b;by_cases c:a=2047;{by_cases d:b=0;{exact⟨2,by simp[c,d],by simp[c,d],by simp[c,d]⟩};{exact⟨3,by simp[c,d],by simp[c,d],by simp[c,d]⟩}};{by_cases e:a=0;{by_cases d:b=0;{exact⟨0,by simp[e,d],by simp[e,d],by simp[e,d]⟩};{exact⟨1,by simp[e,d],by simp[e,d],by simp[e,d]⟩}};{exact⟨1,by simp[c,e],by simp[c,e],by simp[c,e]⟩}}
def qml {m:Nat} (hm:10<m) {f:Int} (h:b7 f):sR m [f]=some (eP f,(),()):=by obtain⟨k,G,-,u⟩:=qjz (m:=m) h;obtain⟨j,rfl⟩: ∃j,m=j+2:=⟨m-2,O⟩;rw[sR,gO];simp only[KV,Nx,zH,K7];rw[show(((1:Nat):Int))=1 from rfl,bQ,iP O,iP O];simp only[No,G,bS,aB];by_cases c:k=3;{rw[iP c,bS,u.1 c]};{rw[ae c,wQ,wi O O,gO,bQ,ae O,bS];cases hb:eP f;{rfl};{exact absurd (u.2 hb) c}}
def C6 (f:Int):0<=bU f/\bU f<9223372036854775808:=by unfold bU;omega
def tr (k:Int):Int×Bool×Unit:=if ig k then(cD k,true,())else(0,false,())
def PB {k:Int} (h:ig k):b7 (cD k):=by unfold cD b7;unfold ig at h;split<;>omega
def VY {k:Int} (h:ig k):bO (cD k)=k/\eP (cD k)=false:=by unfold bO cD eP bU;unfold ig at h;by_cases c:k<0;{rw[iP c,iP O];exact⟨O,decide_eq_false O⟩};{rw[ae c,ae O];exact⟨O,decide_eq_false O⟩}
def Vl {f:Int} (h:eP f=false):ig (bO f):=by unfold eP at h;rw[decide_eq_false_iff_not]at h;have:=C6 f;unfold bO ig;split<;>omega
def qw8 {m:Nat} {a b:Int} (ha: -9218868437227405312<=a/\a<=9218868437227405312) (hb: -9218868437227405312<=b/\b<=9218868437227405312):
 FS m a b=some ((a+b)/2,(),(),()):=by obtain⟨x,hx,x1⟩: ∃x:Nat,(a%18446744073709551616).toNat=x/\x<18446744073709551616:=⟨_,rfl,O⟩;obtain⟨y,hy,y1⟩: ∃y:Nat,(b%18446744073709551616).toNat=y/\y<18446744073709551616:=⟨_,rfl,O⟩;have ex:a=if 9223372036854775808<=x then(x:Int)-18446744073709551616 else(x:Int):=by{split<;>omega};have ey:b=if 9223372036854775808<=y then(y:Int)-18446744073709551616 else(y:Int):=by{split<;>omega};obtain⟨p1,p2,p3,p4⟩:=qig x1 y1;have hs:=qbm 64 x y x1 y1;have K:qm .i64 a b=IntKind.wrap .i64 ((x&&&y:Nat):Int):=by{unfold qm;show IntKind.wrap .i64 ((BitVec.ofInt 64 a&&&BitVec.ofInt 64 b).toNat:Int)=_;rw[BitVec.toNat_and,VT,VT,hx,hy]};have J:Zy .i64 a b=IntKind.wrap .i64 ((x^^^y:Nat):Int):=by{unfold Zy;show IntKind.wrap .i64 ((BitVec.ofInt 64 a^^^BitVec.ofInt 64 b).toNat:Int)=_;rw[BitVec.toNat_xor,VT,VT,hx,hy]};have w: ∀n:Nat,n<18446744073709551616->IntKind.wrap .i64 (n:Int)=if 9223372036854775808<=n then(n:Int)-18446744073709551616 else(n:Int):=by{intro n hn;unfold IntKind.wrap;show(if(true&&decide ((n:Int)%18446744073709551616>=9223372036854775808))=true then(n:Int)%18446744073709551616-18446744073709551616 else(n:Int)%18446744073709551616)=_;by_cases c:9223372036854775808<=n;{rw[iP c,iP (by simp;omega)];omega};{rw[ae c,ae (by simp;omega)];omega}};have sh: ∀z:Int,aJ .i64 z 1=z/2:=by{intro z;unfold aJ;rw[show min (1:Int).toNat (IntKind.i64.bits)=1 by decide,qdm];rfl};rw[FS,K,J,sh,w _ p1,w _ p2,wQ];have e:(if 9223372036854775808<=x&&&y then((x&&&y:Nat):Int)-18446744073709551616 else((x&&&y:Nat):Int))+(if 9223372036854775808<=x^^^y then((x^^^y:Nat):Int)-18446744073709551616 else((x^^^y:Nat):Int))/2=(a+b)/2:=by{by_cases u:9223372036854775808<=x<;>by_cases G:9223372036854775808<=y;{rw[iP u]at ex;rw[iP G]at ey;rw[iP (p3.2 ⟨u,G⟩),ae (λh=>p4.1 h ⟨λ_=>G,λ_=>u⟩)];omega};{rw[iP u]at ex;rw[ae G]at ey;rw[ae (λh=>G (p3.1 h).2),iP (p4.2 (λh=>G (h.1 u)))];omega};{rw[ae u]at ex;rw[iP G]at ey;rw[ae (λh=>u (p3.1 h).1),iP (p4.2 (λh=>u (h.2 G)))];omega};{rw[ae u]at ex;rw[ae G]at ey;rw[ae (λh=>u (p3.1 h).1),ae (λh=>p4.1 h ⟨λh=>absurd h u,λh=>absurd h G⟩)];omega}};rw[e,wi O O]
def q58 {m:Nat} (hm:10<m) {k:Int} (h:CJ k):xO m k=some (tr k,(),()):=by unfold CJ at h;unfold tr cD;rw[xO];simp only[bQ,wQ];by_cases c:k< -9218868437227405312;{rw[iP c,ae (show¬ig k by unfold ig;omega)]};{by_cases d:9218868437227405312<k;{rw[ae c,iP d,ae (show¬ig k by unfold ig;omega)]};{rw[ae c,ae d,iP (show ig k by unfold ig;omega)];by_cases e:k<0;{have u:b7 (0-k):=by{unfold b7;omega};rw[iP e,iP e,wi O O,show wJ (0-k)=0-k from wu O O,MU,qml hm u,bS,(CR u).2.2.1];have:eP (0-k)=false:=by{unfold eP bU;exact decide_eq_false O};rw[this,cond_false,bS,ae O];congr 3;omega};{rw[ae e,ae e,show wJ k=k from wu O O]}}}
def q8g {f:Int} (h:b7 f):fi f=3↔eP f=true:=by obtain⟨k,u,h2,G⟩:=qjz (m:=0) h;have:=(Lx (m:=0) h).1;rw[this]at u;have e:fi f=k:=by{injection u with u;exact congrArg Prod.fst u};rw[e];exact G
def VB:ig (-9218868437227405312)/\ig 9218868437227405312:=by unfold ig;omega
def gv (k:Nat):Nat:=if k/4503599627370496=0 then k else(k%4503599627370496+4503599627370496)*2^(k/4503599627370496-1)
def pw {k l:Nat} (h:k<l):gv k<gv l:=by unfold gv;by_cases c1:k/4503599627370496=0;{rw[iP c1];by_cases c2:l/4503599627370496=0;{rw[iP c2];exact h};{rw[ae c2];have:=OB (l%4503599627370496+4503599627370496) (dU (n:=l/4503599627370496-1) (show 0<2 by decide));omega}};{rw[ae c1,ae O];by_cases c2:k/4503599627370496=l/4503599627370496;{rw[c2];exact NG O (dU (by decide))};{have G:2^(l/4503599627370496-1)=2^(k/4503599627370496-1)*2*2^(l/4503599627370496-1-(k/4503599627370496-1)-1):=by{rw[<-Nat.pow_succ,<-Nat.pow_add];congr 1;omega};have J:(k%4503599627370496+4503599627370496)*2^(k/4503599627370496-1)<4503599627370496*(2^(k/4503599627370496-1)*2):=by{have u:=dU (n:=k/4503599627370496-1) (show 0<2 by decide);have:(k%4503599627370496+4503599627370496)*2^(k/4503599627370496-1)<(4503599627370496*2)*2^(k/4503599627370496-1):=NG O u;rw[zV,zY 2]at this;exact this};have h2:4503599627370496*(2^(k/4503599627370496-1)*2)<=(l%4503599627370496+4503599627370496)*2^(l/4503599627370496-1):=by{rw[G];refine qK O ?_;exact OB _ (dU (by decide))};omega}}
def wh {k l:Nat} (h:k<=l):gv k<=gv l:=by rcases gq k l with c|c;{exact uh (pw c)};{rw[Nat.le_antisymm h c];exact zI _}
def PR {f:Int} (h:b7 f) (J:aS f):aE f=if 9223372036854775808<=f then-((gv (bU f).toNat:Nat):Int)else((gv (bU f).toNat:Nat):Int):=by obtain⟨k,u⟩: ∃k:Nat,bU f=(k:Int):=⟨(bU f).toNat,by have:=C6 f;omega⟩;have G:de f=((k/4503599627370496:Nat):Int):=by{unfold de;unfold bU at u;omega};have e2:eW f=((k%4503599627370496:Nat):Int):=by{unfold eW;unfold bU at u;omega};rw[u,tN];unfold aE sc tW qQ iD gv;rw[G,e2];have key: ∀s:Int,s*(if((k/4503599627370496:Nat):Int)=0 then((k%4503599627370496:Nat):Int)else((k%4503599627370496:Nat):Int)+4503599627370496)*2^((if((k/4503599627370496:Nat):Int)=0 then-1074 else((k/4503599627370496:Nat):Int)-1075)- -1074).toNat=s*(((if k/4503599627370496=0 then k else(k%4503599627370496+4503599627370496)*2^(k/4503599627370496-1)):Nat):Int):=by{intro s;by_cases c:k/4503599627370496=0;{rw[iP O,iP O,iP c,show((-1074:Int)- -1074).toNat=0 by decide,UC,Nn];congr 2;omega};{rw[ae O,ae O,ae c,OD,oZ,oJ];congr 2;{congr 1;omega}}};by_cases c:9223372036854775808<=f;{rw[decide_eq_true c,iP c,iP rfl,key,Int.neg_one_mul]};{rw[decide_eq_false c,ae c,ae (by decide),key,Ux]}
def PS {f:Int} (h:b7 f):aS f↔bU f<9218868437227405312:=by unfold aS de bU;obtain⟨u,h2⟩:=h;omega
def qwl {f:Int} (h:b7 f) (u:aS f):eP f=false:=by have:=(PS h).1 u;unfold eP;exact decide_eq_false O
def qy9 {x y:Int} (G:b7 x) (hy:b7 y) (fx:aS x) (K:aS y) (h:bO x<bO y):aE x<aE y:=by rw[PR G fx,PR hy K];have hl:=C6 x;have hm:=C6 y;unfold bO at h;have u: ∀k:Nat,0<k->0<gv k:=λk J=>vD (lM _) (pw J);by_cases c:9223372036854775808<=x;{rw[iP c]at h⊢;by_cases d:9223372036854775808<=y;{rw[iP d]at h⊢;have:=pw (k:=(bU y).toNat) (l:=(bU x).toNat) O;omega};{rw[ae d]at h⊢;by_cases e:bU x=0;{have:=u (bU y).toNat O;omega};{have:=u (bU x).toNat O;omega}}};{rw[ae c]at h⊢;by_cases d:9223372036854775808<=y;{rw[iP d]at h;omega};{rw[ae d]at h⊢;have:=pw (k:=(bU x).toNat) (l:=(bU y).toNat) O;omega}}
end Go.Vs.F
set_option maxRecDepth 100000
namespace Go.Vs.F
def dT (V:Nat):Nat:=ak V-53
def qR (V:Nat):Nat:=dT V*4503599627370496+V/2^dT V
def CE (V:Nat):Nat:=dT V*4503599627370496+(if V%2^dT V=0 then V/2^dT V else V/2^dT V+1)
def qmt {n N:Nat} (h:N<=9007199254740992) (h2:4503599627370496<=N\/n=0):gv (n*4503599627370496+N)=N*2^n:=by unfold gv;by_cases c:N<4503599627370496;{have hn:n=0:=O;subst hn;rw[iP O,yi,zH,yj,jF]};{by_cases d:N=9007199254740992;{subst d;have u:(n*4503599627370496+9007199254740992)/4503599627370496=n+2:=O;have e2:(n*4503599627370496+9007199254740992)%4503599627370496=0:=O;rw[u,e2,ae O,zH,show n+2-1=n+1 by omega,gx];omega};{have u:(n*4503599627370496+N)/4503599627370496=n+1:=O;have e2:(n*4503599627370496+N)%4503599627370496=N-4503599627370496:=O;rw[u,e2,ae O,show n+1-1=n by omega];congr 1;omega}}
def Ho {V:Nat} (hV:V≠0):V/2^dT V<9007199254740992/\(4503599627370496<=V/2^dT V\/dT V=0):=by have J:=Yk V;have h2:=N7 hV;have u:(2:Nat)^53=9007199254740992:=by{decide};have G:(2:Nat)^52=4503599627370496:=by{decide};constructor;{rw[Cp (dU O),<-u,<-Nat.pow_add];refine x5 J (zh O ?_);unfold dT;omega};{by_cases c:dT V=0;{exact .inr c};{left;rw[K5 (dU O),<-G,<-Nat.pow_add];refine zQ (zh O ?_) h2;unfold dT at*;omega}}
def qu7 {V:Nat} (hV:V≠0):gv (qR V)=V/2^dT V*2^dT V/\gv (qR V+1)=(V/2^dT V+1)*2^dT V:=by obtain⟨u,h2⟩:=Ho hV;refine⟨qmt O h2,?_⟩;have:qR V+1=dT V*4503599627370496+(V/2^dT V+1):=by{unfold qR;omega};rw[this];exact qmt O O
def Vo {V:Nat} (hV:V≠0) (l:Nat):gv l<=V↔l<=qR V:=by obtain⟨K,h2⟩:=qu7 hV;have J:=Nq V (2^dT V);have G:V<(V/2^dT V+1)*2^dT V:=by{have:=Nat.lt_mul_div_succ V (dU (n:=dT V) (show 0<2 by decide));rwa [zY]at this};constructor;{intro h;refine ue λu=> ?_;have:=wh (k:=qR V+1) (l:=l) u;omega};{intro h;have:=wh h;omega}
def XU {V:Nat} (hV:V≠0) (l:Nat):V<=gv l↔CE V<=l:=by have h0:=Vo hV;obtain⟨G,h2⟩:=qu7 hV;have K:=vB V (2^dT V);have e:CE V=if V%2^dT V=0 then qR V else qR V+1:=by{unfold CE qR;split<;>omega};rw[e];by_cases c:V%2^dT V=0;{rw[iP c];have hv:gv (qR V)=V:=by{rw[G,zY];omega};constructor;{intro h;refine ue λu=> ?_;have:=pw u;omega};{intro h;have:=wh h;omega}};{rw[ae c];have J:gv (qR V)≠V:=by{rw[G,zY];omega};constructor;{intro h;refine Nat.lt_of_not_le λhle=> ?_;have a1:=(h0 l).2 hle;have a2:gv l=V:=O;have a3:=wh hle;have a4:=(h0 (qR V)).2 (zI _);omega};{intro h;refine ue λu=> ?_;have:=(h0 l).1 (uh u);omega}}
def iY (neg:Bool) (mode:Int):Bool:=if mode=1 then neg else !neg
def xm (neg:Bool) (mode:Int) (V:Nat):Nat:=if iY neg mode then min (CE V) 9218868437227405312 else min (qR V) 9218868437227405311
def qln {neg:Bool} {v:Nat} (hv:v≠0) {e:Int} (he: -1074<=e) (e0:ak v<=100000) (g0:e<=100000) {mode:Int} (hm:mode=1\/mode=2):Yz neg v e false mode=gd neg ((xm neg mode (v*2^(e+1074).toNat):Nat):Int):=by
 generalize hV:v*2^(e+1074).toNat=V
 have d0:V≠0:=by rw[<-hV];exact Nat.mul_ne_zero hv (by have:=dU (n:=(e+1074).toNat) (show 0<2 by decide);omega)
 have c0:ak V=(e+1074).toNat+ak v:=by rw[<-hV,zY];exact Xw hv
 have i0:1<=ak v:=by rw[X6 hv];omega
 obtain⟨n1,n2⟩:=Ho d0;have hunit:aY v e=(dT V:Int)-1074:=by unfold aY dT;rw[c0];omega
 have hmult:d9 neg v e false mode=if iY neg mode then(if V%2^dT V=0 then V/2^dT V else V/2^dT V+1)else V/2^dT V:=by
  unfold d9;by_cases c:aY v e<=e
  . rw[iP c]
    have u:V=v*2^(e-aY v e).toNat*2^dT V:=by
     have h1:(e+1074).toNat=(e-aY v e).toNat+dT V:=O;rw[h1,qM,<-Nat.mul_assoc]at hV;exact hV.symm
    have K:=dU (n:=dT V) (show 0<2 by decide)
    have J:V/2^dT V=v*2^(e-aY v e).toNat:=by
     conv=>lhs;arg 1;rw[u]
     exact Ur _ K
    have G:V%2^dT V=0:=by
     conv=>lhs;arg 1;rw[u]
     exact Nat.mul_mod_left ..
    rw[G,iP rfl,J];split<;>rfl
  . rw[ae c];have K:=dU (n:=(e+1074).toNat) (show 0<2 by decide)
    have hn:dT V=(aY v e-e).toNat+(e+1074).toNat:=O
    have J:V/2^dT V=v/2^(aY v e-e).toNat:=by
     rw[hn,<-hV,qM,Uu _ _ K]
    have G:(V%2^dT V=0)↔v%2^(aY v e-e).toNat=0:=by
     rw[hn,<-hV,qM,Nat.mul_mod_mul_right];constructor
     . intro h;rcases UM.1 h with h|h
       . exact h
       . omega
     . intro h;rw[h,yi]
    unfold gU;rw[J];by_cases c2:v%2^(aY v e-e).toNat=0
    . rw[iP ⟨c2,rfl⟩,iP (G.2 c2)];split<;>rfl
    . rw[ae (λh=>c2 h.1),ae (λh=>c2 (G.1 h))]
      have hu: ∀h o,tT neg h o mode=iY neg mode:=by
       intro h o;unfold tT iY;rcases hm with rfl|rfl
       . rw[iP rfl,iP rfl]
       . rw[ae (by decide),iP rfl,ae (by decide)]
      rw[hu];cases iY neg mode<;>rfl
 have hover:fT neg mode=gd neg (if iY neg mode then 9218868437227405312 else 9218868437227405311):=by
  unfold fT iY;rcases hm with rfl|rfl<;>cases neg<;>rfl
 unfold Yz;rw[hmult,hunit]
 have hpack: ∀N:Nat,N<=9007199254740992->(4503599627370496<=N\/dT V=0)->iK neg N ((dT V:Int)-1074) mode=if dT V*4503599627370496+N<9218868437227405312 then gd neg ((dT V*4503599627370496+N:Nat):Int)else fT neg mode:=by
  intro N hN j0;unfold iK;by_cases c1:N=9007199254740992
  . rw[iP c1];by_cases c2:(dT V:Int)-1074+1076>=2047
    . rw[iP c2,ae O]
    . rw[ae c2,iP O];congr 1;omega
  . rw[ae c1];by_cases c3:N<4503599627370496
    . rw[iP c3,iP O];congr 2;omega
    . rw[ae c3];by_cases c2:(dT V:Int)-1074+1075>=2047
      . rw[iP c2,ae O]
      . rw[ae c2,iP O];congr 1;omega
 unfold xm;cases ha:iY neg mode
 . rw[ha]at hover;simp only[GH,if_false]at hover⊢;rw[hpack _ O n2,hover];unfold qR;by_cases c:dT V*4503599627370496+V/2^dT V<9218868437227405312
   . rw[iP c,K9 O]
   . rw[ae c,Nat.min_eq_right O];rfl
 . rw[ha]at hover;simp only[if_true]at hover⊢
   have key: ∀N,N<=9007199254740992->(4503599627370496<=N\/dT V=0)->iK neg N ((dT V:Int)-1074) mode=gd neg ((min (dT V*4503599627370496+N) 9218868437227405312:Nat):Int):=by
    intro N a1 a2;rw[hpack N a1 a2,hover];by_cases c:dT V*4503599627370496+N<9218868437227405312
    . rw[iP c,K9 O]
    . rw[ae c,Nat.min_eq_right O];rfl
   unfold CE;by_cases c:V%2^dT V=0
   . rw[iP c];exact key _ O n2
   . rw[ae c];exact key _ O O
def qag {z:Int} (hz:z≠0) (hb:ak z.natAbs<=10000) {mode:Int} (hm:mode=1\/mode=2):Xp (ax z (-1074)) mode=gd (decide (z<0)) ((xm (decide (z<0)) mode z.natAbs:Nat):Int):=by have u:cd z (-1074):=X3 hb O O;obtain⟨w,f,k⟩:=u.nf;have hw:w≠0:=by{rintro rfl;have:=k.eq.low (c:=min f (-1074)) O O;unfold sc at this;rw[xe]at this;rcases Int.mul_eq_zero.1 this.symm with h|h;{exact hz h};{have:=Jy (-1074-min f (-1074)).toNat;omega}};have hf:f= -1074+(tz z.natAbs:Int):=by{have:=BV u hz;rw[k.md]at this;exact this};have hs:w*2^(f+1074).toNat=z:=by{have:=k.eq.low (c:= -1074) O O;rw[VD]at this;unfold sc at this;rw[show f- -1074=f+1074 by omega]at this;exact this};have hN:z.natAbs=w.natAbs*2^(f+1074).toNat:=by{rw[<-hs,X7,zY]};have G:decide (w<0)=decide (z<0):=by{rw[<-hs,decide_eq_decide];exact q59.symm};have hl:lim w.natAbs≠[]:=λh=>hw (by have:=Yp.1 h;omega);have J:=QO (n:=z.natAbs);have K:ak w.natAbs<=10000:=by{refine zQ (Xi ?_) hb;rw[hN];exact OB _ (dU (by decide))};unfold Xp;rw[k.md];dsimp only;rw[ae (by decide),ae hl,qo,qln (v:=w.natAbs) O O O O hm,<-hN,G]
end Go.Vs.F
set_option maxRecDepth 100000
namespace Go.Vs.F
def jE (z:Int):Int:=Xp (ax z (-1074)) 1
def i6 (z:Int):Int:=Xp (ax z (-1074)) 2
def N3 {g:Int} (u:b7 g) (G:aS g): ∃l:Nat,l<9218868437227405312/\((bO g=(l:Int)/\aE g=((gv l:Nat):Int))\/(bO g= -(l:Int)/\aE g= -((gv l:Nat):Int))):=by have J:=(PS u).1 G;have h2:=C6 g;refine⟨(bU g).toNat,O,?_⟩;rw[PR u G];unfold bO;by_cases c:9223372036854775808<=g;{rw[iP c,iP c];exact .inr ⟨O,rfl⟩};{rw[ae c,ae c];exact .inl ⟨O,rfl⟩}
def YQ:gv 0=0:=rfl
def qug {l:Nat} (h:0<l):0<gv l:=vD (lM _) (pw h)
def qey {k:Nat} (h:k<9223372036854775808):b7 (k:Int)/\bO (k:Int)=(k:Int)/\bU (k:Int)=(k:Int):=by have u:bU (k:Int)=(k:Int):=by{unfold bU;omega};refine⟨⟨O,O⟩,?_,u⟩;unfold bO;rw[ae O,u]
def q9e {k:Nat} (h:k<9223372036854775808):b7 ((k:Int)+9223372036854775808)/\bO ((k:Int)+9223372036854775808)= -(k:Int)/\bU ((k:Int)+9223372036854775808)=(k:Int):=by have u:bU ((k:Int)+9223372036854775808)=(k:Int):=by{unfold bU;omega};refine⟨⟨O,O⟩,?_,u⟩;unfold bO;rw[iP O,u]
structure Rd (f:Int):Prop where
 u:b7 f
 nan:eP f=false
 nz:f≠9223372036854775808
def Rd.eq {f g:Int} (u:Rd f) (h2:Rd g) (h:bO f=bO g):f=g:=by obtain⟨⟨a1,a2⟩,_,J⟩:=u;obtain⟨⟨b1,b2⟩,_,G⟩:=h2;unfold bO bU at h;split at h<;>split at h<;>omega
def qpi {V:Nat} (h:V≠0):1<=qR V:=(Vo h 1).1 (by show 1<=V;omega)
def qq0 {V:Nat} (h:V≠0):1<=CE V:=by rcases gq (CE V) 1 with c|c;{have:=(XU h 0).2 O;rw[YQ]at this;omega};{exact c}
def qjk {neg:Bool} {mode:Int} {V:Nat} (h:iY neg mode=true):xm neg mode V=min (CE V) 9218868437227405312:=iP h
def qtj {neg:Bool} {mode:Int} {V:Nat} (h:iY neg mode=false):xm neg mode V=min (qR V) 9218868437227405311:=ae (by rw[h];decide)
def quq (f:Int):gd true f=f+9223372036854775808:=iP rfl
def qui (f:Int):gd false f=f:=ae (by decide)
def qpp:jE 0=0:=by unfold jE Xp;rw[qbs];rfl
def qo0:i6 0=0:=by unfold i6 Xp;rw[qbs];rfl
def G0 {z:Int} (hb:ak z.natAbs<=10000):Rd (jE z)/\bO (jE z)<9218868437227405312/\ ∀g,b7 g->aS g->(aE g<=z↔bO g<=bO (jE z)):=by by_cases hz:z=0;{subst hz;rw[qpp];refine⟨⟨⟨by decide,by decide⟩,by decide,by decide⟩,by decide,λg K fg=> ?_⟩;have hk:bO 0=0:=by{decide};rw[hk];obtain⟨l,_,⟨h1,h2⟩|⟨h1,h2⟩⟩:=N3 K fg;{rw[h1,h2];by_cases c:l=0;{subst c;rw[YQ]};{have:=qug (l:=l) O;omega}};{rw[h1,h2];omega}};{unfold jE;rw[qag hz hb (.inl rfl)];by_cases hn:z<0;{rw[decide_eq_true hn];have hV:z.natAbs≠0:=O;have hk:xm true 1 z.natAbs=min (CE z.natAbs) 9218868437227405312:=qjk rfl;have h1:=qq0 hV;obtain⟨k1,J,k3⟩:=q9e (k:=xm true 1 z.natAbs) O;rw[quq];refine⟨⟨k1,?_,O⟩,by rw[J];omega,λg K fg=> ?_⟩;{unfold eP;rw[k3];exact decide_eq_false O};{rw[J];obtain⟨l,hl,⟨G,u⟩|⟨G,u⟩⟩:=N3 K fg;{rw[G,u];omega};{have:=XU hV l;rw[G,u];constructor;{intro h;have:=this.1 O;omega};{intro h;have:=this.2 O;omega}}}};{rw[decide_eq_false hn];have hV:z.natAbs≠0:=O;have hk:xm false 1 z.natAbs=min (qR z.natAbs) 9218868437227405311:=qtj rfl;have h1:=qpi hV;obtain⟨k1,J,k3⟩:=qey (k:=xm false 1 z.natAbs) O;rw[qui];refine⟨⟨k1,?_,O⟩,by rw[J];omega,λg K fg=> ?_⟩;{unfold eP;rw[k3];exact decide_eq_false O};{rw[J];obtain⟨l,hl,⟨G,u⟩|⟨G,u⟩⟩:=N3 K fg;{have:=Vo hV l;rw[G,u];constructor;{intro h;have:=this.1 O;omega};{intro h;have:=this.2 O;omega}};{rw[G,u];omega}}}}
def G2 {z:Int} (hb:ak z.natAbs<=10000):Rd (i6 z)/\ -9218868437227405312<bO (i6 z)/\ ∀g,b7 g->aS g->(z<=aE g↔bO (i6 z)<=bO g):=by by_cases hz:z=0;{subst hz;rw[qo0];refine⟨⟨⟨by decide,by decide⟩,by decide,by decide⟩,by decide,λg K fg=> ?_⟩;have hk:bO 0=0:=by{decide};rw[hk];obtain⟨l,_,⟨h1,h2⟩|⟨h1,h2⟩⟩:=N3 K fg;{rw[h1,h2];omega};{rw[h1,h2];by_cases c:l=0;{subst c;rw[YQ]};{have:=qug (l:=l) O;omega}}};{unfold i6;rw[qag hz hb (.inr rfl)];by_cases hn:z<0;{rw[decide_eq_true hn];have hV:z.natAbs≠0:=O;have hk:xm true 2 z.natAbs=min (qR z.natAbs) 9218868437227405311:=qtj rfl;have h1:=qpi hV;obtain⟨k1,J,k3⟩:=q9e (k:=xm true 2 z.natAbs) O;rw[quq];refine⟨⟨k1,?_,O⟩,by rw[J];omega,λg K fg=> ?_⟩;{unfold eP;rw[k3];exact decide_eq_false O};{rw[J];obtain⟨l,hl,⟨G,u⟩|⟨G,u⟩⟩:=N3 K fg;{rw[G,u];omega};{have:=Vo hV l;rw[G,u];constructor;{intro h;have:=this.1 O;omega};{intro h;have:=this.2 O;omega}}}};{rw[decide_eq_false hn];have hV:z.natAbs≠0:=O;have hk:xm false 2 z.natAbs=min (CE z.natAbs) 9218868437227405312:=qjk rfl;have h1:=qq0 hV;obtain⟨k1,J,k3⟩:=qey (k:=xm false 2 z.natAbs) O;rw[qui];refine⟨⟨k1,?_,O⟩,by rw[J];omega,λg K fg=> ?_⟩;{unfold eP;rw[k3];exact decide_eq_false O};{rw[J];obtain⟨l,hl,⟨G,u⟩|⟨G,u⟩⟩:=N3 K fg;{have:=XU hV l;rw[G,u];constructor;{intro h;have:=this.1 O;omega};{intro h;have:=this.2 O;omega}};{rw[G,u];omega}}}}
def PM {f:Int} (h:b7 f):aS f↔ -9218868437227405312<bO f/\bO f<9218868437227405312:=by rw[PS h];have:=C6 f;unfold bO;split<;>omega
def qqk {z y:Int} (hz:ak z.natAbs<=10000) (hy:ak y.natAbs<=10000) (h:z<=y):bO (jE z)<=bO (jE y):=by obtain⟨u,r2,K⟩:=G0 hz;obtain⟨s1,s2,J⟩:=G0 hy;have i1:=Vl u.nan;have i2:=Vl s1.nan;unfold ig at i1 i2;by_cases c: -9218868437227405312<bO (jE z);{have G:=(PM u.u).2 ⟨c,r2⟩;have:=(K _ u.u G).2 (ug _);exact(J _ u.u G).1 O};{omega}
def qp6 {z y:Int} (hz:ak z.natAbs<=10000) (hy:ak y.natAbs<=10000) (h:z<=y):bO (i6 z)<=bO (i6 y):=by obtain⟨K,r2,J⟩:=G2 hz;obtain⟨s1,s2,G⟩:=G2 hy;have i1:=Vl K.nan;have i2:=Vl s1.nan;unfold ig at i1 i2;by_cases c:bO (i6 y)<9218868437227405312;{have u:=(PM s1.u).2 ⟨s2,c⟩;have:=(G _ s1.u u).2 (ug _);exact(J _ s1.u u).1 O};{omega}
end Go.Vs.F
set_option maxRecDepth 100000
namespace Go.Vs.F
def qsb {m:Nat} (hm:10<m) {a b:Int} (G:b7 a) (hb:b7 b) (J:eP a=false) (u:eP b=false):sR m [a,b]=some (false,(),()):=by obtain⟨j,rfl⟩: ∃j,m=j+3:=⟨m-3,O⟩;have k1:fi a≠3:=by{rw[Ne,q8g G,J];simp};have K:fi b≠3:=by{rw[Ne,q8g hb,u];simp};have l2:(([a,b]:LI).length:Int)=2:=rfl;rw[sR,l2,gO,bQ,iP O,l2,iP O];rw[show([a,b]:LI).getD (0:Int).toNat 0=a from rfl,(Lx G).1,bS,aB,ae k1,show wI (0+1)=1 from by decide];rw[gO,bQ,iP O,l2,iP O];rw[show([a,b]:LI).getD (1:Int).toNat 0=b from rfl,(Lx hb).1,bS,aB,ae K,show wI (1+1)=2 from by decide];rw[gO,bQ,ae O,bS]
def qer {m:Nat} {f:Int} (h:b7 f):AI m f=some (bO f,(),()):=by have u:=CR h;have hl:=C6 f;rw[AI,q3d h,bS,u.2.1];dsimp only;unfold bO iD;by_cases d:9223372036854775808<=f;{rw[decide_eq_true d,cond_true,iP d,wQ,wQ,wi (n:=bU f) O O,wi O O,Int.zero_sub]};{rw[decide_eq_false d,cond_false,ae d,wQ,wi O O]}
def kc (x y:Int):Int:=if x<y then-1 else if x>y then 1 else 0
def G6 {m:Nat} (hm:10<m) {a b:Int} (u:Rd a) (hb:Rd b):eS m a b=some ((kc (bO a) (bO b),true,()),(),(),()):=by rw[eS,qsb hm u.u hb.u u.nan hb.nan,bS,cond_false,qer u.u,qer hb.u,bS,bS,bQ,bQ];dsimp only;unfold kc;split;{rfl};{split<;>rfl}
def Nh {f:Int} (h:b7 f) (J:aS f):b7 (bU f)/\aS (bU f)/\aE (bU f)=((aE f).natAbs:Int):=by have hl:=C6 f;have u:b7 (bU f):=⟨O,O⟩;have G:bU (bU f)=bU f:=by{unfold bU;omega};have K:aS (bU f):=by{rw[PS u,G];exact(PS h).1 J};refine⟨u,K,?_⟩;rw[PR u K,PR h J,G,ae O];split<;>omega
def LH {m:Nat} (hm:10<m) {f:Int} (h:b7 f) (u:aS f):xP m f=some (bU f,(),()):=by rw[xP,qml hm h,bS,qwl h u,cond_false,(CR h).2.1]
def yF {m:Nat} (hm:5000000000<=m) {z:Int} (hb:ak z.natAbs<=10000):A1 m (ax z (-1074)).1 (ax z (-1074)).2.1 (ax z (-1074)).2.2.1 (ax z (-1074)).2.2.2.1=some (ax (z.natAbs:Int) (-1074),(),()):=by have u:cd z (-1074):=X3 hb O O;obtain⟨w,f,k,k1,k2,K⟩:=X5 u;have G:(ax z (-1074)).1=false:=u;have n1:=k.len;have c0:=k.lo;have d0:=k.hi;rw[A1,X9 O,bS];dsimp only;rw[G,cond_false,k1,k2,K,N2 O k.Sz,bS,aM];dsimp only;rw[Jw O (by rw[jy];omega) O O,bS];have e:cW (w.natAbs:Int) f (z.natAbs:Int) (-1074):=by{obtain⟨b,b1,b2,J⟩:=k.eq;refine⟨b,b1,b2,?_⟩;unfold sc at J⊢;have h:=congrArg Int.natAbs J;rw[X7,X7]at h;have h2:=congrArg (λn:Nat=>(n:Int)) h;rw[K2,K2 (z.natAbs:Int)];rw[oZ,oZ,oJ,oJ]at h2;exact h2};rw[e.mk]
def dB (d e:LI):Nat->Int
 |0=>0
 |i+1=>if i=0 then rB d e 0 else if rB d e i<dB d e i then rB d e i else dB d e i
def cU (d e:LI):Nat->Int
 |0=>0
 |i+1=>if i=0 then rS d e 0 else if cU d e i<rS d e i then rS d e i else cU d e i
section
variable {m:Nat} (hm:5000000000<=m) {d e:LI} (hd:cf d) (he:cf e) (hle:e.length=d.length-1) (hl:d.length<=1000)
include hm hd he hle hl
theorem Jv {i:Nat} (u:i<e.length):ak ((ki e i).natAbs:Int).natAbs<=2098:=by rw[jy];exact Zu (he i u).2
theorem Vx {i:Nat} (u:i<d.length):ak (oI e i).natAbs<=2099:=by unfold oI;refine Y0 ?_ ?_;{by_cases c:0<i;{rw[iP c];exact Jv hm hd he hle hl O};{rw[ae c];decide}};{by_cases c:i<e.length;{rw[iP c];exact Jv hm hd he hle hl c};{rw[ae c];decide}}
theorem PH {i:Nat} (u:i<d.length):ak (rB d e i).natAbs<=2100:=qht (zQ (Zu (hd i u).2) (by decide)) (Vx hm hd he hle hl u)
theorem PI {i:Nat} (u:i<d.length):ak (rS d e i).natAbs<=2100:=Y0 (zQ (Zu (hd i u).2) (by decide)) (Vx hm hd he hle hl u)
theorem N0: ∀{i:Nat},i<=d.length->ak (dB d e i).natAbs<=2100
 |0,_=>by first|(rw[dB];decide)|(rw[cU];decide)
 |i+1,h=>by unfold dB;split;{exact PH hm hd he hle hl O};{split;{exact PH hm hd he hle hl O};{exact N0 O}}
theorem NX: ∀{i:Nat},i<=d.length->ak (cU d e i).natAbs<=2100
 |0,_=>by first|(rw[dB];decide)|(rw[cU];decide)
 |i+1,h=>by unfold cU;split;{exact PI hm hd he hle hl O};{split;{exact PI hm hd he hle hl O};{exact NX O}}
theorem qvz {i:Nat} (h0:i≠0) (G:i<d.length):(if kc (bO (jE (rB d e i))) (bO (jE (dB d e i)))<0 then jE (rB d e i)else jE (dB d e i))=jE (dB d e (i+1)):=by have a:=PH hm hd he hle hl G;have b:=N0 hm hd he hle hl (i:=i) O;rw[dB,ae h0];by_cases c:bO (jE (rB d e i))<bO (jE (dB d e i));{have u:rB d e i<dB d e i:=by{refine Int.lt_of_not_ge λh=> ?_;have:=qqk O O h;omega};rw[iP (by unfold kc;rw[iP c];decide),iP u]};{rw[ae (by unfold kc;rw[ae c];split<;>decide)];by_cases u:rB d e i<dB d e i;{rw[iP u];have:=qqk O O (K3 u);exact Rd.eq (G0 O).1 (G0 O).1 O};{rw[ae u]}}
theorem qwi {i:Nat} (h0:i≠0) (G:i<d.length):(if kc (bO (i6 (rS d e i))) (bO (i6 (cU d e i)))>0 then i6 (rS d e i)else i6 (cU d e i))=i6 (cU d e (i+1)):=by have a:=PI hm hd he hle hl G;have b:=NX hm hd he hle hl (i:=i) O;rw[cU,ae h0];by_cases c:bO (i6 (rS d e i))>bO (i6 (cU d e i));{have u:cU d e i<rS d e i:=by{refine Int.lt_of_not_ge λh=> ?_;have:=qp6 O O h;omega};rw[iP (by unfold kc;rw[ae O,iP c];decide),iP u]};{rw[ae (by unfold kc;rw[ae c];split<;>decide)];by_cases u:cU d e i<rS d e i;{rw[iP u];have:=qp6 O O (K3 u);exact Rd.eq (G2 O).1 (G2 O).1 O};{rw[ae u]}}
theorem vS {a b:Int} (u:ak a.natAbs<=10000) (hb:ak b.natAbs<=10000):iA m (ax a (-1074)).1 (ax a (-1074)).2.1 (ax a (-1074)).2.2.1 (ax a (-1074)).2.2.2.1 (ax b (-1074)).1 (ax b (-1074)).2.1 (ax b (-1074)).2.2.1 (ax b (-1074)).2.2.2.1=some (ax (a+b) (-1074),(),(),()):=by rw[qp1 O,iP ⟨X3 u O O,X3 hb O O⟩]
theorem QQ {a b:Int} (u:ak a.natAbs<=10000) (hb:ak b.natAbs<=10000):ud m (ax a (-1074)).1 (ax a (-1074)).2.1 (ax a (-1074)).2.2.1 (ax a (-1074)).2.2.2.1 (ax b (-1074)).1 (ax b (-1074)).2.1 (ax b (-1074)).2.2.1 (ax b (-1074)).2.2.2.1=some (ax (a-b) (-1074),(),(),()):=by rw[Lz O,iP ⟨X3 u O O,X3 hb O O⟩]
theorem vM {a b:Int} (u:ak a.natAbs<=10000) (hb:ak b.natAbs<=10000):oO m (ax a (-1074)).1 (ax a (-1074)).2.1 (ax a (-1074)).2.2.1 (ax a (-1074)).2.2.2.1 (ax b (-1074)).1 (ax b (-1074)).2.1 (ax b (-1074)).2.2.1 (ax b (-1074)).2.2.2.1=some (ax (a+b) (-1074),(),(),()):=by rw[Z0 O,iP ⟨X3 u O O,X3 hb O O⟩]
theorem O8 {a b:Int} (u:ak a.natAbs<=10000) (hb:ak b.natAbs<=10000):sX m (ax a (-1074)).1 (ax a (-1074)).2.1 (ax a (-1074)).2.2.1 (ax a (-1074)).2.2.2.1 (ax b (-1074)).1 (ax b (-1074)).2.1 (ax b (-1074)).2.2.1 (ax b (-1074)).2.2.2.1=some (ax (a-b) (-1074),(),(),()):=by rw[ZR O,iP ⟨X3 u O O,X3 hb O O⟩]
theorem qu8 {a b:Int} (u:ak a.natAbs<=10000) (hb:ak b.natAbs<=10000):kt m (ax a (-1074)).1 (ax a (-1074)).2.1 (ax a (-1074)).2.2.1 (ax a (-1074)).2.2.2.1 (ax b (-1074)).1 (ax b (-1074)).2.1 (ax b (-1074)).2.2.1 (ax b (-1074)).2.2.2.1=some (decide (a<b),(),(),()):=by rw[kt,qj7 O,iP ⟨X3 u O O,X3 hb O O⟩,bS];have e:decide (eZ a b<0)=decide (a<b):=by{rw[decide_eq_decide];unfold eZ;by_cases c:a<b;{rw[iP c];exact⟨λ_=>c,λ_=>by decide⟩};{rw[ae c];split<;>exact⟨λh=>absurd h (by decide),λh=>absurd h c⟩}};dsimp only;rw[e]
end
end Go.Vs.F
set_option maxRecDepth 100000
namespace Go.Vs.F
section
variable {m:Nat} (hm:5000000000<=m) {d e:LI} (hd:cf d) (he:cf e) (hle:e.length=d.length-1) (hl:d.length<=1000)
include hm hd he hle hl
theorem OY {i:Nat} (hi:i<d.length) (N:Nat) {R:Int} (hR:R=oI e i) (a0 a1:Int):
 (
 (cA m (d.getD i 0)).bind λy8=>
 (ud m y8.1.1 y8.1.2.1 y8.1.2.2.1 y8.1.2.2.2.1 (ax R (-1074)).1 (ax R (-1074)).2.1 (ax R (-1074)).2.2.1 (ax R (-1074)).2.2.2.1).bind λy9=>
 (gn m y9.1.1 y9.1.2.1 y9.1.2.2.1 y9.1.2.2.2.1 1).bind λG=>
 (cA m (d.getD i 0)).bind λK=>
 (iA m K.1.1 K.1.2.1 K.1.2.2.1 K.1.2.2.2.1 (ax R (-1074)).1 (ax R (-1074)).2.1 (ax R (-1074)).2.2.1 (ax R (-1074)).2.2.2.1).bind λJ=>
 (gn m J.1.1 J.1.2.1 J.1.2.2.1 J.1.2.2.2.1 2).bind λu=>
 (eS m G.1 (jE (dB d e i))).bind λg0=>
 bif (i:Int)==0 then
  (eS m u.1 (i6 (cU d e i))).bind λe0=>
  bif (i:Int)==0 then
   bq m N e a0 a1 G.1 u.1 d (d.length:Int) (wI ((i:Int)+1))
  else
   bif decide (e0.1.1>0)then
    bq m N e a0 a1 G.1 u.1 d (d.length:Int) (wI ((i:Int)+1))
   else
    bq m N e a0 a1 G.1 (i6 (cU d e i)) d (d.length:Int) (wI ((i:Int)+1))
 else
  bif decide (g0.1.1<0)then
   (eS m u.1 (i6 (cU d e i))).bind λd0=>
   bif (i:Int)==0 then
    bq m N e a0 a1 G.1 u.1 d (d.length:Int) (wI ((i:Int)+1))
   else
    bif decide (d0.1.1>0)then
     bq m N e a0 a1 G.1 u.1 d (d.length:Int) (wI ((i:Int)+1))
    else
     bq m N e a0 a1 G.1 (i6 (cU d e i)) d (d.length:Int) (wI ((i:Int)+1))
  else
   (eS m u.1 (i6 (cU d e i))).bind λc0=>
   bif (i:Int)==0 then
    bq m N e a0 a1 (jE (dB d e i)) u.1 d (d.length:Int) (wI ((i:Int)+1))
   else
    bif decide (c0.1.1>0)then
     bq m N e a0 a1 (jE (dB d e i)) u.1 d (d.length:Int) (wI ((i:Int)+1))
    else
     bq m N e a0 a1 (jE (dB d e i)) (i6 (cU d e i)) d (d.length:Int) (wI ((i:Int)+1))
 )=bq m N e a0 a1 (jE (dB d e (i+1))) (i6 (cU d e (i+1))) d (d.length:Int) ((i+1:Nat):Int):=by subst hR;obtain⟨u1,f1⟩:=hd i hi;have q1:=Vx hm hd he hle hl hi;have q2:=Zu f1;have q3:=PH hm hd he hle hl hi;have q4:=PI hm hd he hle hl hi;have q5:=N0 hm hd he hle hl (i:=i) O;have q6:=NX hm hd he hle hl (i:=i) O;have r1:=(G0 (z:=rB d e i) O).1;have r2:=(G0 (z:=dB d e i) O).1;have r3:=(G2 (z:=rS d e i) O).1;have r4:=(G2 (z:=cU d e i) O).1;have ws:wI ((i:Int)+1)=((i+1:Nat):Int):=ay O;rw[cw O u1,Qs f1];simp only[bS];rw[QQ hm hd he hle hl O O];simp only[bS];rw[LG O];simp only[bS];rw[vS hm hd he hle hl O O];simp only[bS];rw[LG O];simp only[bS];rw[show Xp (ax (aE (d.getD i 0)-oI e i) (-1074)) 1=jE (rB d e i)from rfl,show Xp (ax (aE (d.getD i 0)+oI e i) (-1074)) 2=i6 (rS d e i)from rfl,ws];rw[G6 O r1 r2,G6 O r3 r4];simp only[bS];by_cases c:i=0;{subst c;rw[show(((0:Nat):Int)==0)=true from rfl,cond_true,cond_true];rfl};{have hc:((i:Int)==0)=false:=by{simpa using c};simp only[hc,cond_false,bQ];rw[<-qvz hm hd he hle hl c hi,<-qwi hm hd he hle hl c hi];split<;>split<;>rfl}
theorem OX {i:Nat} (hi:i<d.length) (N:Nat) {R:Int} (hR:R=oI e i) (a0 a1:Int):
 (
 if(0:Int)<=(i:Int)/\(i:Int)<(d.length:Int)then
 (gk m (d.getD i 0)).bind λK=>
 (sX m K.1.1 K.1.2.1 K.1.2.2.1 K.1.2.2.2.1 (ax R (-1074)).1 (ax R (-1074)).2.1 (ax R (-1074)).2.2.1 (ax R (-1074)).2.2.2.1).bind λG=>
 if(0:Int)<=(i:Int)/\(i:Int)<(d.length:Int)then
 (gk m (d.getD i 0)).bind λJ=>
 (oO m J.1.1 J.1.2.1 J.1.2.2.1 J.1.2.2.2.1 (ax R (-1074)).1 (ax R (-1074)).2.1 (ax R (-1074)).2.2.1 (ax R (-1074)).2.2.2.1).bind λu=>
 bif (i:Int)==0 then
  bif (i:Int)==0 then
   bo m N d e a0 a1 G.1.1 G.1.2.1 G.1.2.2.1 G.1.2.2.2.1 u.1.1 u.1.2.1 u.1.2.2.1 u.1.2.2.2.1 (wI ((i:Int)+1))
  else
   (kt m (ax (cU d e i) (-1074)).1 (ax (cU d e i) (-1074)).2.1 (ax (cU d e i) (-1074)).2.2.1 (ax (cU d e i) (-1074)).2.2.2.1 u.1.1 u.1.2.1 u.1.2.2.1 u.1.2.2.2.1).bind λg0=>
   bif g0.1 then
    bo m N d e a0 a1 G.1.1 G.1.2.1 G.1.2.2.1 G.1.2.2.2.1 u.1.1 u.1.2.1 u.1.2.2.1 u.1.2.2.2.1 (wI ((i:Int)+1))
   else
    bo m N d e a0 a1 G.1.1 G.1.2.1 G.1.2.2.1 G.1.2.2.2.1 (ax (cU d e i) (-1074)).1 (ax (cU d e i) (-1074)).2.1 (ax (cU d e i) (-1074)).2.2.1 (ax (cU d e i) (-1074)).2.2.2.1 (wI ((i:Int)+1))
 else
  (kt m G.1.1 G.1.2.1 G.1.2.2.1 G.1.2.2.2.1 (ax (dB d e i) (-1074)).1 (ax (dB d e i) (-1074)).2.1 (ax (dB d e i) (-1074)).2.2.1 (ax (dB d e i) (-1074)).2.2.2.1).bind λe0=>
  bif e0.1 then
   bif (i:Int)==0 then
    bo m N d e a0 a1 G.1.1 G.1.2.1 G.1.2.2.1 G.1.2.2.2.1 u.1.1 u.1.2.1 u.1.2.2.1 u.1.2.2.2.1 (wI ((i:Int)+1))
   else
    (kt m (ax (cU d e i) (-1074)).1 (ax (cU d e i) (-1074)).2.1 (ax (cU d e i) (-1074)).2.2.1 (ax (cU d e i) (-1074)).2.2.2.1 u.1.1 u.1.2.1 u.1.2.2.1 u.1.2.2.2.1).bind λd0=>
    bif d0.1 then
     bo m N d e a0 a1 G.1.1 G.1.2.1 G.1.2.2.1 G.1.2.2.2.1 u.1.1 u.1.2.1 u.1.2.2.1 u.1.2.2.2.1 (wI ((i:Int)+1))
    else
     bo m N d e a0 a1 G.1.1 G.1.2.1 G.1.2.2.1 G.1.2.2.2.1 (ax (cU d e i) (-1074)).1 (ax (cU d e i) (-1074)).2.1 (ax (cU d e i) (-1074)).2.2.1 (ax (cU d e i) (-1074)).2.2.2.1 (wI ((i:Int)+1))
  else
   bif (i:Int)==0 then
    bo m N d e a0 a1 (ax (dB d e i) (-1074)).1 (ax (dB d e i) (-1074)).2.1 (ax (dB d e i) (-1074)).2.2.1 (ax (dB d e i) (-1074)).2.2.2.1 u.1.1 u.1.2.1 u.1.2.2.1 u.1.2.2.2.1 (wI ((i:Int)+1))
   else
    (kt m (ax (cU d e i) (-1074)).1 (ax (cU d e i) (-1074)).2.1 (ax (cU d e i) (-1074)).2.2.1 (ax (cU d e i) (-1074)).2.2.2.1 u.1.1 u.1.2.1 u.1.2.2.1 u.1.2.2.2.1).bind λc0=>
    bif c0.1 then
     bo m N d e a0 a1 (ax (dB d e i) (-1074)).1 (ax (dB d e i) (-1074)).2.1 (ax (dB d e i) (-1074)).2.2.1 (ax (dB d e i) (-1074)).2.2.2.1 u.1.1 u.1.2.1 u.1.2.2.1 u.1.2.2.2.1 (wI ((i:Int)+1))
    else
     bo m N d e a0 a1 (ax (dB d e i) (-1074)).1 (ax (dB d e i) (-1074)).2.1 (ax (dB d e i) (-1074)).2.2.1 (ax (dB d e i) (-1074)).2.2.2.1 (ax (cU d e i) (-1074)).1 (ax (cU d e i) (-1074)).2.1 (ax (cU d e i) (-1074)).2.2.1 (ax (cU d e i) (-1074)).2.2.2.1 (wI ((i:Int)+1))
 else none
 else none
 )=bo m N d e a0 a1 (ax (dB d e (i+1)) (-1074)).1 (ax (dB d e (i+1)) (-1074)).2.1 (ax (dB d e (i+1)) (-1074)).2.2.1 (ax (dB d e (i+1)) (-1074)).2.2.2.1 (ax (cU d e (i+1)) (-1074)).1 (ax (cU d e (i+1)) (-1074)).2.1 (ax (cU d e (i+1)) (-1074)).2.2.1 (ax (cU d e (i+1)) (-1074)).2.2.2.1 ((i+1:Nat):Int):=by subst hR;obtain⟨u1,f1⟩:=hd i hi;have q1:=Vx hm hd he hle hl hi;have q2:=Zu f1;have q3:=PH hm hd he hle hl hi;have q4:=PI hm hd he hle hl hi;have q5:=N0 hm hd he hle hl (i:=i) O;have q6:=NX hm hd he hle hl (i:=i) O;have ws:wI ((i:Int)+1)=((i+1:Nat):Int):=ay O;rw[iP O,GV O u1,Qs f1];simp only[bS];rw[O8 hm hd he hle hl O O];simp only[bS];rw[iP O,vM hm hd he hle hl O O,ws];simp only[bS];rw[show aE (d.getD i 0)-oI e i=rB d e i from rfl,show aE (d.getD i 0)+oI e i=rS d e i from rfl];by_cases c:i=0;{subst c;rw[show(((0:Nat):Int)==0)=true from rfl,cond_true,cond_true];rfl};{have hc:((i:Int)==0)=false:=by{simpa using c};rw[qu8 hm hd he hle hl O O,qu8 hm hd he hle hl O O];simp only[hc,cond_false,bS,bQ];rw[dB,cU,ae c,ae c];by_cases c1:rB d e i<dB d e i<;>by_cases c2:cU d e i<rS d e i<;>simp only[c1,c2,if_true,if_false]}
theorem QP:WJ m 0=some (ax 0 (-1074),(),()):=by rw[WJ,Jb O (by decide) (by decide),bS,G1 O (by decide) (by decide) (by decide)];rfl
theorem qld (a0 a1:Int): ∀(N i:Nat),d.length-i<N->i<=d.length->bq m N e a0 a1 (jE (dB d e i)) (i6 (cU d e i)) d (d.length:Int) (i:Int)=some (.inl ((a0,a1,()),(jE (dB d e d.length),i6 (cU d e d.length),()),())):=by intro N;induction N with|zero=>{intro i h;omega}|succ N ih=>{intro i h hi;rw[bq,bQ];by_cases c:i<d.length;{have t:=λ{R:Int} (hR:R=oI e i)=>(OY hm hd he hle hl c N hR a0 a1).trans (ih (i+1) O O);rw[iP O,iP O,QP hm hd he hle hl,bS,bQ,bQ];by_cases c1:0<i;{have w2:wI ((i:Int)-1)=((i-1:Nat):Int):=by{rw[wQ,wi O O];omega};obtain⟨u3,f3⟩:=he (i-1) O;obtain⟨v1,v2,v3⟩:=Nh u3 f3;rw[iP O,w2,iP O,tN,LH O u3 f3,bS,cw O v1,Qs v2,v3,bS];have p1:=Jv hm hd he hle hl (i:=i-1) O;rw[show iA m (ax 0 (-1074)).1 (ax 0 (-1074)).2.1 (ax 0 (-1074)).2.2.1 (ax 0 (-1074)).2.2.2.1 (ax ((aE (e.getD (i-1) 0)).natAbs:Int) (-1074)).1 (ax ((aE (e.getD (i-1) 0)).natAbs:Int) (-1074)).2.1 (ax ((aE (e.getD (i-1) 0)).natAbs:Int) (-1074)).2.2.1 (ax ((aE (e.getD (i-1) 0)).natAbs:Int) (-1074)).2.2.2.1=_ from vS hm hd he hle hl (a:=0) (b:=((ki e (i-1)).natAbs:Int)) (by decide) O,bS,bQ];by_cases c2:i<e.length;{obtain⟨u,f4⟩:=he i c2;obtain⟨K,J,G⟩:=Nh u f4;have p2:=Jv hm hd he hle hl (i:=i) c2;rw[iP O,iP O,tN,LH O u f4,bS,cw O K,Qs J,G,bS];rw[show iA m (ax (0+((ki e (i-1)).natAbs:Int)) (-1074)).1 (ax (0+((ki e (i-1)).natAbs:Int)) (-1074)).2.1 (ax (0+((ki e (i-1)).natAbs:Int)) (-1074)).2.2.1 (ax (0+((ki e (i-1)).natAbs:Int)) (-1074)).2.2.2.1 (ax ((aE (e.getD i 0)).natAbs:Int) (-1074)).1 (ax ((aE (e.getD i 0)).natAbs:Int) (-1074)).2.1 (ax ((aE (e.getD i 0)).natAbs:Int) (-1074)).2.2.1 (ax ((aE (e.getD i 0)).natAbs:Int) (-1074)).2.2.2.1=_ from vS hm hd he hle hl (a:=0+((ki e (i-1)).natAbs:Int)) (b:=((ki e i).natAbs:Int)) (by rw[GL];omega) O,bS];exact t (by unfold oI;rw[iP c1,iP c2,GL])};{rw[ae O];exact t (by unfold oI;rw[iP c1,ae c2];omega)}};{rw[ae O];by_cases c2:i<e.length;{obtain⟨u,f4⟩:=he i c2;obtain⟨K,J,G⟩:=Nh u f4;have p2:=Jv hm hd he hle hl (i:=i) c2;rw[iP O,iP O,tN,LH O u f4,bS,cw O K,Qs J,G,bS];rw[show iA m (ax 0 (-1074)).1 (ax 0 (-1074)).2.1 (ax 0 (-1074)).2.2.1 (ax 0 (-1074)).2.2.2.1 (ax ((aE (e.getD i 0)).natAbs:Int) (-1074)).1 (ax ((aE (e.getD i 0)).natAbs:Int) (-1074)).2.1 (ax ((aE (e.getD i 0)).natAbs:Int) (-1074)).2.2.1 (ax ((aE (e.getD i 0)).natAbs:Int) (-1074)).2.2.2.1=_ from vS hm hd he hle hl (a:=0) (b:=((ki e i).natAbs:Int)) (by decide) O,bS];exact t (by unfold oI;rw[ae c1,iP c2])};{rw[ae O];exact t (by unfold oI;rw[ae c1,ae c2];rfl)}}};{have:i=d.length:=O;rw[ae O,this]}}
theorem qkn (a0 a1:Int): ∀(N i:Nat),d.length-i<N->i<=d.length->bo m N d e a0 a1 (ax (dB d e i) (-1074)).1 (ax (dB d e i) (-1074)).2.1 (ax (dB d e i) (-1074)).2.2.1 (ax (dB d e i) (-1074)).2.2.2.1 (ax (cU d e i) (-1074)).1 (ax (cU d e i) (-1074)).2.1 (ax (cU d e i) (-1074)).2.2.1 (ax (cU d e i) (-1074)).2.2.2.1 (i:Int)=some (.inl ((a0,a1,()),ax (dB d e d.length) (-1074),ax (cU d e d.length) (-1074),())):=by intro N;induction N with|zero=>{intro i h;omega}|succ N ih=>{intro i h hi;rw[bo,bQ];by_cases c:i<d.length;{have t:=λ{R:Int} (hR:R=oI e i)=>(OX hm hd he hle hl c N hR a0 a1).trans (ih (i+1) O O);rw[iP O,bQ,bQ];by_cases c1:0<i;{have G:wI ((i:Int)-1)=((i-1:Nat):Int):=by{rw[wQ,wi O O];omega};obtain⟨J,f3⟩:=he (i-1) O;have p1:=Jv hm hd he hle hl (i:=i-1) O;have s1:=Zu f3;rw[iP O,G,iP O,tN,GV O J,Qs f3,bS];dsimp only;rw[yF hm O,bS];rw[show oO m false false [] 0 (ax ((aE (e.getD (i-1) 0)).natAbs:Int) (-1074)).1 (ax ((aE (e.getD (i-1) 0)).natAbs:Int) (-1074)).2.1 (ax ((aE (e.getD (i-1) 0)).natAbs:Int) (-1074)).2.2.1 (ax ((aE (e.getD (i-1) 0)).natAbs:Int) (-1074)).2.2.2.1=_ from vM hm hd he hle hl (a:=0) (b:=((ki e (i-1)).natAbs:Int)) (by decide) O,bS,bQ];by_cases c2:i<e.length;{obtain⟨u,f4⟩:=he i c2;have K:=Jv hm hd he hle hl (i:=i) c2;have s2:=Zu f4;rw[iP O,iP O,tN,GV O u,Qs f4,bS];dsimp only;rw[yF hm O,bS];rw[show oO m (ax (0+((ki e (i-1)).natAbs:Int)) (-1074)).1 (ax (0+((ki e (i-1)).natAbs:Int)) (-1074)).2.1 (ax (0+((ki e (i-1)).natAbs:Int)) (-1074)).2.2.1 (ax (0+((ki e (i-1)).natAbs:Int)) (-1074)).2.2.2.1 (ax ((aE (e.getD i 0)).natAbs:Int) (-1074)).1 (ax ((aE (e.getD i 0)).natAbs:Int) (-1074)).2.1 (ax ((aE (e.getD i 0)).natAbs:Int) (-1074)).2.2.1 (ax ((aE (e.getD i 0)).natAbs:Int) (-1074)).2.2.2.1=_ from vM hm hd he hle hl (a:=0+((ki e (i-1)).natAbs:Int)) (b:=((ki e i).natAbs:Int)) (by rw[GL];omega) O,bS];exact t (by unfold oI;rw[iP c1,iP c2,GL])};{rw[ae O];exact t (by unfold oI;rw[iP c1,ae c2];omega)}};{rw[ae O];by_cases c2:i<e.length;{obtain⟨u,f4⟩:=he i c2;have K:=Jv hm hd he hle hl (i:=i) c2;have s2:=Zu f4;rw[iP O,iP O,tN,GV O u,Qs f4,bS];dsimp only;rw[yF hm O,bS];rw[show oO m false false [] 0 (ax ((aE (e.getD i 0)).natAbs:Int) (-1074)).1 (ax ((aE (e.getD i 0)).natAbs:Int) (-1074)).2.1 (ax ((aE (e.getD i 0)).natAbs:Int) (-1074)).2.2.1 (ax ((aE (e.getD i 0)).natAbs:Int) (-1074)).2.2.2.1=_ from vM hm hd he hle hl (a:=0) (b:=((ki e i).natAbs:Int)) (by decide) O,bS];exact t (by unfold oI;rw[ae c1,iP c2])};{rw[ae O];exact t (by unfold oI;rw[ae c1,ae c2])}}};{have:i=d.length:=O;rw[ae O,this]}}
end
end Go.Vs.F
set_option maxRecDepth 100000
namespace Go.Vs.F
def Yb:LI->List LI->Option LI
 |w,[]=>some w
 |w,v::vs=>match jJ w v with
  |none=>none
  |some x=>Yb x vs
def q8d: ∀{a b:List LI} {w:LI},Yb w (a++b)=(Yb w a).bind λx=>Yb x b
 |[],b,w=>rfl
 |v::a,b,w=>by rw[Ct,Yb,Yb];cases jJ w v with|none=>rfl|some x=>exact q8d
def wY (N:Nat) (V:List LI):Prop:= ∀r∈V,cf r/\r.length=N
def q4s {N:Nat}: ∀{V:List LI} {w x:LI},cf w->w.length=N->Yb w V=some x->cf x/\x.length=N
 |[],w,x,u,h2,h=>by injection h with h;subst h;exact⟨u,h2⟩
 |v::V,w,x,u,h2,h=>by rw[Yb]at h;cases ho:jJ w v with|none=>{rw[ho]at h;cases h}|some y=>{rw[ho]at h;obtain⟨a,b⟩:=qjx ho;exact q4s a (b.trans h2) h}
def qm4 {V:List LI} {i:Nat} (h:i<V.length):V.drop i=V.getD i []::V.drop (i+1):=by rw[GE h];simp[List.getD,h]
def gM {V:List LI} {i:Nat} (h:i<V.length):V.getD i []∈V:=by simp[List.getD,h]
section
variable {m:Nat} (hm:5000000000<=m) {N:Nat} (hN:N<=1000) (α β:LI) {V:List LI} (hV:wY N V) (hVl:V.length<=1000)
include hm hN hV hVl
theorem qut (u:Int): ∀(n i:Nat) (w:LI),V.length-i<n->i<=V.length->cf w->w.length=N->
 sy m n α β V w u (V.length:Int) (i:Int)=some (match Yb w (V.drop i)with
  |none=> .inl ((α,β,V,()),[],233,())
  |some x=> .inr (.inl ((α,β,V,()),x,u,())))
 |0,i,w,h,_,_,_=>absurd h (zC _)
 |n+1,i,w,h,c0,hw,G=>by rw[sy,bQ];by_cases J:i<V.length;{obtain⟨K,r2⟩:=hV _ (gM J);obtain⟨y,g1,g2⟩:=qw7 hm (w:=w) (v:=V.getD i []) O O hw K;rw[iP O,iP O,zH,tN,g1,bS,qm4 J,Yb];dsimp only;cases ho:jJ w (V.getD i [])with|none=>rfl|some x=>{obtain⟨a,b⟩:=qjx ho;rw[g2 x ho,show(!(some x).isSome)=false from rfl,cond_false,show wI ((i:Int)+1)=((i+1:Nat):Int)from ay O];exact qut u n (i+1) x O O a (b.trans G)}};{rw[ae O,Nu O];rfl}
theorem qxz {w:LI} (hw:cf w) (G:w.length=N):
 nb m m α β V w 0=some (match Yb w (V++V)with
  |none=> .inl ((α,β,V,()),[],233,())
  |some x=> .inr (.inl ((α,β,V,()),x,()))):=by obtain⟨k,rfl⟩: ∃k,m=k+3:=⟨m-3,O⟩;have step: ∀(u:Int) (w:LI),cf w->w.length=N->_:=λu w J h2=>qut hm hN α β hV hVl u (k+3) 0 w O O J h2;simp only[nZ,lN]at step;rw[nb,bQ,iP O,step 0 w hw G,bS,q8d];cases J:Yb w V with|none=>rfl|some x=>{obtain⟨a,b⟩:=q4s hw G J;dsimp only;rw[show wI (0+1)=1 from by rw[wQ,wi O O];rfl,nb,bQ,iP O,step 1 x a b,bS,bS];cases h2:Yb x V with|none=>rfl|some y=>{dsimp only;rw[show wI (1+1)=2 from by rw[wQ,wi O O];rfl,nb,bQ,ae O]}}
end
end Go.Vs.F
set_option maxRecDepth 100000
namespace Go.Vs.F
def qxd (m N:Nat) (f0 f1 f2 f3 f4 f5:LI) (f6:Int):Prop:= ∀v,cf v->v.length=N-> ∃x e,
 xT m f0 f1 f2 f3 f4 f5 f6 v=some ((x,e,()),(),(),())/\g55 m f0 f1 f2 f3 f4 f5 f6 v=some ((x,e,()),(),(),())/\(e=0->cf x/\x.length=N)
abbrev Nj:=(LI×LI×List LI×Unit)×Int×Unit
def GD (N:Nat) (s:Int) (r:Nj):Prop:=(r.1=([],[],[],())/\r.2.1≠0)\/(r.2.1=0/\r.1.2.1.length+1=r.1.1.length/\r.1.2.2.1.length=r.1.1.length/\((r.1.1.length:Int)<=s/\r.1.1.length<=16)/\wY N r.1.2.2.1/\cf r.1.1/\cf r.1.2.1)
def qm5 {v w:LI}:b7 (da v w):=LA
def CZ {x:LI}:b7 (mM x):=qvp
section
variable {m:Nat} (hM:d6<=m) {N:Nat} (hN:N<=1000) {f0 f1 f2 f3 f4 f5:LI} {f6:Int} (hS:qxd m N f0 f1 f2 f3 f4 f5 f6) {s:Int} (hs:s<=16) (b0 b1 a0 a1:LI) (b2 a2:List LI)
include hM hN hS hs
end
end Go.Vs.F
set_option maxRecDepth 100000
namespace Go.Vs.F
def CB (l:LI):Nat->List Bool->Nat->Bool
 |0,_,_=>true
 |d+1,seen,k=>if l.getD k 0<0 then false else if l.getD k 0>=(l.length:Int)then false else if seen.getD (l.getD k 0).toNat false=true then false else CB l d (seen.set (l.getD k 0).toNat true) (k+1)
def iJ (l:LI):Bool:=CB l l.length (List.replicate l.length false) 0
def qpu {l:LI}: ∀{d:Nat} {seen:List Bool} {k:Nat},CB l d seen k=true-> ∀i,k<=i->i<k+d->0<=l.getD i 0/\l.getD i 0<(l.length:Int)
 |0,seen,k,h,i,u,h2=>O
 |d+1,seen,k,h,i,u,h2=>by rw[CB]at h;split at h;{cases h};{split at h;{cases h};{split at h;{cases h};{rcases Nat.eq_or_lt_of_le u with e|e;{subst e;omega};{exact qpu h i O O}}}}
def qpx {l:LI} (h:iJ l=true): ∀i,i<l.length->0<=l.getD i 0/\l.getD i 0<(l.length:Int):=λi u=>qpu h i O O
def qda (m:Nat) {l:LI} (hl:l.length<=1000): ∀(n d k:Nat) (seen:List Bool),d<n->k+d=l.length->seen.length=l.length->
 lp m n l seen l (l.length:Int) (k:Int)=some (if CB l d seen k=true then .inr (.inl ())else .inl (false,()))
 |0,d,k,seen,h,_,_=>absurd h (zC _)
 |n+1,0,k,seen,h,u,hs=>by{rw[lp,bQ,ae O];rfl}
 |n+1,d+1,k,seen,h,u,hs=>by rw[lp,bQ,iP O,iP O,tN,bQ,CB];by_cases c1:l.getD k 0<0;{rw[iP c1,iP c1];rfl};{rw[ae c1,ae c1,bQ];by_cases c2:l.getD k 0>=(l.length:Int);{rw[iP c2,iP c2];rfl};{rw[ae c2,ae c2,iP O,zH];cases G:seen.getD (l.getD k 0).toNat false with|true=>rfl|false=>{rw[cond_false,iP O,ae (show¬(false=true) by decide),show wI ((k:Int)+1)=((k+1:Nat):Int)from ay O];exact qda m hl n d (k+1) _ O O (by rw[zU];exact hs)}}}
def qpw {m:Nat} (hm:2000000<m) {l:LI} (hl:l.length<=1000):Fc m l=some (iJ l,(),()):=by have h:=qda m hl m l.length 0 (List.replicate l.length false) O O (by simp);rw[nZ]at h;rw[Fc,iP O,tN,h,bS];unfold iJ;cases CB l l.length (List.replicate l.length false) 0<;>rfl
def qjf (m:Nat) {l:LI} (hl:l.length<=1000): ∀(n d k:Nat) (seen:List Bool),d<n->k+d=l.length->seen.length=l.length->
 lH m n l (l.length:Int) seen (k:Int)=some (if CB l d seen k=true then .inr (.inl ())else .inl (false,()))
 |0,d,k,seen,h,_,_=>absurd h (zC _)
 |n+1,0,k,seen,h,u,hs=>by{rw[lH,bQ,ae O];rfl}
 |n+1,d+1,k,seen,h,u,hs=>by rw[lH,bQ,iP O,iP O,tN,bQ,CB];by_cases c1:l.getD k 0<0;{rw[iP c1,iP c1];rfl};{rw[ae c1,ae c1,iP O,bQ];by_cases c2:l.getD k 0>=(l.length:Int);{rw[iP c2,iP c2];rfl};{rw[ae c2,ae c2,iP O,iP O,zH];cases G:seen.getD (l.getD k 0).toNat false with|true=>rfl|false=>{rw[cond_false,iP O,iP O,ae (show¬(false=true) by decide),show wI ((k:Int)+1)=((k+1:Nat):Int)from ay O];exact qjf m hl n d (k+1) _ O O (by rw[zU];exact hs)}}}
def qsw {m:Nat} (hm:2000000<m) {l:LI} (hl:l.length<=1000):BN m l (l.length:Int)=some (iJ l,(),(),()):=by have h:=qjf m hl m l.length 0 (List.replicate l.length false) O O (by simp);rw[nZ]at h;rw[BN,aO,iP rfl,iP O,tN,h,bS];unfold iJ;cases CB l l.length (List.replicate l.length false) 0<;>rfl
def pre (Z:LI):Nat->Int
 |0=>0
 |b+1=>pre Z b+Z.getD b 0
def bZ (Z:LI):Nat->Int
 |0=>0
 |b+1=>bZ Z b+(2*Z.getD b 0-1)
def xr (Z:LI) (b:Nat):Bool:=decide (Z.getD b 0=1\/Z.getD b 0=2)
def Z7 {Z:LI} {b:Nat}:xr Z b=true↔(Z.getD b 0=1\/Z.getD b 0=2):=decide_eq_true_iff
def C0 {Z:LI}: ∀{b:Nat},(∀i,i<b->xr Z i=true)->(b:Int)<=pre Z b/\pre Z b<=2*b/\(b:Int)<=bZ Z b/\bZ Z b<=3*b
 |0,h=>by simp[pre,bZ]
 |b+1,h=>by have u:=C0 (b:=b) λi G=>h i O;have:=Z7.1 (h b O);rw[pre,bZ];omega
def N8 {Z:LI} {c:Nat} (h: ∀i,i<c->xr Z i=true): ∀{b:Nat},b<=c->pre Z b<=pre Z c/\bZ Z b<=bZ Z c:=by intro b hb;induction c with|zero=>{rw[show b=0 by omega];exact⟨ug _,ug _⟩}|succ c G=>{rcases gq c b with u|u;{rw[show b=c+1 by omega];exact⟨ug _,ug _⟩};{have:=G (λi J=>h i O) u;have:=Z7.1 (h c O);rw[pre,bZ];omega}}
def qbn {Z:LI}: ∀{c:Nat},(∀i,i<c->xr Z i=true)-> ∀{j:Int},0<=j->j<pre Z c-> ∃b,b<c/\pre Z b<=j/\j<pre Z (b+1)
 |0,h,j,u,h2=>by rw[pre]at h2;omega
 |c+1,h,j,u,h2=>by by_cases hc:pre Z c<=j;{exact⟨c,O,hc,h2⟩};{obtain⟨b,a1,a2⟩:=qbn (c:=c) (λi G=>h i O) u O;exact⟨b,O,a2⟩}
def PV (n:Nat) (Z D:LI):Prop:=(∀b,b<Z.length->xr Z b=true)/\(∀b,b<Z.length->pre Z b<(n:Int))/\pre Z Z.length=(n:Int)/\bZ Z Z.length=(D.length:Int)
instance (n:Nat) (Z D:LI):Decidable (PV n Z D):=inferInstanceAs (Decidable (_/\_))
section
variable {m:Nat} (hm:5000000000<=m) {f0 Z D S I W:LI} {f6:Int} (hz:Z.length<=1000) (h0:f0.length<=1000) (hd:D.length<=1000)
include hm hz h0 hd
theorem qfa: ∀(n k:Nat),Z.length-k<n->k<=Z.length->(∀b,b<k->xr Z b=true)->(∀b,b<k->pre Z b<(f0.length:Int))->
 gP m n f0 Z D S I W f6 (fH k (pre Z)) (pre Z k) (bZ Z k) Z (Z.length:Int) (k:Int)=
  some (if(∀b,b<Z.length->xr Z b=true)/\(∀b,b<Z.length->pre Z b<(f0.length:Int))then .inr (.inl ((f0,Z,D,S,I,W,f6,()),fH Z.length (pre Z),pre Z Z.length,bZ Z Z.length,()))else .inl ([],false,()))
 |0,k,h,_,_,_=>absurd h (zC _)
 |n+1,k,h,K,u,J=>by rw[gP,bQ];by_cases G:k<Z.length;{rw[iP O,iP O,tN];have bd:=C0 u;have go:xr Z k=true->(bif decide (pre Z k>=(f0.length:Int))then some (.inl (([]:LI),false,()))else if(fH k (pre Z)).length+([pre Z k]:LI).length<=1073741824 then gP m n f0 Z D S I W f6 (fH k (pre Z)++([pre Z k]:LI)) (wI (pre Z k+Z.getD k 0)) (wI (bZ Z k+(wI ((wI (2*Z.getD k 0))-1)))) Z (Z.length:Int) (wI ((k:Int)+1)) else none)=some (if(∀b,b<Z.length->xr Z b=true)/\(∀b,b<Z.length->pre Z b<(f0.length:Int))then .inr (.inl ((f0,Z,D,S,I,W,f6,()),fH Z.length (pre Z),pre Z Z.length,bZ Z Z.length,()))else .inl ([],false,())):=by{intro ho;have hv:=Z7.1 ho;rw[bQ];by_cases c:pre Z k>=(f0.length:Int);{rw[iP c,ae (λq=>by have:=q.2 k G;omega)]};{rw[ae c,iP (by show _+1<=_;rw[Zw];omega),qiz,show wI (pre Z k+Z.getD k 0)=pre Z (k+1) by rw[wQ,wi O O];rfl,show wI (bZ Z k+wI (wI (2*Z.getD k 0)-1))=bZ Z (k+1) by{simp only[wQ];rw[wi (n:=2*Z.getD k 0) O O,wi (n:=2*Z.getD k 0-1) O O,wi O O];rfl},show wI ((k:Int)+1)=((k+1:Nat):Int)from ay O];exact qfa n (k+1) O O (λb hb=>by{rcases gq b k with h|h;{exact u b h};{rw[show b=k by omega];exact ho}}) (λb hb=>by{rcases gq b k with h|h;{exact J b h};{rw[show b=k by omega];omega}})}};by_cases c1:Z.getD k 0=1;{rw[aO,iP c1];exact go (Z7.2 (.inl c1))};{rw[aO,ae c1,aO];by_cases c2:Z.getD k 0=2;{rw[iP c2];exact go (Z7.2 (.inr c2))};{rw[ae c2,ae (λq=>by have:=Z7.1 (q.1 k G);omega)]}}};{have e:k=Z.length:=O;subst e;rw[ae O,iP ⟨u,J⟩]}
theorem qm0: ∃l,Fa m f0 Z D S I W f6=some ((l,decide (PV f0.length Z D),()),(),())/\(PV f0.length Z D->l=fH Z.length (pre Z)):=by have h:=qfa hm hz h0 hd (S:=S) (I:=I) (W:=W) (f6:=f6) m 0 O O (λb hb=>absurd hb (zC _)) (λb hb=>absurd hb (zC _));rw[Fa,show([]:LI)=fH 0 (pre Z)from rfl,show((0:Int))=((0:Nat):Int)from rfl];rw[show gP m m f0 Z D S I W f6 (fH 0 (pre Z)) ((0:Nat):Int) ((0:Nat):Int) Z (Z.length:Int) ((0:Nat):Int)=_ from h,bS];by_cases c:(∀b,b<Z.length->xr Z b=true)/\(∀b,b<Z.length->pre Z b<(f0.length:Int));{rw[iP c];dsimp only;rw[aB];refine⟨fH Z.length (pre Z),?_,λ_=>rfl⟩;by_cases d:pre Z Z.length=(f0.length:Int);{rw[iP d];congr 4;by_cases e:bZ Z Z.length=(D.length:Int);{rw[decide_eq_true (show PV f0.length Z D from⟨c.1,c.2,d,e⟩)];simpa using e};{rw[decide_eq_false (λq:PV f0.length Z D=>e q.2.2.2)];simpa using e}};{rw[ae d,decide_eq_false (λq:PV f0.length Z D=>d q.2.2.1)]}};{rw[ae c];have hn: ¬PV f0.length Z D:=λq=>c ⟨q.1,q.2.1⟩;exact⟨[],by rw[decide_eq_false hn],λq=>absurd q hn⟩}
end
end Go.Vs.F
set_option maxRecDepth 100000
namespace Go.Vs.F
def v5 (Z:LI) (b:Nat):Int:=pre Z b+Z.getD b 0-1
def tD (n:Int) (last:Int) (S I:LI) (j:Nat):Bool:=decide (S.getD j 0<=S.getD (j+1) 0)&&decide (S.getD (j+1) 0<=(I.length:Int))&&gY n last (eA S I j)
def vk (n:Int) (Z S I:LI) (b:Nat):Bool:=qw (tD n (v5 Z b) S I) (pre Z b).toNat (pre Z (b+1)).toNat
def Gq (n last:Int) (S I:LI) (j c:Nat):Bool:=decide (last<I.getD c 0)&&decide (I.getD c 0<n)&&(!decide ((S.getD j 0).toNat<c)||decide (I.getD (c-1) 0<I.getD c 0))
def quf (R last:Int) (I:LI) (s e:Nat) (he:e<=I.length): ∀(d k:Nat) (l:Int),e-k=d->s<=k->last<=l->(k=s->l=last)->(s<k->l=I.getD (k-1) 0)->
 gY R l ((I.drop k).take (e-k))=qw (λk=>decide (last<I.getD k 0)&&decide (I.getD k 0<R)&&(!decide (s<k)||decide (I.getD (k-1) 0<I.getD k 0))) k e
 |0,k,l,hd,hk,hl,h1,h2=>by{rw[hd,Qk O];simp[gY]}
 |d+1,k,l,hd,hk,hl,h1,h2=>by have J:k<e:=O;have G:k<I.length:=O;rw[Qd J,iq (d:=0) G,hd,List.take_succ_cons,gY];by_cases u:l<I.getD k 0;{have K:=quf R last I s e he d (k+1) (I.getD k 0) O O O O (λ_=>by simp);rw[show e-(k+1)=d by omega]at K;rw[K];have h0:last<I.getD k 0:=O;by_cases hs:s<k;{have:=h2 hs;simp[-List.getD_eq_getElem?_getD,u,h0,hs,<-this]};{simp[-List.getD_eq_getElem?_getD,u,h0,hs]}};{by_cases hs:s<k;{have:=h2 hs;simp[-List.getD_eq_getElem?_getD,u,hs,<-this]};{have:l=last:=h1 O;have h0: ¬last<I.getD k 0:=O;simp[-List.getD_eq_getElem?_getD,u,h0]}}
def qwd {n last:Int} {C:Nat} {S I:LI} (h:cn C S I) {j:Nat} (u:j<C):gY n last (eA S I j)=qw (Gq n last S I j) (S.getD j 0).toNat (S.getD (j+1) 0).toNat:=by have a:=h.rng (j:=j) O;have b:=h.rng (j:=j+1) O;exact quf n last I _ _ O _ _ _ rfl (zI _) (ug _) (λ_=>rfl) (λh=>absurd h (UH _))
section
variable {m:Nat} (hm:5000000000<=m) {f0 Z D S I W:LI} {f6:Int} (hz:Z.length<=1000) (h0:f0.length<=1000) (hS:S.length=f0.length+1) (hI:I.length<=100000)
include hm hz h0 hS hI
theorem qtk (K t8 t9:Int) (J:LI) (G u:Int) {X:LI} (hX:X.length<=100000): ∀(n k:Nat) (l:Int),X.length-k<n->k<=X.length->
 nT m n f0 Z D S I W f6 K t8 t9 l J G u X (X.length:Int) (k:Int)=some (if gY K l (X.drop k)=true then .inr (.inl ((f0,Z,D,S,I,W,f6,()),K,t8,t9,J,G,u,()))else .inl (false,()))
 |0,k,l,h,_=>absurd h (zC _)
 |n+1,k,l,h,c0=>by rw[nT,bQ];by_cases hk:k<X.length;{rw[iP O,iP O,tN,bQ,iq (d:=0) hk,gY];by_cases c1:X.getD k 0<=l;{rw[iP c1,ae (by rw[decide_eq_false O];simp)]};{rw[ae c1,bQ,decide_eq_true (show l<X.getD k 0 by omega)];by_cases c2:X.getD k 0>=K;{rw[iP c2,ae (by rw[decide_eq_false O];simp)]};{rw[ae c2,decide_eq_true (show X.getD k 0<K by omega),show wI ((k:Int)+1)=((k+1:Nat):Int)from ay O,qtk K t8 t9 J G u hX n (k+1) (X.getD k 0) O O];simp only[vG]}}};{rw[ae O,Nu O,gY,iP rfl]}
theorem qtg (J:LI) (G u:Int) (d0:S.getD 0 0=0) {e:Nat} (he:e<=f0.length): ∀(n j:Nat),e-j<n->j<=e->(∀i,i<j->S.getD i 0<=S.getD (i+1) 0)->
 nU m n f0 Z D S I W f6 (f0.length:Int) ((e:Int)-1) (j:Int) J G u=some (if qw (tD (f0.length:Int) ((e:Int)-1) S I) j e=true then .inr (.inl ((f0,Z,D,S,I,W,f6,()),(f0.length:Int),J,G,u,()))else .inl (false,()))
 |0,j,h,_,_=>absurd h (zC _)
 |n+1,j,h,g0,hmono=>by rw[nU,bQ];by_cases hj:j<e;{have K: ∀i,i<=j->0<=S.getD i 0:=by{intro i;induction i with|zero=>{intro _;omega}|succ i ih=>{intro hi;have:=ih O;have:=hmono i O;omega}};have e0:=K j (zI _);have w1:wI ((j:Int)+1)=((j+1:Nat):Int):=ay O;rw[iP O,iP O,w1,iP O,tN,tN,bQ,Qd hj];unfold tD;by_cases c1:S.getD j 0>S.getD (j+1) 0;{rw[iP c1,ae (by rw[decide_eq_false (show¬(S.getD j 0<=S.getD (j+1) 0) by omega)];simp)]};{rw[ae c1,iP O,bQ,decide_eq_true (show S.getD j 0<=S.getD (j+1) 0 by omega)];by_cases c2:S.getD (j+1) 0>(I.length:Int);{rw[iP c2,ae (by rw[decide_eq_false (show¬(S.getD (j+1) 0<=(I.length:Int)) by omega)];simp)]};{have c0:((I.drop (S.getD j 0).toNat).take ((S.getD (j+1) 0).toNat-(S.getD j 0).toNat)).length<=100000:=by{rw[zX,mA];omega};have h2:=qtk hm hz h0 hS hI (f6:=f6) (D:=D) (W:=W) (f0.length:Int) ((e:Int)-1) (j:Int) J G u c0 m 0 ((e:Int)-1) O O;rw[nZ,lN]at h2;rw[ae c2,iP O,iP O,iP O,h2,bS,decide_eq_true (show S.getD (j+1) 0<=(I.length:Int) by omega)];have ec:(I.drop (S.getD j 0).toNat).take ((S.getD (j+1) 0).toNat-(S.getD j 0).toNat)=eA S I j:=rfl;rw[ec];cases hc:gY (f0.length:Int) ((e:Int)-1) (eA S I j)with|false=>rfl|true=>{rw[iP rfl];dsimp only;rw[w1,qtg J G u d0 he n (j+1) O O (λi hi=>by{rcases gq i j with h|h;{exact hmono i h};{rw[show i=j by omega];omega}})];rfl}}}};{rw[ae O,Qk hj,iP rfl]}
theorem qu9 (u:S.getD 0 0=0) (hP:PV f0.length Z D): ∀(n b:Nat),Z.length-b<n->b<=Z.length->(∀i:Nat,(i:Int)<pre Z b->S.getD i 0<=S.getD (i+1) 0)->
 nV m n f0 Z D S I W f6 (f0.length:Int) (fH Z.length (pre Z)) (Z.length:Int) (b:Int)=some (if qw (vk (f0.length:Int) Z S I) b Z.length=true then .inr (.inl ())else .inl (false,()))
 |0,b,h,_,_=>absurd h (zC _)
 |n+1,b,h,d0,hmono=>by rw[nV,bQ];by_cases hb:b<Z.length;{have hv:=Z7.1 (hP.1 b hb);have bd:=C0 (b:=b) λi J=>hP.1 i O;have c0:=N8 (c:=Z.length) hP.1 (b:=b+1) O;have hn:=hP.2.2.1;have e1:pre Z (b+1)=pre Z b+Z.getD b 0:=rfl;obtain⟨k,G⟩: ∃k:Nat,pre Z b=(k:Int):=⟨(pre Z b).toNat,O⟩;obtain⟨e,he⟩: ∃e:Nat,pre Z (b+1)=(e:Int):=⟨(pre Z (b+1)).toNat,O⟩;have K:wI (wI (pre Z b+Z.getD b 0)-1)=(e:Int)-1:=by{simp only[wQ];rw[wi (n:=pre Z b+Z.getD b 0) O O,wi O O];omega};rw[iP O,iP (by rw[Zw];omega),iP O,tN,VI hb,K,G,qtg hm hz h0 hS hI _ _ _ u (e:=e) O m k O O (λi J=>hmono i O),bS,Qd hb];have ef:vk (f0.length:Int) Z S I b=qw (tD (f0.length:Int) ((e:Int)-1) S I) k e:=by{unfold vk v5;rw[he,G,tN,tN,show(k:Int)+Z.getD b 0-1=(e:Int)-1 by omega]};rw[ef];cases hc:qw (tD (f0.length:Int) ((e:Int)-1) S I) k e with|false=>rfl|true=>{rw[iP rfl];dsimp only;rw[show wI ((b:Int)+1)=((b+1:Nat):Int)from ay O,qu9 u hP n (b+1) O O (λi J=>by{rcases gq i k with h|h;{exact hmono i O};{have:=qp.1 hc i h O;unfold tD at this;simp only[zK,decide_eq_true_eq]at this;exact this.1.1}})];simp only[vG]}};{rw[ae O,Qk hb,iP rfl]}
def CF (n:Nat) (Z S I:LI):Prop:=S.getD 0 0=0/\S.getD n 0=(I.length:Int)/\qw (vk (n:Int) Z S I) 0 Z.length=true
instance (n:Nat) (Z S I:LI):Decidable (CF n Z S I):=inferInstanceAs (Decidable (_/\_))
theorem qud (hP:PV f0.length Z D):E8 m f0 Z D S I W f6 (fH Z.length (pre Z))=some (decide (CF f0.length Z S I),(),(),()):=by rw[E8,iP O,aO];by_cases c1:S.getD 0 0=0;{rw[iP c1,iP O,tN,aO];by_cases c2:S.getD f0.length 0=(I.length:Int);{have h:=qu9 hm hz h0 hS hI (W:=W) (f6:=f6) c1 hP m 0 O O (λi u=>by simp only[pre]at u;omega);rw[nZ]at h;rw[iP c2,Zw,h,bS];cases hc:qw (vk (f0.length:Int) Z S I) 0 Z.length with|true=>rw[iP rfl,decide_eq_true (show CF f0.length Z S I from⟨c1,c2,hc⟩)]|false=>{rw[ae (by decide),decide_eq_false (λq:CF f0.length Z S I=>by have:=q.2.2;rw[hc]at this;cases this)]}};{rw[ae c2,decide_eq_false (λq:CF f0.length Z S I=>c2 q.2.1)]}};{rw[ae c1,decide_eq_false (λq:CF f0.length Z S I=>c1 q.1)]}
end
end Go.Vs.F
set_option maxRecDepth 100000
namespace Go.Vs.F
section
variable {m:Nat} (hm:5000000000<=m) {f0 Z D S I W:LI} {f6:Int} (hz:Z.length<=1000) (h0:f0.length<=1000) (hS:S.length=f0.length+1) (hI:I.length<=100000)
include hm h0 hS
def WT (n:Nat) (S I:LI):Prop:=S.getD 0 0=0/\S.getD n 0=(I.length:Int)/\qw (CD S) 0 n=true
instance (n:Nat) (S I:LI):Decidable (WT n S I):=inferInstanceAs (Decidable (_/\_))
omit hm h0 in
theorem WT.start (h:WT f0.length S I):cn f0.length S I:=⟨hS,h.1,λj u=>by have:=qp.1 h.2.2 j O u;unfold CD at this;simpa using this,h.2.1⟩
def qU (n:Int) (Z S I:LI) (b:Nat):Bool:=xr Z b&&decide (pre Z (b+1)<=n)&&vk n Z S I b
def Ni (n:Nat) (Z D S I:LI) (f6:Int):Prop:=0<=f6/\WT n S I/\qw (qU (n:Int) Z S I) 0 Z.length=true/\pre Z Z.length=(n:Int)/\bZ Z Z.length=(D.length:Int)
instance (n:Nat) (Z D S I:LI) (f6:Int):Decidable (Ni n Z D S I f6):=inferInstanceAs (Decidable (_/\_))
omit hm h0 in
theorem Vr:Ni f0.length Z D S I f6↔(PV f0.length Z D/\0<=f6/\CF f0.length Z S I):=by constructor;{rintro ⟨G,h2,h3,h4,h5⟩;have hw:=qp.1 h3;have u: ∀b,b<Z.length->xr Z b=true:=λb hb=>by{have:=hw b O hb;unfold qU at this;simp only[zK]at this;exact this.1.1};refine⟨⟨u,λb hb=> ?_,h4,h5⟩,G,h2.1,h2.2.1,qp.2 λb _ hb=> ?_⟩;{have:=hw b O hb;unfold qU at this;simp only[zK,decide_eq_true_eq]at this;have h6:=this.1.2;have h7:=Z7.1 (u b hb);rw[pre]at h6;omega};{have:=hw b O hb;unfold qU at this;simp only[zK]at this;exact this.2}};{rintro ⟨⟨a1,a2,a3,a4⟩,G,c1,c2,c3⟩;have J:=qp.1 c3;refine⟨G,⟨c1,c2,qp.2 λi _ K=> ?_⟩,qp.2 λb _ hb=> ?_,a3,a4⟩;{obtain⟨b,b1,b2,b3⟩:=qbn a1 (j:=(i:Int)) O O;have bd:=C0 (b:=b) λi K=>a1 i O;have:=J b O b1;unfold vk at this;have:=qp.1 this i O O;unfold tD at this;simp only[zK,decide_eq_true_eq]at this;unfold CD;exact decide_eq_true this.1.1};{unfold qU;rw[a1 b hb,J b O hb,decide_eq_true (show pre Z (b+1)<=(f0.length:Int)from by have:=(N8 (c:=Z.length) a1 (b:=b+1) O).1;omega)];rfl}}
end
end Go.Vs.F
set_option maxRecDepth 100000
namespace Go.Vs.F
def qqb {l:LI} {k:Nat} (u:k<l.length):qw (λi=>decide (aS (l.getD i 0))) k l.length=(decide (aS (l.getD k 0))&&qw (λi=>decide (aS (l.getD i 0))) (k+1) l.length):=Qd u
abbrev DyR:=Bool×(Bool×LI)×Int
def fZ (D Z:LI) (b:Nat):List DyR:=(List.range (2*Z.getD b 0-1).toNat).map λi=>B3 (d8 (D.getD ((bZ Z b).toNat+i) 0))
def vp (D:LI) (k:Nat):Int:=aE (D.getD k 0)*aE (D.getD (k+2) 0)-aE (D.getD (k+1) 0)*aE (D.getD (k+1) 0)
def x4 (D Z:LI) (b:Nat):Bool:= !(decide (Z.getD b 0=2)&&decide (vp D (bZ Z b).toNat=0))
def qx3 {D:LI} {k:Nat} (h: ∀i,i<3->aS (D.getD (k+i) 0)):cd (vp D k) (-2148):=by have h0:=h 0 O;have u:=h 1 O;have h2:=h 2 O;refine qtn ?_;unfold vp;have a:=qi5 h0 h2;have b:=qi5 u u;have:=Y0 (a:=aE (D.getD (k+0) 0)*aE (D.getD (k+2) 0)) (b:= -(aE (D.getD (k+1) 0)*aE (D.getD (k+1) 0))) a (by rw[xg];exact b);rw[<-Int.sub_eq_add_neg,zS]at this;omega
section
variable {m:Nat} (hm:5000000000<=m)
include hm
theorem qpm {z e:Int} (h:cd z e):vc m (ax z e).1 (ax z e).2.1 (ax z e).2.2.1 (ax z e).2.2.2.1=some (sgn z,(),()):=by rw[vc,X9 O,bS];dsimp only;rw[show(ax z e).1=false from h,cond_false,Qt O h,bS]
variable {f0 Z D S I W:LI} {f6:Int} (hz:Z.length<=1000) (h0:f0.length<=1000) (hd:D.length<=3000) (hw:W.length<=100000) (uD:UL D) (uW:UL W)
include hz h0 hd hw uD uW
theorem XF (J:List LI) (G u:Int) {X:LI} (hX:X.length<=100000) (uX:UL X): ∀(n k:Nat),X.length-k<n->k<=X.length->
 oA m n f0 Z D S I W f6 J G u X (X.length:Int) (k:Int)=some (if qw (λi=>decide (aS (X.getD i 0))) k X.length=true then .inr (.inl ((f0,Z,D,S,I,W,f6,()),J,G,u,()))else .inl (4,()))
 |0,k,h,_=>absurd h (zC _)
 |n+1,k,h,c0=>by rw[oA,bQ];by_cases K:k<X.length;{rw[iP O,iP O,tN,Zt (uX k K),bS,qqb K];dsimp only;by_cases c:aS (X.getD k 0);{rw[decide_eq_true c,show(!true)=false from rfl,cond_false,show wI ((k:Int)+1)=((k+1:Nat):Int)from ay O,XF J G u hX uX n (k+1) O O,vG]};{rw[decide_eq_false c];rfl}};{rw[ae O,Qk K,iP rfl]}
theorem qxk:ju m m f0 Z D S I W f6 [W,D] 2 0=some (if bJ W=true/\bJ D=true then .inr (.inl ((f0,Z,D,S,I,W,f6,()),()))else .inl (4,())):=by obtain⟨k,rfl⟩: ∃k,m=k+3:=⟨m-3,O⟩;have u:=XF hm hz h0 hd hw uD uW (f6:=f6) (S:=S) (I:=I) (f0:=f0) (Z:=Z) [W,D] 2 0 hw uW (k+3) 0 O O;have h2:=XF hm hz h0 hd hw uD uW (f6:=f6) (S:=S) (I:=I) (f0:=f0) (Z:=Z) [W,D] 2 1 (show D.length<=100000 by omega) uD (k+3) 0 O O;rw[nZ]at u h2;have G:([W,D]:List LI).getD (0+(0:Int).toNat) []=W:=rfl;have e2:([W,D]:List LI).getD (0+(1:Int).toNat) []=D:=rfl;rw[ju,bQ,iP O,iP (by simp),G,u,bS,show qw (λi=>decide (aS (W.getD i 0))) 0 W.length=bJ W from rfl];cases K:bJ W with|false=>rw[ae (by decide),ae (λq=>by cases q.1)]|true=>{rw[iP rfl];dsimp only;rw[show wI (0+1)=1 from by rw[wQ,wi O O];rfl,ju,bQ,iP O,iP (by simp),e2,h2,bS,show qw (λi=>decide (aS (D.getD i 0))) 0 D.length=bJ D from rfl];cases J:bJ D with|false=>rw[ae (by decide),ae (λq=>by cases q.2)]|true=>{rw[iP rfl,iP ⟨rfl,rfl⟩];dsimp only;rw[show wI (1+1)=2 from by rw[wQ,wi O O];rfl,ju,bQ,ae O]}}
theorem qp2 (out:List (List DyR)) (G u:Int) {b:Nat} (hl:b<=1000) {N:Nat} (hN:N<=3) {p:Nat} (J:p+N<=D.length): ∀(n k:Nat),N-k<n->k<=N->
 nQ m n f0 Z D S I W f6 out ((p+k:Nat):Int) ((List.range k).map λi=>B3 (d8 (D.getD (p+i) 0))) Z G u (N:Int) (k:Int)=
  some (.inl ((f0,Z,D,S,I,W,f6,()),out,((p+N:Nat):Int),(List.range N).map λi=>B3 (d8 (D.getD (p+i) 0)),Z,G,u,()))
 |0,k,h,_=>absurd h (zC _)
 |n+1,k,h,K=>by rw[nQ,bQ];by_cases hk:k<N;{rw[iP O,iP O,tN,cw O (uD (p+k) O),bS];dsimp only;rw[iP (by show _+1<=_;rw[zi,yf];omega),show wI (((p+k:Nat):Int)+1)=((p+(k+1):Nat):Int)from by rw[wQ,wi O O];omega,show wI ((k:Int)+1)=((k+1:Nat):Int)from ay O];have:=qp2 out G u hl hN J n (k+1) O O;rw[Cr,tR]at this;exact this};{rw[ae O,show k=N by omega]}
theorem qo5 (hP:PV f0.length Z D): ∀(n b:Nat),Z.length-b<n->b<=Z.length->
 nR m n f0 Z D S I W f6 ((List.range b).map (fZ D Z)) (bZ Z b) Z (Z.length:Int) (b:Int)=some (.inl ((List.range Z.length).map (fZ D Z),()))
 |0,b,h,_=>absurd h (zC _)
 |n+1,b,h,c0=>by rw[nR,bQ];by_cases hb:b<Z.length;{have hv:=Z7.1 (hP.1 b hb);have bd:=C0 (b:=b) λi hi=>hP.1 i O;have K:=N8 (c:=Z.length) hP.1 (b:=b+1) O;have hn:=hP.2.2.2;have e1:bZ Z (b+1)=bZ Z b+(2*Z.getD b 0-1):=rfl;obtain⟨p,u⟩: ∃p:Nat,bZ Z b=(p:Int):=⟨(bZ Z b).toNat,O⟩;obtain⟨N,hN⟩: ∃N:Nat,2*Z.getD b 0-1=(N:Int):=⟨(2*Z.getD b 0-1).toNat,O⟩;have J:wI (wI (2*Z.getD b 0)-1)=(N:Int):=by{simp only[wQ];rw[wi (n:=2*Z.getD b 0) O O,wi O O];omega};have G:=qp2 hm hz h0 hd hw uD uW (f0:=f0) (Z:=Z) (S:=S) (I:=I) (f6:=f6) ((List.range b).map (fZ D Z)) (Z.length:Int) (b:Int) (b:=b) O (N:=N) O (p:=p) O m 0 O O;rw[List.range_zero,GK,zS,nZ]at G;rw[iP O,iP O,tN,J,u,G,bS];dsimp only;rw[iP (by show 0<1/\_+1<=_;rw[zi,yf];omega)];have er:(List.range N).map (λi=>B3 (d8 (D.getD (p+i) 0)))=fZ D Z b:=by{unfold fZ;rw[hN,u,tN,tN]};have ed:((p+N:Nat):Int)=bZ Z (b+1):=O;rw[er,ed,show wI ((b:Int)+1)=((b+1:Nat):Int)from ay O];have:=qo5 hP n (b+1) O O;rw[Cr,tR]at this;exact this};{rw[ae O,show b=Z.length by omega]}
theorem qtq (hP:PV f0.length Z D) (hD:cf D): ∀(n b:Nat),Z.length-b<n->b<=Z.length->
 lI m n ((List.range Z.length).map (fZ D Z)) (Z.length:Int) (b:Int)=some (if qw (x4 D Z) b Z.length=true then .inr (.inl ())else .inl (4,()))
 |0,b,h,_=>absurd h (zC _)
 |n+1,b,h,g0=>by rw[lI,bQ];by_cases hb:b<Z.length;{have hv:=Z7.1 (hP.1 b hb);have bd:=C0 (b:=b) λi hi=>hP.1 i O;have e0:=N8 (c:=Z.length) hP.1 (b:=b+1) O;have hn:=hP.2.2.2;have e1:bZ Z (b+1)=bZ Z b+(2*Z.getD b 0-1):=rfl;have eg:((List.range Z.length).map (fZ D Z)).getD b []=fZ D Z b:=by{rw[List.getD_eq_getElem?_getD,List.getElem?_map,List.getElem?_range hb];rfl};rw[iP O,iP (by rw[zi,yf];omega),tN,eg,show wI ((b:Int)+1)=((b+1:Nat):Int)from ay O,qtq hP hD n (b+1) O O,aB,Qd hb];rcases hv with hv|hv;{have d0:x4 D Z b=true:=by{unfold x4;rw[hv];rfl};rw[ae (by unfold fZ;rw[hv,zi,yf];decide),d0,vG]};{obtain⟨p,hp⟩: ∃p:Nat,bZ Z b=(p:Int):=⟨(bZ Z b).toNat,O⟩;have er:fZ D Z b=[B3 (d8 (D.getD p 0)),B3 (d8 (D.getD (p+1) 0)),B3 (d8 (D.getD (p+2) 0))]:=by{unfold fZ;rw[hv,hp,tN];rfl};have J:=(hD p O).2;have u:=(hD (p+1) O).2;have G:=(hD (p+2) O).2;have c0:=qx3 (D:=D) (k:=p) (λi hi=>(hD (p+i) O).2);have K:E2 m (fZ D Z b)=some (ax (vp D p) (-2148),(),()):=by{rw[E2,er,iP (by simp),iP (by simp)];simp only[No,List.getD_cons_succ];rw[Qs J,Qs u,Qs G];have m1:=Lw (m:=m) O (a:=aE (D.getD p 0)) (b:=aE (D.getD (p+2) 0)) (B:= -1074) (C:= -1074);have m2:=Lw (m:=m) O (a:=aE (D.getD (p+1) 0)) (b:=aE (D.getD (p+1) 0)) (B:= -1074) (C:= -1074);rw[iP ⟨cq J,cq G⟩,show(-1074:Int)+ -1074= -2148 by decide]at m1;rw[iP ⟨cq u,cq u⟩,show(-1074:Int)+ -1074= -2148 by decide]at m2;unfold B3;dsimp only;rw[m1,bS,iP (by simp),iP (by simp),m2,bS];dsimp only;rw[Lz O,iP ⟨Jf J G,Jf u u⟩,bS];rfl};rw[iP (by rw[er];rfl),K,bS];dsimp only;rw[Ob O c0,bS,aB];dsimp only;unfold x4;rw[hv,hp,tN];by_cases c:vp D p=0;{rw[iP (Qb.2 c),decide_eq_true c];rfl};{rw[ae (λh=>c (Qb.1 h)),decide_eq_false c];rfl}}};{rw[ae O,Qk hb,iP rfl]}
end
def B7 (f0 Z D S I W:LI) (f6:Int):Int:=
 if f0.length>200 then 6 else if iJ f0=false then 90 else if S.length≠f0.length+1 then 2 else if I.length≠W.length then 2
 else if¬Ni f0.length Z D S I f6 then 240 else if¬(bJ W=true/\bJ D=true)then 4 else if qw (x4 D Z) 0 Z.length=false then 4 else 0
end Go.Vs.F
set_option maxRecDepth 100000
namespace Go.Vs.F
def sm:Nat->(Nat->Int)->Int
 |0,_=>0
 |n+1,f=>sm n f+f n
def Oc {f g:Nat->Int}: ∀{n:Nat},(∀i,i<n->f i=g i)->sm n f=sm n g
 |0,_=>rfl
 |n+1,h=>by rw[sm,sm,Oc λi u=>h i O,h n O]
def YS {f:Nat->Int}: ∀{n:Nat},(∀i,i<n->f i=0)->sm n f=0
 |0,_=>rfl
 |n+1,h=>by rw[sm,YS λi u=>h i O,h n O];rfl
def qxv {f:Nat->Int} {k:Nat}: ∀{n:Nat},k<=n->(∀i,k<=i->i<n->f i=0)->sm n f=sm k f
 |0,h,_=>by rw[show k=0 by omega]
 |n+1,h,hz=>by by_cases c:k=n+1;{rw[c]};{rw[sm,hz n O O,qxv O λi u h2=>hz i u O];omega}
def ZZ {f:Nat->Int} {k:Nat}: ∀{r:Nat},sm (k+r) f=sm k f+sm r λi=>f (k+i)
 |0=>by simp[sm]
 |r+1=>by rw[<-Nat.add_assoc,sm,sm,ZZ];omega
def quv {f g:Nat->Int} {k:Nat}: ∀{n:Nat},k<n->(∀i,i<n->i≠k->f i=g i)->sm n f=sm n g+(f k-g k)
 |0,h,_=>absurd h (zC _)
 |n+1,h,hz=>by rw[sm,sm];by_cases c:k=n;{subst c;rw[Oc λi u=>hz i O O];omega};{rw[quv (n:=n) O λi G h2=>hz i O h2,hz n O O];omega}
def ent (S I W:LI) (i j:Nat):Nat->Int
 |0=>0
 |c+1=>if S.getD j 0<=(c:Int)/\(c:Int)<S.getD (j+1) 0/\I.getD c 0=(i:Int)then W.getD c 0 else ent S I W i j c
section
variable {S I W:LI} {i j:Nat}
def YY: ∀{c:Nat},(c:Int)<=S.getD j 0->ent S I W i j c=0
 |0,_=>rfl
 |c+1,h=>by rw[ent,ae O,YY O]
def qik: ∀{d c:Nat},S.getD (j+1) 0<=(c:Int)->ent S I W i j (c+d)=ent S I W i j c
 |0,c,_=>rfl
 |d+1,c,h=>by rw[<-Nat.add_assoc,ent,ae O,qik h]
def Z1: ∀{c:Nat},(∀k:Nat,k<c->S.getD j 0<=(k:Int)->(k:Int)<S.getD (j+1) 0->I.getD k 0≠(i:Int))->ent S I W i j c=0
 |0,_=>rfl
 |c+1,h=>by rw[ent,ae (λq=>h c O q.1 q.2.1 q.2.2),Z1 λk u=>h k O]
end
def QC:aE 0=0:=by decide+kernel
structure vz (n:Nat) (S I W:LI):Prop where
 hn:n<=200
 hS:S.length=n+1
 IW:I.length=W.length
 Il:I.length<=5000
 st:cn n S I
 lo: ∀j c:Nat,j<n->S.getD j 0<=(c:Int)->(c:Int)<S.getD (j+1) 0->(j:Int)<I.getD c 0/\I.getD c 0<(n:Int)
 up: ∀j c:Nat,j<n->S.getD j 0<(c:Int)->(c:Int)<S.getD (j+1) 0->I.getD (c-1) 0<I.getD c 0
 hW:cf W
section
variable {n:Nat} {S I W:LI} (h:vz n S I W)
include h
theorem vz.inc {j:Nat} (u:j<n): ∀{d a:Nat},S.getD j 0<=(a:Int)->((a+d+1:Nat):Int)<S.getD (j+1) 0->I.getD a 0<I.getD (a+d+1) 0
 |0,a,G,h2=>h.up j (a+1) u O O
 |d+1,a,G,h2=>by have K:=vz.inc u (d:=d) (a:=a) G O;have J:=h.up j (a+(d+1)+1) u O h2;have e:a+(d+1)+1-1=a+d+1:=O;rw[e]at J;omega
theorem vz.fresh {j c:Nat} (u:j<n) (J:S.getD j 0<=(c:Int)) (h2:(c:Int)<S.getD (j+1) 0):ent S I W (I.getD c 0).toNat j c=0:=by obtain⟨l1,l2⟩:=h.lo j c u J h2;refine Z1 λk K G O e=> ?_;have:=h.inc u (d:=c-k-1) (a:=k) G (by rw[show k+(c-k-1)+1=c by omega];exact h2);rw[show k+(c-k-1)+1=c by omega,e]at this;omega
theorem vz.step {j c i:Nat} (G:j<n) (u:S.getD j 0<=(c:Int)) (h2:(c:Int)<S.getD (j+1) 0):ent S I W i j (c+1)=if i=(I.getD c 0).toNat then W.getD c 0 else ent S I W i j c:=by obtain⟨l1,l2⟩:=h.lo j c G u h2;rw[ent];by_cases e:i=(I.getD c 0).toNat;{rw[iP e,iP ⟨u,h2,O⟩]};{rw[ae e,ae (λq=>e O)]}
theorem vz.upper {i j:Nat} (u:j<n) (O:i<=j): ∀{c:Nat},ent S I W i j c=0:=by intro c;refine Z1 λk K J G e=> ?_;have:=h.lo j k u J G;omega
theorem vz.full {i j:Nat} (u:j<n):ent S I W i j I.length=ent S I W i j (S.getD (j+1) 0).toNat:=by have r:=h.st.rng (j:=j+1) O;obtain⟨d,hd⟩: ∃d,I.length=(S.getD (j+1) 0).toNat+d:=⟨I.length-(S.getD (j+1) 0).toNat,O⟩;rw[hd,qik O]
end
def TT (S I W:LI) (i j:Nat):Int:=aE (ent S I W i j I.length)
def vz.TT0 {n:Nat} {S I W:LI} (h:vz n S I W) {i j:Nat} (u:j<n) (G:i<=j):TT S I W i j=0:=by unfold TT;rw[h.upper u G,QC]
def qqq {a b:LI} {k:Nat} (h:k<a.length):(a++b).getD k 0=a.getD k 0:=by simp[List.getD,List.getElem?_append_left h]
def qmc {a b:LI} {k:Nat} (h:a.length<=k):(a++b).getD k 0=b.getD (k-a.length) 0:=by simp[List.getD,List.getElem?_append_right h]
def Gp (T:Nat->Nat->Int) (b:Nat->Int):Nat->LI
 |0=>[]
 |k+1=>Gp T b k++[Xp (ax (iu (b k)-sm k λj=>T k j*aE ((Gp T b k).getD j 0)) (-2148)) 0]
def VA {T:Nat->Nat->Int} {b:Nat->Int}: ∀{k:Nat},(Gp T b k).length=k
 |0=>rfl
 |k+1=>by rw[Gp,zG,VA];rfl
def qoj {T:Nat->Nat->Int} {b:Nat->Int} {j:Nat}: ∀{d:Nat},(Gp T b (j+1+d)).getD j 0=(Gp T b (j+1)).getD j 0
 |0=>rfl
 |d+1=>by rw[<-Nat.add_assoc,Gp,qqq (by rw[VA];omega),qoj]
def Oy (T:Nat->Nat->Int) (b:Nat->Int) (k:Nat):Int:=(Gp T b (k+1)).getD k 0
def YA {T:Nat->Nat->Int} {b:Nat->Int} {k:Nat}:Oy T b k=Xp (ax (iu (b k)-sm k λj=>T k j*aE (Oy T b j)) (-2148)) 0:=by unfold Oy;rw[Gp,qmc (by rw[VA];omega),VA,x9,No];rw[Oc λj u=> ?_];rw[show k=j+1+(k-j-1) by omega,qoj]
def wU {T:Nat->Nat->Int} {b:Nat->Int} {k:Nat}:b7 (Oy T b k):=by rw[YA];exact LA
def T8 (n:Nat) (T:Nat->Nat->Int) (b:Nat->Int) (k:Nat):Int:=Oy (λr c=>T (n-1-c) (n-1-r)) (λr=>b (n-1-r)) (n-1-k)
def B8 {n:Nat} {T:Nat->Nat->Int} {b:Nat->Int} {k:Nat}:b7 (T8 n T b k):=wU
def qvu {f:Nat->Int} {r:Nat}:sm (r+1) f=f 0+sm r λi=>f (i+1):=by rw[tS,ZZ];simp[sm,tS]
def qua: ∀{r:Nat} {f:Nat->Int},sm r f=sm r λi=>f (r-1-i)
 |0,f=>rfl
 |r+1,f=>by rw[qvu,qua (r:=r) (f:=λi=>f (i+1)),sm];simp only[Nm,x9];rw[Oc (f:=λi=>f (r-1-i+1)) (g:=λi=>f (r-i)) λi u=>by rw[show r-1-i+1=r-i by omega]];omega
def qxu {n:Nat} {T:Nat->Nat->Int} {b:Nat->Int} {k:Nat} (u:k<n):T8 n T b k=Xp (ax (iu (b k)-sm (n-k-1) λi=>T (k+1+i) k*aE (T8 n T b (k+1+i))) (-2148)) 0:=by unfold T8;rw[YA,show n-1-(n-1-k)=k by omega,show n-1-k=n-k-1 by omega,qua (r:=n-k-1)];rw[Oc (n:=n-k-1) λi G=> ?_];rw[show n-1-(n-k-1-1-i)=k+1+i by omega,show n-k-1-1-i=n-1-(k+1+i) by omega]
def DL (l:List bR) (t:Int) (c:Nat):Prop:= ∃zs:LI,l=zs.map (dy (-2148))/\(∀z∈zs,cd z (-2148))/\dK zs=t/\zs.length<=c
def DL.add {l:List bR} {t z:Int} {c:Nat} (h:DL l t c) (hz:cd z (-2148)):DL (l++[((ax z (-2148)).1,((ax z (-2148)).2.1,(ax z (-2148)).2.2.1),(ax z (-2148)).2.2.2.1)]) (t+z) (c+1):=by obtain⟨zs,J,h2,G,K⟩:=h;refine⟨zs++[z],by rw[J,tR];rfl,?_,by rw[qhp,G];simp[dK],by simp;omega⟩;intro x u;rcases zZ.1 u with u|u;{exact h2 x u};{rw[zA.1 u];exact hz}
def DL.one {z:Int} (hz:cd z (-2148)):DL [((ax z (-2148)).1,((ax z (-2148)).2.1,(ax z (-2148)).2.2.1),(ax z (-2148)).2.2.2.1)] z 1:=
 ⟨[z],rfl,λx u=>by rw[zA.1 u];exact hz,by simp[dK],by simp⟩
def DL.mono {l:List bR} {t:Int} {c d:Nat} (h:DL l t c) (hd:c<=d):DL l t d:=by obtain⟨zs,G,h2,u,J⟩:=h;exact⟨zs,G,h2,u,O⟩
def DL.len {l:List bR} {t:Int} {c:Nat} (h:DL l t c):l.length<=c:=by obtain⟨zs,G,h2,J,u⟩:=h;rw[G,zi];exact u
def DL.rsum {m:Nat} (hm:3000000<m) {l:List bR} {t:Int} {c:Nat} (h:DL l t c) (hc:c<=10000):Ov m l=some (ax t (-2148),(),()):=by obtain⟨zs,G,h2,u,J⟩:=h;rw[G,qx4 hm O h2,u]
def SS (n:Nat) (s:List (List bR)) (t:Nat->Int) (c:Nat):Prop:=s.length=n/\ ∀i,i<n->DL (s.getD i []) (t i) c
def SS.set {n:Nat} {s:List (List bR)} {t t':Nat->Int} {c:Nat} (h:SS n s t c) {k:Nat} (G:k<n) {l:List bR} (hl:DL l (t' k) (c+1)) (u: ∀i,i≠k->t' i=t i):SS n (s.set k l) t' (c+1):=by refine⟨by rw[zU];exact h.1,λi J=> ?_⟩;by_cases e:i=k;{subst e;rw[show(s.set i l).getD i []=l by simp[List.getD,h.1,G]];exact hl};{rw[show(s.set k l).getD i []=s.getD i [] by simp[List.getD,List.getElem?_set,Ne.symm e],u i e];exact(h.2 i J).mono O}
end Go.Vs.F
set_option maxRecDepth 100000
namespace Go.Vs.F
def jg (b o:LI):LI:=fH o.length λi=>b.getD (o.getD i 0).toNat 0
def qhl {b o:LI}:(jg b o).length=o.length:=Zw
section
variable {m:Nat} (hm:5000000000<=m) {b o:LI} (ho:o.length<=1000) (hb:b.length=o.length) (hr: ∀i,i<o.length->0<=o.getD i 0/\o.getD i 0<(o.length:Int))
include hm ho hb hr
theorem qsv (G:cf b):cf (jg b o):=λi u=>by rw[qhl]at u;have h:=hr i u;unfold jg;rw[VI u];exact G _ O
theorem qu3: ∀(n k:Nat),o.length-k<n->k<=o.length->
 nM m n b (eU (List.replicate o.length 0) k λi=>b.getD (o.getD i 0).toNat 0) o (o.length:Int) (k:Int)=some (.inl (jg b o,()))
 |0,k,h,_=>absurd h (zC _)
 |n+1,k,h,G=>by rw[nM,bQ];by_cases u:k<o.length;{have J:=hr k u;rw[iP O,iP O,iP (by rw[tN];omega),iP (by rw[Y1,zM];omega),zH,tN,q81 (q:=λi=>b.getD (o.getD i 0).toNat 0) (by rw[zM];exact u),show wI ((k:Int)+1)=((k+1:Nat):Int)from ay O];exact qu3 n (k+1) O O};{have e:k=(List.replicate o.length (0:Int)).length:=by{rw[zM];omega};rw[ae O,e,q52,zM];rfl}
def mE (b o:LI):Nat->LI
 |0=>List.replicate o.length 0
 |k+1=>(mE b o k).set (o.getD k 0).toNat (b.getD k 0)
omit hm ho hb hr in
theorem LD: ∀{k:Nat},(mE b o k).length=o.length
 |0=>zM
 |k+1=>by rw[mE,zU,LD]
theorem qid (G:cf b): ∀{k:Nat},k<=o.length->cf (mE b o k)
 |0,_,i,u=>by{rw[LD]at u;rw[mE,show(List.replicate o.length (0:Int)).getD i 0=0 by simp[List.getD,u]];exact⟨NU,by unfold aS;decide⟩}
 |k+1,J,i,u=>by have K:=hr k O;rw[LD]at u;rw[mE,q78 (by rw[LD];omega)];split;{exact G k O};{exact qid G (k:=k) O i (by rw[LD];exact u)}
theorem qtf: ∀(n k:Nat),o.length-k<n->k<=o.length->
 nJ m n b (mE b o k) o (o.length:Int) (k:Int)=some (.inl (mE b o o.length,()))
 |0,k,h,_=>absurd h (zC _)
 |n+1,k,h,u=>by rw[nJ,bQ];by_cases G:k<o.length;{have J:=hr k G;rw[iP O,iP O,iP O,tN,iP (by rw[LD];omega),zH,<-mE,show wI ((k:Int)+1)=((k+1:Nat):Int)from ay O];exact qtf n (k+1) O O};{rw[ae O,show k=o.length by omega]}
end
def qon {m:Nat} (hm:3000000<m) {B:Int} {zs:LI} (hl:zs.length<=10000) (G: ∀z∈zs,cd z B) (t0 t1:Bool) (K:LI) (J:Int): ∀(n k:Nat) (e:Int),zs.length-k<n->k<=zs.length->
 j6 m n (zs.map (dy B)) t0 t1 K J ((zs.take k).map (dy B)) e (zs.length:Int) (k:Int)=some (.inr (.inl (zs.map (dy B),(t0,t1,K,J,()),zs.map (dy B),jL B e (zs.drop k),())))
 |0,k,e,h,_=>absurd h (zC _)
 |n+1,k,e,h,c0=>by rw[j6,bQ];by_cases u:k<zs.length;{have hz:cd (zs.getD k 0) B:=G _ (Xm u);have ih:=qon hm hl G t0 t1 K J n (k+1) (if(ax (zs.getD k 0) B).2.2.2.1<e then(ax (zs.getD k 0) B).2.2.2.1 else e) O O;rw[iP O,iP (by rw[zi];omega),zH,tN,T6 u,show gR m (dy B (zs.getD k 0)).1 (dy B (zs.getD k 0)).2.1.1 (dy B (zs.getD k 0)).2.1.2 (dy B (zs.getD k 0)).2.2=_ from Ly hm,bS];dsimp only;rw[decide_eq_true hz,qS,cond_false,iP (by simp;omega),show wI ((k:Int)+1)=((k+1:Nat):Int)from ay O];have e1:(zs.take k).map (dy B)++[((ax (zs.getD k 0) B).1,((ax (zs.getD k 0) B).2.1,(ax (zs.getD k 0) B).2.2.1),(ax (zs.getD k 0) B).2.2.2.1)]=(zs.take (k+1)).map (dy B):=by{rw[OJ u,tR];simp[dy,B3,List.getD,u]};have e2:jL B e (zs.drop k)=jL B (if(ax (zs.getD k 0) B).2.2.2.1<e then(ax (zs.getD k 0) B).2.2.2.1 else e) (zs.drop (k+1)):=by{rw[GE u,jL];simp[List.getD,u]};rw[e1,e2];exact ih};{have:k=zs.length:=O;subst this;rw[ae O,GG,List.drop_length];rfl}
def qpf {m:Nat} (hm:3000000<m) {B:Int} {zs:LI} (hl:zs.length<=10000) (G: ∀z∈zs,cd z B) {E:Int} (K: -65536<=E) (c0:E<=0) (hE: ∀z∈zs,E<=(ax z B).2.2.2.1) (l:List bR) (t0 t1:Bool) (t2:LI) (t3:Int): ∀(n k:Nat) (S:Int),zs.length-k<n->k<=zs.length->
 ak S.natAbs<=300000+k->cW S E (dK (zs.take k)) B->
 ∃T,j5 m n l t0 t1 t2 t3 E (zB S).1 (zB S).2.1 (zs.map (dy B)) (zs.length:Int) (k:Int)=some (.inl (l,(t0,t1,t2,t3,()),E,((zB T).1,(zB T).2.1,()),()))/\ak T.natAbs<=400000/\cW T E (dK zs) B
 |0,k,S,h,_,_,_=>absurd h (zC _)
 |n+1,k,S,h,d0,hS,hQ=>by rw[j5,bQ];by_cases hk:k<zs.length;{have hz:cd (zs.getD k 0) B:=G _ (Xm hk);obtain⟨w,f,u,k1,k2,k3⟩:=X5 hz;have J:E<=f:=by{rw[<-k3];exact hE _ (Xm hk)};have g0:=u.lo;have e0:=u.hi;have s1:=o7 u J K;have hle:=u.len;have w1:wI (f-E)=f-E:=by{rw[wQ,wi O O]};have q2:cW (S+sc w f E) E (dK (zs.take (k+1))) B:=by{rw[Om hk];exact hQ.add (c:=0) (g:=0) ((cW.sc J).trans u.eq)};have q1:ak (S+sc w f E).natAbs<=300000+(k+1):=by{have:=Y0 (k:=300000+k) hS (zQ s1 O);omega};obtain⟨T,i1,i2,i3⟩:=qpf hm hl G K c0 hE l t0 t1 t2 t3 n (k+1) (S+sc w f E) O O q1 q2;refine⟨T,?_,i2,i3⟩;rw[iP O,iP (by rw[zi];omega),tN,zH,T6 hk,show(dy B (zs.getD k 0)).2.1.1=(zB w).1 from k1,show(dy B (zs.getD k 0)).2.1.2=(zB w).2.1 from k2,show(dy B (zs.getD k 0)).2.2=f from k3,w1,eI hm O O O,bS];dsimp only;rw[NQ O (pR O) (pR (by unfold sc at s1;omega)),aM,aM,bS,show wI ((k:Int)+1)=((k+1:Nat):Int)from ay O];exact i1};{have:k=zs.length:=O;subst this;rw[GG]at hQ;exact⟨S,by rw[ae O],O,hQ⟩}
def qx0 {m:Nat} (hm:3000000<m) {B:Int} {zs:LI} (hl:zs.length<=10000) (u: ∀z∈zs,cd z B):ta m (zs.map (dy B))=some (ax (dK zs) B,zs.map (dy B),()):=by have h0:=qon hm hl u false false [] 0 m 0 0 O O;rw[xh,lN,GK,nZ]at h0;rw[ta,zi,h0,bS];dsimp only;have K:=ZJ (B:=B) (zs:=zs) (e:=0);have G:=YX (B:=B) (zs:=zs) (e:=0) O u;obtain⟨T,J,i2,i3⟩:=qpf hm hl u G K.1 K.2 (zs.map (dy B)) false false [] 0 m 0 0 O O (zQ (Qq (n:=0) (k:=0) (by decide)) O) (cW.zero _ _);rw[nZ]at J;rw[zi,show([]:LI)=(zB 0).2.1 from Q5.symm,show false=(zB 0).1 from rfl];rw[show(zB 0).1=false from rfl,show(zB 0).2.1=([]:LI)from Q5]at*;rw[J,bS];dsimp only;rw[G1 hm O O O,i3.mk];rfl
def q7o {m:Nat} (hm:5000000000<=m) {v:LI} (hl:v.length<=1000) (hv:cf v): ∀(n k:Nat) (s:List (List bR)),v.length-k<n->k<=v.length->s.length=v.length->(∀i,i<k->DL (s.getD i []) (iu (v.getD i 0)) 1)->
 ∃G,nK m n s v (v.length:Int) (k:Int)=some (.inl (G,()))/\SS v.length G (λi=>iu (v.getD i 0)) 1
 |0,k,s,h,_,_,_=>absurd h (zC _)
 |n+1,k,s,h,K,hs,hd=>by rw[nK,bQ];by_cases J:k<v.length;{obtain⟨u,f⟩:=hv k J;rw[iP O,iP O,tN,cw O u,bS,iP O,ZU f,show wI ((k:Int)+1)=((k+1:Nat):Int)from ay O];refine q7o hm hl hv n (k+1) _ O O (by rw[zU];exact hs) λi hi=> ?_;by_cases e:i=k;{subst e;rw[show∀x:List bR,(s.set i x).getD i []=x from λx=>by simp[List.getD,hs,J]];exact DL.one (qpy f)};{rw[show∀x:List bR,(s.set k x).getD i []=s.getD i []from λx=>by simp[List.getD,List.getElem?_set,Ne.symm e]];exact hd i O}};{exact⟨s,by rw[ae O],hs,λi hi=>hd i O⟩}
def qi1 {m:Nat} (hm:5000000000<=m) {v:LI} (hl:v.length<=1000) (hv:cf v): ∃s,sW m v=some (s,(),())/\SS v.length s (λi=>iu (v.getD i 0)) 1:=by obtain⟨s,u,h2⟩:=q7o hm hl hv m 0 (List.replicate v.length []) O O zM (λi G=>absurd G (zC _));rw[nZ]at u;exact⟨s,by rw[sW,iP O,tN,u];rfl,h2⟩
def qi7 {m:Nat} (hm:5000000000<=m) {n:Nat} {s:List (List bR)} {t:Nat->Int} {c:Nat} (h:SS n s t c) (hc:c<=10000) {k:Nat} (u:k<n):AT m s (k:Int)=some (ax (t k) (-2148),s,(),()):=by obtain⟨zs,G,h2,J,K⟩:=h.2 k u;have hl:=h.1;have hs:ta m (zs.map (dy (-2148)))=some (ax (dK zs) (-2148),zs.map (dy (-2148)),()):=qx0 O O h2;rw[AT,iP O,tN,G,hs,bS,J];dsimp only;rw[<-G,show s.set k (s.getD k [])=s from by rw[show s.getD k []=s[k] by simp[List.getD,hl,u]];exact List.set_getElem_self _]
def q7n {m:Nat} (hm:5000000000<=m) {n:Nat} {s:List (List bR)} {t:Nat->Int} {c:Nat} (h:SS n s t c) (hc:c<=10000) {k:Nat} (K:k<n) {a b:Int} (ha:b7 a) (G:aS a) (hb:b7 b) (u:aS b):
 ∃J,AU m s (k:Int) a b=some ((),J,(),(),(),())/\SS n J (λi=>if i=k then t i-aE a*aE b else t i) (c+1):=by have hl:=h.1;have hd:=h.2 k K;have c0:=hd.len;have hp:cd (-(aE a*aE b)) (-2148):=by{have:=Jf G u;rw[Y2]at*;rw[xg];omega};have hA:=hd.add hp;rw[show t k+ -(aE a*aE b)=(λi=>if i=k then t i-aE a*aE b else t i) k by dsimp only;rw[iP rfl];omega]at hA;refine⟨_,?_,h.set K (t':=λi=>if i=k then t i-aE a*aE b else t i) hA λi hi=>ae hi⟩;rw[AU,iP O,cw O ha,bS,cw O hb,bS,Qs G,Qs u];dsimp only;rw[Lw O,iP ⟨cq G,cq u⟩,bS,show(-1074:Int)+ -1074= -2148 by decide];dsimp only;rw[qq7 O,bS];dsimp only;rw[tN,iP (by rw[zN];omega),iP O,iP rfl]
end Go.Vs.F
set_option maxRecDepth 100000
namespace Go.Vs.F
abbrev oU (y:Nat->Int) (i:Nat):Bool:=decide (aS (y i))
def iC (S I W v:LI):Nat->Int:=Oy (TT S I W) λi=>v.getD i 0
def tF (S I W v:LI) (j i:Nat):Int:=iu (v.getD i 0)-sm j λk=>TT S I W i k*aE (iC S I W v k)
section
variable {m:Nat} (hm:5000000000<=m) {n:Nat} {S I W:LI} (hC:vz n S I W) {v:LI} (hv:cf v) (hl:v.length=n)
include hm hC hv hl
theorem qhs (K:LI) (J G:Int) {j:Nat} (hj:j<n) (c0:K.length=n) (hy:K.getD j 0=iC S I W v j) (fy:aS (iC S I W v j)): ∀(N c:Nat) (s:List (List bR)),(S.getD (j+1) 0).toNat-c<N->S.getD j 0<=(c:Int)->(c:Int)<=S.getD (j+1) 0->
 SS n s (λi=>tF S I W v j i-aE (ent S I W i j c)*aE (iC S I W v j)) (1+c)->
 ∃s',nN m N S I W s K (j:Int) (c:Int) J G=some (.inl (S,I,W,s',K,J,G,()))/\SS n s' (tF S I W v (j+1)) (1+(S.getD (j+1) 0).toNat)
 |0,c,s,h,_,_,_=>absurd h (zC _)
 |N+1,c,s,h,h1,h2,hs=>by have hn:=hC.hn;have hS:=hC.hS;have e0:=hC.IW;have d0:=hC.Il;have hr:=hC.st.rng (j:=j+1) O;have w1:wI ((j:Int)+1)=((j+1:Nat):Int):=by{rw[wQ,wi O O];omega};rw[nN,w1,iP O,tN,bQ];by_cases hc:(c:Int)<S.getD (j+1) 0;{obtain⟨l1,l2⟩:=hC.lo j c hj h1 hc;obtain⟨u,f⟩:=hC.hW c O;have uy:b7 (iC S I W v j):=wU;obtain⟨s1,e1,e2⟩:=q7n hm hs O (k:=(I.getD c 0).toNat) O u f uy fy;rw[show(((I.getD c 0).toNat:Nat):Int)=I.getD c 0 by omega]at e1;rw[iP hc,iP O,iP O,iP O,zH,tN,tN,hy,e1,bS,show wI ((c:Int)+1)=((c+1:Nat):Int)from ay O];refine qhs K J G hj c0 hy fy N (c+1) s1 O O O ⟨e2.1,λi hi=> ?_⟩;have:=e2.2 i hi;dsimp only at this⊢;rw[hC.step hj h1 hc];by_cases e:i=(I.getD c 0).toNat;{rw[iP e]at this⊢;rw[e,hC.fresh hj h1 hc,QC,xe,OK]at this;rw[e];rw[show 1+(c+1)=1+c+1 by omega];exact this};{rw[ae e]at this⊢;rw[show 1+(c+1)=1+c+1 by omega];exact this}};{refine⟨s,by rw[ae hc],hs.1,λi hi=> ?_⟩;have:=hs.2 i hi;have ec:c=(S.getD (j+1) 0).toNat:=O;dsimp only at this;rw[ec,<-hC.full hj]at this;rw[show tF S I W v (j+1) i=tF S I W v j i-aE (ent S I W i j I.length)*aE (iC S I W v j)from by unfold tF;rw[sm];unfold TT;omega];exact this}
theorem qwv {j:Nat}:Xp (ax (tF S I W v j j) (-2148)) 0=iC S I W v j:=by unfold iC;rw[YA];rfl
theorem qia: ∀(N j:Nat) (s:List (List bR)),n-j<N->j<=n->SS n s (tF S I W v j) (1+(S.getD j 0).toNat)->
 nO m N S I W s (eU (List.replicate n 0) j (iC S I W v)) (n:Int) (j:Int)=some (if qw (oU (iC S I W v)) j n=true then .inr (.inl (fH n (iC S I W v),()))else .inl ([],233,()))
 |0,j,s,h,_,_=>absurd h (zC _)
 |N+1,j,s,h,d0,hs=>by have hn:=hC.hn;have hS:=hC.hS;have i0:=hC.IW;have g0:=hC.Il;rw[nO,bQ];by_cases u:j<n;{have c0:=hC.st.rng (j:=j) O;have hr:=hC.st.rng (j:=j+1) O;have hle:=hC.st.le (i:=j) (j:=j+1) O O;have uy:b7 (iC S I W v j):=wU;have e0:(eU (List.replicate n (0:Int)) j (iC S I W v)).length=n:=by{rw[Y1,zM]};have G:(eU (List.replicate n (0:Int)) (j+1) (iC S I W v)).length=n:=by{rw[Y1,zM]};have hg:(eU (List.replicate n (0:Int)) (j+1) (iC S I W v)).getD j 0=iC S I W v j:=by{rw[P8 (by rw[zM];exact u),iP O]};rw[iP O,qi7 hm hs O u,bS];dsimp only;rw[LG O,bS];dsimp only;rw[qwv hm hC hv hl,iP O,zH,tN,q81 (by rw[zM];exact u),iP O,hg,Zt uy,bS,Qd u];by_cases J:aS (iC S I W v j);{have K:SS n s (λi=>tF S I W v j i-aE (ent S I W i j (S.getD j 0).toNat)*aE (iC S I W v j)) (1+(S.getD j 0).toNat):=by{refine⟨hs.1,λi hi=> ?_⟩;have:=hs.2 i hi;dsimp only;rw[YY O,QC,xe,OK];exact this};obtain⟨s',e1,e2⟩:=qhs hm hC hv hl _ (n:Int) (j:Int) u G hg J m (S.getD j 0).toNat s O O O K;rw[show(((S.getD j 0).toNat:Nat):Int)=S.getD j 0 by omega]at e1;rw[show oU (iC S I W v) j=true from decide_eq_true J,decide_eq_true J,show(!true)=false from rfl,cond_false,vG];rw[iP O,e1,bS];dsimp only;rw[show wI ((j:Int)+1)=((j+1:Nat):Int)from ay O];exact qia N (j+1) s' O O e2};{rw[show oU (iC S I W v) j=false from decide_eq_false J,decide_eq_false J,show(!false)=true from rfl,cond_true,CL,ae (by decide)]}};{have e:j=n:=O;subst e;have:=q52 (b:=List.replicate j (0:Int)) (q:=iC S I W v);rw[zM]at this;rw[ae O,this,Qk O,iP rfl];rfl}
theorem qr5:uU m S I W v=some (if qw (oU (iC S I W v)) 0 n=true then(fH n (iC S I W v),0,())else([],233,()),(),(),(),(),()):=by have hn:=hC.hn;obtain⟨s,J,h2⟩:=qi1 hm (v:=v) O hv;have hs:SS n s (tF S I W v 0) (1+(S.getD 0 0).toNat):=by{rw[hl]at h2;refine⟨h2.1,λi G=> ?_⟩;have:=(h2.2 i G).mono (d:=1+(S.getD 0 0).toNat) O;rw[show tF S I W v 0 i=iu (v.getD i 0)from by unfold tF;rw[sm,OK]];exact this};have u:=qia hm hC hv hl m 0 s O O hs;rw[nZ,q51]at u;rw[uU,J,bS,hl,iP O,tN,u,bS];cases qw (oU (iC S I W v)) 0 n<;>rfl
end
end Go.Vs.F
set_option maxRecDepth 100000
namespace Go.Vs.F
section
variable {m:Nat} (hm:5000000000<=m) {n:Nat} {S I W:LI} (hC:vz n S I W) {f0 Z D v:LI} {f6:Int}
include hm hC
end
end Go.Vs.F
set_option maxRecDepth 100000
namespace Go.Vs.F
def qj9 {l:LI} {k i:Nat} (h:i<k):(l.take k).getD i 0=l.getD i 0:=by simp[List.getD,List.getElem?_take,h]
def qp9 {n:Nat} {q:Nat->Int} (h: ∀i,i<n->b7 (q i)/\aS (q i)):cf (fH n q):=λi u=>by rw[Zw]at u;rw[VI u];exact h i u
section
variable {m:Nat} (hm:5000000000<=m) {n:Nat} {S I W:LI} (hC:vz n S I W) {f0 Z D v:LI} {f6:Int} (hv:cf v) (hl:v.length=n)
include hm hC hv hl
end
section
variable {m:Nat} (hm:5000000000<=m) {n:Nat} (hn:n<=200) {q:Nat->Nat->Int}
include hm hn
end
def fk (b:LI) (k:Nat) (q:Nat->Int):LI:=(List.range b.length).map λi=>if k<=i then q i else b.getD i 0
def Zp {b:LI} {k:Nat} {q:Nat->Int}:(fk b k q).length=b.length:=by unfold fk;simp
def QG {b:LI} {k i:Nat} {q:Nat->Int} (u:i<b.length):(fk b k q).getD i 0=if k<=i then q i else b.getD i 0:=by unfold fk;simp[List.getD,u]
def qmq {b:LI} {k:Nat} {q:Nat->Int} (G:k<b.length):(fk b (k+1) q).set k (q k)=fk b k q:=by refine VW (by rw[zU,Zp,Zp]) λi u=> ?_;rw[zU,Zp]at u;rw[q78 (by rw[Zp];exact G),QG u,QG u];by_cases e:i=k;{subst e;rw[iP rfl,iP O]};{rw[ae e];by_cases c:k<=i;{rw[iP O,iP c]};{rw[ae O,ae c]}}
def qma {b:LI} {q:Nat->Int}:fk b b.length q=b:=by refine VW Zp λi u=> ?_;rw[Zp]at u;rw[QG u,ae O]
def qko {b:LI} {q:Nat->Int}:fk b 0 q=fH b.length q:=by unfold fk fH;exact Cm λi u=>iP (lM _)
def kj (n:Nat) (S I W v:LI):Nat->Int:=T8 n (TT S I W) λi=>v.getD i 0
def xX (y:Nat->Int):Nat->Bool
 |0=>true
 |k+1=>oU y k&&xX y k
def qjc {y:Nat->Int}: ∀{k:Nat},xX y k=true↔ ∀i,i<k->aS (y i)
 |0=>⟨λ_ i u=>absurd u (zC _),λ_=>rfl⟩
 |k+1=>by rw[xX,zK,qjc,decide_eq_true_iff];constructor;{rintro ⟨a,b⟩ i u;by_cases e:i=k;{rw[e];exact a};{exact b i O}};{exact λh=>⟨h k O,λi u=>h i O⟩}
section
variable {m:Nat} (hm:5000000000<=m) {n:Nat} {S I W:LI} (hC:vz n S I W) {f0 Z D v:LI} {f6:Int} (hv:cf v) (hl:v.length=n)
include hm hC hv hl
end
end Go.Vs.F
set_option maxRecDepth 100000
namespace Go.Vs.F
def C7 (n:Nat) (S I W v:LI) (k c:Nat):Int:=sm n λi=>aE (ent S I W i k c)*aE (kj n S I W v i)
section
variable {m:Nat} (hm:5000000000<=m) {n:Nat} {S I W:LI} (hC:vz n S I W) {f0 Z D v:LI} {f6:Int} (hv:cf v) (hl:v.length=n)
include hC
theorem qst {k c:Nat} (u:k<n) (G:S.getD k 0<=(c:Int)) (h2:(c:Int)<S.getD (k+1) 0):C7 n S I W v k (c+1)=C7 n S I W v k c+aE (W.getD c 0)*aE (kj n S I W v (I.getD c 0).toNat):=by obtain⟨l1,l2⟩:=hC.lo k c u G h2;unfold C7;rw[quv (k:=(I.getD c 0).toNat) (f:=λi=>aE (ent S I W i k (c+1))*aE (kj n S I W v i)) (g:=λi=>aE (ent S I W i k c)*aE (kj n S I W v i)) O λi J e=>by rw[hC.step u G h2,ae e]];rw[hC.step u G h2,iP rfl,hC.fresh u G h2,QC,xe,OK]
theorem qwo {k:Nat} (u:k<n):C7 n S I W v k (S.getD (k+1) 0).toNat=sm (n-k-1) λi=>TT S I W (k+1+i) k*aE (kj n S I W v (k+1+i)):=by unfold C7;rw[Oc (g:=λi=>TT S I W i k*aE (kj n S I W v i)) λi G=>by rw[<-hC.full u];rfl];have:=ZZ (f:=λi=>TT S I W i k*aE (kj n S I W v i)) (k:=k+1) (r:=n-k-1);rw[show k+1+(n-k-1)=n by omega]at this;rw[this,YS (n:=k+1) λi G=>by rw[hC.TT0 u O,xe],GL]
theorem qru {k c:Nat} (h:(c:Int)<=S.getD k 0):C7 n S I W v k c=0:=by unfold C7;exact YS λi u=>by rw[YY h,QC,xe]
include hm hv hl
theorem qmb {zl:LI} {k:Nat} (J:k<n) (K:zl.length=n) (hz: ∀i,k<i->i<n->zl.getD i 0=kj n S I W v i/\aS (kj n S I W v i)): ∀(N c:Nat) (s:List (List bR)) (t:Nat->Int) (C:Nat),(S.getD (k+1) 0).toNat-c<N->S.getD k 0<=(c:Int)->(c:Int)<=S.getD (k+1) 0->
 SS n s t C->C+((S.getD (k+1) 0).toNat-c)<=9000->t k=iu (v.getD k 0)-C7 n S I W v k c->
 ∃G t',ou m N f0 Z D S I W f6 s zl (k:Int) (c:Int)=some (.inl ((f0,Z,D,S,I,W,f6,()),G,zl,(k:Int),()))/\SS n G t' (C+((S.getD (k+1) 0).toNat-c))/\(∀i,i≠k->t' i=t i)/\t' k=iu (v.getD k 0)-C7 n S I W v k (S.getD (k+1) 0).toNat
 |0,c,s,t,C,h,_,_,_,_,_=>absurd h (zC _)
 |N+1,c,s,t,C,h,h1,h2,hs,e0,ht=>by have hn:=hC.hn;have hS:=hC.hS;have d0:=hC.IW;have c0:=hC.Il;have hr:=hC.st.rng (j:=k+1) O;have w1:wI ((k:Int)+1)=((k+1:Nat):Int):=by{rw[wQ,wi O O];omega};rw[ou,w1,iP O,tN,bQ];by_cases hc:(c:Int)<S.getD (k+1) 0;{obtain⟨l1,l2⟩:=hC.lo k c J h1 hc;obtain⟨u,f⟩:=hC.hW c O;obtain⟨z1,z2⟩:=hz (I.getD c 0).toNat O O;have uy:b7 (kj n S I W v (I.getD c 0).toNat):=B8;obtain⟨s1,e1,e2⟩:=q7n hm hs O J u f uy z2;rw[iP hc,iP O,iP O,tN,iP O,zH,z1,e1,bS,show wI ((c:Int)+1)=((c+1:Nat):Int)from ay O];obtain⟨G,t',g1,g2,g3,g4⟩:=qmb J K hz N (c+1) s1 _ (C+1) O O O e2 O (by rw[iP rfl,ht,qst hC J h1 hc];omega);refine⟨G,t',g1,?_,λi hi=>by rw[g3 i hi];exact ae hi,g4⟩;rw[show C+((S.getD (k+1) 0).toNat-c)=C+1+((S.getD (k+1) 0).toNat-(c+1)) by omega];exact g2};{have ec:c=(S.getD (k+1) 0).toNat:=O;refine⟨s,t,by rw[ae hc],?_,λ_ _=>rfl,by rw[<-ec];exact ht⟩;rw[show C+((S.getD (k+1) 0).toNat-c)=C by omega];exact hs}
theorem qqi: ∀(N k:Nat) (s:List (List bR)) (t:Nat->Int),k<N->k<=n->(∀i,k<=i->i<n->aS (kj n S I W v i))->
 SS n s t (1+(I.length-(S.getD k 0).toNat))->(∀i,i<k->t i=iu (v.getD i 0))->
 fO m N f0 Z D S I W f6 s (fk (List.replicate n 0) k (kj n S I W v)) ((k:Int)-1)=some (if xX (kj n S I W v) k=true then .inr (.inl ((f0,Z,D,S,I,W,f6,()),fH n (kj n S I W v),()))else .inl ([],233,()))
 |0,k,s,t,h,_,_,_,_=>absurd h (zC _)
 |N+1,0,s,t,h,_,_,_,_=>by{rw[fO,bQ,ae O,qko,zM];rfl}
 |N+1,k+1,s,t,h,hk,hf,hs,K=>by have hn:=hC.hn;have hS:=hC.hS;have e0:=hC.IW;have d0:=hC.Il;have c0:=hC.st.rng (j:=k) O;have hr:=hC.st.rng (j:=k+1) O;have hle:=hC.st.le (i:=k) (j:=k+1) O O;have J:(fk (List.replicate n (0:Int)) (k+1) (kj n S I W v)).length=n:=by{rw[Zp,zM]};have fl:(fk (List.replicate n (0:Int)) k (kj n S I W v)).length=n:=by{rw[Zp,zM]};have uy:b7 (kj n S I W v k):=B8;have hg:(fk (List.replicate n (0:Int)) k (kj n S I W v)).getD k 0=kj n S I W v k:=by{rw[QG (by rw[zM];omega),iP O]};have w0:(((k+1:Nat):Int)-1)=(k:Int):=O;obtain⟨s',t',g1,G,g3,g4⟩:=qmb hm hC (f0:=f0) (Z:=Z) (D:=D) (f6:=f6) hv hl (zl:=fk (List.replicate n (0:Int)) (k+1) (kj n S I W v)) (k:=k) O J (λi h1 h2=>⟨by rw[QG (by rw[zM];exact h2),iP O],hf i O h2⟩) m (S.getD k 0).toNat s t _ O O O hs O (by rw[qru hC O,OK];exact K k O);rw[show(((S.getD k 0).toNat:Nat):Int)=S.getD k 0 by omega]at g1;have e3:Xp (ax (t' k) (-2148)) 0=kj n S I W v k:=by{rw[g4,qwo hC O];exact(qxu (T:=TT S I W) (b:=λi=>v.getD i 0) O).symm};rw[w0,fO,bQ,iP O,iP O,tN,g1,bS];dsimp only;rw[qi7 hm G O O,bS];dsimp only;rw[LG O,bS];dsimp only;rw[e3,iP O,zH,tN,qmq (by rw[zM];omega),iP O,hg,Zt uy,bS,xX];dsimp only;by_cases u:aS (kj n S I W v k);{rw[show oU (kj n S I W v) k=true from decide_eq_true u,decide_eq_true u,show(!true)=false from rfl,cond_false,vG,show wI ((k:Int)-1)=(k:Int)-1 from by rw[wQ,wi O O]];refine qqi N k s' t' O O (λi h1 h2=> ?_) ⟨G.1,λi hi=>(G.2 i hi).mono O⟩ λi hi=>by{rw[g3 i O];exact K i O};by_cases e:i=k;{rw[e];exact u};{exact hf i O h2}};{rw[show oU (kj n S I W v) k=false from decide_eq_false u,decide_eq_false u,show(!false)=true from rfl,cond_true,CL,ae (by decide)]}
end
end Go.Vs.F
set_option maxRecDepth 100000
namespace Go.Vs.F
def oneQ (D y:LI) (p d:Nat):D5:=ax (aE (y.getD p 0)*aE (D.getD (d+2) 0)-aE (y.getD (p+1) 0)*aE (D.getD (d+1) 0)) (-2148)
def WY (D y:LI) (p d:Nat):D5:=ax (aE (y.getD (p+1) 0)*aE (D.getD d 0)-aE (y.getD p 0)*aE (D.getD (d+1) 0)) (-2148)
def Gv (D y:LI) (p d:Nat) (one:Bool):LI:=if one then [mf (d8 (y.getD p 0)) (d8 (D.getD d 0)) 0]else [mf (oneQ D y p d) (ax (vp D d) (-2148)) 0,mf (WY D y p d) (ax (vp D d) (-2148)) 0]
def jd (Z D y:LI):Nat->LI
 |0=>[]
 |b+1=>jd Z D y b++Gv D y (pre Z b).toNat (bZ Z b).toNat (Z.getD b 0==1)
def qxg {D y:LI} {p d:Nat} {one:Bool}: ∀x∈Gv D y p d one,b7 x:=by intro x u;unfold Gv at u;split at u;{rw[zA.1 u];exact Pn};{rcases mC u with u|u;{rw[u];exact Pn};{rw[zA.1 u];exact Pn}}
def qtr {Z D y:LI}: ∀{b:Nat},∀x∈jd Z D y b,b7 x
 |0,x,u=>by cases u
 |b+1,x,u=>by rw[jd,zZ]at u;rcases u with u|u;{exact qtr x u};{exact qxg x u}
def qan {Z D y:LI}: ∀{b:Nat},(∀i,i<b->xr Z i=true)->((jd Z D y b).length:Int)=pre Z b
 |0,_=>rfl
 |b+1,h=>by have u:=qan (Z:=Z) (D:=D) (y:=y) (b:=b) λi G=>h i O;have hv:=Z7.1 (h b O);rw[jd,zG,yg,u,pre];unfold Gv;rcases hv with hv|hv<;>rw[hv]<;>rfl
def XV {A t:LI} {p:Nat} {x:Int} (G:A.length=p) (u:p<t.length):(A++t.drop p).set p x=(A++[x])++t.drop (p+1):=by rw[List.set_append_right _ _ O,G,x9,GE u,List.set_cons_zero,qT];rfl
section
variable {m:Nat} (hm:5000000000<=m) {f0 Z D S I W:LI} {f6:Int} (hz:Z.length<=1000) (h0:f0.length<=1000) (hd:D.length<=1000) (hP:PV f0.length Z D) (hD:cf D) {y:LI} (hy:cf y) (hl:y.length=f0.length)
include hm hz h0 hd hP hD hy hl
theorem qt6: ∀(n b:Nat),Z.length-b<n->b<=Z.length->
 lh m n y f0 Z D S I W f6 (jd Z D y b++(List.replicate f0.length (0:Int)).drop (pre Z b).toNat) (pre Z b) (bZ Z b) Z (Z.length:Int) (b:Int)=some (.inl (jd Z D y Z.length,()))
 |0,b,h,_=>absurd h (zC _)
 |n+1,b,h,l0=>by rw[lh,bQ];by_cases hb:b<Z.length;{have hv:=Z7.1 (hP.1 b hb);have bd:=C0 (b:=b) λi hi=>hP.1 i O;have j0:=N8 (c:=Z.length) hP.1 (b:=b+1) O;have hn:=hP.2.2.2;have i0:=hP.2.2.1;have k0:=qan (Z:=Z) (D:=D) (y:=y) (b:=b) λi hi=>hP.1 i O;have e0:pre Z (b+1)=pre Z b+Z.getD b 0:=rfl;have e1:bZ Z (b+1)=bZ Z b+(2*Z.getD b 0-1):=rfl;have w0:wI (pre Z b+Z.getD b 0)=pre Z (b+1):=by{rw[wQ,wi O O,e0]};have w1:wI (wI (bZ Z b+wI (2*Z.getD b 0))-1)=bZ Z (b+1):=by{simp only[wQ];rw[wi (n:=2*Z.getD b 0) O O,wi (n:=bZ Z b+2*Z.getD b 0) O O,wi O O,e1];omega};obtain⟨p,hp⟩: ∃p:Nat,pre Z b=(p:Int):=⟨(pre Z b).toNat,O⟩;obtain⟨q,hq⟩: ∃q:Nat,bZ Z b=(q:Int):=⟨(bZ Z b).toNat,O⟩;have G:=qt6 n (b+1) O O;have hlen:(jd Z D y b++(List.replicate f0.length (0:Int)).drop p).length=f0.length:=by{rw[zG,mA,zM];omega};have hA:(jd Z D y b).length=p:=O;rw[jd,hp,hq,tN,tN]at G;rw[iP O,iP O,tN,w0,w1,show wI ((b:Int)+1)=((b+1:Nat):Int)from ay O,aB,hp,hq,tN,tN];rcases hv with hv|hv;{obtain⟨u1,f1⟩:=hy p O;obtain⟨u2,f2⟩:=hD q O;rw[iP hv,iP O,zH,cw O u1,bS,iP O,cw O u2,bS];dsimp only;rw[vR hm (NW _) (NW _),bS,iP O,XV hA (by rw[zM];omega)];dsimp only;rw[hv,show((1:Int)==1)=true from rfl,show(pre Z (b+1)).toNat=p+1 by omega]at G;exact G};{obtain⟨u1,f1⟩:=hy p O;obtain⟨u2,f2⟩:=hy (p+1) O;obtain⟨v1,K⟩:=hD q O;obtain⟨v2,u⟩:=hD (q+1) O;obtain⟨v3,J⟩:=hD (q+2) O;have d0:wI ((q:Int)+1)=((q+1:Nat):Int):=by{rw[wQ,wi O O];omega};have c0:wI ((q:Int)+2)=((q+2:Nat):Int):=by{rw[wQ,wi O O];omega};have g0:wI ((p:Int)+1)=((p+1:Nat):Int):=by{rw[wQ,wi O O];omega};have mul: ∀{a c:Int},aS a->aS c->iB m (d8 a).1 (d8 a).2.1 (d8 a).2.2.1 (d8 a).2.2.2.1 (d8 c).1 (d8 c).2.1 (d8 c).2.2.1 (d8 c).2.2.2.1=some (ax (aE a*aE c) (-2148),(),(),()):=λ{a c} ha hc=>by{rw[Qs ha,Qs hc,Lw O,iP ⟨cq ha,cq hc⟩];rfl};rw[ae O,iP O,cw O v1,bS,d0,c0,g0,iP O,tN,cw O v2,bS,iP O,tN,cw O v3,bS];dsimp only;rw[mul K J,bS,mul u u,bS];dsimp only;rw[Lz O,iP ⟨Jf K J,Jf u u⟩,bS,iP O,zH,cw O u1,bS,iP O,zH,tN,cw O u2,bS];dsimp only;rw[mul f1 J,bS,mul f2 u,bS];dsimp only;rw[Lz O,iP ⟨Jf f1 J,Jf f2 u⟩,bS];dsimp only;rw[vR hm (fo _ _) (fo _ _),bS,iP O,mul f2 K,bS,mul f1 u,bS];dsimp only;rw[Lz O,iP ⟨Jf f2 K,Jf f1 u⟩,bS];dsimp only;rw[vR hm (fo _ _) (fo _ _),bS,iP (by rw[zU];omega),XV hA (by rw[zM];omega)];dsimp only;rw[XV (p:=p+1) (by rw[zG,hA];rfl) (by rw[zM];omega)];rw[hv,show((2:Int)==1)=false from rfl,show(pre Z (b+1)).toNat=p+1+1 by omega]at G;rw[qT (jd Z D y b)];exact G}};{rw[ae O,show b=Z.length by omega,hP.2.2.1,tN,Nu (by rw[zM];omega),mz]}
omit hP hD hy hl in
theorem qq4 {a:LI} (G:UL a) (hb:a.length<=1000): ∀(n k:Nat),a.length-k<n->
 nr m n a (a.length:Int) (k:Int)=some (if qw (λi=>decide (aS (a.getD i 0))) k a.length=true then .inr (.inl ())else .inl (4,()))
 |0,k,h=>absurd h (zC _)
 |n+1,k,h=>by rw[nr,bQ];by_cases u:k<a.length;{rw[iP O,iP O,tN,Zt (G k u),bS,Qd u];dsimp only;by_cases c:aS (a.getD k 0);{rw[decide_eq_true c,show(!true)=false from rfl,cond_false,vG,show wI ((k:Int)+1)=((k+1:Nat):Int)from ay O];exact qq4 G hb n (k+1) O};{rw[decide_eq_false c,show(!false)=true from rfl,cond_true,CL,ae (by decide)]}};{rw[ae O,Qk O,iP rfl]}
omit hP hD hy hl in
theorem qmd {a:LI} (u:UL a) (hb:a.length<=1000):Aw m a=some (if bJ a=true then 0 else 4,(),()):=by have h:=qq4 hm hz h0 hd u hb m 0 O;rw[nZ]at h;rw[Aw,h,bS];unfold bJ;cases qw (λi=>decide (aS (a.getD i 0))) 0 a.length<;>rfl
def jc (Z D y:LI):LI:=jd Z D y Z.length
omit hm hz h0 hd hD hy hl in
theorem qiv:(jc Z D y).length=f0.length:=by have:=qan (Z:=Z) (D:=D) (y:=y) (b:=Z.length) hP.1;have h2:=hP.2.2.1;unfold jc;omega
omit hm hz h0 hd hP hD hy hl in
theorem qts:UL (jc Z D y):=λi u=>by refine qtr (Z:=Z) (D:=D) (y:=y) (b:=Z.length) _ ?_;unfold jc at u⊢;simp[List.getD,u]
theorem qpo:uR m f0 Z D S I W f6 y=some (if bJ (jc Z D y)=true then(jc Z D y,0,())else([],233,()),(),(),()):=by have h:=qt6 hm hz h0 hd hP hD hy hl (S:=S) (I:=I) (W:=W) (f6:=f6) m 0 O O;rw[nZ,show pre Z 0=0 from rfl,show bZ Z 0=0 from rfl,show jd Z D y 0=[]from rfl,yn,show(0:Int).toNat=0 from rfl,lN]at h;rw[uR,iP O,hl,tN,h,bS];dsimp only;have u:=qiv (y:=y) hP;rw[qmd hm hz h0 hd (a:=jd Z D y Z.length) qts (by show(jc Z D y).length<=1000;omega),bS];unfold jc;cases bJ (jd Z D y Z.length)<;>rfl
end
end Go.Vs.F
set_option maxRecDepth 100000
namespace Go.Vs.F
def yT (Z D:LI) (b:Nat):Bool:= !((Z.getD b 0==1)&&Df (D.getD (bZ Z b).toNat 0))
section
variable {m:Nat} (hm:5000000000<=m) {f0 Z D S I W:LI} {f6:Int} (hz:Z.length<=1000) (h0:f0.length<=1000) (hd:D.length<=1000) (hP:PV f0.length Z D) (hD:UL D)
include hm hz h0 hd hP hD
theorem qph: ∀(n b:Nat),Z.length-b<n->b<=Z.length->
 lk m n f0 Z D S I W f6 (bZ Z b) Z (Z.length:Int) (b:Int)=some (if qw (yT Z D) b Z.length=true then .inr (.inl ())else .inl (true,()))
 |0,b,h,_=>absurd h (zC _)
 |n+1,b,h,K=>by rw[lk,bQ];by_cases hb:b<Z.length;{have hv:=Z7.1 (hP.1 b hb);have bd:=C0 (b:=b) λi hi=>hP.1 i O;have J:=N8 (c:=Z.length) hP.1 (b:=b+1) O;have hn:=hP.2.2.2;have e1:bZ Z (b+1)=bZ Z b+(2*Z.getD b 0-1):=rfl;have u:wI (bZ Z b+wI (wI (2*Z.getD b 0)-1))=bZ Z (b+1):=by{simp only[wQ];rw[wi (n:=2*Z.getD b 0) O O,wi (n:=2*Z.getD b 0-1) O O,wi O O,e1]};have G:=qph n (b+1) O O;rw[iP O,iP O,tN,aB,u,show wI ((b:Int)+1)=((b+1:Nat):Int)from ay O,G,Qd hb];unfold yT;by_cases c:Z.getD b 0=1;{have hu:=hD (bZ Z b).toNat O;rw[iP c,iP O,(Lx hu).1,bS,c];dsimp only;rw[q6l hu];cases Df (D.getD (bZ Z b).toNat 0)<;>rfl};{rw[ae c,show(Z.getD b 0==1)=false from beq_eq_false_iff_ne.2 c];rfl}};{rw[ae O,Qk O,iP rfl]}
end
section
variable {f0 Z D S I W:LI} {f6:Int} (hc:B7 f0 Z D S I W f6=0)
include hc
theorem q7f:f0.length<=200/\iJ f0=true/\S.length=f0.length+1/\I.length=W.length/\Ni f0.length Z D S I f6/\bJ W=true/\bJ D=true:=by unfold B7 at hc;split at hc;{cases hc};split at hc;{cases hc};split at hc;{cases hc};split at hc;{cases hc};split at hc;{cases hc};split at hc;{cases hc};rename_i a b c d e f;have u:=Uk.1 f;refine⟨O,?_,Uk.1 c,Uk.1 d,Uk.1 e,u.1,u.2⟩;cases h:iJ f0 with|true=>rfl|false=>exact absurd h b
theorem qs1 (K:I.length<=5000) (uW:UL W):vz f0.length S I W:=by obtain⟨a1,a2,a3,a4,a5,a6,a7⟩:=q7f hc;obtain⟨hP,h6,hC⟩:=(Vr a3).1 a5;have st:cn f0.length S I:=a5.2.1.start a3;have J: ∀j,j<f0.length-> ∃last:Int,(j:Int)<=last/\qw (Gq (f0.length:Int) last S I j) (S.getD j 0).toNat (S.getD (j+1) 0).toNat=true:=λj u=>by{obtain⟨b,b1,b2,b3⟩:=qbn (Z:=Z) (c:=Z.length) hP.1 (j:=(j:Int)) O (by rw[hP.2.2.1];omega);have h1:=qp.1 hC.2.2 b O b1;have bd:=C0 (b:=b) λi hi=>hP.1 i O;have h2:=qp.1 h1 j O O;unfold tD at h2;rw[zK,qwd st u]at h2;exact⟨v5 Z b,by unfold v5;rw[pre]at b3;omega,h2.2⟩};refine⟨a1,a3,a4,K,st,λj c u h1 h2=> ?_,λj c u h1 h2=> ?_,G4 uW a6⟩;{obtain⟨last,l1,l2⟩:=J j u;have G:=qp.1 l2 c O O;unfold Gq at G;simp only[zK,decide_eq_true_iff]at G;omega};{obtain⟨last,l1,l2⟩:=J j u;have G:=qp.1 l2 c O O;have h4:=st.rng (j:=j) O;unfold Gq at G;simp only[zK,GF,Bool.not_eq_true',decide_eq_true_iff,decide_eq_false_iff_not]at G;omega}
theorem qx5:PV f0.length Z D:=by obtain⟨a1,a2,G,O,u,K,J⟩:=q7f hc;exact((Vr G).1 u).1
end
end Go.Vs.F
set_option maxRecDepth 100000
namespace Go.Vs.F
end Go.Vs.F
