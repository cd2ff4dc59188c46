import Derived.Test.YtoeiaipcgnjfcaaGreatDoorLe
set_option linter.unusedVariables false
set_option linter.unusedSimpArgs false
set_option linter.unusedSectionVars false
set_option linter.defProp false
set_option maxRecDepth 100000
namespace Go.Vs.F
def kQ (X Y prec:Nat):Nat:=prec+2+au Y-au X
def qtk {v k:Nat} (h:2^k<=v):k+1<=au v:=by
 refine xu λc=> ?_
 have h1:=Zc v;have h2:2^au v<=2^k:=zW O O;omega
def qtj {X Y p k:Nat} (hX:X≠0) (hY:Y≠0) (h:p+1+au Y<=au X-1+k):p+2<=au (X*2^k/Y):=by
 refine qtk (k:=p+1) ?_;rw[HI O]
 calc 2^(p+1)*Y<=2^(p+1)*2^au Y:=zi _ (tp (Zc Y))
  _=2^(p+1+au Y):=(xt ..).symm
  _<=2^(au X-1+k):=zW O h
  _=2^(au X-1)*2^k:=xt ..
  _<=X*2^k:=zO _ (JB hX)
def qum {X Y p:Nat} (hX:X≠0) (hY:Y≠0):p+2<=au (X*2^kQ X Y p/Y):=by
 refine qtj hX hY ?_;have:1<=au X:=by rw[X8 hX];omega
 unfold kQ;omega
def qsw {r:Nat}:(sgn (zv false (lim r)) !=0)=decide (r≠0):=by
 have:zv false (lim r)=(r:Int):=by unfold zv;rw[qx];rfl
 rw[this];unfold sgn;rw[ao O];by_cases c:r=0
 . subst c;rfl
 . rw[iP O,decide_eq_true c];rfl
def SzL {q:Nat} (h:au q<=1000000):Sz (lim q):=⟨Q9 q,by have:=Qu h;omega⟩
end Go.Vs.F
set_option maxRecDepth 100000
namespace Go.Vs.F
abbrev D5:=Bool×Bool×LI×Int×Unit
inductive Cn:D5->Prop
 |bad:Cn qS
 |ok {w f:Int} (k:NF w f w f):Cn (aW w f)
def NF.self {z e w f:Int} (k:NF z e w f):NF w f w f:=
 ⟨dK.refl ..,by rw[k.eq.mk,k.md],k.zero,k.odd,k.lo,k.hi⟩
def nv (z e:Int):Cn (aW z e):=by
 by_cases h:cP z e
 . obtain⟨w,f,k⟩:=h.nf;rw[<-k.eq.mk];exact .ok k.self
 . rw[NW h];exact .bad
def zD (a:D5):Int:=zv a.2.1 a.2.2.1
def eD (a:D5):Int:=a.2.2.2.1
def NF.mk_eq {w f:Int} (k:NF w f w f):aW w f=(false,(zB w).1,(zB w).2.1,f,()):=k.md
def NF.z {w f:Int} (k:NF w f w f):zD (aW w f)=w:=by rw[k.mk_eq];exact ba w
def NF.e {w f:Int} (k:NF w f w f):eD (aW w f)=f:=by rw[k.mk_eq];rfl
def NF.bad1 {w f:Int} (k:NF w f w f):(aW w f).1=false:=by rw[k.mk_eq]
section
variable {m:Nat} (hm:5000000000<=m)
include hm
theorem qtv {X Y:Nat} (hY:Y≠0) (hX:au X<=400000) (hYb:au Y<=400000):
 wR m (zB (X:Int)).1 (zB (X:Int)).2.1 (zB (Y:Int)).1 (zB (Y:Int)).2.1=some (((false,lim (X/Y),()),(false,lim (X%Y),()),0,()),(),(),()):=by
 rw[Z9,Z9];have h1:=Qu hX;have h2:=Qu hYb;exact qli O hY O O
theorem natAbs_pow {X k:Nat}:((X:Nat):Int)*2^k=((X*2^k:Nat):Int):=by rw[qZ,nY];rfl
theorem qpp {w f x g:Int} (k:NF w f w f) (l:NF x g x g) (hx:x≠0) {p:Nat} (hp:p<=4096):
 Ag m false (zB w).1 (zB w).2.1 f false (zB x).1 (zB x).2.1 g (p:Int)=
  some ((decide (w<0) !=decide (x<0),false,lim (w.natAbs*2^(p+3+au x.natAbs-au w.natAbs)/x.natAbs),f-((p+3+au x.natAbs-au w.natAbs:Nat):Int)-g,decide (w.natAbs*2^(p+3+au x.natAbs-au w.natAbs)%x.natAbs≠0),()),(),(),(),()):=by
 have hl1:=k.len;have hl2:=l.len;have b1:=k.lo;have b2:=k.hi;have b3:=l.lo;have b4:=l.hi;have hY:x.natAbs≠0:=O;have a1:vl (zB w).2.1=w.natAbs:=qx _;have a2:vl (zB x).2.1=x.natAbs:=qx _
 have w1:wI (wI (wI ((p:Int)+3)+((au x.natAbs:Nat):Int))-((au w.natAbs:Nat):Int))=(p:Int)+3+((au x.natAbs:Nat):Int)-((au w.natAbs:Nat):Int):=by
  simp only[wQ];rw[wi (n:=(p:Int)+3) O O,wi (n:=(p:Int)+3+_) O O,wi O O]
 rw[Ag,H9 O l.Sz,a2,bS,H9 O k.Sz,a1,bS,P6 O k.Sz,ba,bS];dsimp only;rw[w1,show(if(p:Int)+3+((au x.natAbs:Nat):Int)-((au w.natAbs:Nat):Int)>0 then(p:Int)+3+((au x.natAbs:Nat):Int)-((au w.natAbs:Nat):Int)else 0)=((p+3+au x.natAbs-au w.natAbs:Nat):Int) by split<;>omega]
 have hk:p+3+au x.natAbs-au w.natAbs<=140000:=O;generalize hkk:p+3+au x.natAbs-au w.natAbs=j at*
 have hXb:au (w.natAbs*2^j)<=280000:=by
  have:=Ov (a:=w.natAbs) (b:=2^j);rw[Yi]at this;omega
 have w2:wI (wI (f-(j:Int))-g)=f-(j:Int)-g:=by
  simp only[wQ];rw[wi (n:=f-(j:Int)) O O,wi O O]
 rw[ff O (by rw[nx];omega) O O,bS,tN,natAbs_pow hm]
 dsimp only;rw[P6 O l.Sz,ba,bS];dsimp only;rw[qtv hm hY O O,bS];dsimp only;have hr:au (w.natAbs*2^j%x.natAbs)<=280000:=zf (Yd (Nat.mod_le ..)) hXb;rw[Cl O (SzL O),bS,qsw,w2];rfl
end
end Go.Vs.F
set_option maxRecDepth 100000
namespace Go.Vs.F
def Cn.mk {a:D5} (h:Cn a): ∃z e,a=aW z e:=by
 cases h with
 |bad=>exact⟨1,1000000,by rw[NW];rw[Ya];rintro (h|h); · omega
                          . have:au (1:Int).natAbs=1:=by decide
                            rw[this]at h;omega⟩
 |ok k=>exact⟨_,_,rfl⟩
def BT:Int:=9221120237041090560
def eF (a b:D5) (mode:Int):Int:=
 if a.1=true\/b.1=true\/zD b=0 then BT
 else if zD a=0 then 0
 else uw (decide (zD a<0) !=decide (zD b<0)) ((zD a).natAbs*2^kQ (zD a).natAbs (zD b).natAbs 57/(zD b).natAbs) (eD a-eD b-((kQ (zD a).natAbs (zD b).natAbs 57:Nat):Int)) (decide ((zD a).natAbs*2^kQ (zD a).natAbs (zD b).natAbs 57%(zD b).natAbs≠0)) mode
section
variable {m:Nat} (hm:5000000000<=m)
include hm
theorem uz {a b:D5} (ha:Cn a) (hb:Cn b) (mode:Int):s5 m a.1 a.2.1 a.2.2.1 a.2.2.2.1 b.1 b.2.1 b.2.2.1 b.2.2.2.1 mode=some (eF a b mode,(),(),(),()):=by
 have key:nH m a.1 a.2.1 a.2.2.1 a.2.2.2.1=some (a,(),())/\nH m b.1 b.2.1 b.2.2.1 b.2.2.2.1=some (b,(),()):=by
  obtain⟨z,e,rfl⟩:=ha.mk;obtain⟨y,f,rfl⟩:=hb.mk;exact⟨Rx O,Rx O⟩
 rw[s5,key.1,bS,key.2,bS];dsimp only;unfold eF;cases ha with
 |bad=>rw[iP (.inl rfl)];rfl
 | @ok w f k=>
   rw[k.bad1,cond_false];cases hb with
   |bad=>rw[iP (.inr (.inl rfl))];rfl
   | @ok x g l=>
     have hsx:=Ox (m:=m) O l.ok;have hsw:=Ox (m:=m) O k.ok;rw[l.bad1]at hsx;rw[k.bad1]at hsw;rw[l.bad1,cond_false,hsx,bS,aF];dsimp only;rw[l.z,k.z,k.e,l.e];by_cases c:x=0
     . rw[iP (Qy.2 c),iP (.inr (.inr c))];rfl
     . rw[ao (λh=>c (Qy.1 h)),ao (by simp[c]),hsw,bS,aF]
       dsimp only;by_cases d:w=0
       . rw[iP (Qy.2 d),iP d]
       . rw[ao (λh=>d (Qy.1 h)),ao d,k.mk_eq,l.mk_eq]
         dsimp only;rw[show(56:Int)=((56:Nat):Int)from rfl,qpp hm k l c O,bS]
         dsimp only;have hY:x.natAbs≠0:=O;have hX:w.natAbs≠0:=O;have ek:56+3+au x.natAbs-au w.natAbs=kQ w.natAbs x.natAbs 57:=by unfold kQ;omega
         rw[ek];have hbig:=qum (p:=57) hX hY;have hkk:kQ w.natAbs x.natAbs 57=59+au x.natAbs-au w.natAbs:=by unfold kQ;omega
         have q1:=k.lo;have q2:=k.hi;have q3:=l.lo;have q4:=l.hi;have hl1:=k.len;have hl2:=l.len
         have hXb:au (w.natAbs*2^kQ w.natAbs x.natAbs 57)<=280000:=by
          have:=Ov (a:=w.natAbs) (b:=2^kQ w.natAbs x.natAbs 57);rw[Yi]at this;omega
         have hvb:au (w.natAbs*2^kQ w.natAbs x.natAbs 57/x.natAbs)<=280000:=zf (Yd (tQ ..)) hXb;have hv0:w.natAbs*2^kQ w.natAbs x.natAbs 57/x.natAbs≠0:=λh=>by rw[h,Z7]at hbig;omega
         have hr:=ZH (m:=m) O (decide (w<0) !=decide (x<0)) hv0 O (e:=f-((kQ w.natAbs x.natAbs 57:Nat):Int)-g) (decide (w.natAbs*2^kQ w.natAbs x.natAbs 57%x.natAbs≠0)) mode O O;rw[Z9]at hr;rw[hr,bS,show f-((kQ w.natAbs x.natAbs 57:Nat):Int)-g=f-g-((kQ w.natAbs x.natAbs 57:Nat):Int) by omega]
end
end Go.Vs.F
set_option maxRecDepth 100000
namespace Go.Vs.F
def eK:Nat->Nat
 |0=>0
 |n+1=>if(eK n+1)*(eK n+1)<=n+1 then eK n+1 else eK n
def Oq: ∀n:Nat,eK n*eK n<=n/\n<(eK n+1)*(eK n+1)
 |0=>⟨zF _,by decide⟩
 |n+1=>by
  obtain⟨h1,h2⟩:=Oq n;rw[eK];generalize eK n=r at*
  have e:(r+1+1)*(r+1+1)=(r+1)*(r+1)+2*r+3:=by
   simp only[ir,zL];omega
  split
  . omega
  . omega
def Cd {a b:Nat} (h:a*a<b*b):a<b:=by
 refine Nat.lt_of_not_le λc=> ?_
 have:=pN c c;omega
def qqm {n r:Nat} (h1:r*r<=n) (h2:n<(r+1)*(r+1)):eK n=r:=by
 obtain⟨g1,g2⟩:=Oq n;have a1:=Cd (xP h1 g2);have a2:=Cd (xP g1 h2);omega
def PZ (n:Nat):eK n<=n:=by
 obtain⟨g1,_⟩:=Oq n;rcases B5 (eK n)with h|h
 . omega
 . have:=zi (eK n) h;omega
def Uk {a x:Nat} (hx:0<x) (h:a<(x+1)*(x+1)):a<((x+a/x)/2+1)*((x+a/x)/2+1):=by
 have hq:a<x*(a/x+1):=by
  have:=xM a x;have:=l6 a hx;rw[zL];omega
 generalize a/x=q at*
 have hy:x+q+1<=2*((x+q)/2+1):=O;generalize (x+q)/2+1=y at*;have h1:(x+q+1)*(x+q+1)<=2*y*(2*y):=pN hy hy
 have h2:4*(x*(q+1))<=(x+q+1)*(x+q+1):=by
  have e1:(x+q+1)*(x+q+1)=x*x+2*(x*(q+1))+(q+1)*(q+1):=by
   generalize hp:q+1=p
   rw[show x+q+1=x+p by omega,ir,zL,zL,zh p x];omega
  have e2:2*(x*(q+1))<=x*x+(q+1)*(q+1):=by
   generalize q+1=p
   rcases Nat.le_total x p with h|h
   . obtain⟨d,rfl⟩: ∃d,p=x+d:=⟨p-x,O⟩;simp only[zL,ir];have:=zh d x;omega
   . obtain⟨d,rfl⟩: ∃d,x=p+d:=⟨x-p,O⟩;simp only[zL,ir];have:=zh d p;omega
  omega
 have h3:2*y*(2*y)=4*(y*y):=by rw[Nat.mul_mul_mul_comm]
 omega
def qk9 {a x:Nat} (hx:0<x) (h:a<(x+1)*(x+1)) (hy:x<=(x+a/x)/2):eK a=x:=by
 refine qqm ?_ h;have h1:x<=a/x:=O;have:=Nr a x;exact zf (zO _ h1) this
def qkp {a x:Nat} (ha:a≠0) (hx:0<x) (h:a<(x+1)*(x+1)):0<(x+a/x)/2:=by
 have:=Uk hx h;rcases B5 ((x+a/x)/2)with h0|h0
 . rw[h0]at this;omega
 . exact h0
def qeb {a:Nat}:a<(2^((au a+1)/2)+1)*(2^((au a+1)/2)+1):=by
 have h1:=Zc a
 have h2:2^au a<=2^((au a+1)/2)*2^((au a+1)/2):=by
  rw[<-Nat.pow_add];exact zW O O
 generalize 2^((au a+1)/2)=x at*
 have:(x+1)*(x+1)=x*x+2*x+1:=by simp only[ir,zL];omega
 omega
def uo (n:Nat):Nat:=2^n
def qot {k n:Nat} (h:k<n):2^k<uo n:=Nat.pow_lt_pow_right O h
attribute [irreducible] uo
def ec:Nat:=uo 200000
def XC {k:Nat} (h:k<200000):2^k<ec:=qot h
def Jq {m:Nat} (h:ec<=m):5000000000<=m:=by
 have h1:2^40<ec:=XC O;have h2:(2:Nat)^40=1099511627776:=by decide
 omega
attribute [irreducible] ec
section
variable {m:Nat} (hm:5000000000<=m)
include hm
theorem qte {a:Nat} (ha:a≠0) (hl:au a<=290000): ∀(n x:Nat),x<n->0<x->a<(x+1)*(x+1)->au x<=290000->
 kP m n (lim a) (lim x)=some (.inl (lim (eK a),())):=by
 intro n;induction n with
 |zero=>intro x h;omega
 |succ n ih=>
  intro x hx h0 h hb;have hxl:=Qu hb;have hal:=Qu hl;have hql:(lim (a/x)).length<=10000:=zf (Qd (tQ ..)) O;have hsb:au (x+a/x)<=290001:=Rc hb (zf (Yd (tQ ..)) hl);have hsl:=Qu hsb;have hyl:(lim ((x+a/x)/2)).length<=10000:=zf (Qd (tQ ..)) O;rw[kP,XB O O O O,bS];dsimp only;rw[QK O (Q9 _) (Q9 _) O O,qx,qx,bS];dsimp only;rw[show(1:Int)=((1:Nat):Int)from rfl,QO O O O,bS]
  dsimp only;rw[Nat.pow_one,Jb O O O,bS,bQ];dsimp only;by_cases c:(x+a/x)/2<x
  . have hc: ¬dm ((x+a/x)/2) x>=0:=by unfold dm;rw[iP c];omega
    rw[ao hc];exact ih _ O (qkp ha h0 h) (Uk h0 h) (zf (Yd (tp c)) hb)
  . have hc:dm ((x+a/x)/2) x>=0:=by unfold dm;rw[ao c];split<;>omega
    rw[iP hc,qk9 h0 h O]
end
def qtb {m:Nat} (hM:ec<=m) {a:Nat} (ha:a≠0) (hl:au a<=290000):yB m (lim a)=some (lim (eK a),(),()):=by
 have hm:=Jq hM;have hal:=Qu hl;have hne: ¬((lim a).length:Int)=0:=λh=>ha (Jt.1 (pK.1 O))
 have w1:wI (Int.tdiv (wI (((au a:Nat):Int)+1)) 2)=(((au a+1)/2:Nat):Int):=by
  rw[wQ,wQ,wi (n:=((au a:Nat):Int)+1) O O,show((au a:Nat):Int)+1=((au a+1:Nat):Int) by omega,show(2:Int)=((2:Nat):Int)from rfl,<-Int.ofNat_tdiv,wi O O]
 have hL1:Lm [1]:=λx hx=>by simp only[zC]at hx;omega
 have hb1:au (2^((au a+1)/2))<=290000:=by rw[Yi];omega
 rw[yB,aF,ao hne,length_eq O,bS];dsimp only;rw[w1,ra O hL1 (by simp) O,bS,show vl [1]=1 from rfl,xS]
 dsimp only;rw[qte hm ha hl m _ (tL (XC O) hM) (f9 O) qeb hb1,bS]
def qtr {m:Nat} (hM:ec<=m) {a:Nat} (ha:a≠0) (hl:au a<=290000):sR m (zB (a:Int)).1 (zB (a:Int)).2.1=some ((zB ((eK a:Nat):Int),0,()),(),()):=by
 have hm:=Jq hM;have hS:Sz (zB (a:Int)).2.1:=nT O;have hb2:au (eK a)<=290000:=zf (Yd (PZ a)) hl;have:=Qu hb2;have:=Qu hl;rw[sR,Cl O hS,ba,bS,bQ,ao (by unfold sgn;dsimp only;rw[ao O];split<;>omega),Z9]
 dsimp only;rw[Qz (Q9 a) O O,qx,bS];dsimp only;rw[qtb hM ha hl,bS];dsimp only;rw[lY O O,bS,ao (by simp)]
section
variable {m:Nat} (hm:5000000000<=m)
include hm
end
end Go.Vs.F
set_option maxRecDepth 100000
namespace Go.Vs.F
def jh (X:Nat) (f:Int) (p:Nat):Nat:=if(f-((p-au X:Nat):Int))%2=0 then p-au X else p-au X+1
def dn (a:D5) (mode:Int):Int:=
 if a.1=true\/zD a<0 then BT
 else if zD a=0 then 0
 else uw false (eK ((zD a).natAbs*2^jh (zD a).natAbs (eD a) 118)) ((eD a-((jh (zD a).natAbs (eD a) 118:Nat):Int))/2) (decide (eK ((zD a).natAbs*2^jh (zD a).natAbs (eD a) 118)*eK ((zD a).natAbs*2^jh (zD a).natAbs (eD a) 118)≠(zD a).natAbs*2^jh (zD a).natAbs (eD a) 118)) mode
def qu4 {X p:Nat} (hX:X≠0) (f:Int):p<=au (X*2^jh X f p):=by
 rw[zh,Yu hX];unfold jh;split<;>omega
def qtp {M k:Nat} (h:2*k+1<=au M):k+1<=au (eK M):=by
 obtain⟨_,h2⟩:=Oq M;refine xu λc=> ?_
 have hM0:M≠0:=λe=>by rw[e,Z7]at h;omega
 have h3:eK M+1<=2^k:=by
  have:=Zc (eK M);have:2^au (eK M)<=2^k:=zW O O;omega
 have h4:(eK M+1)*(eK M+1)<=2^k*2^k:=pN h3 h3;rw[<-Nat.pow_add]at h4;have h5:=JB hM0;have h6:2^(k+k)<=2^(au M-1):=zW O O;omega
def qtf {a b:Int}:(mn a b !=0)=decide (a≠b):=by
 unfold mn;split
 . rw[show decide (a≠b)=true from decide_eq_true O];rfl
 . split
   . rw[show decide (a≠b)=true from decide_eq_true O];rfl
   . rw[show decide (a≠b)=false from decide_eq_false O];rfl
def qpq {x:Int}:(Int.tmod x 2 !=0)= !decide (x%2=0):=by
 have h:Int.tmod x 2=0↔x%2=0:=by
  rw[<-Int.dvd_iff_tmod_eq_zero,Int.dvd_iff_emod_eq_zero]
 by_cases c:x%2=0
 . rw[h.2 c,decide_eq_true c];rfl
 . rw[decide_eq_false c];have:Int.tmod x 2≠0:=λe=>c (h.1 e)
   simp[this]
def qq5 {x:Int} (h:x%2=0):Int.tdiv x 2=x/2:=Int.tdiv_eq_ediv_of_dvd (Int.dvd_iff_emod_eq_zero.2 h)
def Vq {m:Nat} (hM:ec<=m) {w f:Int} (k:NF w f w f) (hw:0<w) {n:Nat} (hn:n<=200) (he:(f-(n:Int))%2=0) {v:Int} (hv:v=(n:Int)) {u:Int} (hu:u=f-(n:Int)):
 ((jP m (zB w).1 (zB w).2.1 v).bind λy2=>
 (sR m y2.1.1 y2.1.2.1).bind λy3=>
 (qs m y3.1.1.1 y3.1.1.2.1 y3.1.1.1 y3.1.1.2.1).bind λy4=>
 (qt m y4.1.1 y4.1.2.1 y2.1.1 y2.1.2.1).bind λy5=>
 some ((false,y3.1.1.1,y3.1.1.2.1,wI (Int.tdiv u 2),y5.1 !=0,()),((),(),())))=
  some ((false,false,lim (eK (w.natAbs*2^n)),(f-(n:Int))/2,decide (eK (w.natAbs*2^n)*eK (w.natAbs*2^n)≠w.natAbs*2^n),()),((),(),())):=by
 have hm:=Jq hM;subst hv hu;have hl:=k.len;have q1:=k.lo;have q2:=k.hi;have hX:w.natAbs≠0:=O;have hXb:au (w.natAbs*2^n)<=140000:=by rw[zh,Yu hX];omega
 have hM0:w.natAbs*2^n≠0:=λh=>by
  rcases Nat.mul_eq_zero.1 h with h|h
  . exact hX h
  . exact absurd h (Nat.pos_iff_ne_zero.1 (f9 O))
 have hsb:au (eK (w.natAbs*2^n))<=140000:=zf (Yd (PZ _)) hXb;have e1:w*2^n=((w.natAbs*2^n:Nat):Int):=by rw[<-natAbs_pow hm];rw[show((w.natAbs:Nat):Int)=w by omega]
 rw[ff O O O O,bS,tN,e1];dsimp only;rw[qtr hM hM0 O,bS];dsimp only;have hsl:=Qu hsb;rw[UD O (d7 _) (d7 _) (by rw[Z9];dsimp only;omega),ba,bS]
 dsimp only
 have hss:au (eK (w.natAbs*2^n)*eK (w.natAbs*2^n))<=280000:=by
  have:=Ov (a:=eK (w.natAbs*2^n)) (b:=eK (w.natAbs*2^n));omega
 rw[<-Int.natCast_mul,Ut O (nT O) (nT O),ba,ba,bS,qtf,qq5 he,wQ,wi O O,Z9];congr 4;simp only[ne_eq,decide_not,Int.natCast_inj]
def qq7 {m:Nat} (hM:ec<=m) {w f:Int} (k:NF w f w f) (hw:0<w):
 Ah m false (zB w).1 (zB w).2.1 f 56=some ((false,false,lim (eK (w.natAbs*2^jh w.natAbs f 118)),(f-((jh w.natAbs f 118:Nat):Int))/2,decide (eK (w.natAbs*2^jh w.natAbs f 118)*eK (w.natAbs*2^jh w.natAbs f 118)≠w.natAbs*2^jh w.natAbs f 118),()),(),(),()):=by
 have hm:=Jq hM;have hl:=k.len;have q1:=k.lo;have q2:=k.hi;have a1:vl (zB w).2.1=w.natAbs:=qx _
 have w1:wI (wI (2*wI (56+3))-((au w.natAbs:Nat):Int))=118-((au w.natAbs:Nat):Int):=by
  simp only[wQ];rw[wi (n:=(56:Int)+3) O O,wi (n:=2*((56:Int)+3)) O O,wi O O];omega
 have w2:(if(118:Int)-((au w.natAbs:Nat):Int)>0 then(118:Int)-((au w.natAbs:Nat):Int)else 0)=((118-au w.natAbs:Nat):Int):=by split<;>omega
 have w3:wI (f-((118-au w.natAbs:Nat):Int))=f-((118-au w.natAbs:Nat):Int):=by rw[wQ,wi O O]
 have w4:wI (((118-au w.natAbs:Nat):Int)+1)=((118-au w.natAbs+1:Nat):Int):=by rw[wQ,wi O O];omega
 rw[Ah,H9 O k.Sz,a1,bS];dsimp only;rw[w1,w2,w3,w4,qpq];by_cases c:(f-((118-au w.natAbs:Nat):Int))%2=0
 . have e:jh w.natAbs f 118=118-au w.natAbs:=by unfold jh;rw[iP c]
   rw[decide_eq_true c,show(!true)=false from rfl,cond_false,e]
   exact Vq hM k hw O c rfl rfl
 . have e:jh w.natAbs f 118=118-au w.natAbs+1:=by unfold jh;rw[ao c]
   rw[decide_eq_false c,show(!false)=true from rfl,cond_true,e]
   exact Vq hM k hw O O rfl (by rw[wQ,wi O O])
def qvb {m:Nat} (hM:ec<=m) {a:D5} (ha:Cn a) (mode:Int):Bh m a.1 a.2.1 a.2.2.1 a.2.2.2.1 mode=some (dn a mode,(),(),()):=by
 have hm:=Jq hM
 have key:nH m a.1 a.2.1 a.2.2.1 a.2.2.2.1=some (a,(),()):=by
  obtain⟨z,e,rfl⟩:=ha.mk;exact Rx O
 rw[Bh,key,bS];dsimp only;unfold dn;cases ha with
 |bad=>rw[iP (.inl rfl)];rfl
 | @ok w f k=>
   have hsw:=Ox (m:=m) O k.ok;rw[k.bad1]at hsw;rw[k.bad1,cond_false,hsw,bS,bQ,k.z,k.e];dsimp only;by_cases c:w<0
   . rw[iP (by unfold sgn;rw[iP c];omega),iP (.inr c)];rfl
   . rw[ao (by unfold sgn;rw[ao c];split<;>omega),ao (by simp[c]),bS,aF]
     dsimp only;by_cases d:w=0
     . rw[iP (Qy.2 d),iP d]
     . rw[ao (λh=>d (Qy.1 h)),ao d,k.mk_eq]
       dsimp only;have hX:w.natAbs≠0:=O;have hl:=k.len;have q1:=k.lo;have q2:=k.hi;rw[qq7 hM k O,bS];dsimp only;have hbig:=qu4 (p:=118) hX f;have hr200:jh w.natAbs f 118<=200:=by unfold jh;split<;>omega
       have hXb:au (w.natAbs*2^jh w.natAbs f 118)<=140000:=by rw[zh,Yu hX];omega
       have hs:=qtp (M:=w.natAbs*2^jh w.natAbs f 118) (k:=58) O;have hsb:au (eK (w.natAbs*2^jh w.natAbs f 118))<=140000:=zf (Yd (PZ _)) hXb;have hr:=ZH (m:=m) O false (v:=eK (w.natAbs*2^jh w.natAbs f 118)) (λh=>by rw[h,Z7]at hs;omega) O (e:=(f-((jh w.natAbs f 118:Nat):Int))/2) (decide (eK (w.natAbs*2^jh w.natAbs f 118)*eK (w.natAbs*2^jh w.natAbs f 118)≠w.natAbs*2^jh w.natAbs f 118)) mode O O
       rw[Z9]at hr;rw[hr,bS]
end Go.Vs.F
set_option maxRecDepth 100000
namespace Go.Vs.F
def NQ {neg:Bool} {f:Int} (h1:0<=f) (h2:f<9223372036854775808):dg (ke neg f):=by unfold ke dg;split<;>omega
def VY {neg:Bool} {mode:Int}:dg (gX neg mode):=by unfold gX;split<;>exact NQ O O
def qu0 {neg:Bool} {n:Nat} {u mode:Int} (hu: -1074<=u) (hn:n<=9007199254740992):dg (kh neg n u mode):=by
 unfold kh;split
 . split
   . exact VY
   . exact NQ O O
 . split
   . exact NQ O O
   . split
     . exact VY
     . exact NQ O O
def Rz {neg:Bool} {v:Nat} {e:Int} {more:Bool} {mode:Int}:dg (uw neg v e more mode):=qu0 (Ru v e) Ry
def uK:dg BT:=by unfold BT dg;omega
def Ci:dg 0:=by unfold dg;omega
def qpz {d:D5} {mode:Int}:dg (N1 d mode):=by
 unfold N1;split
 . exact uK
 . split
   . exact Ci
   . exact Rz
def PM {a b:D5} {mode:Int}:dg (eF a b mode):=by
 unfold eF;split
 . exact uK
 . split
   . exact Ci
   . exact Rz
def qu3 {a:D5} {mode:Int}:dg (dn a mode):=by
 unfold dn;split
 . exact uK
 . split
   . exact Ci
   . exact Rz
def N0 (f:Int):Cn (eH f):=by
 unfold eH;split
 . exact nv _ _
 . exact .bad
def gw (b:LI) (k:Nat) (q:Nat->Int):LI:=(List.range b.length).map λi=>if i<k then q i else b.getD i 0
def Jf {b:LI} {k:Nat} {q:Nat->Int}:(gw b k q).length=b.length:=by unfold gw;simp
def R3 {b:LI} {k i:Nat} {q:Nat->Int} (hi:i<b.length):(gw b k q).getD i 0=if i<k then q i else b.getD i 0:=by
 unfold gw;rw[List.getD_eq_getElem?_getD,List.getElem?_map,List.getElem?_range hi];rfl
def Q6 {a b:LI} (h:a.length=b.length) (hg: ∀i,i<a.length->a.getD i 0=b.getD i 0):a=b:=by
 refine xv h λi h1 h2=> ?_
 have:=hg i h1;simpa [List.getD_eq_getElem?_getD,h1,h2]using this
def XM {l:LI} {k i:Nat} {a:Int} (hk:k<l.length):(l.set k a).getD i 0=if i=k then a else l.getD i 0:=by
 simp only[List.getD_eq_getElem?_getD,List.getElem?_set];split
 . rename_i h;subst h;rw[iP rfl];simp[hk]
 . rename_i h;rw[ao (λe=>h e.symm)]
def qk5 {b:LI} {q:Nat->Int}:gw b 0 q=b:=
 Q6 Jf λi hi=>by rw[Jf]at hi;rw[R3 hi,ao O]
def qoe {b:LI} {k:Nat} {q:Nat->Int} (hk:k<b.length):(gw b k q).set k (q k)=gw b (k+1) q:=
 Q6 (by rw[zS,Jf,Jf]) λi hi=>by
  rw[zS,Jf]at hi;rw[XM (by rw[Jf];exact hk),R3 hi,R3 hi]
  by_cases e:i=k
  . subst e;rw[iP rfl,iP O]
  . rw[ao e];by_cases c:i<k
    . rw[iP c,iP O]
    . rw[ao c,ao O]
def qln {b:LI} {q:Nat->Int}:gw b b.length q=(List.range b.length).map q:=by
 unfold gw;refine tl λi hi=> ?_
 rw[iP (pM.1 hi)]
def pV (n:Nat) (q:Nat->Int):LI:=(List.range n).map q
def Ok {n:Nat} {q:Nat->Int}:(pV n q).length=n:=by unfold pV;simp
def QW {n i:Nat} {q:Nat->Int} (hi:i<n):(pV n q).getD i 0=q i:=by
 unfold pV;rw[List.getD_eq_getElem?_getD,List.getElem?_map,List.getElem?_range hi];rfl
def qpi {n:Nat} {q:Nat->Int}:pV n q++[q n]=pV (n+1) q:=by
 unfold pV;rw[Fu,xp];rfl
section
variable {m:Nat} (hm:5000000000<=m)
include hm
end
section
variable {m:Nat} (hM:ec<=m)
include hM
end
def sr (f:Int):Int:=sc (cK f) (-1074) (-2148)
def Rj {f:Int} (h:bD f):eH f=aW (sr f) (-2148):=by rw[FS h];exact(Cj O).symm
def Vp {f:Int} (h:bD f):cP (sr f) (-2148):=by
 have:(aW (sr f) (-2148)).1=(aW (cK f) (-1074)).1:=by rw[<-Rj h,FS h]
 exact this.trans (gC h)
section
variable {m:Nat} (hm:5000000000<=m)
include hm
end
end Go.Vs.F
set_option maxRecDepth 100000
namespace Go.Vs.F
section
variable {m:Nat} (hm:5000000000<=m)
include hm
end
end Go.Vs.F
set_option maxRecDepth 100000
namespace Go.Vs.F
def ent (S I W:LI) (i j:Nat):Nat->Int
 |0=>0
 |c+1=>if S.getD j 0<=(c:Int)/\(c:Int)<S.getD (j+1) 0/\I.getD c 0=(i:Int)then W.getD c 0 else ent S I W i j c
section
variable {S I W:LI} {i j:Nat}
end
structure COL (n:Nat) (S I W:LI):Prop where
 hn:n<=200
 hS:S.length=n+1
 IW:I.length=W.length
 Il:I.length<=5000
 st:bZ n S I
 lo: ∀j c:Nat,j<n->S.getD j 0<=(c:Int)->(c:Int)<S.getD (j+1) 0->(j:Int)<I.getD c 0/\I.getD c 0<(n:Int)
 up: ∀j c:Nat,j<n->S.getD j 0<(c:Int)->(c:Int)<S.getD (j+1) 0->I.getD (c-1) 0<I.getD c 0
 hW:ft W
section
variable {n:Nat} {S I W:LI} (h:COL n S I W)
include h
end
def TT (S I W:LI) (i j:Nat):Int:=cK (ent S I W i j I.length)
def DL (l:List fu) (t:Int) (c:Nat):Prop:= ∃zs:LI,l=zs.map (dy (-2148))/\(∀z∈zs,cP z (-2148))/\dG zs=t/\zs.length<=c
def DL.add {l:List fu} {t z:Int} {c:Nat} (h:DL l t c) (hz:cP z (-2148)):DL (l++[((aW z (-2148)).1,((aW z (-2148)).2.1,(aW z (-2148)).2.2.1),(aW z (-2148)).2.2.2.1)]) (t+z) (c+1):=by
 obtain⟨zs,h1,h2,h3,h4⟩:=h;refine⟨zs++[z],by rw[h1,xp];rfl,?_,by rw[WE,h3];simp[dG],by simp;omega⟩
 intro x hx;rcases zQ.1 hx with hx|hx
 . exact h2 x hx
 . rw[zC.1 hx];exact hz
def DL.one {z:Int} (hz:cP z (-2148)):DL [((aW z (-2148)).1,((aW z (-2148)).2.1,(aW z (-2148)).2.2.1),(aW z (-2148)).2.2.2.1)] z 1:=
 ⟨[z],rfl,λx hx=>by rw[zC.1 hx];exact hz,by simp[dG],by simp⟩
def DL.mono {l:List fu} {t:Int} {c d:Nat} (h:DL l t c) (hd:c<=d):DL l t d:=by
 obtain⟨zs,h1,h2,h3,h4⟩:=h;exact⟨zs,h1,h2,h3,O⟩
def DL.len {l:List fu} {t:Int} {c:Nat} (h:DL l t c):l.length<=c:=by
 obtain⟨zs,h1,h2,h3,h4⟩:=h;rw[h1,zy];exact h4
def DL.rsum {m:Nat} (hm:3000000<m) {l:List fu} {t:Int} {c:Nat} (h:DL l t c) (hc:c<=10000):KG m l=some (aW t (-2148),(),()):=by
 obtain⟨zs,h1,h2,h3,h4⟩:=h;rw[h1,qt6 hm O h2,h3]
def SS (n:Nat) (s:List (List fu)) (t:Nat->Int) (c:Nat):Prop:=s.length=n/\ ∀i,i<n->DL (s.getD i []) (t i) c
def SS.set {n:Nat} {s:List (List fu)} {t t':Nat->Int} {c:Nat} (h:SS n s t c) {k:Nat} (hk:k<n) {l:List fu} (hl:DL l (t' k) (c+1)) (ht: ∀i,i≠k->t' i=t i):SS n (s.set k l) t' (c+1):=by
 refine⟨by rw[zS];exact h.1,λi hi=> ?_⟩
 by_cases e:i=k
 . subst e;rw[show(s.set i l).getD i []=l by simp[List.getD,h.1,hk]];exact hl
 . rw[show(s.set k l).getD i []=s.getD i [] by simp[List.getD,List.getElem?_set,Ne.symm e],ht i e]
   exact(h.2 i hi).mono O
end Go.Vs.F
set_option maxRecDepth 100000
namespace Go.Vs.F
def yn (b o:LI):LI:=pV o.length λi=>b.getD (o.getD i 0).toNat 0
def Wy {b o:LI}:(yn b o).length=o.length:=Ok
section
variable {m:Nat} (hm:5000000000<=m) {b o:LI} (ho:o.length<=1000) (hb:b.length=o.length) (hr: ∀i,i<o.length->0<=o.getD i 0/\o.getD i 0<(o.length:Int))
include hm ho hb hr
theorem UE: ∀(n k:Nat),o.length-k<n->k<=o.length->
 oL m n b (gw (List.replicate o.length 0) k λi=>b.getD (o.getD i 0).toNat 0) o (o.length:Int) (k:Int)=some (.inl (yn b o,()))
 |0,k,h,_=>absurd h (zA _)
 |n+1,k,h,hk0=>by
  rw[oL,bQ];by_cases hk:k<o.length
  . have h1:=hr k hk;rw[iP O,iP O,iP (by rw[tN];omega),iP (by rw[Jf,nX];omega),zG,tN,qoe (q:=λi=>b.getD (o.getD i 0).toNat 0) (by rw[nX];exact hk),show wI ((k:Int)+1)=((k+1:Nat):Int)from aB O]
    exact UE n (k+1) O O
  . have e:k=(List.replicate o.length (0:Int)).length:=by rw[nX];omega
    rw[ao O,e,qln,nX];rfl
def jO (b o:LI):Nat->LI
 |0=>List.replicate o.length 0
 |k+1=>(jO b o k).set (o.getD k 0).toNat (b.getD k 0)
omit hm ho hb hr in
theorem Oz: ∀{k:Nat},(jO b o k).length=o.length
 |0=>nX
 |k+1=>by rw[jO,zS,Oz]
theorem UG: ∀(n k:Nat),o.length-k<n->k<=o.length->
 oJ m n b (jO b o k) o (o.length:Int) (k:Int)=some (.inl (jO b o o.length,()))
 |0,k,h,_=>absurd h (zA _)
 |n+1,k,h,hk0=>by
  rw[oJ,bQ];by_cases hk:k<o.length
  . have h1:=hr k hk;rw[iP O,iP O,iP O,tN,iP (by rw[Oz];omega),zG,<-jO,show wI ((k:Int)+1)=((k+1:Nat):Int)from aB O]
    exact UG n (k+1) O O
  . rw[ao O,show k=o.length by omega]
end
def V3 {m:Nat} (hm:3000000<m) {B:Int} {zs:LI} (hl:zs.length<=10000) (hok: ∀z∈zs,cP z B) (t0 t1:Bool) (t2:LI) (t3:Int): ∀(n k:Nat) (e:Int),zs.length-k<n->k<=zs.length->
 ic m n (zs.map (dy B)) t0 t1 t2 t3 ((zs.take k).map (dy B)) e (zs.length:Int) (k:Int)=some (.inr (.inl (zs.map (dy B),(t0,t1,t2,t3,()),zs.map (dy B),gZ B e (zs.drop k),())))
 |0,k,e,h,_=>absurd h (zA _)
 |n+1,k,e,h,hk0=>by
  rw[ic,bQ];by_cases hk:k<zs.length
  . have hz:cP (zs.getD k 0) B:=hok _ (Qx hk);have ih:=V3 hm hl hok t0 t1 t2 t3 n (k+1) (if(aW (zs.getD k 0) B).2.2.2.1<e then(aW (zs.getD k 0) B).2.2.2.1 else e) O O
    rw[iP O,iP (by rw[zy];omega),zG,tN,MZ hk,show gQ m (dy B (zs.getD k 0)).1 (dy B (zs.getD k 0)).2.1.1 (dy B (zs.getD k 0)).2.1.2 (dy B (zs.getD k 0)).2.2=_ from HX hm,bS]
    dsimp only;rw[decide_eq_true hz,jM,cond_false,iP (by simp;omega),show wI ((k:Int)+1)=((k+1:Nat):Int)from aB O]
    have e1:(zs.take k).map (dy B)++[((aW (zs.getD k 0) B).1,((aW (zs.getD k 0) B).2.1,(aW (zs.getD k 0) B).2.2.1),(aW (zs.getD k 0) B).2.2.2.1)]=(zs.take (k+1)).map (dy B):=by
     rw[List.take_succ_eq_append_getElem hk,xp];simp[dy,Pq,List.getD,hk]
    have e2:gZ B e (zs.drop k)=gZ B (if(aW (zs.getD k 0) B).2.2.2.1<e then(aW (zs.getD k 0) B).2.2.2.1 else e) (zs.drop (k+1)):=by
     rw[Ix hk,gZ];simp[List.getD,hk]
    rw[e1,e2];exact ih
  . have:k=zs.length:=O;subst this;rw[ao O,ID,List.drop_length];rfl
def Vw {m:Nat} (hm:3000000<m) {B:Int} {zs:LI} (hl:zs.length<=10000) (hok: ∀z∈zs,cP z B) {E:Int} (hE1: -65536<=E) (hE2:E<=0) (hE: ∀z∈zs,E<=(aW z B).2.2.2.1) (l:List fu) (t0 t1:Bool) (t2:LI) (t3:Int): ∀(n k:Nat) (S:Int),zs.length-k<n->k<=zs.length->
 au S.natAbs<=300000+k->dK S E (dG (zs.take k)) B->
 ∃T,ib m n l t0 t1 t2 t3 E (zB S).1 (zB S).2.1 (zs.map (dy B)) (zs.length:Int) (k:Int)=some (.inl (l,(t0,t1,t2,t3,()),E,((zB T).1,(zB T).2.1,()),()))/\au T.natAbs<=400000/\dK T E (dG zs) B
 |0,k,S,h,_,_,_=>absurd h (zA _)
 |n+1,k,S,h,hk0,hS,hQ=>by
  rw[ib,bQ];by_cases hk:k<zs.length
  . have hz:cP (zs.getD k 0) B:=hok _ (Qx hk);obtain⟨w,f,kk,k1,k2,k3⟩:=Jg hz;have hEf:E<=f:=by rw[<-k3];exact hE _ (Qx hk)
    have hb1:=kk.lo;have hb2:=kk.hi;have s1:=Cg kk hEf hE1;have hle:=kk.len;have w1:wI (f-E)=f-E:=by rw[wQ,wi O O]
    have q2:dK (S+sc w f E) E (dG (zs.take (k+1))) B:=by
     rw[Ia hk];exact hQ.add (c:=0) (g:=0) ((dK.sc hEf).trans kk.eq)
    have q1:au (S+sc w f E).natAbs<=300000+(k+1):=by
     have:=OP (k:=300000+k) hS (zf s1 O);omega
    obtain⟨T,i1,i2,i3⟩:=Vw hm hl hok hE1 hE2 hE l t0 t1 t2 t3 n (k+1) (S+sc w f E) O O q1 q2;refine⟨T,?_,i2,i3⟩
    rw[iP O,iP (by rw[zy];omega),tN,zG,MZ hk,
     show(dy B (zs.getD k 0)).2.1.1=(zB w).1 from k1,show(dy B (zs.getD k 0)).2.1.2=(zB w).2.1 from k2,show(dy B (zs.getD k 0)).2.2=f from k3,w1,ff hm O O O,bS]
    dsimp only;rw[NU O (tf O) (tf (by unfold sc at s1;omega)),ba,ba,bS,show wI ((k:Int)+1)=((k+1:Nat):Int)from aB O]
    exact i1
  . have:k=zs.length:=O;subst this;rw[ID]at hQ;exact⟨S,by rw[ao O],O,hQ⟩
def qt0 {m:Nat} (hm:3000000<m) {B:Int} {zs:LI} (hl:zs.length<=10000) (hok: ∀z∈zs,cP z B):oZ m (zs.map (dy B))=some (aW (dG zs) B,zs.map (dy B),()):=by
 have h0:=V3 hm hl hok false false [] 0 m 0 0 O O;rw[sk,nW,xT,nZ]at h0;rw[oZ,zy,h0,bS];dsimp only;have hE:=QX (B:=B) (zs:=zs) (e:=0);have hE1:=QN (B:=B) (zs:=zs) (e:=0) O hok;obtain⟨T,i1,i2,i3⟩:=Vw hm hl hok hE1 hE.1 hE.2 (zs.map (dy B)) false false [] 0 m 0 0 O O (zf (Qr (n:=0) (k:=0) (by decide)) O) (dK.zero _ _)
 rw[nZ]at i1;rw[zy,show([]:LI)=(zB 0).2.1 from Qj.symm,show false=(zB 0).1 from rfl]
 rw[show(zB 0).1=false from rfl,show(zB 0).2.1=([]:LI)from Qj]at*
 rw[i1,bS];dsimp only;rw[JE hm O O O,i3.mk];rfl
def q6f {m:Nat} (hm:5000000000<=m) {v:LI} (hl:v.length<=1000) (hv:ft v): ∀(n k:Nat) (s:List (List fu)),v.length-k<n->k<=v.length->s.length=v.length->(∀i,i<k->DL (s.getD i []) (sr (v.getD i 0)) 1)->
 ∃s',lI m n s v (v.length:Int) (k:Int)=some (.inl (s',()))/\SS v.length s' (λi=>sr (v.getD i 0)) 1
 |0,k,s,h,_,_,_=>absurd h (zA _)
 |n+1,k,s,h,hk0,hs,hd=>by
  rw[lI,bQ];by_cases hk:k<v.length
  . obtain⟨u,f⟩:=hv k hk;rw[iP O,iP O,tN,d6 O u,bS,iP O,Rj f,show wI ((k:Int)+1)=((k+1:Nat):Int)from aB O]
    refine q6f hm hl hv n (k+1) _ O O (by rw[zS];exact hs) λi hi=> ?_
    by_cases e:i=k
    . subst e;rw[show∀x:List fu,(s.set i x).getD i []=x from λx=>by simp[List.getD,hs,hk]]
      exact DL.one (Vp f)
    . rw[show∀x:List fu,(s.set k x).getD i []=s.getD i []from λx=>by simp[List.getD,List.getElem?_set,Ne.symm e]]
      exact hd i O
  . exact⟨s,by rw[ao O],hs,λi hi=>hd i O⟩
def Wd {m:Nat} (hm:5000000000<=m) {v:LI} (hl:v.length<=1000) (hv:ft v): ∃s,we m v=some (s,(),())/\SS v.length s (λi=>sr (v.getD i 0)) 1:=by
 obtain⟨s,h1,h2⟩:=q6f hm hl hv m 0 (List.replicate v.length []) O O nX (λi hi=>absurd hi (zA _))
 rw[nZ]at h1;exact⟨s,by rw[we,iP O,tN,h1];rfl,h2⟩
def WD {m:Nat} (hm:5000000000<=m) {n:Nat} {s:List (List fu)} {t:Nat->Int} {c:Nat} (h:SS n s t c) (hc:c<=10000) {k:Nat} (hk:k<n):wb m s (k:Int)=some (aW (t k) (-2148),s,(),()):=by
 obtain⟨zs,h1,h2,h3,h4⟩:=h.2 k hk;have hl:=h.1;have hs:oZ m (zs.map (dy (-2148)))=some (aW (dG zs) (-2148),zs.map (dy (-2148)),()):=qt0 O O h2;rw[wb,iP O,tN,h1,hs,bS,h3];dsimp only;rw[<-h1,show s.set k (s.getD k [])=s from by rw[show s.getD k []=s[k] by simp[List.getD,hl,hk]];exact Fy _]
def q82 {m:Nat} (hm:5000000000<=m) {n:Nat} {s:List (List fu)} {t:Nat->Int} {c:Nat} (h:SS n s t c) (hc:c<=10000) {k:Nat} (hk:k<n) {a b:Int} (ha:dg a) (fa:bD a) (hb:dg b) (fb:bD b):
 ∃s',wa m s (k:Int) a b=some ((),s',(),(),(),())/\SS n s' (λi=>if i=k then t i-cK a*cK b else t i) (c+1):=by
 have hl:=h.1;have hd:=h.2 k hk;have hdl:=hd.len;have hp:cP (-(cK a*cK b)) (-2148):=by have:=VC fa fb;rw[Ya]at*;rw[BW];omega
 have hA:=hd.add hp;rw[show t k+ -(cK a*cK b)=(λi=>if i=k then t i-cK a*cK b else t i) k by dsimp only;rw[iP rfl];omega]at hA
 refine⟨_,?_,h.set hk (t':=λi=>if i=k then t i-cK a*cK b else t i) hA λi hi=>ao hi⟩
 rw[wa,iP O,d6 O ha,bS,d6 O hb,bS,FS fa,FS fb];dsimp only;rw[Vi O,iP ⟨gC fa,gC fb⟩,bS,show(-1074:Int)+ -1074= -2148 by decide]
 dsimp only;rw[VO O,bS];dsimp only;rw[tN,iP (by rw[ny];omega),iP O,iP rfl]
end Go.Vs.F
set_option maxRecDepth 100000
namespace Go.Vs.F
section
variable {R C:Nat} {S I V:LI}
end
section
variable {es:List aS} {r c:Nat}
end
end Go.Vs.F
set_option maxRecDepth 100000
namespace Go.Vs.F
def oI {l x:LI} {k:Nat} (h:k<l.length):(l++x).getD k 0=l.getD k 0:=by simp[List.getD,List.getElem?_append_left h]
def sM {l x:LI} {k:Nat} (h:l.length<=k):(l++x).getD k 0=x.getD (k-l.length) 0:=by simp[List.getD,List.getElem?_append_right h]
def qtt {l x:LI} (h:ft l) (h':ft x):ft (l++x):=by
 intro i hi;rw[zJ]at hi;by_cases c:i<l.length
 . rw[oI c];exact h i c
 . rw[sM O];exact h' _ O
structure CX (i:Nat) (X Y:LI):Prop where
 yl:Y.length=X.length
 fn:ft Y
 sz:X.length<=i
 row: ∀k,k<X.length->0<=X.getD k 0/\X.getD k 0<(i:Int)/\(0<k->X.getD (k-1) 0<X.getD k 0)
def CX.nil:CX 0 [] []:=⟨rfl,Q0,zF _,λk h=>absurd h (zA _)⟩
def CX.skip {i:Nat} {X Y:LI} (h:CX i X Y):CX (i+1) X Y:=⟨h.yl,h.fn,by have:=h.sz;omega,λk hk=>by have:=h.row k hk;exact⟨this.1,O,this.2.2⟩⟩
def CX.snoc {i:Nat} {X Y:LI} (h:CX i X Y) {f:Int} (h1:dg f) (h2:bD f):CX (i+1) (X++[(i:Int)]) (Y++[f]):=by
 refine⟨by simp[h.yl],We h.fn h1 h2,by have:=h.sz;simp;omega,λk hk=> ?_⟩
 rw[zJ]at hk;have e1:([(i:Int)]:LI).length=1:=rfl;by_cases c:k<X.length
 . have:=h.row k c;rw[oI c];exact⟨this.1,O,λh0=>by rw[oI O];exact this.2.2 h0⟩
 . have hk':k=X.length:=O;subst hk';rw[sM (zF _),Ir];refine⟨by show(0:Int)<=i;omega,by show(i:Int)<((i+1:Nat):Int);omega,λh0=> ?_⟩
   rw[oI O];exact(h.row _ O).2.1
structure GI (R j:Nat) (S I V:LI):Prop where
 st:bZ j S I
 col: ∀t,t<j-> ∀k,(S.getD t 0).toNat<=k->k<(S.getD (t+1) 0).toNat->0<=I.getD k 0/\I.getD k 0<(R:Int)/\((S.getD t 0).toNat<k->I.getD (k-1) 0<I.getD k 0)
 vl:V.length=I.length
 fn:ft V
 sz:I.length<=j*R
def GI.nil {R:Nat}:GI R 0 [0] [] []:=⟨⟨rfl,rfl,λj h=>absurd h (zA _),rfl⟩,λt h=>absurd h (zA _),rfl,Q0,l8 _⟩
def GI.snoc {R j:Nat} {S I V X Y:LI} (h:GI R j S I V) (hX:CX R X Y):GI R (j+1) (S++[((I++X).length:Int)]) (I++X) (V++Y):=by
 have hl:=h.st.len;have hlast:=h.st.last;have h0:=h.st.s0;have s1:=hX.sz;have ea:(I++X).length=I.length+X.length:=zJ;have eL: ∀t,t<=j->(S++[((I++X).length:Int)]).getD t 0=S.getD t 0:=λt ht=>oI O
 have eR:(S++[((I++X).length:Int)]).getD (j+1) 0=((I++X).length:Int):=by rw[sM O,show j+1-S.length=0 by omega];rfl
 refine⟨⟨by simp[hl],by rw[eL 0 O];exact h0,λt ht=> ?_,eR⟩,λt ht k hk1 hk2=> ?_,by simp[h.vl,hX.yl],qtt h.fn hX.fn,?_⟩
 . by_cases c:t<j
   . rw[eL t O,eL (t+1) O];exact h.st.mono t c
   . have:t=j:=O;subst this;rw[eL t (zF _),eR,hlast,ea];omega
 . by_cases c:t<j
   . rw[eL t O]at hk1⊢;rw[eL (t+1) O]at hk2;have:=h.st.le (i:=t+1) (j:=j) O (zF _);rw[oI O];have q:=h.col t c k hk1 hk2;exact⟨q.1,q.2.1,λhs=>by rw[oI O];exact q.2.2 hs⟩
   . have:t=j:=O;subst this;rw[eL t (zF _)]at hk1⊢;rw[eR]at hk2;rw[hlast]at hk1⊢;rw[sM O];have q:=hX.row (k-I.length) O;refine⟨q.1,q.2.1,λhs=> ?_⟩
     rw[sM O,show k-1-I.length=k-I.length-1 by omega]
     exact q.2.2 O
 . have:=h.sz;rw[ea,IH];omega
def GI.mat {R C:Nat} {S I V:LI} (h:GI R C S I V) (hR:R<=100) (hC:C<=100):ck R C S I:=by
 have:C*R<=100*100:=pN hC hR;have:=h.sz;refine⟨h.st,λj hj=> ?_,O,O,O⟩
 unfold uv;rw[Qb];intro k h1 h2;obtain⟨q1,q2,q3⟩:=h.col j hj k h1 h2;unfold lX;by_cases c:(S.getD j 0).toNat<k
 . simp only[q1,q2,c,q3 c,decide_true,Iv,jM,B8]
 . simp only[q1,q2,c,decide_true,decide_false,Iv,q9,NG]
section
variable {m:Nat} (hm:5000000000<=m) {raw:LI} (hl:raw.length<=9223372036854775807) {R C:Nat} (hR:R<=100) (style:Int)
include hm hl hR
theorem qjz (a0 a1 m0 m1:Int) (a2 a3 a4 S I V:LI) (j:Int) (hI:I.length<=100000) (hV:V.length=I.length): ∀(N i:Nat) (X Y:LI),R-i<N->i<=R->CX i X Y->
 ∃X' Y',CX R X' Y'/\nk m N raw (R:Int) (C:Int) style a0 a1 a2 a3 a4 m0 m1 S (I++X) (V++Y) j (i:Int)=some (.inl (raw,(R:Int),(C:Int),style,(a0,a1,a2,a3,a4,()),(m0,m1,S,I++X',V++Y',()),j,())):=by
 intro N;induction N with
 |zero=>intro i X Y h;omega
 |succ N ih=>
  intro i X Y h hi hX;rw[nk,bQ];by_cases c:i<R
  . obtain⟨w,ew,hw⟩:=QP m hl (wI ((wI (100+(wI (j*(R:Int)))))+(i:Int)));rw[iP O,ew,bS,bQ,wQ (n:=(i:Int)+1),aB O];have s1:=hX.sz;have s2:=hX.yl;split
    . obtain⟨f,ef,h1,h2⟩:=Uz hm hw style;rw[iP (by rw[zJ];show _+1<=_;omega)]
      dsimp only;rw[ef,bS,iP (by rw[zJ];show _+1<=_;omega),zu,zu]
      exact ih (i+1) _ _ O O (hX.snoc h1 h2)
    . exact ih (i+1) _ _ O O hX.skip
  . have:i=R:=O;subst this;rw[ao O];exact⟨X,Y,hX,rfl⟩
theorem qkh (hC:C<=100) (a0 a1 m0 m1:Int) (a2 a3 a4:LI): ∀(N j:Nat) (S I V:LI),C-j<N->j<=C->GI R j S I V->
 ∃S' I' V',GI R C S' I' V'/\oX m N raw (R:Int) (C:Int) style a0 a1 a2 a3 a4 m0 m1 S I V (j:Int)=some (.inl ((a0,a1,a2,a3,a4,()),(m0,m1,S',I',V',()),())):=by
 intro N;induction N with
 |zero=>intro j S I V h;omega
 |succ N ih=>
  intro j S I V h hj hG;rw[oX,bQ];by_cases c:j<C
  . have s1:=hG.sz;have:j*R<=100*100:=pN O hR;obtain⟨X,Y,hX,e⟩:=qjz hm hl hR (C:=C) style a0 a1 m0 m1 a2 a3 a4 S I V (j:Int) O hG.vl m 0 [] [] O O CX.nil;rw[jg,jg,nZ]at e;rw[iP O,e,bS];dsimp only;have hS:=hG.st.len;rw[iP (by show _+1<=_;omega),wQ,aB O]
    exact ih (j+1) _ _ _ O O (hG.snoc hX)
  . have:j=C:=O;subst this;rw[ao O];exact⟨S,I,V,hG,rfl⟩
theorem qk2 (hC:C<=100): ∃S I V,GI R C S I V/\Ph m raw (R:Int) (C:Int) style=some (((R:Int),(C:Int),S,I,V,()),(),(),(),(),()):=by
 obtain⟨S,I,V,hG,e⟩:=qkh hm hl hR (C:=C) style hC 0 0 (R:Int) (C:Int) [] [] [] m 0 [0] [] [] O O GI.nil;rw[nZ]at e;exact⟨S,I,V,hG,by rw[Ph,e,bS]⟩
end
end Go.Vs.F
set_option maxRecDepth 100000
namespace Go.Vs.F
section
variable {R C:Nat} {S I V:LI}
end
def GI.MV {R C:Nat} {S I V:LI} (h:GI R C S I V) (hR:R<=100) (hC:C<=100):MV R C S I V:=by
 have hM:=h.mat hR hC;refine⟨hM,h.vl,?_⟩;have hz:=hM.sz
 have h1:(decide (0<=(R:Int))&&decide ((R:Int)<=200)&&decide (0<=(C:Int))&&decide ((C:Int)<=200)&&decide (I.length<=10000))=true:=by
  simp only[zI,decide_eq_true_eq];omega
 have h2:me (R:Int) (C:Int) S I V=true:=by
  unfold me;have a1:((S.length:Int)=(C:Int)+1):=by have:=hM.st.len;omega
  have a2:=hM.st.s0;have a3:Qe (pL S) 0 (C:Int).toNat=true:=Qb.2 λk _ hk=>decide_eq_true (hM.st.mono k O)
  have a4:S.getD (C:Int).toNat 0=(I.length:Int):=hM.st.last;have a6:Qe (λj=>uv (R:Int) S I j) 0 (C:Int).toNat=true:=Qb.2 λk _ hk=>hM.ent k O
  simp only[a1,a2,a3,a4,a6,h.vl,decide_true,Iv]
 have h3:jc V=true:=by
  unfold jc
  exact Qb.2 λk _ hk=>by
   obtain⟨u,f⟩:=h.fn k hk;rw[QR u];exact decide_eq_true f
 unfold chk;rw[h1,h2,h3];rfl
def ij (I V:LI) (i:Int):Nat->Nat->Option Int
 |0,_=>none
 |d+1,k=>if I.getD k 0=i then some (V.getD k 0)else ij I V i d (k+1)
def MY (S I V:LI) (i j:Nat):Int:=(ij I V (i:Int) ((S.getD (j+1) 0).toNat-(S.getD j 0).toNat) (S.getD j 0).toNat).getD 0
section
variable {R C:Nat} {S I V:LI}
def Ft (m:Nat) {i:Int} {j:Nat} (hj:j+1<S.length) (hj2:j<4611686018427387903) {e:Nat} (he:S.getD (j+1) 0=(e:Int)) (hI:e<=I.length) (hv:V.length=I.length) (hb:I.length<=100000) (a0 a1:Int): ∀(n k:Nat),e-k<n->k<=e->
 m9 m n i (j:Int) a0 a1 S I V (k:Int)=some (match ij I V i (e-k) k with|some v=> .inl (v,())|none=> .inr (.inl ()))
 |0,k,h,_=>O
 |n+1,k,h,hk0=>by
  have w:wI ((j:Int)+1)=((j+1:Nat):Int):=aB O;rw[m9,w,iP O,tN,he,bQ];by_cases hk:k<e
  . rw[iP O,iP O,tN,aF,show e-k=e-(k+1)+1 by omega,ij]
    by_cases c:I.getD k 0=i
    . rw[iP c,iP O,iP c]
    . rw[ao c,show wI ((k:Int)+1)=((k+1:Nat):Int)from aB O,ao c]
      exact Ft m hj hj2 he hI hv hb a0 a1 n (k+1) O O
  . rw[ao O,show e-k=0 by omega,ij]
def Fq {m:Nat} (hm:3000000<m) (h:MV R C S I V) {i j:Nat} (hj:j<C):If m (R:Int) (C:Int) S I V (i:Int) (j:Int)=some (MY S I V i j,(),(),(),()):=by
 have hl:=h.ok.st.len;have hsz:=h.ok.sz;have hcz:=h.ok.cz;have iu:=h.vl;have a:=h.ok.st.rng (j:=j) O;have b:=h.ok.st.rng (j:=j+1) O;have mo:=h.ok.st.mono j hj;have c1:(0:Int)<=(j:Int)/\(j:Int)<(S.length:Int):=O;have e1:S.getD j 0=(((S.getD j 0).toNat:Nat):Int):=O;have hr:=Ft (S:=S) (I:=I) (V:=V) m (i:=(i:Int)) (j:=j) O O (e:=(S.getD (j+1) 0).toNat) O O iu O (R:Int) (C:Int) m (S.getD j 0).toNat O O
 have hpre:If m (R:Int) (C:Int) S I V (i:Int) (j:Int)=(m9 m m (i:Int) (j:Int) (R:Int) (C:Int) S I V (((S.getD j 0).toNat:Nat):Int)).bind λy2=>match y2 with
  | .inl z3=>some (z3.1,((),(),(),()))
  | .inr (.inl z4)=>some (0,((),(),(),()))
  | .inr (.inr e)=>e.elim:=by
  rw[If,SR O O O,h.chk];simp only[bS,aE,if_true,bQ];rw[ao O,ao O,iP c1,tN,<-e1];rfl
 rw[hpre,hr,MY];cases ij I V (i:Int) ((S.getD (j+1) 0).toNat-(S.getD j 0).toNat) (S.getD j 0).toNat<;>rfl
end
section
variable {R C:Nat} {S I V:LI}
end
def nL (o:List Nat):LI:=o.map λk:Nat=>(k:Int)
def I4 {o:List Nat}:(nL o).length=o.length:=by unfold nL;rw[zy]
def qqb {o:List Nat} {n k:Nat} (h:o.Perm (List.range n)):(o.take k++[n]++o.drop k).Perm (List.range (n+1)):=by
 have h1:(o.take k++[n]++o.drop k).Perm (n::o):=by
  rw[zu,xq];refine IG.trans ?_;rw[zn]
 rw[Fu];exact h1.trans ((List.Perm.cons n h).trans (List.perm_append_singleton n (List.range n)).symm)
def qu5 {o:List Nat} {k:Nat}:(nL o).take k=nL (o.take k):=by unfold nL;rw[List.map_take]
def qu8 {o:List Nat} {k:Nat}:(nL o).drop k=nL (o.drop k):=by unfold nL;rw[List.map_drop]
def UZ {a b:List Nat}:nL a++nL b=nL (a++b):=by unfold nL;rw[xp]
section
variable {m:Nat} (hm:5000000000<=m) {raw:LI} (hl:raw.length<=9223372036854775807) {n:Nat} (hn:n<=100)
include hm hl hn
theorem qqe: ∀(N i:Nat) (o:List Nat),n-i<N->i<=n->o.Perm (List.range i)-> ∃o':List Nat,o'.Perm (List.range n)/\pe m N raw (n:Int) (nL o) (i:Int)=some (.inl (nL o',())):=by
 intro N;induction N with
 |zero=>intro i o h;omega
 |succ N ih=>
  intro i o h hi ho;have hol:o.length=i:=by rw[ho.length_eq,List.length_range]
  rw[pe,bQ];by_cases c:i<n
  . obtain⟨w,ew,hw⟩:=QP m hl (wI (700+(i:Int)));obtain⟨a,ha,ea⟩:=HV m (wI (az .u64 w 1)) (k:=i+1) O O;have w1:wI ((i:Int)+1)=((i+1:Nat):Int):=aB O;rw[iP O,ew,bS];dsimp only;rw[w1,ea,bS];dsimp only;have hL:(nL o).length=i:=by rw[I4,hol]
    have e1:([]:LI)++((nL o).drop 0).take ((a:Int).toNat-0)++[(i:Int)]++((nL o).drop (0+(a:Int).toNat)).take ((nL o).length-(a:Int).toNat)=nL (o.take a++[i]++o.drop a):=by
     rw[nW,Nz,tN,zG,n5,sj (l:=(nL o).drop a) (by rw[pI];omega),qu5,qu8,show([(i:Int)]:LI)=nL [i]from rfl,UZ,UZ]
    have t1:(((nL o).drop 0).take ((a:Int).toNat-0)).length<=100:=by rw[zk,pI];omega
    have t2:(([]:LI)++((nL o).drop 0).take ((a:Int).toNat-0)).length<=100:=by rw[n5];exact t1
    have t3:(([]:LI)++((nL o).drop 0).take ((a:Int).toNat-0)++[(i:Int)]).length<=101:=by rw[zJ];show _+1<=_;omega
    have t4:(((nL o).drop (0+(a:Int).toNat)).take ((nL o).length-(a:Int).toNat)).length<=100:=by rw[zk,pI];omega
    rw[iP O,iP (by show 0+_<=_;omega),iP (by show _+1<=_;omega),iP O,iP O,e1]
    exact ih (i+1) _ O O (qqb ho)
  . have:i=n:=O;subst this;rw[ao O];exact⟨o,ho,rfl⟩
theorem qr5: ∃o:List Nat,o.Perm (List.range n)/\Pn m raw (n:Int)=some (nL o,(),(),()):=by
 obtain⟨o,ho,e⟩:=qqe hm hl hn m 0 [] O O (List.Perm.refl _);refine⟨o,ho,?_⟩;rw[nZ]at e;rw[Pn,show([]:LI)=nL []from rfl,e,bS]
end
end Go.Vs.F
set_option maxRecDepth 100000
namespace Go.Vs.F
def XI {I V:LI} {i:Int}: ∀{d k:Nat} {v:Int},ij I V i d k=some v-> ∃t,k<=t/\t<k+d/\V.getD t 0=v
 |0,k,v,h=>by cases h
 |d+1,k,v,h=>by
  rw[ij]at h;split at h
  . injection h with h;exact⟨k,O,O,h⟩
  . obtain⟨t,h1,h2,h3⟩:=XI h;exact⟨t,O,O,h3⟩
def Fb {R C:Nat} {S I V:LI} (h:MV R C S I V) (hV:UL V) {i j:Nat} (hj:j<C):dg (MY S I V i j)/\bD (MY S I V i j):=by
 unfold MY;cases hf:ij I V (i:Int) ((S.getD (j+1) 0).toNat-(S.getD j 0).toNat) (S.getD j 0).toNat with
 |none=>exact⟨Ci,by unfold bD;decide⟩
 |some v=>
  obtain⟨t,h1,h2,h3⟩:=XI hf;have a:=h.ok.st.rng (j:=j+1) O;have b:=h.ok.st.rng (j:=j) O;have c:=h.ok.st.mono j hj;have hl:=h.vl;have ht:t<V.length:=O;obtain⟨_,_,_,_,_,_,hfin⟩:=PI h.chk;have hb:=Qb.1 hfin t O ht;rw[QR (hV t ht)]at hb;rw[pP,<-h3];exact⟨hV t ht,of_decide_eq_true hb⟩
section
variable {m:Nat} (hm:5000000000<=m) {R C:Nat} {S I V:LI} (hM:MV R C S I V)
include hm hM
theorem XT {i j:Nat} (hj:j<C): ∀(N k:Nat),(S.getD (j+1) 0).toNat-k<N->
 ∃r,oO m N (i:Int) (j:Int) (R:Int) (C:Int) S I V (k:Int)=some r
 |0,k,h=>absurd h (zA _)
 |N+1,k,h=>by
  have hl:=hM.ok.st.len;have hc:=hM.ok.cz;have hz:=hM.ok.sz;have a:=hM.ok.st.rng (j:=j+1) O;have w:wI ((j:Int)+1)=((j+1:Nat):Int):=aB O;rw[oO,w,iP O,tN,bQ];by_cases hk:(k:Int)<S.getD (j+1) 0
  . rw[iP hk,iP O,aF];split
    . exact⟨_,rfl⟩
    . rw[show wI ((k:Int)+1)=((k+1:Nat):Int)from aB O]
      exact XT hj N (k+1) O
  . rw[ao hk];exact⟨_,rfl⟩
theorem qlr {i j:Nat} (hi:i<R) (hj:j<C): ∃b,Pd m (R:Int) (C:Int) S I V (i:Int) (j:Int)=some (b,(),(),(),()):=by
 have hl:=hM.ok.st.len;have hc:=hM.ok.cz;have hz:=hM.ok.sz;have a:=hM.ok.st.rng (j:=j) O;have b:=hM.ok.st.rng (j:=j+1) O;obtain⟨r,e⟩:=XT hm hM (i:=i) hj m (S.getD j 0).toNat O;rw[show(((S.getD j 0).toNat:Nat):Int)=S.getD j 0 by omega]at e
 rw[Pd,bQ,ao O,bQ,ao O,bQ,ao O,bQ,ao O,iP O,tN,e,bS]
 match r with
 | .inl z=>exact⟨_,rfl⟩
 | .inr (.inl z)=>exact⟨_,rfl⟩
 | .inr (.inr e)=>exact e.elim
end
def TZ {f:Int} (h:bD f):aW ((cK f).natAbs:Int) (-1074)=aW (sc ((cK f).natAbs:Int) (-1074) (-2148)) (-2148):=(Cj O).symm
def quf {f:Int} (h:bD f):cP (sc ((cK f).natAbs:Int) (-1074) (-2148)) (-2148):=by
 have h1:=qol (gC h);unfold cP at*
 rwa [Cj O]
structure GW (S I V:LI) (a b:Nat):Prop where
 sl:S.length<=a
 il:I.length<=b
 vl:V.length=I.length
 u:UL V
def qsx {l:LI} (h:UL l) {f:Int} (h1:dg f):UL (l++[f]):=λi hi=>by
 by_cases c:i<l.length
 . rw[oI c];exact h i c
 . rw[sM O];rw[zJ,ny]at hi;rw[show i-l.length=0 by omega];exact h1
def GW.snoc {S I V:LI} {a b:Nat} (h:GW S I V a b) {i f:Int} (hf:dg f):GW S (I++[i]) (V++[f]) a (b+1):=
 ⟨h.sl,by have:=h.il;simp;omega,by simp[h.vl],qsx h.u hf⟩
section
variable {m:Nat} (hm:5000000000<=m) {n:Nat} (hn:n<=100) {S I V:LI} (hM:MV n n S I V) (hV:UL V)
include hm hn hM hV
theorem PP (a0 a1 b0 b1:Int) (a2 a3 a4 b2 b3 b4:LI) (t9:Int) {i:Nat} (hi:i<n): ∀(N k:Nat) (s:List fu) (t:Int),n-k<N->k<=n->DL s t (1+k)->
 ∃s' t',np m N (n:Int) a0 a1 a2 a3 a4 (n:Int) (n:Int) S I V b0 b1 b2 b3 b4 t9 (i:Int) s (k:Int)=some (.inl ((n:Int),(a0,a1,a2,a3,a4,()),((n:Int),(n:Int),S,I,V,()),(b0,b1,b2,b3,b4,()),t9,(i:Int),s',()))/\DL s' t' (1+n)
 |0,k,s,t,h,_,_=>absurd h (zA _)
 |N+1,k,s,t,h,hk0,hd=>by
  rw[np,bQ];by_cases hk:k<n
  . have w:wI ((k:Int)+1)=((k+1:Nat):Int):=aB O;rw[iP O,aE,w];by_cases c:k=i
    . rw[iP O];exact PP a0 a1 b0 b1 a2 a3 a4 b2 b3 b4 t9 hi N (k+1) s t O O (hd.mono O)
    . have e1:(if(k:Int)>(i:Int)then(k:Int)else(i:Int))=((max k i:Nat):Int):=by split<;>omega
      have e2:(if(k:Int)<(i:Int)then(k:Int)else(i:Int))=((min k i:Nat):Int):=by split<;>omega
      obtain⟨u,f⟩:=Fb hM hV (i:=max k i) (j:=min k i) O;have hl:=hd.len;rw[ao O,e1,e2,Fq O hM O,bS];dsimp only;rw[qup O u,bS,FS f,qqd O (gC f),bS,TZ f];dsimp only;rw[iP (by rw[ny];omega)]
      exact PP a0 a1 b0 b1 a2 a3 a4 b2 b3 b4 t9 hi N (k+1) _ _ O O ((hd.add (quf f)).mono O)
  . have e:k=n:=O;subst e;rw[ao O];exact⟨s,t,rfl,hd⟩
theorem NR (a0 a1 b0 b1:Int) (a2 a3 a4 b2:LI) {j:Nat} (hj:j<n) {x:Nat} (hx:x<=10000): ∀(N i:Nat) (I' V':LI),n-i<N->i<=n->GW b2 I' V' 200 (x+i)->
 ∃I1 V1,lH m N (n:Int) a0 a1 a2 a3 a4 (n:Int) (n:Int) S I V b0 b1 b2 I' V' (j:Int) (i:Int)=some (.inl ((n:Int),(a0,a1,a2,a3,a4,()),((n:Int),(n:Int),S,I,V,()),(b0,b1,b2,I1,V1,()),(j:Int),()))/\GW b2 I1 V1 200 (x+n)
 |0,i,I',V',h,_,_=>absurd h (zA _)
 |N+1,i,I',V',h,hi0,hg=>by
  rw[lH,bQ];by_cases hi:i<n
  . have w:wI ((i:Int)+1)=((i+1:Nat):Int):=aB O;have hil:=hg.il;have iu:=hg.vl;rw[iP O,aF,w];by_cases c:i=j
    . have hd:DL _ yc (1+0):=DL.one (quw (zf qug O));obtain⟨s',t',e1,e2⟩:=PP hm hn hM hV a0 a1 b0 b1 a2 a3 a4 b2 I' V' (j:Int) hi m 0 _ _ O O hd;rw[nZ]at e1;rw[iP O,qp6 O (by unfold T0;omega),bS,qvc]
      dsimp only;rw[e1,bS];dsimp only;rw[iP (by rw[ny];omega),e2.rsum O O,bS]
      dsimp only;rw[qn4 O,bS,iP (by rw[ny];omega),w]
      exact NR a0 a1 b0 b1 a2 a3 a4 b2 hj hx N (i+1) _ _ O O (hg.snoc qpz)
    . obtain⟨b,eb⟩:=qlr hm hM (i:=i) (j:=j) hi hj;rw[ao O,eb,bS];cases b with
      |true=>
       obtain⟨u,f⟩:=Fb hM hV (i:=i) (j:=j) hj;dsimp only;rw[cond_true,iP (by rw[ny];omega),Fq O hM hj,bS,iP (by rw[ny];omega)]
       exact NR a0 a1 b0 b1 a2 a3 a4 b2 hj hx N (i+1) _ _ O O (hg.snoc u)
      |false=>
       dsimp only;rw[cond_false];exact NR a0 a1 b0 b1 a2 a3 a4 b2 hj hx N (i+1) _ _ O O ⟨hg.sl,O,hg.vl,hg.u⟩
  . have e:i=n:=O;subst e;rw[ao O];exact⟨I',V',rfl,hg⟩
theorem UN (a0 a1 b0 b1:Int) (a2 a3 a4:LI): ∀(N j:Nat) (b2 I' V':LI),n-j<N->j<=n->GW b2 I' V' (1+j) (j*n)->
 ∃S1 I1 V1,pf m N (n:Int) a0 a1 a2 a3 a4 (n:Int) (n:Int) S I V b0 b1 b2 I' V' (j:Int)=some (.inl ((a0,a1,a2,a3,a4,()),(b0,b1,S1,I1,V1,()),()))/\GW S1 I1 V1 (1+n) (n*n)
 |0,j,b2,I',V',h,_,_=>absurd h (zA _)
 |N+1,j,b2,I',V',h,hj0,hg=>by
  rw[pf,bQ];by_cases hj:j<n
  . have w:wI ((j:Int)+1)=((j+1:Nat):Int):=aB O;have hsl:=hg.sl;have hx:j*n<=100*100:=pN O hn;obtain⟨I1,V1,e1,e2⟩:=NR hm hn hM hV a0 a1 b0 b1 a2 a3 a4 b2 hj (x:=j*n) O m 0 I' V' O O ⟨O,by have:=hg.il;omega,hg.vl,hg.u⟩
    rw[nZ]at e1;rw[iP O,e1,bS];dsimp only;rw[iP (by rw[ny];omega),w]
    exact UN a0 a1 b0 b1 a2 a3 a4 N (j+1) _ I1 V1 O O ⟨by rw[zJ,ny];omega,by have:=e2.il;rw[IH];exact this,e2.vl,e2.u⟩
  . have e:j=n:=O;subst e;rw[ao O];exact⟨b2,I',V',rfl,hg⟩
end
def qgi {m:Nat} (hm:5000000000<=m) {raw:LI} (hl:raw.length<=9223372036854775807) {n:Nat} (hn:n<=100) (style:Int):
 ∃S I V,Po m raw (n:Int) style=some (((n:Int),(n:Int),S,I,V,()),(),(),(),())/\GW S I V (1+n) (n*n):=by
 obtain⟨r,hr,er⟩:=HV m style (k:=3) O O;obtain⟨S,I,V,hG,eG⟩:=qk2 hm hl hn (r:Int) hn;obtain⟨S1,I1,V1,e1,e2⟩:=UN hm hn (hG.MV hn hn) hG.fn.U 0 0 (n:Int) (n:Int) [] [] [] m 0 [0] [] [] O O ⟨by simp,by simp,rfl,λi hi=>absurd hi (zA _)⟩
 rw[nZ]at e1;refine⟨S1,I1,V1,?_,e2⟩;rw[Po,show(3:Int)=((3:Nat):Int)from rfl,er,bS]
 dsimp only;rw[eG,bS];dsimp only;rw[e1];rfl
end Go.Vs.F
