import Derived.Test.YtkbgfnhdfmmfcaaGreatDoorLb
set_option linter.unusedVariables false
set_option linter.unusedSimpArgs false
set_option linter.defProp false
namespace Go.Vs.F
def aE (z e:Int):Bool×Bool×LI×Int×Unit:=
 if z=0 then(false,false,[],0,())
 else if e+(ak z.natAbs:Int)>65536\/e+(tz z.natAbs:Int)< -65536 then(true,false,[],0,())
 else(false,decide (z<0),lim (z.natAbs/2^tz z.natAbs),e+(tz z.natAbs:Int),())
def bX (z e:Int):Prop:=(aE z e).1=false
def sc (z e b:Int):Int:=z*2^(e-b).toNat
def cU (z e w f:Int):Prop:= ∃b,b<=e/\b<=f/\sc z e b=sc w f b
def qpu (e:Int):aE 0 e=(false,false,[],0,()):=rfl
def Yc {z e:Int}:bX z e↔z=0\/(e+(ak z.natAbs:Int)<=65536/\ -65536<=e+(tz z.natAbs:Int)):=by unfold bX aE;by_cases h:z=0;{simp[h]};{rw[af h];by_cases h2:e+(ak z.natAbs:Int)>65536\/e+(tz z.natAbs:Int)< -65536;{rw[iP h2];simp only[h,false_or];constructor;{intro h;cases h};{intro h;omega}};{rw[af h2];simp only[h,false_or,true_iff];omega}}
def qj9 (e:Int):bX 0 e:=rfl
instance {z e:Int}:Decidable (bX z e):=inferInstanceAs (Decidable (_=_))
def Fk {z e:Int} (h: ¬bX z e):aE z e=(true,false,[],0,()):=by unfold bX aE at*;split at h;{exact absurd rfl h};{rename_i u;rw[af u];split at h;{rename_i h2;rw[iP h2]};{exact absurd rfl h}}
def Yf {z:Int} {k:Nat}:(z*2^k).natAbs=2^k*z.natAbs:=by rw[RA,Int.natAbs_pow,zY];rfl
def Xm {k n:Nat} (h:n≠0):ak (2^k*n)=k+ak n:=by have:=Ob (y:=0) h (eQ (n:=k) (show 0<2 by omega));rwa [zQ]at this
def NI (k:Nat):0<(2:Int)^k:=Int.pow_pos O
def q8t {z:Int} {k:Nat}:z*2^k<0↔z<0:=by have:=NI k;constructor;{intro h;refine Int.not_le.1 λh2=> ?_;have:=Int.mul_nonneg h2 (Int.le_of_lt this);omega};{intro h;exact Int.mul_neg_of_neg_of_pos h this}
def qmk {z:Int} {k:Nat} {e:Int}:aE (z*2^k) e=aE z (e+(k:Int)):=by unfold aE;by_cases h:z=0;{subst h;rw[E5];rfl};{have h2:z*2^k≠0:=Int.mul_ne_zero h (by have:=NI k;omega);have u:z.natAbs≠0:=O;rw[af h,af h2,Yf,Xm u,Vu u,sH,Nat.mul_div_mul_left _ _ (eQ O)];simp only[q8t];rw[xd,xd,<-Int.add_assoc,<-Int.add_assoc]}
def A1 {z e b:Int} (h:b<=e):aE (sc z e b) b=aE z e:=by unfold sc;rw[qmk];congr 1;omega
def cU.mk {z e w f:Int}:cU z e w f->aE z e=aE w f
 |⟨b,G,h2,u⟩=>by rw[<-A1 G,<-A1 h2,u]
def Sm {z e b c:Int} (u:c<=b) (h2:b<=e):sc z e c=sc z e b*2^(b-c).toNat:=by unfold sc;rw[Rw,<-Int.pow_add];congr 2;omega
def qju {x y:Int} {k:Nat} (h:x*2^k=y*2^k):x=y:=
 Int.eq_of_mul_eq_mul_right (by have:=NI k;omega) h
def cU.low {z e w f:Int} (h:cU z e w f) {c:Int} (Q:c<=e) (h2:c<=f):sc z e c=sc w f c:=by obtain⟨b,G,u,J⟩:=h;by_cases K:c<=b;{rw[Sm K G,Sm K u,J]};{rw[Sm (b:=c) (c:=b) O Q,Sm (b:=c) (c:=b) O h2]at J;exact qju J}
def cU.refl (z e:Int):cU z e z e:=⟨e,O,O,rfl⟩
def cU.symm {z e w f:Int}:cU z e w f->cU w f z e
 |⟨b,G,h2,u⟩=>⟨b,h2,G,u.symm⟩
def cU.trans {z e w f y g:Int} (h:cU z e w f) (h2:cU w f y g):cU z e y g:=by obtain⟨c,c1,G,u⟩: ∃c:Int,c<=e/\c<=f/\c<=g:=⟨min e (min f g),O,O,O⟩;exact⟨c,c1,u,(h.low c1 G).trans (h2.low G u)⟩
def cU.zero (e f:Int):cU 0 e 0 f:=⟨min e f,O,O,by unfold sc;rw[E5,E5]⟩
def qnp (z e:Int):sc z e e=z:=by unfold sc;rw[Int.sub_self];exact Int.mul_one z
def cU.sc {z e b:Int} (h:b<=e):cU (sc z e b) b z e:=⟨b,O,h,by rw[qnp]⟩
def cU.add {z e w f y c x g:Int} (h1:cU z e w f) (h2:cU y e x f):cU (z+y) e (w+x) f:=by obtain⟨c,c1,c2⟩: ∃c:Int,c<=e/\c<=f:=⟨min e f,O,O⟩;refine⟨c,c1,c2,?_⟩;have a:=h1.low c1 c2;have b:=h2.low c1 c2;unfold Vs.F.sc at*;rw[Int.add_mul,Int.add_mul,a,b]
def cU.neg {z e w f:Int}:cU z e w f->cU (-z) e (-w) f
 |⟨b,h1,h2,h3⟩=>⟨b,h1,h2,by unfold Vs.F.sc at*;rw[IK,IK,h3]⟩
def cU.mul {z e w f y g x h:Int} (h1:cU z e w f) (h2:cU y g x h):cU (z*y) (e+g) (w*x) (f+h):=by obtain⟨b,b1,b2,b3⟩:=h1;obtain⟨c,c1,c2,c3⟩:=h2;refine⟨b+c,O,O,?_⟩;have k: ∀{z e y g:Int},b<=e->c<=g->Vs.F.sc (z*y) (e+g) (b+c)=Vs.F.sc z e b*Vs.F.sc y g c:=by{intro z e y g h1 h2;unfold Vs.F.sc;rw[show(e+g-(b+c)).toNat=(e-b).toNat+(g-c).toNat by omega,Int.pow_add];simp only[Rw,MB,Int.mul_left_comm]};rw[k b1 c1,k b2 c2,b3,c3]
def cU.sgn {z e w f:Int} (h:cU z e w f):Vs.F.sgn z=Vs.F.sgn w:=by obtain⟨b,h1,h2,h3⟩:=h;have k: ∀z e:Int,Vs.F.sgn (Vs.F.sc z e b)=Vs.F.sgn z:=by{intro z e;unfold Vs.F.sgn Vs.F.sc;simp only[q8t];have:0<z*2^(e-b).toNat↔0<z:=by{have:=NI (e-b).toNat;constructor;{intro h;exact Int.pos_of_mul_pos_left h this};{intro h;exact Int.mul_pos h this}};simp only[this]};rw[<-k z e,<-k w f,h3]
def cU.cmp {z e w f:Int} {y x:Int} (h:cU z e w f) (h2:cU y e x f):eU z y=eU w x:=by
 have:=(h.add (c:=0) (g:=0) h2.neg).sgn;unfold Vs.F.sgn at this;unfold eU
 repeat' split at this
 all_goals repeat' split
 all_goals first|rfl|omega
def NR {n k:Nat}:ak (n/2^k)<=ak n:=by by_cases h:n/2^k=0;{rw[h,Xr];omega};{have u:n≠0:=by{rintro rfl;simp at h};rw[X9 h,X9 u];have:(n/2^k).log2<n.log2+1:=by{rw[Bl h];exact wR (sE ..) Nat.lt_log2_self};omega}
def UD {n:Nat} (h:n≠0):n/2^tz n≠0/\n=2^tz n*(n/2^tz n)/\(n/2^tz n)%2=1:=by
 obtain⟨q,u,h2⟩:=ND h
 have:n/2^tz n=q:=by
  conv=>lhs;arg 1;rw[u]
  exact Nat.mul_div_cancel_left q (eQ O)
 rw[this];exact⟨O,u,h2⟩
def Vf {n:Nat} (h:n≠0):ak n=tz n+ak (n/2^tz n):=by
 obtain⟨u,h2,_⟩:=UD h;conv=>lhs;rw[h2]
 exact Xm u
def qde {z:Int} {q:Nat}:((if z<0 then-1 else 1)*(q:Int)).natAbs=q:=by split<;>omega
def FO {z:Int} {q:Nat} (h:q≠0):z<0↔((if z<0 then-1 else 1)*(q:Int))<0:=by split<;>omega
def qt8 {z:Int} {q:Nat}:((if z<0 then-1 else 1)*(q:Int))=0->q=0:=by split<;>omega
def qrb {z:Int}:(if z<0 then-1 else 1)*(z.natAbs:Int)=z:=by split<;>omega
structure NF (z e w f:Int):Prop where
 eq:cU w f z e
 md:aE z e=(false,decide (w<0),lim w.natAbs,f,())
 zero:w=0->f=0
 odd:w≠0->w.natAbs%2=1
 lo: -65536<=f
 hi:f+(ak w.natAbs:Int)<=65536
def NF.len {z e w f:Int} (h:NF z e w f):ak w.natAbs<=131072:=by have:=h.lo;have:=h.hi;omega
def bX.nf {z e:Int} (h:bX z e): ∃w f,NF z e w f:=by
 by_cases u:z=0
 . subst u;exact⟨0,0,cU.zero ..,by rw[qpu];simp[Qd],λ_=>rfl,λh=>absurd rfl h,O,by decide⟩
 . rcases Yc.1 h with h|⟨h1,h2⟩
   . exact absurd h u
   . have Q:z.natAbs≠0:=O;obtain⟨K,k2,k3⟩:=UD Q;have hb:=Vf Q
     have G:aE z e=(false,decide (z<0),lim (z.natAbs/2^tz z.natAbs),e+(tz z.natAbs:Int),()):=by
      unfold aE;rw[af u,af O]
     have J:=qde (z:=z) (q:=z.natAbs/2^tz z.natAbs);refine⟨(if z<0 then-1 else 1)*(((z.natAbs/2^tz z.natAbs:Nat)):Int),e+(tz z.natAbs:Int),⟨e,O,O,?_⟩,?_,?_,?_,O,?_⟩
     . rw[qnp];unfold sc;rw[show(e+(tz z.natAbs:Int)-e).toNat=tz z.natAbs by omega,Rw]
       have:(((z.natAbs/2^tz z.natAbs:Nat)):Int)*2^tz z.natAbs=(z.natAbs:Int):=by
        conv=>rhs;rw[k2]
        rw[sG,MB,px];rfl
       rw[this,qrb]
     . rw[G,J,decide_eq_decide.2 (FO K)]
     . intro h0;exact absurd (qt8 h0) K
     . intro _;rw[J];exact k3
     . rw[J];omega
def NF.ok {z e w f:Int} (h:NF z e w f):bX w f:=by unfold bX;rw[h.eq.mk,h.md]
def Qi {n k:Nat} (h:ak n<=k):(lim n).length<=k/32+1:=by refine Xu ?_;refine wX (Z5 n) ?_;rw[show(4294967296:Nat)=2^32 by decide,<-Nat.pow_mul];exact zu O O
def qq4 {n k:Nat} (h:(lim n).length<=k):ak n<=32*k:=by by_cases u:n=0;{subst u;rw[Xr];omega};{have G:=bZ (Q7 n);rw[qw]at G;have h2:n<2^(32*k):=by{refine wX G ?_;rw[show(4294967296:Nat)=2^32 by decide,<-Nat.pow_mul];exact zu O O};rw[X9 u];exact(Bl u).2 h2}
def Qv {n k:Nat} (h:n<=k):ak n<=ak k:=by by_cases u:n=0;{subst u;rw[Xr];omega};{have G:k≠0:=O;rw[X9 u,X9 G];have:n.log2<k.log2+1:=(Bl u).2 (wR h Nat.lt_log2_self);omega}
def Qo {n k:Nat} (h:n<2^k):ak n<=k:=by by_cases u:n=0;{subst u;rw[Xr];omega};{rw[X9 u];exact(Bl u).2 h}
def S9 {a b k:Nat} (G:ak a<=k) (u:ak b<=k):ak (a+b)<=k+1:=by apply Qo;have Q:=Z5 a;have h2:=Z5 b;have K:2^ak a<=2^k:=zu O G;have J:2^ak b<=2^k:=zu O u;rw[gJ];omega
def I6 {a b:Nat}:ak (a*b)<=ak a+ak b:=by apply Qo;rw[sH];exact Nat.mul_lt_mul_of_lt_of_le (Z5 a) (uu (Z5 b)) (eQ O)
def Zw {a b:Int} {k:Nat} (G:ak a.natAbs<=k) (u:ak b.natAbs<=k):ak (a+b).natAbs<=k+1:=
 zf (Qv (show(a+b).natAbs<=a.natAbs+b.natAbs by omega)) (S9 G u)
def Tk {a b:Int}:ak (a*b).natAbs<=ak a.natAbs+ak b.natAbs:=by rw[RA];exact I6
def qcq {a:Int} {k:Nat}:ak (a*2^k).natAbs<=k+ak a.natAbs:=by by_cases h:a.natAbs=0;{rw[Yf,h,zx,Xr];omega};{rw[Yf,Xm h];omega}
def IN (z:Int):(zB z).1=decide (z<0):=rfl
def IM (z:Int):(zB z).2.1=lim z.natAbs:=rfl
def dj (z:Int):Lm (zB z).2.1:=Q7 _
def A3 {z:Int} {k:Nat} (h:ak z.natAbs<=k):(zB z).2.1.length<=k/32+1:=Qi h
def d7 {m:Nat} (hm:3000000<m) {z:Int} (u:ak z.natAbs<=1000000) {k:Int} (K:0<=k) (J:k<=1048576):jq m (zB z).1 (zB z).2.1 k=some (zB (z*2^k.toNat),(),(),()):=by have G:=A3 u;obtain⟨n,rfl⟩: ∃n:Nat,k=(n:Int):=⟨k.toNat,O⟩;rw[jq,qi4 hm (dj z) O O,bS,aP];rfl
def pJ {m:Nat} (hm:3000000<m) {z:Int} (G:ak z.natAbs<=1000000) {k:Nat} (Q:k<=1048576):yu m (zB z).1 (zB z).2.1 (k:Int)=some (zB (z/2^k),(),(),()):=by have K:=A3 G;obtain⟨u,rfl⟩: ∃u,m=u+1:=⟨m-1,O⟩;rw[yu,o9,bQ,af O,bS];dsimp only;by_cases J:k=0;{subst J;rw[show wI (0-((0:Nat):Int))=((0:Nat):Int)from by decide,qi4 hm (dj z) O O,bS,aP];dsimp only;rw[show z*2^0=z/2^0 by rw[Int.pow_zero,Int.mul_one,Int.ediv_one]]};{rw[show wI (0-(k:Int))= -(k:Int) by rw[wQ,wi O O];omega,qkc hm (dj z) O O O,bS,aP,px];rfl}
def qp6 {z:Int} (h:z≠0):zB (z/2^tz z.natAbs)=(decide (z<0),lim (z.natAbs/2^tz z.natAbs),()):=by
 obtain⟨K,J,Q⟩:=UD (n:=z.natAbs) O
 have:z=((if z<0 then-1 else 1)*((z.natAbs/2^tz z.natAbs:Nat):Int))*2^tz z.natAbs:=by
  rw[Rw]
  have:(((z.natAbs/2^tz z.natAbs:Nat)):Int)*2^tz z.natAbs=(z.natAbs:Int):=by
   conv=>rhs;rw[J]
   rw[sG,MB,px];rfl
  rw[this,qrb]
 have h2:z/2^tz z.natAbs=(if z<0 then-1 else 1)*((z.natAbs/2^tz z.natAbs:Nat):Int):=by
  conv=>lhs;arg 1;rw[this]
  rw[Int.mul_ediv_cancel];have:=NI (tz z.natAbs);omega
 have G:=FO (z:=z) K;have u:=qde (z:=z) (q:=z.natAbs/2^tz z.natAbs);rw[<-h2]at G u;unfold zB;rw[u,decide_eq_decide.2 G.symm]
theorem Qa {z:Int}:sgn z=0↔z=0:=by unfold sgn;(repeat' split);all_goals omega
def Wt {n:Nat}:tz n<=ak n:=by by_cases h:n=0;{subst h;rw[UZ];omega};{rw[Vf h];omega}
def qni {m:Nat} (hm:3000000<m) {z:Int} (J:ak z.natAbs<=900000) {e:Int} (h1: -1000000000<=e) (h2:e<=1000000000):iM m false (zB z).1 (zB z).2.1 e=some ((aE z e,decide (bX z e),()),(),()):=by have hl:=A3 J;have G:Sz (zB z).2.1:=⟨dj z,O⟩;have K:vl (zB z).2.1=z.natAbs:=qw _;rw[iM,cond_false,qu8 O G,bS,aP];dsimp only;rw[Fl O G,bS,aP,aA];dsimp only;by_cases h:z=0;{subst h;rw[iP (Qa.2 rfl)];rfl};{have hn:z.natAbs≠0:=O;have ht:=Wt (n:=z.natAbs);rw[af (λe=>h (Qa.1 e)),q1k O G O,bS,Mm O G,bS,K];dsimp only;rw[show wI (65536-((ak z.natAbs:Nat):Int))=65536-((ak z.natAbs:Nat):Int) by rw[wQ,wi O O],show wI ((-65536)-((tz z.natAbs:Nat):Int))=(-65536)-((tz z.natAbs:Nat):Int) by rw[wQ,wi O O],show wI (e+((tz z.natAbs:Nat):Int))=e+((tz z.natAbs:Nat):Int) by rw[wQ,wi O O],bQ,bQ,pJ hm O O,bS,qp6 h];by_cases u:bX z e;{rcases Yc.1 u with h0|⟨k1,k2⟩;{exact absurd h0 h};{rw[af O,af O,decide_eq_true u];unfold aE;rw[af h,af O]}};{have Q: ¬(e+(ak z.natAbs:Int)<=65536/\ -65536<=e+(tz z.natAbs:Int)):=λc=>u (Yc.2 (Or.inr c));rw[Fk u,decide_eq_false u];by_cases c:e>65536-((ak z.natAbs:Nat):Int);{rw[iP c];rfl};{rw[af c,iP O];rfl}}}
def LZ {m:Nat} (hm:3000000<m) {z:Int} (u:ak z.natAbs<=900000) {e:Int} (G: -1000000000<=e) (h2:e<=1000000000):ke m (zB z).1 (zB z).2.1 e=some (aE z e,(),(),()):=by rw[ke,qni hm u G h2];rfl
def qo0 {m:Nat} (hm:3000000<m) {z e:Int} (h:bX z e):iM m (aE z e).1 (aE z e).2.1 (aE z e).2.2.1 (aE z e).2.2.2.1=some ((aE z e,true,()),(),()):=by obtain⟨w,f,k⟩:=h.nf;rw[k.md];have:=qni hm (z:=w) (by have:=k.len;omega) (e:=f) (by have:=k.lo;omega) (by have:=k.hi;omega);rw[IN,IM]at this;rw[this,k.eq.mk,k.md,decide_eq_true k.ok]
def L4 {m:Nat} (hm:3000000<m) {z e:Int}:iM m (aE z e).1 (aE z e).2.1 (aE z e).2.2.1 (aE z e).2.2.2.1=some ((aE z e,decide (bX z e),()),(),()):=by by_cases h:bX z e;{rw[qo0 hm h,decide_eq_true h]};{rw[Fk h,decide_eq_false h];rfl}
def Tj {m:Nat} (hm:3000000<m) {z e:Int}:nK m (aE z e).1 (aE z e).2.1 (aE z e).2.2.1 (aE z e).2.2.2.1=some (aE z e,(),()):=by rw[nK,L4 hm];rfl
def Xf {z e:Int} (h:bX z e): ∃w f,NF z e w f/\(aE z e).2.1=(zB w).1/\(aE z e).2.2.1=(zB w).2.1/\(aE z e).2.2.2.1=f:=by obtain⟨w,f,k⟩:=h.nf;refine⟨w,f,k,?_⟩;rw[k.md];exact⟨rfl,rfl,rfl⟩
def NF.Sz {z e w f:Int} (h:NF z e w f):Vs.F.Sz (zB w).2.1:=⟨dj w,by have:=A3 h.len;omega⟩
def NF.sgn {z e w f:Int} (h:NF z e w f):Vs.F.sgn w=Vs.F.sgn z:=h.eq.sgn
def NM {m:Nat} (hm:3000000<m) {z e:Int} (h:bX z e):pb m (aE z e).1 (aE z e).2.1 (aE z e).2.2.1 (aE z e).2.2.2.1=some (sgn z,(),()):=by obtain⟨w,f,k,k1,k2,k3⟩:=Xf h;rw[pb,qo0 hm h,bS];dsimp only;rw[k1,k2,Fl O k.Sz,bS,aP,k.sgn]
def qrc {m:Nat} (hm:3000000<m) {z e y f:Int}:zd m (aE z e).1 (aE z e).2.1 (aE z e).2.2.1 (aE z e).2.2.2.1 (aE y f).1 (aE y f).2.1 (aE y f).2.2.1 (aE y f).2.2.2.1=some ((aE z e,aE y f,decide (bX z e/\bX y f),()),(),(),()):=by rw[zd,L4 hm,bS,L4 hm,bS];dsimp only;rw[Bool.decide_and];cases decide (bX z e)<;>rfl
def uA (neg:Bool) (half:Int) (u:Bool) (mode:Int):Bool:=
 if mode=1 then neg else if mode=2 then !neg else if mode=3 then false else decide (0<half)||(decide (half=0)&&u)
def dH (v n:Nat) (more:Bool):Int:=
 if 2*(v%2^n)<2^n then-1 else if 2*(v%2^n)=2^n/\more=false then 0 else 1
def gR (neg:Bool) (v n:Nat) (more:Bool) (mode:Int):Nat:=
 if v%2^n=0/\more=false then v/2^n else v/2^n+(if uA neg (dH v n more) (v/2^n%2==1) mode then 1 else 0)
def lE (neg:Bool) (f:Int):Int:=if neg then f+9223372036854775808 else f
def i7 (neg:Bool) (mode:Int):Int:=
 if mode=3\/(mode=1/\neg=false)\/(mode=2/\neg=true)then lE neg 9218868437227405311 else lE neg 9218868437227405312
def lG (neg:Bool) (n:Nat) (unit mode:Int):Int:=
 if n=9007199254740992 then(if unit+1076>=2047 then i7 neg mode else lE neg ((unit+1076)*4503599627370496))
 else if n<4503599627370496 then lE neg (n:Int)
 else if unit+1075>=2047 then i7 neg mode else lE neg ((unit+1075)*4503599627370496+((n:Int)-4503599627370496))
def bc (v:Nat) (e:Int):Int:=max (e+(ak v:Int)-53) (-1074)
def eJ (neg:Bool) (v:Nat) (e:Int) (more:Bool) (mode:Int):Nat:=
 if bc v e<=e then v*2^(e-bc v e).toNat else gR neg v (bc v e-e).toNat more mode
def Yz (neg:Bool) (v:Nat) (e:Int) (more:Bool) (mode:Int):Int:=lG neg (eJ neg v e more mode) (bc v e) mode
def qud {neg:Bool} {v n:Nat} {more:Bool} {mode:Int}:gR neg v n more mode<=v/2^n+1:=by unfold gR;split;{omega};{split<;>omega}
def VX (v:Nat) (e:Int): -1074<=bc v e:=by unfold bc;omega
def Vx {neg:Bool} {v:Nat} {e:Int} {more:Bool} {mode:Int}:eJ neg v e more mode<=9007199254740992:=by unfold eJ;have u:=Z5 v;split;{rename_i h;have G:(ak v:Int)+(e-bc v e)<=53:=by{unfold bc at*;omega};have h2:v*2^(e-bc v e).toNat<=2^ak v*2^(e-bc v e).toNat:=zO _ (uu u);rw[<-Nat.pow_add]at h2;have J:2^(ak v+(e-bc v e).toNat)<=2^53:=zu O O;have:(2:Nat)^53=9007199254740992:=by{decide};omega};{rename_i h;refine zf qud ?_;have G:(ak v:Int)<=53+(bc v e-e):=by{unfold bc at*;omega};have:v/2^(bc v e-e).toNat<2^53:=by{rw[Bd (eQ O),<-Nat.pow_add];exact wX u (zu O O)};have:(2:Nat)^53=9007199254740992:=by{decide};omega}
def qfl {neg:Bool} {v:Nat} (u:v≠0) {e:Int} {more:Bool} {mode:Int} (h:1024<=e+(ak v:Int)-1):Yz neg v e more mode=i7 neg mode:=by have hu:bc v e=e+(ak v:Int)-53:=by{unfold bc;omega};have G:=NH u;have hp:0<ak v:=by{rw[X9 u];omega};have Q:4503599627370496<=eJ neg v e more mode:=by{have a0:(2:Nat)^52=4503599627370496:=by{decide};unfold eJ;split;{rename_i h2;have J:2^(ak v-1)*2^(e-bc v e).toNat<=v*2^(e-bc v e).toNat:=zO _ G;rw[<-Nat.pow_add,show ak v-1+(e-bc v e).toNat=52 by omega]at J;omega};{rename_i h2;have J:2^52<=v/2^(bc v e-e).toNat:=by{rw[Ly (eQ O),<-Nat.pow_add];refine zf ?_ G;exact zu O O};have:v/2^(bc v e-e).toNat<=gR neg v (bc v e-e).toNat more mode:=by{unfold gR;split<;>omega};omega}};unfold Yz lG;by_cases K:eJ neg v e more mode=9007199254740992;{rw[iP K,iP O]};{rw[af K,af O,iP O]}
def sb (z:Int):Int×Bool×Unit:=if-9223372036854775808<=z/\z<9223372036854775808 then(z,true,())else(0,false,())
def nU {l:LI} {k:Nat} (u:k<l.length) {x:Int} (ex:l.getD k 0=x):l.take (k+1)=l.take k++[x]:=by rw[RJ,<-ex,List.getD,List.getElem?_eq_getElem u];rfl
def qom {l:LI} (K:Lm l) (h2:l.length<=2) {k x:Nat} (Q:k<l.length) (ex:l.getD k 0=(x:Int)) (hx:x<4294967296):
 bf .u64 ((vl (l.take k):Nat):Int) (bw .u64 (x:Int) ((32*k:Nat):Int))=((vl (l.take (k+1)):Nat):Int):=by have G:=bZ (l:=l.take k) λy J=>K y (nB J);rw[zU,show min k l.length=k by omega]at G;have hP:(4294967296:Nat)^k=2^(32*k):=by{rw[show(4294967296:Nat)=2^32 by decide,<-Nat.pow_mul]};rw[nU Q ex,Ji,zU,show min k l.length=k by omega];have u:x*2^(32*k)<18446744073709551616:=by{have:k=0\/k=1:=O;rcases this with rfl|rfl;{simp;omega};{simp;omega}};have hc:vl (l.take k)<18446744073709551616:=by{have:k=0\/k=1:=O;rcases this with rfl|rfl;{simp[vl]};{simp at G;omega}};rw[fV O u,lI hc u,IF,zY,<-Nat.two_pow_add_eq_or_of_lt O,pG,hP]
def qr6 (m:Nat) (neg:Bool) (u:LI) {l:LI} (G:Lm l) (h2:l.length<=2): ∀(n k:Nat),l.length-k<n->k<=l.length->
 ma m n neg u ((vl (l.take k):Nat):Int) l (l.length:Int) (k:Int)=some (.inl ((neg,u,()),((vl l:Nat):Int),()))
 |0,k,h,_=>O
 |n+1,k,h,Q=>by rw[ma,bQ];by_cases J:k<l.length;{obtain⟨x,ex,K⟩:=G.get J;have w:wI (32*(k:Int))=((32*k:Nat):Int):=by{rw[wQ,wi O O];omega};rw[iP O,iP O,w,iP O,tN,ex,bp O,qom G h2 J ex K,show wI ((k:Int)+1)=((k+1:Nat):Int)from ax O];exact qr6 m neg u G h2 n (k+1) O O};{rw[af O,uo O]}
def SH {n:Nat}:(lim n).length<=2↔n<18446744073709551616:=by constructor;{intro h;have:=bZ (Q7 n);rw[qw]at this;have h2:4294967296^(lim n).length<=4294967296^2:=zu O h;omega};{intro h;exact Xu O}
def qvi {m:Nat} (hm:2000000<m) {neg:Bool} {l:LI} (h:Sz l):Cu m neg l=some (sb (zv neg l),(),()):=by rw[Cu,X5 h.1 (by have:=h.2;omega) (by have:=h.2;omega),bS,bQ];dsimp only;unfold sb;by_cases c:vl l<18446744073709551616;{have G:=SH.2 c;have e:=qr6 m neg l (Q7 (vl l)) G m 0 O O;rw[sC,nZ]at e;rw[af O];rw[show((vl ([]:LI):Nat):Int)=0 from rfl]at e;rw[e,bS,qw];dsimp only;cases neg with|false=>{have:zv false l=(vl l:Int):=rfl;rw[this,cond_false,bQ,Bj,cond_true];by_cases d:(vl l:Int)<9223372036854775808;{rw[iP d,iP O,wQ,wi O O]};{rw[af d,af O]}}|true=>{have:zv true l= -(vl l:Int):=rfl;rw[this,cond_true,bQ,bQ,bQ,uw,cond_false,aA];by_cases u:(vl l:Int)>0;{rw[iP u];by_cases d:(vl l:Int)<=9223372036854775808;{rw[iP d,iP O,dK,Int.emod_eq_of_lt O O,show wI ((vl l:Int)-1)=(vl l:Int)-1 by rw[wQ,wi O O],show wI (0-((vl l:Int)-1))=0-((vl l:Int)-1) by rw[wQ,wi O O],show wI (0-((vl l:Int)-1)-1)=0-((vl l:Int)-1)-1 by rw[wQ,wi O O],show 0-((vl l:Int)-1)-1= -(vl l:Int) by omega]};{rw[af d,af O,af O]}};{rw[af u,iP O,iP O,iP O,show(vl l:Int)=0 by omega];rfl}}};{have G: ¬(lim (vl l)).length<=2:=λh=>c (SH.1 h);have: ¬(-9223372036854775808<=zv neg l/\zv neg l<9223372036854775808):=by{unfold zv;cases neg<;>simp<;>omega};rw[iP O,af this]}
def Xa (v:Nat):zB (v:Int)=(false,lim v,()):=by unfold zB;rw[zy,show decide ((v:Int)<0)=false by simp]
def oW {z:Int} (h:ak z.natAbs<=1000000):Sz (zB z).2.1:=⟨dj z,by have:=A3 h;omega⟩
def lA {v:Nat} (h:ak v<=1000000):Sz (zB (v:Int)).2.1:=oW (by rwa [zy])
def X3 {k:Nat}:ak (2^k)=k+1:=qnz (zJ _) (by rw[gJ];have:=eQ (n:=k) (show 0<2 by omega);omega)
def Wz {v n:Nat} {more:Bool} (h:2*(v%2^n)<2^n):dH v n more= -1:=by unfold dH;rw[iP h]
def quv {m:Nat} (hm:3000000<m) (neg:Bool) {v:Nat} (hv:v≠0) (hb:ak v<=500000) (e:Int) (more:Bool) {k:Nat} (h0:0<k) (hk:k<=1000000):
 Cg m neg (zB (v:Int)).1 (zB (v:Int)).2.1 e more (k:Int)=some ((zB ((v/2^k:Nat):Int),dH v k more,decide (v%2^k=0/\more=false),()),(),(),()):=by have Q:Sz (zB (v:Int)).2.1:=lA O;have gk:vl (zB (v:Int)).2.1=v:=by{rw[Xa];exact qw v};rw[Cg,Mm O Q,bS,gk,bQ];dsimp only;have a0:=Z5 v;by_cases c:(k:Int)>((ak v:Nat):Int);{have h1:2^(ak v)<=2^(k-1):=zu O O;have h2:2^k=2*2^(k-1):=by{rw[show k=k-1+1 by omega,gJ,zY];simp};have hd:v/2^k=0:=vz O;have G:v%2^k=v:=iY O;rw[iP c,hd,Wz (by rw[G];omega),G];rw[show decide (v=0/\more=false)=false by rw[decide_eq_false_iff_not];exact λh=>hv h.1,show zB ((0:Nat):Int)=(false,[],()) by rw[Xa,Qd]]};{have hP:0<2^k:=eQ O;have K:=iV v hP;have b0:=LK v (2^k);have hle:ak (v/2^k)<=ak v:=NR;have b1:ak (((v/2^k:Nat):Int)).natAbs<=900000:=by{rw[zy];omega};have e1:(v:Int)/2^k=((v/2^k:Nat):Int):=by{rw[MN,px];rfl};have e2:((v/2^k:Nat):Int)*2^k=((v/2^k*2^k:Nat):Int):=by{rw[sG,px];rfl};have b2:ak (v/2^k*2^k)<=1000000:=zf (Qv (Mx ..)) O;have e3:(v:Int)-((v/2^k*2^k:Nat):Int)=((v%2^k:Nat):Int):=by{rw[zY];omega};have b3:ak (v%2^k)<=1000000:=zf (Qv (RU ..)) O;have e4:(1:Int)*2^(k-1)=((2^(k-1):Nat):Int):=by{rw[RW,px];rfl};have b4:ak (2^(k-1))<=1000000:=by{rw[X3];omega};have w1:wI ((k:Int)-1)=((k-1:Nat):Int):=by{rw[wQ,wi O O];omega};have h2:2^k=2*2^(k-1):=by{have:2^(k-1+1)=2*2^(k-1):=by{rw[gJ,zY]};rwa [show k-1+1=k by omega]at this};rw[af c,pJ hm (by rw[zy];omega) O,bS,e1];dsimp only;rw[d7 hm O O O,bS,tN,e2];dsimp only;rw[quz O Q (lA b2),aP,aP,e3,bS,Wx O O O,bS];dsimp only;rw[w1,d7 hm (by decide) O O,bS,tN,e4];dsimp only;rw[qrt O (lA b3) (lA b4),aP,aP,bS,Fl O (lA b3),aP];dsimp only;simp only[bS];generalize hr:v%2^k=r at*;generalize 2^(k-1)=H at*;have hs:sgn (r:Int)=0↔r=0:=by{rw[Qa];omega};rw[aA];unfold eU dH;rw[hr,h2];by_cases c1:(r:Int)<(H:Int);{rw[iP c1,af O,iP O,aA];by_cases J:r=0;{rw[iP (hs.2 J)];cases more<;>simp[J]};{rw[af (λh=>J (hs.1 h))];simp[J]}};{by_cases c3:(H:Int)<(r:Int);{rw[af c1,iP c3,af O,af O,af O,aA,af (λh=>by have:=hs.1 h;omega)];rw[show decide (r=0/\more=false)=false by rw[decide_eq_false_iff_not];omega]};{have u:r≠0:=by{have:0<2^k:=hP;omega};rw[af c1,af c3,iP rfl,af O];cases more with|false=>{rw[cond_false,aA,af (λh=>u (hs.1 h)),iP ⟨O,rfl⟩];simp[u]}|true=>{rw[cond_true,aA,af (λh=>u (hs.1 h)),af (λh=>by cases h.2)];simp}}}}
def sg (neg:Bool) (n:Nat):Int:=if neg then-(n:Int)else(n:Int)
def q9h {neg:Bool} {n:Nat}:(sg neg n).natAbs=n:=by unfold sg;cases neg<;>simp
def L1 {n:Nat} (h:n≠0):tz n=0↔n%2=1:=by constructor;{intro h2;obtain⟨q,u,G⟩:=ND h;rw[h2,AT,wZ]at u;omega};{exact Sw}
def qa1 {m:Nat} (hm:3000000<m) (neg:Bool) {v:Nat} (G:ak v<=300000) {e:Int} (more:Bool) {q:Int} (mode:Int) (h:q<=e) (he:e-q<=500000) (J: -1000000000<=q) (h2:e<=1000000000):
 tk m neg (zB (v:Int)).1 (zB (v:Int)).2.1 e more q mode=some (zB (sg neg (v*2^(e-q).toNat)),(),(),(),()):=by have w:wI (e-q)=e-q:=by{rw[wQ,wi O O]};have u:(v:Int)*2^(e-q).toNat=((v*2^(e-q).toNat:Nat):Int):=by{rw[sG,px];rfl};have b:ak (v*2^(e-q).toNat)<=1000000:=by{have:=qcq (a:=(v:Int)) (k:=(e-q).toNat);rw[u,zy,zy]at this;omega};rw[tk,bQ,iP h,w,d7 hm (by rw[zy];omega) O O,bS,u];dsimp only;cases neg with|false=>rfl|true=>{rw[cond_true,Nl O (lA b),aP,bS];rfl}
def qen {m:Nat} (hm:3000000<m) (neg:Bool) {v:Nat} (hv:v≠0) (hb:ak v<=300000) {e:Int} (more:Bool) {q:Int} (mode:Int) (h:e<q) (he:q-e<=500000) (h1: -1000000000<=e) (h2:q<=1000000000):
 tk m neg (zB (v:Int)).1 (zB (v:Int)).2.1 e more q mode=some (zB (sg neg (gR neg v (q-e).toNat more mode)),(),(),(),()):=by obtain⟨k,hk⟩: ∃k:Nat,q-e=(k:Int):=⟨(q-e).toNat,O⟩;have w:wI (q-e)=(k:Int):=by{rw[wQ,wi O O,hk]};rw[tk,bQ,af O,w,quv hm neg hv O e more O O,hk,tN,bS];dsimp only;have hd:v/2^k<=v:=sE ..;have bd:ak (v/2^k)<=300000:=zf NR hb;have b0:ak (v/2^k+1)<=300001:=S9 bd (by decide);have hS:=lA (v:=v/2^k) O;have a0:=lA (v:=v/2^k+1) O;have h1S:Sz (zB 1).2.1:=oW (by decide);have J:(eA m (zB ((v/2^k:Nat):Int)).1 (zB ((v/2^k:Nat):Int)).2.1).bind (λy=>some ((y.1.1,y.1.2.1,()),((),(),(),())))=some (zB (-((v/2^k:Nat):Int)),(),(),(),()):=by{rw[Nl O hS,aP];rfl};have K:jU m (zB ((v/2^k:Nat):Int)).1 (zB ((v/2^k:Nat):Int)).2.1 (zB 1).1 (zB 1).2.1=some (zB ((v/2^k+1:Nat):Int),(),(),()):=by{rw[M9 O hS h1S,aP,aP];rfl};have G:(eA m (zB ((v/2^k+1:Nat):Int)).1 (zB ((v/2^k+1:Nat):Int)).2.1).bind (λy=>some ((y.1.1,y.1.2.1,()),((),(),(),())))=some (zB (-((v/2^k+1:Nat):Int)),(),(),(),()):=by{rw[Nl O a0,aP];rfl};have plain:(bif neg then(eA m (zB ((v/2^k:Nat):Int)).1 (zB ((v/2^k:Nat):Int)).2.1).bind (λy=>some ((y.1.1,y.1.2.1,()),((),(),(),())))else some (((zB ((v/2^k:Nat):Int)).1,(zB ((v/2^k:Nat):Int)).2.1,()),((),(),(),())))=some (zB (sg neg (v/2^k)),(),(),(),()):=by{rw[J];cases neg<;>rfl};have u:((ll m 1).bind λy5=>(jU m (zB ((v/2^k:Nat):Int)).1 (zB ((v/2^k:Nat):Int)).2.1 y5.1.1 y5.1.2.1).bind λQ=> bif neg then(eA m Q.1.1 Q.1.2.1).bind (λy=>some ((y.1.1,y.1.2.1,()),((),(),(),())))else some ((Q.1.1,Q.1.2.1,()),((),(),(),())))=some (zB (sg neg (v/2^k+1)),(),(),(),()):=by{rw[Wx O O O,bS];dsimp only;rw[K,bS];dsimp only;rw[G];cases neg<;>rfl};unfold gR;by_cases hex:v%2^k=0/\more=false;{rw[decide_eq_true hex,cond_true,iP hex];exact plain};{rw[decide_eq_false hex,cond_false,af hex,aA,aA,aA];unfold uA;by_cases m1:mode=1;{rw[iP m1,iP m1];cases neg with|true=>{rw[cond_true,iP rfl];exact u}|false=>{rw[cond_false,af (by simp),zQ];exact plain}};{rw[af m1,af m1];by_cases m2:mode=2;{rw[iP m2,iP m2];cases neg with|true=>{rw[uw,cond_false,af (by simp),zQ];exact plain}|false=>{rw[Bj,cond_true,iP rfl];exact u}};{rw[af m2,af m2];by_cases m3:mode=3;{rw[iP m3,iP m3,af (by simp),zQ];exact plain};{rw[af m3,af m3,bQ,aA];by_cases c1:dH v k more>0;{rw[iP c1,show decide (0<dH v k more)=true by simpa using c1,MA,iP rfl];exact u};{rw[af c1,show decide (0<dH v k more)=false by simpa using c1,Bool.false_or];by_cases c2:dH v k more=0;{rw[iP c2,decide_eq_true c2,lr,Fl O hS,bS,aP,aN];dsimp only;by_cases z:v/2^k=0;{rw[iP (by rw[Qa];omega),z];rw[z]at plain;exact plain};{have gk:vl (zB ((v/2^k:Nat):Int)).2.1=v/2^k:=by{rw[Xa];exact qw _};rw[af (by rw[Qa];omega),q1k O hS (by rw[gk];exact z),bS,gk,aA];dsimp only;by_cases o:v/2^k%2=1;{rw[iP (by rw[(L1 z).2 o];rfl),show(v/2^k%2==1)=true by simpa using o,iP rfl];exact u};{rw[af (by have:=mt (L1 z).1 o;omega),show(v/2^k%2==1)=false by simpa using o,af (by simp),zQ];exact plain}}};{rw[af c2,decide_eq_false c2,xh,af (by simp),zQ];exact plain}}}}}}
def qr3 {f:Int} (u:0<=f) (h2:f<9223372036854775808):bf .u64 f 9223372036854775808=f+9223372036854775808:=by obtain⟨n,rfl⟩: ∃n:Nat,f=(n:Int):=⟨f.toNat,O⟩;have h:=lI (a:=n) (b:=9223372036854775808) O O;rw[show((9223372036854775808:Nat):Int)=9223372036854775808 from rfl]at h;rw[h];have:=IL (i:=63) (b:=n) O 1;rw[IF,show(9223372036854775808:Nat)=2^63*1 by decide,<-this];omega
def N1 {m:Nat} {f:Int} (u:0<=f) (h2:f<9223372036854775808) (neg:Bool):jo m f neg=some (lE neg f,(),(),()):=by unfold jo lE;rw[qr3 u h2];cases neg<;>rfl
def q7n {m:Nat} (neg:Bool) (mode:Int):ym m neg mode=some (i7 neg mode,(),(),()):=by rw[ym,aA,aA,aA];simp only[N1 (show(0:Int)<=9218868437227405311 by omega) O,N1 (show(0:Int)<=9218868437227405312 by omega) O,bS];unfold i7;by_cases G:mode=3;{rw[iP G,iP (.inl G)]};{rw[af G];by_cases J:mode=1;{have u: ¬mode=2:=O;rw[iP J,af u];cases neg with|false=>{rw[iP (.inr (.inl ⟨J,rfl⟩))];rfl}|true=>{rw[af (by simp[u,G])];rfl}};{rw[af J];by_cases u:mode=2;{rw[iP u];cases neg with|true=>{rw[iP (.inr (.inr ⟨u,rfl⟩))];rfl}|false=>{rw[af (by simp[J,G])];rfl}};{rw[af u,af (by simp[J,u,G])]}}}
def Tb {q:Int} {r:Nat} (J:0<=q) (h2:q<2048) (G:r<4503599627370496):bf .u64 (bw .u64 (wJ (wI q)) 52) (r:Int)=q*4503599627370496+(r:Int):=by obtain⟨n,rfl⟩: ∃n:Nat,q=(n:Int):=⟨q.toNat,O⟩;have u:bw .u64 (n:Int) 52=((n*2^52:Nat):Int):=fV (a:=n) (k:=52) O O;rw[wQ,wi O O,bp O,u,lI O O];have:=IL (i:=52) (b:=r) O n;rw[zY,<-this];omega
def qrw {a b:Int}:(if b>a then b else a)=max a b:=by split<;>omega
def Wy {m:Nat} (hm:3000000<m) (neg:Bool) {v:Nat} (hv:v≠0) (hb:ak v<=300000) {e:Int} (more:Bool) (mode:Int) (h1: -200000<=e) (h2:e<=200000):
 wv m neg (zB (v:Int)).1 (zB (v:Int)).2.1 e more mode=some (Yz neg v e more mode,(),(),()):=by have hS:Sz (zB (v:Int)).2.1:=lA O;have gk:vl (zB (v:Int)).2.1=v:=by{rw[Xa];exact qw v};have w1:wI (e+((ak v:Nat):Int))=e+((ak v:Nat):Int):=by{rw[wQ,wi O O]};have w2:wI (e+((ak v:Nat):Int)-1)=e+((ak v:Nat):Int)-1:=by{rw[wQ,wi O O]};have w3:wI (e+((ak v:Nat):Int)-1-52)=e+((ak v:Nat):Int)-1-52:=by{rw[wQ,wi O O]};have hu:max (e+((ak v:Nat):Int)-1-52) (-1074)=bc v e:=by{unfold bc;congr 1;omega};have J:Cv m neg (zB (v:Int)).1 (zB (v:Int)).2.1 e more=some (e+((ak v:Nat):Int)-1,(),()):=by{rw[Cv,Mm O hS,bS,gk];dsimp only;rw[w1,w2]};have b0:=VX v e;have a0:bc v e<=600000:=by{unfold bc;omega};have hmul:tk m neg (zB (v:Int)).1 (zB (v:Int)).2.1 e more (bc v e) mode=some (zB (sg neg (eJ neg v e more mode)),(),(),(),()):=by{unfold eJ;by_cases c:bc v e<=e;{rw[iP c];exact qa1 hm neg hb more mode c O O O};{rw[af c];exact qen hm neg hv hb more mode O (by unfold bc at*;omega) O O}};have hle:=Vx (neg:=neg) (v:=v) (e:=e) (more:=more) (mode:=mode);rw[wv,J,bS];dsimp only;rw[w3,qrw,hu,hmul,bS];unfold Yz;generalize eJ neg v e more mode=n at*;generalize bc v e=u at*;have bn:ak n<=1000000:=zf (Qo (k:=54) O) O;have w4: ∀d:Nat,d<=2000->wI (u+(d:Int))=u+(d:Int):=λd hd=>by{rw[wQ,wi O O]};have w5:wI (u+1)=u+1:=w4 1 O;have w6:wI (u+1075)=u+1075:=w4 1075 O;have w7:wI (u+1+1075)=u+1076:=by{rw[T7];exact w4 1076 O};dsimp only;rw[SB O (oW (by rw[q9h];omega)),aP,q9h,bS];dsimp only;rw[qvi O (lA bn),aP,bS];unfold sb;rw[iP O];dsimp only;rw[bp O,w5,w6,w7,aA,bQ,bQ,bQ];unfold lG;by_cases c1:n=9007199254740992;{rw[iP O,iP c1];by_cases G:u+1076>=2047;{rw[iP G,iP G,q7n];rfl};{have K:=Tb (q:=u+1076) (r:=0) O O O;rw[show wI (u+1076)=u+1076 by rw[wQ,wi O O],nZ]at K;rw[af G,af G,K,RY,N1 O O];rfl}};{rw[af O,af c1];by_cases G:n<4503599627370496;{rw[iP O,iP G,N1 O O];rfl};{rw[af O,af G];by_cases Q:u+1075>=2047;{rw[iP Q,iP Q,q7n];rfl};{have K:=Tb (q:=u+1075) (r:=n-4503599627370496) O O O;rw[w6]at K;have w8:wJ ((n:Int)-4503599627370496)=((n-4503599627370496:Nat):Int):=by{rw[dK];omega};rw[af Q,af Q,w8,K,N1 O O,show((n-4503599627370496:Nat):Int)=(n:Int)-4503599627370496 by omega];rfl}}}
def Yb (d:Bool×Bool×LI×Int×Unit) (mode:Int):Int:=
 if d.1 then 9221120237041090560 else if d.2.2.1=[]then 0 else Yz d.2.1 (vl d.2.2.1) d.2.2.2.1 false mode
def NT {m:Nat} (hm:3000000<m) {z e:Int} (mode:Int):rZ m (aE z e).1 (aE z e).2.1 (aE z e).2.2.1 (aE z e).2.2.2.1 mode=some (Yb (aE z e) mode,(),(),()):=by rw[rZ,Tj hm,bS];dsimp only;unfold Yb;by_cases h:bX z e;{have h1:(aE z e).1=false:=h;rw[NM hm h,bS,aA];dsimp only;obtain⟨w,f,k,k1,k2,k3⟩:=Xf h;have hw:sgn z=0↔(zB w).2.1=[]:=by{rw[<-k.sgn,Qa];show w=0↔lim w.natAbs=[];rw[Z9];omega};rw[h1,cond_false,af (show¬(false=true) by simp)];by_cases c:sgn z=0;{rw[iP c,iP (by rw[k2];exact hw.1 c)]};{have c2: ¬(zB w).2.1=[]:=λh=>c (hw.2 h);have hw0:w.natAbs≠0:=λh=>c2 (Z9.2 h);rw[af c,af (by rw[k2];exact c2),K6,k1,k2,k3,SB O k.Sz,aP,bS,bS];dsimp only;rw[Wy hm _ hw0 (by have:=k.len;omega) _ _ (by have:=k.lo;omega) (by have:=k.hi;omega),bS];show some (_,_)=some (Yz _ (vl (lim w.natAbs)) _ _ _,_);rw[qw]}};{rw[Fk h];rfl}
def cO (f:Int):Int:=f/4503599627370496%2048
def dV (f:Int):Int:=f%4503599627370496
def gu (f:Int):Bool:=decide (9223372036854775808<=f)
def pF (f:Int):Int:=(if gu f then-1 else 1)*(if cO f=0 then dV f else dV f+4503599627370496)
def n8 (f:Int):Int:=if cO f=0 then-1074 else cO f-1075
def aU (f:Int):Prop:=cO f≠2047
instance {f:Int}:Decidable (aU f):=inferInstanceAs (Decidable (_≠_))
def cd (f:Int):Prop:=0<=f/\f<18446744073709551616
def fo (f:Int):Bool×Bool×LI×Int×Unit:=if aU f then aE (pF f) (n8 f)else(true,false,[],0,())
def LY (f:Int):0<=cO f/\cO f<2048:=by unfold cO;omega
def VJ (f:Int):0<=dV f/\dV f<4503599627370496:=by unfold dV;omega
def i6 {m:Nat} {f:Int} (h:cd f):rW m f=some ((cO f,dV f,()),(),()):=by obtain⟨n,rfl⟩: ∃n:Nat,f=(n:Int):=⟨f.toNat,by have:=h.1;omega⟩;have J:n<18446744073709551616:=by{have:=h.2;omega};have K:aJ .u64 (n:Int) 52=((n/4503599627370496:Nat):Int):=cI (a:=n) (k:=52) O;have G:=jE (a:=n/4503599627370496) (b:=2047) O O;have u:=jE (a:=n) (b:=4503599627370495) J O;rw[show((2047:Nat):Int)=2047 from rfl,show(2047:Nat)=2^11-1 by decide,EX]at G;rw[show((4503599627370495:Nat):Int)=4503599627370495 from rfl,show(4503599627370495:Nat)=2^52-1 by decide,EX]at u;rw[rW,K,G,u,wQ,wi O O];unfold cO dV;congr 3<;>omega
def A6 {m:Nat} {f:Int} (h:cd f):te m f=some (decide (aU f),(),()):=by rw[te,i6 h,bS];dsimp only;by_cases c:aU f;{rw[decide_eq_true c,show(cO f !=2047)=true by simpa [aU]using c]};{rw[decide_eq_false c,show(cO f !=2047)=false by simpa [aU]using c]}
def qtp {n:Nat} (h:n<18446744073709551616):qp .u64 (n:Int) 9223372036854775808=if 9223372036854775808<=n then 9223372036854775808 else 0:=by have e:=jE (a:=n) (b:=9223372036854775808) h O;rw[show((9223372036854775808:Nat):Int)=9223372036854775808 from rfl]at e;rw[e];have u:n&&&9223372036854775808=if n.testBit 63 then 9223372036854775808 else 0:=by{rw[show(9223372036854775808:Nat)=2^63 by decide];apply My;intro i;rw[MG,E2];by_cases c:63=i;{subst c;cases u:n.testBit 63;{simp};{rw[iP rfl,E2];simp}};{cases u:n.testBit 63;{simp[c]};{rw[iP rfl,E2];simp[c]}}};have G:n.testBit 63=decide (9223372036854775808<=n):=by{rw[Nat.testBit_eq_decide_div_mod_eq];rw[show(2:Nat)^63=9223372036854775808 by decide];by_cases c:9223372036854775808<=n;{rw[decide_eq_decide];omega};{rw[decide_eq_decide];omega}};rw[u,G];by_cases c:9223372036854775808<=n;{simp[c]};{simp[c]}
def q6p {m:Nat} {f:Int} (h:cd f):wm m f=some (gu f,(),()):=by obtain⟨n,rfl⟩: ∃n:Nat,f=(n:Int):=⟨f.toNat,by have:=h.1;omega⟩;have u:n<18446744073709551616:=by{have:=h.2;omega};rw[wm,qtp u];unfold gu;by_cases c:9223372036854775808<=n;{rw[iP c,show decide ((9223372036854775808:Int)<=(n:Int))=true by rw[decide_eq_true_eq];omega];rfl};{rw[af c,show decide ((9223372036854775808:Int)<=(n:Int))=false by rw[decide_eq_false_iff_not];omega];rfl}
def qcu {x:Int} (u:0<=x) (h2:x<4503599627370496):bf .u64 x 4503599627370496=x+4503599627370496:=by obtain⟨n,rfl⟩: ∃n:Nat,x=(n:Int):=⟨x.toNat,O⟩;have h:=lI (a:=n) (b:=4503599627370496) O O;rw[show((4503599627370496:Nat):Int)=4503599627370496 from rfl]at h;rw[h];have:=IL (i:=52) (b:=n) O 1;rw[IF,show(4503599627370496:Nat)=2^52*1 by decide,<-this];omega
def SW (f:Int):ak (pF f).natAbs<=53:=by apply Qo;have u:=VJ f;have c:(2:Nat)^53=9007199254740992:=by{decide};unfold pF;cases gu f<;>(split<;>simp<;>omega)
def LU {f:Int}: -1074<=n8 f/\n8 f<=972:=by have:=LY f;unfold n8;split<;>omega
def qu4 {f:Int} (h:aU f):n8 f<=971:=by have:=LY f;unfold n8 aU at*;split<;>omega
def di {m:Nat} (hm:3000000<m) {f:Int} (h:cd f):eC m f=some (fo f,(),()):=by rw[eC,i6 h,bS,aA,aA];dsimp only;have h1:=LY f;have h2:=VJ f;have hl:=SW f;have he:=LU (f:=f);unfold fo;by_cases c:cO f=2047;{rw[iP c,af (λh=>h c)]};{have hF:aU f:=c;rw[af c,iP hF,q6p h,qcu h2.1 h2.2];have run: ∀(q:Int) (ex:Int),0<=q->q<9007199254740992->pF f=(if gu f then-1 else 1)*q->n8 f=ex-> ((ll m (wI q)).bind λK=>(some (gu f,(),()):Option (Bool×Unit×Unit)).bind λy3=>bif y3.1 then (eA m K.1.1 K.1.2.1).bind λy4=>(ke m y4.1.1 y4.1.2.1 ex).bind λJ=>some ((J.1.1,J.1.2.1,J.1.2.2.1,J.1.2.2.2.1,()),((),())) else(ke m K.1.1 K.1.2.1 ex).bind λG=>some ((G.1.1,G.1.2.1,G.1.2.2.1,G.1.2.2.2.1,()),((),())))=some (aE (pF f) (n8 f),(),()):=by{intro q ex q1 q2 eq ee;have hq:ak q.natAbs<=53:=by{rw[eq]at hl;cases Q:gu f<;>rw[Q]at hl<;>simpa using hl};rw[wQ,wi O O,Wx O O O,bS,bS];dsimp only;cases Q:gu f with|false=>{rw[Q]at eq;rw[cond_false,LZ hm O O O,eq,ee,af (by simp),RW];rfl}|true=>{rw[Q]at eq;rw[cond_true,Nl O (oW O),aP,bS];dsimp only;rw[LZ hm (by rw[xg];omega) O O,eq,ee,iP rfl,Int.neg_one_mul];rfl}};by_cases u:cO f=0;{rw[iP u];exact run _ _ h2.1 O (by unfold pF;rw[iP u]) (by unfold n8;rw[iP u])};{rw[af u,show wI (cO f-1075)=cO f-1075 by rw[wQ,wi O O]];exact run _ _ O O (by unfold pF;rw[af u]) (by unfold n8;rw[af u])}}
def ql3 {f:Int} (h:cd f):lp f=decide (aU f):=by have u:=A6 (m:=0) h;rw[qfo]at u;have:=Option.some.inj u;exact(Prod.mk.inj this).1
def qv4 {f:Int} (h:aU f):bX (pF f) (n8 f):=by have u:=SW f;have he:=LU (f:=f);exact Yc.2 (Or.inr ⟨O,O⟩)
abbrev su:Bool×Bool×LI×Int×Unit:=(true,false,[],0,())
def vL {z e:Int} (h: ¬bX z e):aE z e=su:=Fk h
def NB {z e:Int}:bX (-z) e↔bX z e:=by rw[Yc,Yc,xg];omega
def qtt {z e:Int} (h:bX z e):aE (-z) e=((aE z e).1,(zB (-(zv (aE z e).2.1 (aE z e).2.2.1))).1,(zB (-(zv (aE z e).2.1 (aE z e).2.2.1))).2.1,(aE z e).2.2.2.1,()):=by obtain⟨w,f,k⟩:=h.nf;have G:cU (-z) e (-w) f:=k.eq.symm.neg;rw[G.mk];have ok:bX (-w) f:=NB.2 k.ok;rw[k.md];show aE (-w) f=(false,(zB (-zv (zB w).1 (zB w).2.1)).1,(zB (-zv (zB w).1 (zB w).2.1)).2.1,f,());rw[aP];unfold aE;by_cases u:w=0;{subst u;rw[k.zero rfl,show(-0:Int)=0 from rfl,iP rfl,IN,IM,show(0:Int).natAbs=0 from rfl,Qd];rfl};{have Q:(-w).natAbs≠0:=O;have K: ¬(f+(ak (-w).natAbs:Int)>65536\/f+(tz (-w).natAbs:Int)< -65536):=by{rcases Yc.1 ok with h|h;{omega};{omega}};have J:tz (-w).natAbs=0:=by{rw[xg];exact Sw (k.odd u)};rw[af O,af K,J,AT,Nat.div_one,nZ,RY];rfl}
def NF.lim {z e w f:Int} (h:NF z e w f):(zB w).2.1.length<=10000:=by have:=A3 h.len;omega
def qli {m:Nat} (hm:3000000<m) {z e:Int}:ze m (aE z e).1 (aE z e).2.1 (aE z e).2.2.1 (aE z e).2.2.2.1=some (aE (-z) e,(),()):=by rw[ze,L4 hm,bS];dsimp only;by_cases h:bX z e;{obtain⟨w,f,k,K,u,J⟩:=Xf h;have G:Sz (aE z e).2.2.1:=by{rw[u];exact k.Sz};rw[decide_eq_true h,cond_true,Nl O G,bS,qtt h]};{rw[decide_eq_false h,cond_false,vL (mt NB.1 h),vL h]}
def NP {w f b:Int} (h:b<=f):ak (sc w f b).natAbs<=(f-b).toNat+ak w.natAbs:=by unfold sc;exact qcq
def qkl {m:Nat} (hm:3000000<m) {a B b C w f x h:Int} (k:NF a B w f) (l:NF b C x h) (b1 b2:Bool):
 DX m b1 (zB w).1 (zB w).2.1 f b2 (zB x).1 (zB x).2.1 h=some ((zB (sc w f (min f h)),zB (sc x h (min f h)),min f h,()),(),(),()):=by have e1:(if h<f then h else f)=min f h:=by{split<;>omega};have c0:=k.lo;have b0:=k.hi;have a0:=l.lo;have Q:=l.hi;have K:=k.len;have J:=l.len;have G:wI (f-min f h)=f-min f h:=by{rw[wQ,wi O O]};have u:wI (h-min f h)=h-min f h:=by{rw[wQ,wi O O]};rw[DX,e1,G,u,d7 hm O O O,bS,d7 hm O O O,bS];rfl
def nV {a B w f b:Int} (k:NF a B w f) (u:b<=f) (h2: -65536<=b):ak (sc w f b).natAbs<=300000:=by have:=NP (w:=w) u;have:=k.len;have:=k.hi;omega
def qvc {a b B w f x h:Int} (k:NF a B w f) (l:NF b B x h):cU (sc w f (min f h)+sc x h (min f h)) (min f h) (a+b) B:=
 ((cU.sc O).trans k.eq).add (c:=0) (g:=0) ((cU.sc O).trans l.eq)
def qtk {m:Nat} (hm:3000000<m) {a b B:Int}:
 DY m (aE a B).1 (aE a B).2.1 (aE a B).2.2.1 (aE a B).2.2.2.1 (aE b B).1 (aE b B).2.1 (aE b B).2.2.1 (aE b B).2.2.2.1=some (if bX a B/\bX b B then aE (a+b) B else su,(),(),()):=by rw[DY,qrc hm,bS];dsimp only;by_cases h:bX a B/\bX b B;{obtain⟨w,f,k,k1,Q,K⟩:=Xf h.1;obtain⟨x,g,l,J,G,u⟩:=Xf h.2;have b0:=k.lo;have a0:=l.lo;have:=k.hi;rw[decide_eq_true h,uw,cond_false,iP h,k1,Q,K,J,G,u,qkl hm k l,bS];dsimp only;have s1:=nV k (b:=min f g) O O;have s2:=nV l (b:=min f g) O O;rw[M9 O (oW O) (oW O),aP,aP,bS];dsimp only;rw[LZ hm (zf (Zw s1 s2) O) O O,(qvc k l).mk];rfl};{rw[decide_eq_false h,af h];rfl}
def Nw {m:Nat} (hm:3000000<m) {a b B:Int}:
 FX m (aE a B).1 (aE a B).2.1 (aE a B).2.2.1 (aE a B).2.2.2.1 (aE b B).1 (aE b B).2.1 (aE b B).2.2.1 (aE b B).2.2.2.1=some (if bX a B/\bX b B then aE (a-b) B else su,(),(),()):=by rw[FX,qli hm,bS];dsimp only;rw[qtk hm,bS,<-Int.sub_eq_add_neg];simp only[NB]
def I5 {m:Nat} (hm:4000000<=m) {a b B C:Int}:
 gO m (aE a B).1 (aE a B).2.1 (aE a B).2.2.1 (aE a B).2.2.2.1 (aE b C).1 (aE b C).2.1 (aE b C).2.2.1 (aE b C).2.2.2.1=some (if bX a B/\bX b C then aE (a*b) (B+C)else su,(),(),()):=by rw[gO,qrc O,bS];dsimp only;by_cases h:bX a B/\bX b C;{obtain⟨w,f,k,k1,k2,Q⟩:=Xf h.1;obtain⟨x,g,l,K,J,G⟩:=Xf h.2;have e0:=k.lo;have d0:=k.hi;have c0:=l.lo;have b0:=l.hi;have n1:=k.len;have n2:=l.len;have hl:=k.lim;have a0:=l.lim;have u:wI (f+g)=f+g:=by{rw[wQ,wi O O]};rw[decide_eq_true h,uw,cond_false,iP h,k1,k2,Q,K,J,G,YZ hm (dj w) (dj x) O,aP,aP,bS,u];dsimp only;rw[LZ O (zf Tk O) O O,(k.eq.mul l.eq).mk];rfl};{rw[decide_eq_false h,af h];rfl}
end Go.Vs.F
