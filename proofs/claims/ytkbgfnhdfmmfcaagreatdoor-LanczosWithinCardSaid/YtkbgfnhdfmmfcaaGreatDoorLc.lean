import Derived.Test.YtkbgfnhdfmmfcaaGreatDoorLb
set_option linter.unusedVariables false
set_option linter.unusedSimpArgs false
set_option linter.unusedSectionVars false
set_option linter.defProp false
namespace Go.Vs.F
def ax (z e:Int):Bool×Bool×LI×Int×Unit:=
 if z=0 then(false,false,[],0,())
 else if e+(ak z.natAbs:Int)>65536\/e+(tz z.natAbs:Int)< -65536 then(true,false,[],0,())
 else(false,decide (z<0),lim (z.natAbs/2^tz z.natAbs),e+(tz z.natAbs:Int),())
def cd (z e:Int):Prop:=(ax z e).1=false
def sc (z e b:Int):Int:=z*2^(e-b).toNat
def cW (z e w f:Int):Prop:= ∃b,b<=e/\b<=f/\sc z e b=sc w f b
def qbs (e:Int):ax 0 e=(false,false,[],0,()):=rfl
def Y2 {z e:Int}:cd z e↔z=0\/(e+(ak z.natAbs:Int)<=65536/\ -65536<=e+(tz z.natAbs:Int)):=by unfold cd ax;by_cases h:z=0;{simp[h]};{rw[ae h];by_cases h2:e+(ak z.natAbs:Int)>65536\/e+(tz z.natAbs:Int)< -65536;{rw[iP h2];simp only[h,false_or];constructor;{intro h;cases h};{intro h;omega}};{rw[ae h2];simp only[h,false_or,true_iff];omega}}
def qj2 (e:Int):cd 0 e:=rfl
instance {z e:Int}:Decidable (cd z e):=inferInstanceAs (Decidable (_=_))
def GZ {z e:Int} (h: ¬cd z e):ax z e=(true,false,[],0,()):=by unfold cd ax at*;split at h;{exact absurd rfl h};{rename_i u;rw[ae u];split at h;{rename_i h2;rw[iP h2]};{exact absurd rfl h}}
def X7 {z:Int} {k:Nat}:(z*2^k).natAbs=2^k*z.natAbs:=by rw[K6,Int.natAbs_pow,zY];rfl
def Xw {k n:Nat} (h:n≠0):ak (2^k*n)=k+ak n:=by have:=QK (y:=0) h (dU (n:=k) (show 0<2 by omega));rwa [zS]at this
def Jy (k:Nat):0<(2:Int)^k:=Nr O
def q59 {z:Int} {k:Nat}:z*2^k<0↔z<0:=by have:=Jy k;constructor;{intro h;refine Int.not_le.1 λh2=> ?_;have:=Int.mul_nonneg h2 (K3 this);omega};{intro h;exact Int.mul_neg_of_neg_of_pos h this}
def qmz {z:Int} {k:Nat} {e:Int}:ax (z*2^k) e=ax z (e+(k:Int)):=by unfold ax;by_cases h:z=0;{subst h;rw[xe];rfl};{have h2:z*2^k≠0:=Int.mul_ne_zero h (by have:=Jy k;omega);have u:z.natAbs≠0:=O;rw[ae h,ae h2,X7,Xw u,qb5 u,qM,Nat.mul_div_mul_left _ _ (dU O)];simp only[q59];rw[yg,yg,<-Int.add_assoc,<-Int.add_assoc]}
def Cw {z e b:Int} (h:b<=e):ax (sc z e b) b=ax z e:=by unfold sc;rw[qmz];congr 1;omega
def cW.mk {z e w f:Int}:cW z e w f->ax z e=ax w f
 |⟨b,G,h2,u⟩=>by rw[<-Cw G,<-Cw h2,u]
def Vb {z e b c:Int} (u:c<=b) (h2:b<=e):sc z e c=sc z e b*2^(b-c).toNat:=by unfold sc;rw[OD,<-Int.pow_add];congr 2;omega
def qk4 {x y:Int} {k:Nat} (h:x*2^k=y*2^k):x=y:=
 Int.eq_of_mul_eq_mul_right (by have:=Jy k;omega) h
def cW.low {z e w f:Int} (h:cW z e w f) {c:Int} (h1:c<=e) (h2:c<=f):sc z e c=sc w f c:=by obtain⟨b,G,u,J⟩:=h;by_cases K:c<=b;{rw[Vb K G,Vb K u,J]};{rw[Vb (b:=c) (c:=b) O h1,Vb (b:=c) (c:=b) O h2]at J;exact qk4 J}
def cW.refl (z e:Int):cW z e z e:=⟨e,O,O,rfl⟩
def cW.symm {z e w f:Int}:cW z e w f->cW w f z e
 |⟨b,G,h2,u⟩=>⟨b,h2,G,u.symm⟩
def cW.trans {z e w f y g:Int} (h:cW z e w f) (h2:cW w f y g):cW z e y g:=by obtain⟨c,c1,c2,u⟩: ∃c:Int,c<=e/\c<=f/\c<=g:=⟨min e (min f g),O,O,O⟩;exact⟨c,c1,u,(h.low c1 c2).trans (h2.low c2 u)⟩
def cW.zero (e f:Int):cW 0 e 0 f:=⟨min e f,O,O,by unfold sc;rw[xe,xe]⟩
def VD (z e:Int):sc z e e=z:=by unfold sc;rw[Int.sub_self];exact Nn z
def cW.sc {z e b:Int} (h:b<=e):cW (sc z e b) b z e:=⟨b,O,h,by rw[VD]⟩
def cW.add {z e w f y c x g:Int} (h1:cW z e w f) (h2:cW y e x f):cW (z+y) e (w+x) f:=by obtain⟨c,c1,c2⟩: ∃c:Int,c<=e/\c<=f:=⟨min e f,O,O⟩;refine⟨c,c1,c2,?_⟩;have a:=h1.low c1 c2;have b:=h2.low c1 c2;unfold Vs.F.sc at*;rw[Int.add_mul,Int.add_mul,a,b]
def cW.neg {z e w f:Int}:cW z e w f->cW (-z) e (-w) f
 |⟨b,h1,h2,h3⟩=>⟨b,h1,h2,by unfold Vs.F.sc at*;rw[OA,OA,h3]⟩
def cW.mul {z e w f y g x h:Int} (h1:cW z e w f) (h2:cW y g x h):cW (z*y) (e+g) (w*x) (f+h):=by obtain⟨b,b1,b2,b3⟩:=h1;obtain⟨c,c1,c2,c3⟩:=h2;refine⟨b+c,O,O,?_⟩;have k: ∀{z e y g:Int},b<=e->c<=g->Vs.F.sc (z*y) (e+g) (b+c)=Vs.F.sc z e b*Vs.F.sc y g c:=by{intro z e y g h1 h2;unfold Vs.F.sc;rw[show(e+g-(b+c)).toNat=(e-b).toNat+(g-c).toNat by omega,Int.pow_add];simp only[OD,K2,Int.mul_left_comm]};rw[k b1 c1,k b2 c2,b3,c3]
def cW.sgn {z e w f:Int} (h:cW z e w f):Vs.F.sgn z=Vs.F.sgn w:=by obtain⟨b,h1,h2,h3⟩:=h;have k: ∀z e:Int,Vs.F.sgn (Vs.F.sc z e b)=Vs.F.sgn z:=by{intro z e;unfold Vs.F.sgn Vs.F.sc;simp only[q59];have:0<z*2^(e-b).toNat↔0<z:=by{have:=Jy (e-b).toNat;constructor;{intro h;exact Int.pos_of_mul_pos_left h this};{intro h;exact Int.mul_pos h this}};simp only[this]};rw[<-k z e,<-k w f,h3]
def cW.cmp {z e w f:Int} {y x:Int} (h:cW z e w f) (h2:cW y e x f):eZ z y=eZ w x:=by
 have:=(h.add (c:=0) (g:=0) h2.neg).sgn;unfold Vs.F.sgn at this;unfold eZ
 repeat' split at this
 all_goals repeat' split
 all_goals first|rfl|omega
def P6 {n k:Nat}:ak (n/2^k)<=ak n:=by by_cases h:n/2^k=0;{rw[h,Xz];omega};{have u:n≠0:=by{rintro rfl;simp at h};rw[X6 h,X6 u];have:(n/2^k).log2<n.log2+1:=by{rw[CM h];exact vD (vA ..) Nat.lt_log2_self};omega}
def U9 {n:Nat} (h:n≠0):n/2^tz n≠0/\n=2^tz n*(n/2^tz n)/\(n/2^tz n)%2=1:=by
 obtain⟨q,u,h2⟩:=PN h
 have:n/2^tz n=q:=by
  conv=>lhs;arg 1;rw[u]
  exact UG q (dU O)
 rw[this];exact⟨O,u,h2⟩
def YN {n:Nat} (h:n≠0):ak n=tz n+ak (n/2^tz n):=by
 obtain⟨u,h2,_⟩:=U9 h;conv=>lhs;rw[h2]
 exact Xw u
def qdz {z:Int} {q:Nat}:((if z<0 then-1 else 1)*(q:Int)).natAbs=q:=by split<;>omega
def Ht {z:Int} {q:Nat} (h:q≠0):z<0↔((if z<0 then-1 else 1)*(q:Int))<0:=by split<;>omega
def qva {z:Int} {q:Nat}:((if z<0 then-1 else 1)*(q:Int))=0->q=0:=by split<;>omega
def quy {z:Int}:(if z<0 then-1 else 1)*(z.natAbs:Int)=z:=by split<;>omega
structure NF (z e w f:Int):Prop where
 eq:cW w f z e
 md:ax z e=(false,decide (w<0),lim w.natAbs,f,())
 zero:w=0->f=0
 odd:w≠0->w.natAbs%2=1
 lo: -65536<=f
 hi:f+(ak w.natAbs:Int)<=65536
def NF.len {z e w f:Int} (h:NF z e w f):ak w.natAbs<=131072:=by have:=h.lo;have:=h.hi;omega
def cd.nf {z e:Int} (h:cd z e): ∃w f,NF z e w f:=by
 by_cases u:z=0
 . subst u;exact⟨0,0,cW.zero ..,by rw[qbs];simp[Q5],λ_=>rfl,λh=>absurd rfl h,O,by decide⟩
 . rcases Y2.1 h with h|⟨h1,h2⟩
   . exact absurd h u
   . have hn:z.natAbs≠0:=O;obtain⟨K,k2,k3⟩:=U9 hn;have hb:=YN hn
     have G:ax z e=(false,decide (z<0),lim (z.natAbs/2^tz z.natAbs),e+(tz z.natAbs:Int),()):=by
      unfold ax;rw[ae u,ae O]
     have J:=qdz (z:=z) (q:=z.natAbs/2^tz z.natAbs);refine⟨(if z<0 then-1 else 1)*(((z.natAbs/2^tz z.natAbs:Nat)):Int),e+(tz z.natAbs:Int),⟨e,O,O,?_⟩,?_,?_,?_,O,?_⟩
     . rw[VD];unfold sc;rw[show(e+(tz z.natAbs:Int)-e).toNat=tz z.natAbs by omega,OD]
       have:(((z.natAbs/2^tz z.natAbs:Nat)):Int)*2^tz z.natAbs=(z.natAbs:Int):=by
        conv=>rhs;rw[k2]
        rw[oZ,K2,oJ];rfl
       rw[this,quy]
     . rw[G,J,decide_eq_decide.2 (Ht K)]
     . intro h0;exact absurd (qva h0) K
     . intro _;rw[J];exact k3
     . rw[J];omega
def NF.ok {z e w f:Int} (h:NF z e w f):cd w f:=by unfold cd;rw[h.eq.mk,h.md]
def Qi {n k:Nat} (h:ak n<=k):(lim n).length<=k/32+1:=by refine Xl ?_;refine x5 (Yk n) ?_;rw[show(4294967296:Nat)=2^32 by decide,<-Nat.pow_mul];exact zh O O
def qrt {n k:Nat} (h:(lim n).length<=k):ak n<=32*k:=by by_cases u:n=0;{subst u;rw[Xz];omega};{have G:=cg (qy n);rw[qo]at G;have h2:n<2^(32*k):=by{refine x5 G ?_;rw[show(4294967296:Nat)=2^32 by decide,<-Nat.pow_mul];exact zh O O};rw[X6 u];exact(CM u).2 h2}
def Xi {n k:Nat} (h:n<=k):ak n<=ak k:=by by_cases u:n=0;{subst u;rw[Xz];omega};{have G:k≠0:=O;rw[X6 u,X6 G];have:n.log2<k.log2+1:=(CM u).2 (vD h Nat.lt_log2_self);omega}
def Qq {n k:Nat} (h:n<2^k):ak n<=k:=by by_cases u:n=0;{subst u;rw[Xz];omega};{rw[X6 u];exact(CM u).2 h}
def qbj {a b k:Nat} (G:ak a<=k) (u:ak b<=k):ak (a+b)<=k+1:=by apply Qq;have h1:=Yk a;have h2:=Yk b;have K:2^ak a<=2^k:=zh O G;have J:2^ak b<=2^k:=zh O u;rw[gx];omega
def Od {a b:Nat}:ak (a*b)<=ak a+ak b:=by apply Qq;rw[qM];exact Nat.mul_lt_mul_of_lt_of_le (Yk a) (uh (Yk b)) (dU O)
def Y0 {a b:Int} {k:Nat} (G:ak a.natAbs<=k) (u:ak b.natAbs<=k):ak (a+b).natAbs<=k+1:=
 zQ (Xi (show(a+b).natAbs<=a.natAbs+b.natAbs by omega)) (qbj G u)
def Wf {a b:Int}:ak (a*b).natAbs<=ak a.natAbs+ak b.natAbs:=by rw[K6];exact Od
def q7g {a:Int} {k:Nat}:ak (a*2^k).natAbs<=k+ak a.natAbs:=by by_cases h:a.natAbs=0;{rw[X7,h,zy,Xz];omega};{rw[X7,Xw h];omega}
def K8 (z:Int):(zB z).1=decide (z<0):=rfl
def CQ (z:Int):(zB z).2.1=lim z.natAbs:=rfl
def dG (z:Int):Lm (zB z).2.1:=qy _
def yG {z:Int} {k:Nat} (h:ak z.natAbs<=k):(zB z).2.1.length<=k/32+1:=Qi h
def eI {m:Nat} (hm:3000000<m) {z:Int} (u:ak z.natAbs<=1000000) {k:Int} (K:0<=k) (J:k<=1048576):jZ m (zB z).1 (zB z).2.1 k=some (zB (z*2^k.toNat),(),(),()):=by have G:=yG u;obtain⟨n,rfl⟩: ∃n:Nat,k=(n:Int):=⟨k.toNat,O⟩;rw[jZ,VS hm (dG z) O O,bS,aM];rfl
def rk {m:Nat} (hm:3000000<m) {z:Int} (G:ak z.natAbs<=1000000) {k:Nat} (hk:k<=1048576):AK m (zB z).1 (zB z).2.1 (k:Int)=some (zB (z/2^k),(),(),()):=by have K:=yG G;obtain⟨u,rfl⟩: ∃u,m=u+1:=⟨m-1,O⟩;rw[AK,qd,bQ,ae O,bS];dsimp only;by_cases J:k=0;{subst J;rw[show wI (0-((0:Nat):Int))=((0:Nat):Int)from by decide,VS hm (dG z) O O,bS,aM];dsimp only;rw[show z*2^0=z/2^0 by rw[UC,Nn,Int.ediv_one]]};{rw[show wI (0-(k:Int))= -(k:Int) by rw[wQ,wi O O];omega,qls hm (dG z) O O O,bS,aM,oJ];rfl}
def qs2 {z:Int} (h:z≠0):zB (z/2^tz z.natAbs)=(decide (z<0),lim (z.natAbs/2^tz z.natAbs),()):=by
 obtain⟨K,J,k3⟩:=U9 (n:=z.natAbs) O
 have:z=((if z<0 then-1 else 1)*((z.natAbs/2^tz z.natAbs:Nat):Int))*2^tz z.natAbs:=by
  rw[OD]
  have:(((z.natAbs/2^tz z.natAbs:Nat)):Int)*2^tz z.natAbs=(z.natAbs:Int):=by
   conv=>rhs;rw[J]
   rw[oZ,K2,oJ];rfl
  rw[this,quy]
 have h2:z/2^tz z.natAbs=(if z<0 then-1 else 1)*((z.natAbs/2^tz z.natAbs:Nat):Int):=by
  conv=>lhs;arg 1;rw[this]
  rw[Int.mul_ediv_cancel];have:=Jy (tz z.natAbs);omega
 have G:=Ht (z:=z) K;have u:=qdz (z:=z) (q:=z.natAbs/2^tz z.natAbs);rw[<-h2]at G u;unfold zB;rw[u,decide_eq_decide.2 G.symm]
theorem Qb {z:Int}:sgn z=0↔z=0:=by unfold sgn;(repeat' split);all_goals omega
def QO {n:Nat}:tz n<=ak n:=by by_cases h:n=0;{subst h;rw[YU];omega};{rw[YN h];omega}
def qnc {m:Nat} (hm:3000000<m) {z:Int} (J:ak z.natAbs<=900000) {e:Int} (h1: -1000000000<=e) (h2:e<=1000000000):gR m false (zB z).1 (zB z).2.1 e=some ((ax z e,decide (cd z e),()),(),()):=by have hl:=yG J;have G:Sz (zB z).2.1:=⟨dG z,O⟩;have K:vl (zB z).2.1=z.natAbs:=qo _;rw[gR,cond_false,qpd O G,bS,aM];dsimp only;rw[C3 O G,bS,aM,aB];dsimp only;by_cases h:z=0;{subst h;rw[iP (Qb.2 rfl)];rfl};{have hn:z.natAbs≠0:=O;have ht:=QO (n:=z.natAbs);rw[ae (λe=>h (Qb.1 e)),q1l O G O,bS,Oi O G,bS,K];dsimp only;rw[show wI (65536-((ak z.natAbs:Nat):Int))=65536-((ak z.natAbs:Nat):Int) by rw[wQ,wi O O],show wI ((-65536)-((tz z.natAbs:Nat):Int))=(-65536)-((tz z.natAbs:Nat):Int) by rw[wQ,wi O O],show wI (e+((tz z.natAbs:Nat):Int))=e+((tz z.natAbs:Nat):Int) by rw[wQ,wi O O],bQ,bQ,rk hm O O,bS,qs2 h];by_cases u:cd z e;{rcases Y2.1 u with h0|⟨k1,k2⟩;{exact absurd h0 h};{rw[ae O,ae O,decide_eq_true u];unfold ax;rw[ae h,ae O]}};{have a0: ¬(e+(ak z.natAbs:Int)<=65536/\ -65536<=e+(tz z.natAbs:Int)):=λc=>u (Y2.2 (Or.inr c));rw[GZ u,decide_eq_false u];by_cases c:e>65536-((ak z.natAbs:Nat):Int);{rw[iP c];rfl};{rw[ae c,iP O];rfl}}}
def G1 {m:Nat} (hm:3000000<m) {z:Int} (u:ak z.natAbs<=900000) {e:Int} (G: -1000000000<=e) (h2:e<=1000000000):jr m (zB z).1 (zB z).2.1 e=some (ax z e,(),(),()):=by rw[jr,qnc hm u G h2];rfl
def ZA {m:Nat} (hm:3000000<m) {z e:Int} (h:cd z e):gR m (ax z e).1 (ax z e).2.1 (ax z e).2.2.1 (ax z e).2.2.2.1=some ((ax z e,true,()),(),()):=by obtain⟨w,f,k⟩:=h.nf;rw[k.md];have:=qnc hm (z:=w) (by have:=k.len;omega) (e:=f) (by have:=k.lo;omega) (by have:=k.hi;omega);rw[K8,CQ]at this;rw[this,k.eq.mk,k.md,decide_eq_true k.ok]
def Ly {m:Nat} (hm:3000000<m) {z e:Int}:gR m (ax z e).1 (ax z e).2.1 (ax z e).2.2.1 (ax z e).2.2.2.1=some ((ax z e,decide (cd z e),()),(),()):=by by_cases h:cd z e;{rw[ZA hm h,decide_eq_true h]};{rw[GZ h,decide_eq_false h];rfl}
def P5 {m:Nat} (hm:3000000<m) {z e:Int}:mi m (ax z e).1 (ax z e).2.1 (ax z e).2.2.1 (ax z e).2.2.2.1=some (ax z e,(),()):=by rw[mi,Ly hm];rfl
def X5 {z e:Int} (h:cd z e): ∃w f,NF z e w f/\(ax z e).2.1=(zB w).1/\(ax z e).2.2.1=(zB w).2.1/\(ax z e).2.2.2.1=f:=by obtain⟨w,f,k⟩:=h.nf;refine⟨w,f,k,?_⟩;rw[k.md];exact⟨rfl,rfl,rfl⟩
def NF.Sz {z e w f:Int} (h:NF z e w f):Vs.F.Sz (zB w).2.1:=⟨dG w,by have:=yG h.len;omega⟩
def NF.sgn {z e w f:Int} (h:NF z e w f):Vs.F.sgn w=Vs.F.sgn z:=h.eq.sgn
def Ob {m:Nat} (hm:3000000<m) {z e:Int} (h:cd z e):nP m (ax z e).1 (ax z e).2.1 (ax z e).2.2.1 (ax z e).2.2.2.1=some (sgn z,(),()):=by obtain⟨w,f,k,k1,k2,k3⟩:=X5 h;rw[nP,ZA hm h,bS];dsimp only;rw[k1,k2,C3 O k.Sz,bS,aM,k.sgn]
def qta {m:Nat} (hm:3000000<m) {z e y f:Int}:Bo m (ax z e).1 (ax z e).2.1 (ax z e).2.2.1 (ax z e).2.2.2.1 (ax y f).1 (ax y f).2.1 (ax y f).2.2.1 (ax y f).2.2.2.1=some ((ax z e,ax y f,decide (cd z e/\cd y f),()),(),(),()):=by rw[Bo,Ly hm,bS,Ly hm,bS];dsimp only;rw[Bool.decide_and];cases decide (cd z e)<;>rfl
def tT (neg:Bool) (half:Int) (u:Bool) (mode:Int):Bool:=
 if mode=1 then neg else if mode=2 then !neg else if mode=3 then false else decide (0<half)||(decide (half=0)&&u)
def dP (v n:Nat) (more:Bool):Int:=
 if 2*(v%2^n)<2^n then-1 else if 2*(v%2^n)=2^n/\more=false then 0 else 1
def gU (neg:Bool) (v n:Nat) (more:Bool) (mode:Int):Nat:=
 if v%2^n=0/\more=false then v/2^n else v/2^n+(if tT neg (dP v n more) (v/2^n%2==1) mode then 1 else 0)
def gd (neg:Bool) (f:Int):Int:=if neg then f+9223372036854775808 else f
def fT (neg:Bool) (mode:Int):Int:=
 if mode=3\/(mode=1/\neg=false)\/(mode=2/\neg=true)then gd neg 9218868437227405311 else gd neg 9218868437227405312
def iK (neg:Bool) (n:Nat) (unit mode:Int):Int:=
 if n=9007199254740992 then(if unit+1076>=2047 then fT neg mode else gd neg ((unit+1076)*4503599627370496))
 else if n<4503599627370496 then gd neg (n:Int)
 else if unit+1075>=2047 then fT neg mode else gd neg ((unit+1075)*4503599627370496+((n:Int)-4503599627370496))
def aY (v:Nat) (e:Int):Int:=max (e+(ak v:Int)-53) (-1074)
def d9 (neg:Bool) (v:Nat) (e:Int) (more:Bool) (mode:Int):Nat:=
 if aY v e<=e then v*2^(e-aY v e).toNat else gU neg v (aY v e-e).toNat more mode
def Yz (neg:Bool) (v:Nat) (e:Int) (more:Bool) (mode:Int):Int:=iK neg (d9 neg v e more mode) (aY v e) mode
def qx9 {neg:Bool} {v n:Nat} {more:Bool} {mode:Int}:gU neg v n more mode<=v/2^n+1:=by unfold gU;split;{omega};{split<;>omega}
def qax (v:Nat) (e:Int): -1074<=aY v e:=by unfold aY;omega
def qbe {neg:Bool} {v:Nat} {e:Int} {more:Bool} {mode:Int}:d9 neg v e more mode<=9007199254740992:=by unfold d9;have u:=Yk v;split;{rename_i h;have G:(ak v:Int)+(e-aY v e)<=53:=by{unfold aY at*;omega};have h2:v*2^(e-aY v e).toNat<=2^ak v*2^(e-aY v e).toNat:=zO _ (uh u);rw[<-Nat.pow_add]at h2;have J:2^(ak v+(e-aY v e).toNat)<=2^53:=zh O O;have:(2:Nat)^53=9007199254740992:=by{decide};omega};{rename_i h;refine zQ qx9 ?_;have G:(ak v:Int)<=53+(aY v e-e):=by{unfold aY at*;omega};have:v/2^(aY v e-e).toNat<2^53:=by{rw[Cp (dU O),<-Nat.pow_add];exact x5 u (zh O O)};have:(2:Nat)^53=9007199254740992:=by{decide};omega}
def qgb {neg:Bool} {v:Nat} (u:v≠0) {e:Int} {more:Bool} {mode:Int} (h:1024<=e+(ak v:Int)-1):Yz neg v e more mode=fT neg mode:=by have hu:aY v e=e+(ak v:Int)-53:=by{unfold aY;omega};have G:=N7 u;have hp:0<ak v:=by{rw[X6 u];omega};have a0:4503599627370496<=d9 neg v e more mode:=by{have b0:(2:Nat)^52=4503599627370496:=by{decide};unfold d9;split;{rename_i h2;have J:2^(ak v-1)*2^(e-aY v e).toNat<=v*2^(e-aY v e).toNat:=zO _ G;rw[<-Nat.pow_add,show ak v-1+(e-aY v e).toNat=52 by omega]at J;omega};{rename_i h2;have J:2^52<=v/2^(aY v e-e).toNat:=by{rw[K5 (dU O),<-Nat.pow_add];refine zQ ?_ G;exact zh O O};have:v/2^(aY v e-e).toNat<=gU neg v (aY v e-e).toNat more mode:=by{unfold gU;split<;>omega};omega}};unfold Yz iK;by_cases K:d9 neg v e more mode=9007199254740992;{rw[iP K,iP O]};{rw[ae K,ae O,iP O]}
def tv (z:Int):Int×Bool×Unit:=if-9223372036854775808<=z/\z<9223372036854775808 then(z,true,())else(0,false,())
def o5 {l:LI} {k:Nat} (u:k<l.length) {x:Int} (ex:l.getD k 0=x):l.take (k+1)=l.take k++[x]:=by rw[Ul,<-ex,List.getD,List.getElem?_eq_getElem u];rfl
def qom {l:LI} (K:Lm l) (h2:l.length<=2) {k x:Nat} (hk:k<l.length) (ex:l.getD k 0=(x:Int)) (hx:x<4294967296):
 bf .u64 ((vl (l.take k):Nat):Int) (bE .u64 (x:Int) ((32*k:Nat):Int))=((vl (l.take (k+1)):Nat):Int):=by have G:=cg (l:=l.take k) λy J=>K y (oK J);rw[zX,show min k l.length=k by omega]at G;have hP:(4294967296:Nat)^k=2^(32*k):=by{rw[show(4294967296:Nat)=2^32 by decide,<-Nat.pow_mul]};rw[o5 hk ex,Jj,zX,show min k l.length=k by omega];have u:x*2^(32*k)<18446744073709551616:=by{have:k=0\/k=1:=O;rcases this with rfl|rfl;{simp;omega};{simp;omega}};have hc:vl (l.take k)<18446744073709551616:=by{have:k=0\/k=1:=O;rcases this with rfl|rfl;{simp[vl]};{simp at G;omega}};rw[gC O u,mH hc u,KY,zY,<-Nat.two_pow_add_eq_or_of_lt O,tS,hP]
def qtu (m:Nat) (neg:Bool) (u:LI) {l:LI} (G:Lm l) (h2:l.length<=2): ∀(n k:Nat),l.length-k<n->k<=l.length->
 nq m n neg u ((vl (l.take k):Nat):Int) l (l.length:Int) (k:Int)=some (.inl ((neg,u,()),((vl l:Nat):Int),()))
 |0,k,h,_=>O
 |n+1,k,h,a0=>by rw[nq,bQ];by_cases J:k<l.length;{obtain⟨x,ex,K⟩:=G.get J;have w:wI (32*(k:Int))=((32*k:Nat):Int):=by{rw[wQ,wi O O];omega};rw[iP O,iP O,w,iP O,tN,ex,bt O,qom G h2 J ex K,show wI ((k:Int)+1)=((k+1:Nat):Int)from ay O];exact qtu m neg u G h2 n (k+1) O O};{rw[ae O,xd O]}
def VH {n:Nat}:(lim n).length<=2↔n<18446744073709551616:=by constructor;{intro h;have:=cg (qy n);rw[qo]at this;have h2:4294967296^(lim n).length<=4294967296^2:=zh O h;omega};{intro h;exact Xl O}
def qyb {m:Nat} (hm:2000000<m) {neg:Bool} {l:LI} (h:Sz l):Eh m neg l=some (tv (zv neg l),(),()):=by rw[Eh,Qy h.1 (by have:=h.2;omega) (by have:=h.2;omega),bS,bQ];dsimp only;unfold tv;by_cases c:vl l<18446744073709551616;{have c2:=VH.2 c;have e:=qtu m neg l (qy (vl l)) c2 m 0 O O;rw[xh,nZ]at e;rw[ae O];rw[show((vl ([]:LI):Nat):Int)=0 from rfl]at e;rw[e,bS,qo];dsimp only;cases neg with|false=>{have:zv false l=(vl l:Int):=rfl;rw[this,cond_false,bQ,CK,cond_true];by_cases d:(vl l:Int)<9223372036854775808;{rw[iP d,iP O,wQ,wi O O]};{rw[ae d,ae O]}}|true=>{have:zv true l= -(vl l:Int):=rfl;rw[this,cond_true,bQ,bQ,bQ,qS,cond_false,aB];by_cases u:(vl l:Int)>0;{rw[iP u];by_cases d:(vl l:Int)<=9223372036854775808;{rw[iP d,iP O,dV,Int.emod_eq_of_lt O O,show wI ((vl l:Int)-1)=(vl l:Int)-1 by rw[wQ,wi O O],show wI (0-((vl l:Int)-1))=0-((vl l:Int)-1) by rw[wQ,wi O O],show wI (0-((vl l:Int)-1)-1)=0-((vl l:Int)-1)-1 by rw[wQ,wi O O],show 0-((vl l:Int)-1)-1= -(vl l:Int) by omega]};{rw[ae d,ae O,ae O]}};{rw[ae u,iP O,iP O,iP O,show(vl l:Int)=0 by omega];rfl}}};{have c2: ¬(lim (vl l)).length<=2:=λh=>c (VH.1 h);have: ¬(-9223372036854775808<=zv neg l/\zv neg l<9223372036854775808):=by{unfold zv;cases neg<;>simp<;>omega};rw[iP O,ae this]}
def Xu (v:Nat):zB (v:Int)=(false,lim v,()):=by unfold zB;rw[jy,show decide ((v:Int)<0)=false by simp]
def pR {z:Int} (h:ak z.natAbs<=1000000):Sz (zB z).2.1:=⟨dG z,by have:=yG h;omega⟩
def oX {v:Nat} (h:ak v<=1000000):Sz (zB (v:Int)).2.1:=pR (by rwa [jy])
def Xd {k:Nat}:ak (2^k)=k+1:=qol (zI _) (by rw[gx];have:=dU (n:=k) (show 0<2 by omega);omega)
def q5a {v n:Nat} {more:Bool} (h:2*(v%2^n)<2^n):dP v n more= -1:=by unfold dP;rw[iP h]
def qxq {m:Nat} (hm:3000000<m) (neg:Bool) {v:Nat} (hv:v≠0) (hb:ak v<=500000) (e:Int) (more:Bool) {k:Nat} (h0:0<k) (hk:k<=1000000):
 DU m neg (zB (v:Int)).1 (zB (v:Int)).2.1 e more (k:Int)=some ((zB ((v/2^k:Nat):Int),dP v k more,decide (v%2^k=0/\more=false),()),(),(),()):=by have K:Sz (zB (v:Int)).2.1:=oX O;have ix:vl (zB (v:Int)).2.1=v:=by{rw[Xu];exact qo v};rw[DU,Oi O K,bS,ix,bQ];dsimp only;have a0:=Yk v;by_cases c:(k:Int)>((ak v:Nat):Int);{have h1:2^(ak v)<=2^(k-1):=zh O O;have h2:2^k=2*2^(k-1):=by{rw[show k=k-1+1 by omega,gx,zY];simp};have hd:v/2^k=0:=wZ O;have G:v%2^k=v:=kl O;rw[iP c,hd,q5a (by rw[G];omega),G];rw[show decide (v=0/\more=false)=false by rw[decide_eq_false_iff_not];exact λh=>hv h.1,show zB ((0:Nat):Int)=(false,[],()) by rw[Xu,Q5]]};{have hP:0<2^k:=dU O;have J:=kh v hP;have b0:=Ny v (2^k);have hle:ak (v/2^k)<=ak v:=P6;have b1:ak (((v/2^k:Nat):Int)).natAbs<=900000:=by{rw[jy];omega};have e1:(v:Int)/2^k=((v/2^k:Nat):Int):=by{rw[OF,oJ];rfl};have e2:((v/2^k:Nat):Int)*2^k=((v/2^k*2^k:Nat):Int):=by{rw[oZ,oJ];rfl};have b2:ak (v/2^k*2^k)<=1000000:=zQ (Xi (Nq ..)) O;have e3:(v:Int)-((v/2^k*2^k:Nat):Int)=((v%2^k:Nat):Int):=by{rw[zY];omega};have b3:ak (v%2^k)<=1000000:=zQ (Xi (Uv ..)) O;have e4:(1:Int)*2^(k-1)=((2^(k-1):Nat):Int):=by{rw[Ux,oJ];rfl};have b4:ak (2^(k-1))<=1000000:=by{rw[Xd];omega};have w1:wI ((k:Int)-1)=((k-1:Nat):Int):=by{rw[wQ,wi O O];omega};have h2:2^k=2*2^(k-1):=by{have:2^(k-1+1)=2*2^(k-1):=by{rw[gx,zY]};rwa [show k-1+1=k by omega]at this};rw[ae c,rk hm (by rw[jy];omega) O,bS,e1];dsimp only;rw[eI hm O O O,bS,tN,e2];dsimp only;rw[qxp O K (oX b2),aM,aM,e3,bS,Jb O O O,bS];dsimp only;rw[w1,eI hm (by decide) O O,bS,tN,e4];dsimp only;rw[XW O (oX b3) (oX b4),aM,aM,bS,C3 O (oX b3),aM];dsimp only;simp only[bS];generalize hr:v%2^k=r at*;generalize 2^(k-1)=H at*;have hs:sgn (r:Int)=0↔r=0:=by{rw[Qb];omega};rw[aB];unfold eZ dP;rw[hr,h2];by_cases c1:(r:Int)<(H:Int);{rw[iP c1,ae O,iP O,aB];by_cases c2:r=0;{rw[iP (hs.2 c2)];cases more<;>simp[c2]};{rw[ae (λh=>c2 (hs.1 h))];simp[c2]}};{by_cases c3:(H:Int)<(r:Int);{rw[ae c1,iP c3,ae O,ae O,ae O,aB,ae (λh=>by have:=hs.1 h;omega)];rw[show decide (r=0/\more=false)=false by rw[decide_eq_false_iff_not];omega]};{have u:r≠0:=by{have:0<2^k:=hP;omega};rw[ae c1,ae c3,iP rfl,ae O];cases more with|false=>{rw[cond_false,aB,ae (λh=>u (hs.1 h)),iP ⟨O,rfl⟩];simp[u]}|true=>{rw[cond_true,aB,ae (λh=>u (hs.1 h)),ae (λh=>by cases h.2)];simp}}}}
def sg (neg:Bool) (n:Nat):Int:=if neg then-(n:Int)else(n:Int)
def qae {neg:Bool} {n:Nat}:(sg neg n).natAbs=n:=by unfold sg;cases neg<;>simp
def N6 {n:Nat} (h:n≠0):tz n=0↔n%2=1:=by constructor;{intro h2;obtain⟨q,u,G⟩:=PN h;rw[h2,yj,x7]at u;omega};{exact U8}
def qbx {m:Nat} (hm:3000000<m) (neg:Bool) {v:Nat} (G:ak v<=300000) {e:Int} (more:Bool) {q:Int} (mode:Int) (h:q<=e) (he:e-q<=500000) (J: -1000000000<=q) (h2:e<=1000000000):
 uK m neg (zB (v:Int)).1 (zB (v:Int)).2.1 e more q mode=some (zB (sg neg (v*2^(e-q).toNat)),(),(),(),()):=by have w:wI (e-q)=e-q:=by{rw[wQ,wi O O]};have u:(v:Int)*2^(e-q).toNat=((v*2^(e-q).toNat:Nat):Int):=by{rw[oZ,oJ];rfl};have b:ak (v*2^(e-q).toNat)<=1000000:=by{have:=q7g (a:=(v:Int)) (k:=(e-q).toNat);rw[u,jy,jy]at this;omega};rw[uK,bQ,iP h,w,eI hm (by rw[jy];omega) O O,bS,u];dsimp only;cases neg with|false=>rfl|true=>{rw[cond_true,NP O (oX b),aM,bS];rfl}
def qen {m:Nat} (hm:3000000<m) (neg:Bool) {v:Nat} (hv:v≠0) (hb:ak v<=300000) {e:Int} (more:Bool) {q:Int} (mode:Int) (h:e<q) (he:q-e<=500000) (h1: -1000000000<=e) (h2:q<=1000000000):
 uK m neg (zB (v:Int)).1 (zB (v:Int)).2.1 e more q mode=some (zB (sg neg (gU neg v (q-e).toNat more mode)),(),(),(),()):=by obtain⟨k,hk⟩: ∃k:Nat,q-e=(k:Int):=⟨(q-e).toNat,O⟩;have w:wI (q-e)=(k:Int):=by{rw[wQ,wi O O,hk]};rw[uK,bQ,ae O,w,qxq hm neg hv O e more O O,hk,tN,bS];dsimp only;have hd:v/2^k<=v:=vA ..;have bd:ak (v/2^k)<=300000:=zQ P6 hb;have b0:ak (v/2^k+1)<=300001:=qbj bd (by decide);have hS:=oX (v:=v/2^k) O;have a0:=oX (v:=v/2^k+1) O;have h1S:Sz (zB 1).2.1:=pR (by decide);have J:(dR m (zB ((v/2^k:Nat):Int)).1 (zB ((v/2^k:Nat):Int)).2.1).bind (λy=>some ((y.1.1,y.1.2.1,()),((),(),(),())))=some (zB (-((v/2^k:Nat):Int)),(),(),(),()):=by{rw[NP O hS,aM];rfl};have K:gh m (zB ((v/2^k:Nat):Int)).1 (zB ((v/2^k:Nat):Int)).2.1 (zB 1).1 (zB 1).2.1=some (zB ((v/2^k+1:Nat):Int),(),(),()):=by{rw[NQ O hS h1S,aM,aM];rfl};have G:(dR m (zB ((v/2^k+1:Nat):Int)).1 (zB ((v/2^k+1:Nat):Int)).2.1).bind (λy=>some ((y.1.1,y.1.2.1,()),((),(),(),())))=some (zB (-((v/2^k+1:Nat):Int)),(),(),(),()):=by{rw[NP O a0,aM];rfl};have plain:(bif neg then(dR m (zB ((v/2^k:Nat):Int)).1 (zB ((v/2^k:Nat):Int)).2.1).bind (λy=>some ((y.1.1,y.1.2.1,()),((),(),(),())))else some (((zB ((v/2^k:Nat):Int)).1,(zB ((v/2^k:Nat):Int)).2.1,()),((),(),(),())))=some (zB (sg neg (v/2^k)),(),(),(),()):=by{rw[J];cases neg<;>rfl};have u:((jq m 1).bind λy5=>(gh m (zB ((v/2^k:Nat):Int)).1 (zB ((v/2^k:Nat):Int)).2.1 y5.1.1 y5.1.2.1).bind λy6=> bif neg then(dR m y6.1.1 y6.1.2.1).bind (λy=>some ((y.1.1,y.1.2.1,()),((),(),(),())))else some ((y6.1.1,y6.1.2.1,()),((),(),(),())))=some (zB (sg neg (v/2^k+1)),(),(),(),()):=by{rw[Jb O O O,bS];dsimp only;rw[K,bS];dsimp only;rw[G];cases neg<;>rfl};unfold gU;by_cases hex:v%2^k=0/\more=false;{rw[decide_eq_true hex,cond_true,iP hex];exact plain};{rw[decide_eq_false hex,cond_false,ae hex,aB,aB,aB];unfold tT;by_cases m1:mode=1;{rw[iP m1,iP m1];cases neg with|true=>{rw[cond_true,iP rfl];exact u}|false=>{rw[cond_false,ae (by simp),zS];exact plain}};{rw[ae m1,ae m1];by_cases m2:mode=2;{rw[iP m2,iP m2];cases neg with|true=>{rw[qS,cond_false,ae (by simp),zS];exact plain}|false=>{rw[CK,cond_true,iP rfl];exact u}};{rw[ae m2,ae m2];by_cases m3:mode=3;{rw[iP m3,iP m3,ae (by simp),zS];exact plain};{rw[ae m3,ae m3,bQ,aB];by_cases c1:dP v k more>0;{rw[iP c1,show decide (0<dP v k more)=true by simpa using c1,UB,iP rfl];exact u};{rw[ae c1,show decide (0<dP v k more)=false by simpa using c1,Bool.false_or];by_cases c2:dP v k more=0;{rw[iP c2,decide_eq_true c2,vG,C3 O hS,bS,aM,aO];dsimp only;by_cases z:v/2^k=0;{rw[iP (by rw[Qb];omega),z];rw[z]at plain;exact plain};{have ix:vl (zB ((v/2^k:Nat):Int)).2.1=v/2^k:=by{rw[Xu];exact qo _};rw[ae (by rw[Qb];omega),q1l O hS (by rw[ix];exact z),bS,ix,aB];dsimp only;by_cases o:v/2^k%2=1;{rw[iP (by rw[(N6 z).2 o];rfl),show(v/2^k%2==1)=true by simpa using o,iP rfl];exact u};{rw[ae (by have:=mt (N6 z).1 o;omega),show(v/2^k%2==1)=false by simpa using o,ae (by simp),zS];exact plain}}};{rw[ae c2,decide_eq_false c2,CL,ae (by simp),zS];exact plain}}}}}}
def qt5 {f:Int} (u:0<=f) (h2:f<9223372036854775808):bf .u64 f 9223372036854775808=f+9223372036854775808:=by obtain⟨n,rfl⟩: ∃n:Nat,f=(n:Int):=⟨f.toNat,O⟩;have h:=mH (a:=n) (b:=9223372036854775808) O O;rw[show((9223372036854775808:Nat):Int)=9223372036854775808 from rfl]at h;rw[h];have:=Nw (i:=63) (b:=n) O 1;rw[KY,show(9223372036854775808:Nat)=2^63*1 by decide,<-this];omega
def QE {m:Nat} {f:Int} (u:0<=f) (h2:f<9223372036854775808) (neg:Bool):jX m f neg=some (gd neg f,(),(),()):=by unfold jX gd;rw[qt5 u h2];cases neg<;>rfl
def q7i {m:Nat} (neg:Bool) (mode:Int):Au m neg mode=some (fT neg mode,(),(),()):=by rw[Au,aB,aB,aB];simp only[QE (show(0:Int)<=9218868437227405311 by omega) O,QE (show(0:Int)<=9218868437227405312 by omega) O,bS];unfold fT;by_cases G:mode=3;{rw[iP G,iP (.inl G)]};{rw[ae G];by_cases J:mode=1;{have u: ¬mode=2:=O;rw[iP J,ae u];cases neg with|false=>{rw[iP (.inr (.inl ⟨J,rfl⟩))];rfl}|true=>{rw[ae (by simp[u,G])];rfl}};{rw[ae J];by_cases u:mode=2;{rw[iP u];cases neg with|true=>{rw[iP (.inr (.inr ⟨u,rfl⟩))];rfl}|false=>{rw[ae (by simp[J,G])];rfl}};{rw[ae u,ae (by simp[J,u,G])]}}}
def VM {q:Int} {r:Nat} (J:0<=q) (h2:q<2048) (G:r<4503599627370496):bf .u64 (bE .u64 (wJ (wI q)) 52) (r:Int)=q*4503599627370496+(r:Int):=by obtain⟨n,rfl⟩: ∃n:Nat,q=(n:Int):=⟨q.toNat,O⟩;have u:bE .u64 (n:Int) 52=((n*2^52:Nat):Int):=gC (a:=n) (k:=52) O O;rw[wQ,wi O O,bt O,u,mH O O];have:=Nw (i:=52) (b:=r) O n;rw[zY,<-this];omega
def qt9 {a b:Int}:(if b>a then b else a)=max a b:=by split<;>omega
def q4r {m:Nat} (hm:3000000<m) (neg:Bool) {v:Nat} (hv:v≠0) (hb:ak v<=300000) {e:Int} (more:Bool) (mode:Int) (h1: -200000<=e) (h2:e<=200000):
 xL m neg (zB (v:Int)).1 (zB (v:Int)).2.1 e more mode=some (Yz neg v e more mode,(),(),()):=by have hS:Sz (zB (v:Int)).2.1:=oX O;have ix:vl (zB (v:Int)).2.1=v:=by{rw[Xu];exact qo v};have w1:wI (e+((ak v:Nat):Int))=e+((ak v:Nat):Int):=by{rw[wQ,wi O O]};have w2:wI (e+((ak v:Nat):Int)-1)=e+((ak v:Nat):Int)-1:=by{rw[wQ,wi O O]};have w3:wI (e+((ak v:Nat):Int)-1-52)=e+((ak v:Nat):Int)-1-52:=by{rw[wQ,wi O O]};have hu:max (e+((ak v:Nat):Int)-1-52) (-1074)=aY v e:=by{unfold aY;congr 1;omega};have G:Ei m neg (zB (v:Int)).1 (zB (v:Int)).2.1 e more=some (e+((ak v:Nat):Int)-1,(),()):=by{rw[Ei,Oi O hS,bS,ix];dsimp only;rw[w1,w2]};have b0:=qax v e;have a0:aY v e<=600000:=by{unfold aY;omega};have hmul:uK m neg (zB (v:Int)).1 (zB (v:Int)).2.1 e more (aY v e) mode=some (zB (sg neg (d9 neg v e more mode)),(),(),(),()):=by{unfold d9;by_cases c:aY v e<=e;{rw[iP c];exact qbx hm neg hb more mode c O O O};{rw[ae c];exact qen hm neg hv hb more mode O (by unfold aY at*;omega) O O}};have hle:=qbe (neg:=neg) (v:=v) (e:=e) (more:=more) (mode:=mode);rw[xL,G,bS];dsimp only;rw[w3,qt9,hu,hmul,bS];unfold Yz;generalize d9 neg v e more mode=n at*;generalize aY v e=u at*;have bn:ak n<=1000000:=zQ (Qq (k:=54) O) O;have w4: ∀d:Nat,d<=2000->wI (u+(d:Int))=u+(d:Int):=λd hd=>by{rw[wQ,wi O O]};have w5:wI (u+1)=u+1:=w4 1 O;have w6:wI (u+1075)=u+1075:=w4 1075 O;have w7:wI (u+1+1075)=u+1076:=by{rw[WU];exact w4 1076 O};dsimp only;rw[UW O (pR (by rw[qae];omega)),aM,qae,bS];dsimp only;rw[qyb O (oX bn),aM,bS];unfold tv;rw[iP O];dsimp only;rw[bt O,w5,w6,w7,aB,bQ,bQ,bQ];unfold iK;by_cases c1:n=9007199254740992;{rw[iP O,iP c1];by_cases c2:u+1076>=2047;{rw[iP c2,iP c2,q7i];rfl};{have J:=VM (q:=u+1076) (r:=0) O O O;rw[show wI (u+1076)=u+1076 by rw[wQ,wi O O],nZ]at J;rw[ae c2,ae c2,J,K1,QE O O];rfl}};{rw[ae O,ae c1];by_cases c2:n<4503599627370496;{rw[iP O,iP c2,QE O O];rfl};{rw[ae O,ae c2];by_cases K:u+1075>=2047;{rw[iP K,iP K,q7i];rfl};{have J:=VM (q:=u+1075) (r:=n-4503599627370496) O O O;rw[w6]at J;have w8:wJ ((n:Int)-4503599627370496)=((n-4503599627370496:Nat):Int):=by{rw[dV];omega};rw[ae K,ae K,w8,J,QE O O,show((n-4503599627370496:Nat):Int)=(n:Int)-4503599627370496 by omega];rfl}}}
def Xp (d:Bool×Bool×LI×Int×Unit) (mode:Int):Int:=
 if d.1 then 9221120237041090560 else if d.2.2.1=[]then 0 else Yz d.2.1 (vl d.2.2.1) d.2.2.2.1 false mode
def LG {m:Nat} (hm:3000000<m) {z e:Int} (mode:Int):gn m (ax z e).1 (ax z e).2.1 (ax z e).2.2.1 (ax z e).2.2.2.1 mode=some (Xp (ax z e) mode,(),(),()):=by rw[gn,P5 hm,bS];dsimp only;unfold Xp;by_cases h:cd z e;{have h1:(ax z e).1=false:=h;rw[Ob hm h,bS,aB];dsimp only;obtain⟨w,f,k,k1,k2,k3⟩:=X5 h;have hw:sgn z=0↔(zB w).2.1=[]:=by{rw[<-k.sgn,Qb];show w=0↔lim w.natAbs=[];rw[Yp];omega};rw[h1,cond_false,ae (show¬(false=true) by simp)];by_cases c:sgn z=0;{rw[iP c,iP (by rw[k2];exact hw.1 c)]};{have c2: ¬(zB w).2.1=[]:=λh=>c (hw.2 h);have hw0:w.natAbs≠0:=λh=>c2 (Yp.2 h);rw[ae c,ae (by rw[k2];exact c2),M1,k1,k2,k3,UW O k.Sz,aM,bS,bS];dsimp only;rw[q4r hm _ hw0 (by have:=k.len;omega) _ _ (by have:=k.lo;omega) (by have:=k.hi;omega),bS];show some (_,_)=some (Yz _ (vl (lim w.natAbs)) _ _ _,_);rw[qo]}};{rw[GZ h];rfl}
def de (f:Int):Int:=f/4503599627370496%2048
def eW (f:Int):Int:=f%4503599627370496
def iD (f:Int):Bool:=decide (9223372036854775808<=f)
def tW (f:Int):Int:=(if iD f then-1 else 1)*(if de f=0 then eW f else eW f+4503599627370496)
def qQ (f:Int):Int:=if de f=0 then-1074 else de f-1075
def aS (f:Int):Prop:=de f≠2047
instance {f:Int}:Decidable (aS f):=inferInstanceAs (Decidable (_≠_))
def b7 (f:Int):Prop:=0<=f/\f<18446744073709551616
def d8 (f:Int):Bool×Bool×LI×Int×Unit:=if aS f then ax (tW f) (qQ f)else(true,false,[],0,())
def NZ (f:Int):0<=de f/\de f<2048:=by unfold de;omega
def ZP (f:Int):0<=eW f/\eW f<4503599627370496:=by unfold eW;omega
def jI {m:Nat} {f:Int} (h:b7 f):qE m f=some ((de f,eW f,()),(),()):=by obtain⟨n,rfl⟩: ∃n:Nat,f=(n:Int):=⟨f.toNat,by have:=h.1;omega⟩;have G:n<18446744073709551616:=by{have:=h.2;omega};have J:aJ .u64 (n:Int) 52=((n/4503599627370496:Nat):Int):=cZ (a:=n) (k:=52) O;have e2:=ga (a:=n/4503599627370496) (b:=2047) O O;have u:=ga (a:=n) (b:=4503599627370495) G O;rw[show((2047:Nat):Int)=2047 from rfl,show(2047:Nat)=2^11-1 by decide,ym]at e2;rw[show((4503599627370495:Nat):Int)=4503599627370495 from rfl,show(4503599627370495:Nat)=2^52-1 by decide,ym]at u;rw[qE,J,e2,u,wQ,wi O O];unfold de eW;congr 3<;>omega
def Zt {m:Nat} {f:Int} (h:b7 f):sw m f=some (decide (aS f),(),()):=by rw[sw,jI h,bS];dsimp only;by_cases c:aS f;{rw[decide_eq_true c,show(de f !=2047)=true by simpa [aS]using c]};{rw[decide_eq_false c,show(de f !=2047)=false by simpa [aS]using c]}
def qwy {n:Nat} (h:n<18446744073709551616):qm .u64 (n:Int) 9223372036854775808=if 9223372036854775808<=n then 9223372036854775808 else 0:=by have e:=ga (a:=n) (b:=9223372036854775808) h O;rw[show((9223372036854775808:Nat):Int)=9223372036854775808 from rfl]at e;rw[e];have u:n&&&9223372036854775808=if n.testBit 63 then 9223372036854775808 else 0:=by{rw[show(9223372036854775808:Nat)=2^63 by decide];apply ON;intro i;rw[La,Co];by_cases c:63=i;{subst c;cases u:n.testBit 63;{simp};{rw[iP rfl,Co];simp}};{cases u:n.testBit 63;{simp[c]};{rw[iP rfl,Co];simp[c]}}};have G:n.testBit 63=decide (9223372036854775808<=n):=by{rw[Nat.testBit_eq_decide_div_mod_eq];rw[show(2:Nat)^63=9223372036854775808 by decide];by_cases c:9223372036854775808<=n;{rw[decide_eq_decide];omega};{rw[decide_eq_decide];omega}};rw[u,G];by_cases c:9223372036854775808<=n;{simp[c]};{simp[c]}
def q3d {m:Nat} {f:Int} (h:b7 f):uP m f=some (iD f,(),()):=by obtain⟨n,rfl⟩: ∃n:Nat,f=(n:Int):=⟨f.toNat,by have:=h.1;omega⟩;have u:n<18446744073709551616:=by{have:=h.2;omega};rw[uP,qwy u];unfold iD;by_cases c:9223372036854775808<=n;{rw[iP c,show decide ((9223372036854775808:Int)<=(n:Int))=true by rw[decide_eq_true_eq];omega];rfl};{rw[ae c,show decide ((9223372036854775808:Int)<=(n:Int))=false by rw[decide_eq_false_iff_not];omega];rfl}
def qd1 {x:Int} (u:0<=x) (h2:x<4503599627370496):bf .u64 x 4503599627370496=x+4503599627370496:=by obtain⟨n,rfl⟩: ∃n:Nat,x=(n:Int):=⟨x.toNat,O⟩;have h:=mH (a:=n) (b:=4503599627370496) O O;rw[show((4503599627370496:Nat):Int)=4503599627370496 from rfl]at h;rw[h];have:=Nw (i:=52) (b:=n) O 1;rw[KY,show(4503599627370496:Nat)=2^52*1 by decide,<-this];omega
def PG (f:Int):ak (tW f).natAbs<=53:=by apply Qq;have u:=ZP f;have c:(2:Nat)^53=9007199254740992:=by{decide};unfold tW;cases iD f<;>(split<;>simp<;>omega)
def Li {f:Int}: -1074<=qQ f/\qQ f<=972:=by have:=NZ f;unfold qQ;split<;>omega
def qo4 {f:Int} (h:aS f):qQ f<=971:=by have:=NZ f;unfold qQ aS at*;split<;>omega
def cw {m:Nat} (hm:3000000<m) {f:Int} (h:b7 f):cA m f=some (d8 f,(),()):=by rw[cA,jI h,bS,aB,aB];dsimp only;have h1:=NZ f;have h2:=ZP f;have hl:=PG f;have he:=Li (f:=f);unfold d8;by_cases c:de f=2047;{rw[iP c,ae (λh=>h c)]};{have hF:aS f:=c;rw[ae c,iP hF,q3d h,qd1 h2.1 h2.2];have run: ∀(q:Int) (ex:Int),0<=q->q<9007199254740992->tW f=(if iD f then-1 else 1)*q->qQ f=ex-> ((jq m (wI q)).bind λK=>(some (iD f,(),()):Option (Bool×Unit×Unit)).bind λy3=>bif y3.1 then (dR m K.1.1 K.1.2.1).bind λy4=>(jr m y4.1.1 y4.1.2.1 ex).bind λJ=>some ((J.1.1,J.1.2.1,J.1.2.2.1,J.1.2.2.2.1,()),((),())) else(jr m K.1.1 K.1.2.1 ex).bind λG=>some ((G.1.1,G.1.2.1,G.1.2.2.1,G.1.2.2.2.1,()),((),())))=some (ax (tW f) (qQ f),(),()):=by{intro q ex q1 q2 eq ee;have hq:ak q.natAbs<=53:=by{rw[eq]at hl;cases hf:iD f<;>rw[hf]at hl<;>simpa using hl};rw[wQ,wi O O,Jb O O O,bS,bS];dsimp only;cases hf:iD f with|false=>{rw[hf]at eq;rw[cond_false,G1 hm O O O,eq,ee,ae (by simp),Ux];rfl}|true=>{rw[hf]at eq;rw[cond_true,NP O (pR O),aM,bS];dsimp only;rw[G1 hm (by rw[xg];omega) O O,eq,ee,iP rfl,Int.neg_one_mul];rfl}};by_cases u:de f=0;{rw[iP u];exact run _ _ h2.1 O (by unfold tW;rw[iP u]) (by unfold qQ;rw[iP u])};{rw[ae u,show wI (de f-1075)=de f-1075 by rw[wQ,wi O O]];exact run _ _ O O (by unfold tW;rw[ae u]) (by unfold qQ;rw[ae u])}}
def qnh {f:Int} (h:b7 f):mj f=decide (aS f):=by have u:=Zt (m:=0) h;rw[qgq]at u;have:=Option.some.inj u;exact(Prod.mk.inj this).1
def qxs {f:Int} (h:aS f):cd (tW f) (qQ f):=by have u:=PG f;have he:=Li (f:=f);exact Y2.2 (Or.inr ⟨O,O⟩)
abbrev qH:Bool×Bool×LI×Int×Unit:=(true,false,[],0,())
def xq {z e:Int} (h: ¬cd z e):ax z e=qH:=GZ h
def PO {z e:Int}:cd (-z) e↔cd z e:=by rw[Y2,Y2,xg];omega
def qv8 {z e:Int} (h:cd z e):ax (-z) e=((ax z e).1,(zB (-(zv (ax z e).2.1 (ax z e).2.2.1))).1,(zB (-(zv (ax z e).2.1 (ax z e).2.2.1))).2.1,(ax z e).2.2.2.1,()):=by obtain⟨w,f,k⟩:=h.nf;have G:cW (-z) e (-w) f:=k.eq.symm.neg;rw[G.mk];have ok:cd (-w) f:=PO.2 k.ok;rw[k.md];show ax (-w) f=(false,(zB (-zv (zB w).1 (zB w).2.1)).1,(zB (-zv (zB w).1 (zB w).2.1)).2.1,f,());rw[aM];unfold ax;by_cases u:w=0;{subst u;rw[k.zero rfl,show(-0:Int)=0 from rfl,iP rfl,K8,CQ,show(0:Int).natAbs=0 from rfl,Q5];rfl};{have hn:(-w).natAbs≠0:=O;have K: ¬(f+(ak (-w).natAbs:Int)>65536\/f+(tz (-w).natAbs:Int)< -65536):=by{rcases Y2.1 ok with h|h;{omega};{omega}};have J:tz (-w).natAbs=0:=by{rw[xg];exact U8 (k.odd u)};rw[ae O,ae K,J,yj,Nat.div_one,nZ,K1];rfl}
def NF.lim {z e w f:Int} (h:NF z e w f):(zB w).2.1.length<=10000:=by have:=yG h.len;omega
def qq7 {m:Nat} (hm:3000000<m) {z e:Int}:Bp m (ax z e).1 (ax z e).2.1 (ax z e).2.2.1 (ax z e).2.2.2.1=some (ax (-z) e,(),()):=by rw[Bp,Ly hm,bS];dsimp only;by_cases h:cd z e;{obtain⟨w,f,k,K,u,J⟩:=X5 h;have G:Sz (ax z e).2.2.1:=by{rw[u];exact k.Sz};rw[decide_eq_true h,cond_true,NP O G,bS,qv8 h]};{rw[decide_eq_false h,cond_false,xq (mt PO.1 h),xq h]}
def P3 {w f b:Int} (h:b<=f):ak (sc w f b).natAbs<=(f-b).toNat+ak w.natAbs:=by unfold sc;exact q7g
def ql4 {m:Nat} (hm:3000000<m) {a B b C w f x h:Int} (k:NF a B w f) (l:NF b C x h) (b1 b2:Bool):
 FT m b1 (zB w).1 (zB w).2.1 f b2 (zB x).1 (zB x).2.1 h=some ((zB (sc w f (min f h)),zB (sc x h (min f h)),min f h,()),(),(),()):=by have e1:(if h<f then h else f)=min f h:=by{split<;>omega};have d0:=k.lo;have c0:=k.hi;have b0:=l.lo;have a0:=l.hi;have K:=k.len;have J:=l.len;have G:wI (f-min f h)=f-min f h:=by{rw[wQ,wi O O]};have u:wI (h-min f h)=h-min f h:=by{rw[wQ,wi O O]};rw[FT,e1,G,u,eI hm O O O,bS,eI hm O O O,bS];rfl
def o7 {a B w f b:Int} (k:NF a B w f) (u:b<=f) (h2: -65536<=b):ak (sc w f b).natAbs<=300000:=by have:=P3 (w:=w) u;have:=k.len;have:=k.hi;omega
def qxh {a b B w f x h:Int} (k:NF a B w f) (l:NF b B x h):cW (sc w f (min f h)+sc x h (min f h)) (min f h) (a+b) B:=
 ((cW.sc O).trans k.eq).add (c:=0) (g:=0) ((cW.sc O).trans l.eq)
def qp1 {m:Nat} (hm:3000000<m) {a b B:Int}:
 iA m (ax a B).1 (ax a B).2.1 (ax a B).2.2.1 (ax a B).2.2.2.1 (ax b B).1 (ax b B).2.1 (ax b B).2.2.1 (ax b B).2.2.2.1=some (if cd a B/\cd b B then ax (a+b) B else qH,(),(),()):=by rw[iA,qta hm,bS];dsimp only;by_cases h:cd a B/\cd b B;{obtain⟨w,f,k,K,J,G⟩:=X5 h.1;obtain⟨x,g,l,l1,l2,u⟩:=X5 h.2;have b0:=k.lo;have a0:=l.lo;have:=k.hi;rw[decide_eq_true h,qS,cond_false,iP h,K,J,G,l1,l2,u,ql4 hm k l,bS];dsimp only;have s1:=o7 k (b:=min f g) O O;have s2:=o7 l (b:=min f g) O O;rw[NQ O (pR O) (pR O),aM,aM,bS];dsimp only;rw[G1 hm (zQ (Y0 s1 s2) O) O O,(qxh k l).mk];rfl};{rw[decide_eq_false h,ae h];rfl}
def Lz {m:Nat} (hm:3000000<m) {a b B:Int}:
 ud m (ax a B).1 (ax a B).2.1 (ax a B).2.2.1 (ax a B).2.2.2.1 (ax b B).1 (ax b B).2.1 (ax b B).2.2.1 (ax b B).2.2.2.1=some (if cd a B/\cd b B then ax (a-b) B else qH,(),(),()):=by rw[ud,qq7 hm,bS];dsimp only;rw[qp1 hm,bS,<-Int.sub_eq_add_neg];simp only[PO]
def Lw {m:Nat} (hm:4000000<=m) {a b B C:Int}:
 iB m (ax a B).1 (ax a B).2.1 (ax a B).2.2.1 (ax a B).2.2.2.1 (ax b C).1 (ax b C).2.1 (ax b C).2.2.1 (ax b C).2.2.2.1=some (if cd a B/\cd b C then ax (a*b) (B+C)else qH,(),(),()):=by rw[iB,qta O,bS];dsimp only;by_cases h:cd a B/\cd b C;{obtain⟨w,f,k,k1,K,J⟩:=X5 h.1;obtain⟨x,g,l,l1,l2,G⟩:=X5 h.2;have e0:=k.lo;have d0:=k.hi;have c0:=l.lo;have b0:=l.hi;have n1:=k.len;have n2:=l.len;have hl:=k.lim;have a0:=l.lim;have u:wI (f+g)=f+g:=by{rw[wQ,wi O O]};rw[decide_eq_true h,qS,cond_false,iP h,k1,K,J,l1,l2,G,X1 hm (dG w) (dG x) O,aM,aM,bS,u];dsimp only;rw[G1 O (zQ Wf O) O O,(k.eq.mul l.eq).mk];rfl};{rw[decide_eq_false h,ae h];rfl}
def xp (n:Int):Int:=max (min n 262144) (-262144)
end Go.Vs.F
