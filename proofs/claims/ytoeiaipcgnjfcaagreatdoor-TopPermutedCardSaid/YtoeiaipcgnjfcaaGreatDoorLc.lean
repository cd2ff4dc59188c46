import Derived.Test.YtoeiaipcgnjfcaaGreatDoorLb
set_option linter.unusedVariables false
set_option linter.unusedSimpArgs false
set_option linter.unusedSectionVars false
set_option linter.defProp false
namespace Go.Vs.F
def aW (z e:Int):Bool×Bool×LI×Int×Unit:=
 if z=0 then(false,false,[],0,())
 else if e+(au z.natAbs:Int)>65536\/e+(tz z.natAbs:Int)< -65536 then(true,false,[],0,())
 else(false,decide (z<0),lim (z.natAbs/2^tz z.natAbs),e+(tz z.natAbs:Int),())
def cP (z e:Int):Prop:=(aW z e).1=false
def sc (z e b:Int):Int:=z*2^(e-b).toNat
def dK (z e w f:Int):Prop:= ∃b,b<=e/\b<=f/\sc z e b=sc w f b
def qpo (e:Int):aW 0 e=(false,false,[],0,()):=rfl
def Ya {z e:Int}:cP z e↔z=0\/(e+(au z.natAbs:Int)<=65536/\ -65536<=e+(tz z.natAbs:Int)):=by
 unfold cP aW;by_cases h:z=0
 . simp[h]
 . rw[ao h];by_cases h2:e+(au z.natAbs:Int)>65536\/e+(tz z.natAbs:Int)< -65536
   . rw[iP h2];simp only[h,false_or];constructor
     . intro h;cases h
     . intro h;omega
   . rw[ao h2];simp only[h,false_or,true_iff];omega
def qq6 (e:Int):cP 0 e:=rfl
instance {z e:Int}:Decidable (cP z e):=inferInstanceAs (Decidable (_=_))
def FQ {z e:Int} (h: ¬cP z e):aW z e=(true,false,[],0,()):=by
 unfold cP aW at*;split at h
 . exact absurd rfl h
 . rename_i h1;rw[ao h1];split at h
   . rename_i h2;rw[iP h2]
   . exact absurd rfl h
def Ye {z:Int} {k:Nat}:(z*2^k).natAbs=2^k*z.natAbs:=by
 rw[Na,Int.natAbs_pow,zh];rfl
def Yu {k n:Nat} (h:n≠0):au (2^k*n)=k+au n:=by
 have:=OT (y:=0) h (f9 (n:=k) (show 0<2 by omega))
 rwa [zU]at this
def JL (k:Nat):0<(2:Int)^k:=Int.pow_pos O
def ZN {z:Int} {k:Nat}:z*2^k<0↔z<0:=by
 have:=JL k;constructor
 . intro h;refine Int.not_le.1 λh2=> ?_
   have:=Int.mul_nonneg h2 (Int.le_of_lt this);omega
 . intro h;exact Int.mul_neg_of_neg_of_pos h this
def qnt {z:Int} {k:Nat} {e:Int}:aW (z*2^k) e=aW z (e+(k:Int)):=by
 unfold aW;by_cases h:z=0
 . subst h;rw[Int.zero_mul];rfl
 . have h2:z*2^k≠0:=Int.mul_ne_zero h (by have:=JL k;omega)
   have hn:z.natAbs≠0:=O;rw[ao h,ao h2,Ye,Yu hn,Rt hn,xt,Nat.mul_div_mul_left _ _ (f9 O)];simp only[ZN];rw[FC,FC,<-Int.add_assoc,<-Int.add_assoc]
def Cj {z e b:Int} (h:b<=e):aW (sc z e b) b=aW z e:=by
 unfold sc;rw[qnt];congr 1;omega
def dK.mk {z e w f:Int}:dK z e w f->aW z e=aW w f
 |⟨b,h1,h2,h3⟩=>by rw[<-Cj h1,<-Cj h2,h3]
def NS {z e b c:Int} (h1:c<=b) (h2:b<=e):sc z e c=sc z e b*2^(b-c).toNat:=by
 unfold sc;rw[M7,<-Int.pow_add];congr 2;omega
def qki {x y:Int} {k:Nat} (h:x*2^k=y*2^k):x=y:=
 Int.eq_of_mul_eq_mul_right (by have:=JL k;omega) h
def dK.low {z e w f:Int} (h:dK z e w f) {c:Int} (h1:c<=e) (h2:c<=f):sc z e c=sc w f c:=by
 obtain⟨b,hb1,hb2,h3⟩:=h;by_cases hc:c<=b
 . rw[NS hc hb1,NS hc hb2,h3]
 . rw[NS (b:=c) (c:=b) O h1,NS (b:=c) (c:=b) O h2]at h3;exact qki h3
def dK.refl (z e:Int):dK z e z e:=⟨e,O,O,rfl⟩
def dK.symm {z e w f:Int}:dK z e w f->dK w f z e
 |⟨b,h1,h2,h3⟩=>⟨b,h2,h1,h3.symm⟩
def dK.trans {z e w f y g:Int} (h:dK z e w f) (h2:dK w f y g):dK z e y g:=by
 obtain⟨c,c1,c2,c3⟩: ∃c:Int,c<=e/\c<=f/\c<=g:=⟨min e (min f g),O,O,O⟩;exact⟨c,c1,c3,(h.low c1 c2).trans (h2.low c2 c3)⟩
def dK.zero (e f:Int):dK 0 e 0 f:=⟨min e f,O,O,by unfold sc;rw[Int.zero_mul,Int.zero_mul]⟩
def VW (z e:Int):sc z e e=z:=by unfold sc;rw[Int.sub_self];exact Int.mul_one z
def dK.sc {z e b:Int} (h:b<=e):dK (sc z e b) b z e:=⟨b,O,h,by rw[VW]⟩
def dK.add {z e w f y c x g:Int} (h1:dK z e w f) (h2:dK y e x f):dK (z+y) e (w+x) f:=by
 obtain⟨c,c1,c2⟩: ∃c:Int,c<=e/\c<=f:=⟨min e f,O,O⟩;refine⟨c,c1,c2,?_⟩;have a:=h1.low c1 c2;have b:=h2.low c1 c2;unfold Vs.F.sc at*;rw[Int.add_mul,Int.add_mul,a,b]
def dK.neg {z e w f:Int}:dK z e w f->dK (-z) e (-w) f
 |⟨b,h1,h2,h3⟩=>⟨b,h1,h2,by unfold Vs.F.sc at*;rw[M8,M8,h3]⟩
def dK.mul {z e w f y g x h:Int} (h1:dK z e w f) (h2:dK y g x h):dK (z*y) (e+g) (w*x) (f+h):=by
 obtain⟨b,b1,b2,b3⟩:=h1;obtain⟨c,c1,c2,c3⟩:=h2;refine⟨b+c,O,O,?_⟩
 have k: ∀{z e y g:Int},b<=e->c<=g->Vs.F.sc (z*y) (e+g) (b+c)=Vs.F.sc z e b*Vs.F.sc y g c:=by
  intro z e y g h1 h2;unfold Vs.F.sc;rw[show(e+g-(b+c)).toNat=(e-b).toNat+(g-c).toNat by omega,Int.pow_add]
  simp only[M7,Iq,Int.mul_left_comm]
 rw[k b1 c1,k b2 c2,b3,c3]
def dK.sgn {z e w f:Int} (h:dK z e w f):Vs.F.sgn z=Vs.F.sgn w:=by
 obtain⟨b,h1,h2,h3⟩:=h
 have k: ∀z e:Int,Vs.F.sgn (Vs.F.sc z e b)=Vs.F.sgn z:=by
  intro z e;unfold Vs.F.sgn Vs.F.sc;simp only[ZN]
  have:0<z*2^(e-b).toNat↔0<z:=by
   have:=JL (e-b).toNat;constructor
   . intro h;exact Int.pos_of_mul_pos_left h this
   . intro h;exact Int.mul_pos h this
  simp only[this]
 rw[<-k z e,<-k w f,h3]
def JN {n k:Nat}:au (n/2^k)<=au n:=by
 by_cases h:n/2^k=0
 . rw[h,Z7];omega
 . have h0:n≠0:=by rintro rfl;simp at h
   rw[X8 h,X8 h0]
   have:(n/2^k).log2<n.log2+1:=by
    rw[xQ h];exact xP (tQ ..) Nat.lt_log2_self
   omega
def PT {n:Nat} (h:n≠0):n/2^tz n≠0/\n=2^tz n*(n/2^tz n)/\(n/2^tz n)%2=1:=by
 obtain⟨q,h1,h2⟩:=I8 h
 have:n/2^tz n=q:=by
  conv=>lhs;arg 1;rw[h1]
  exact Nat.mul_div_cancel_left q (f9 O)
 rw[this];exact⟨O,h1,h2⟩
def Q1 {n:Nat} (h:n≠0):au n=tz n+au (n/2^tz n):=by
 obtain⟨h1,h2,_⟩:=PT h;conv=>lhs;rw[h2]
 exact Yu h1
def YO {z:Int} {q:Nat}:((if z<0 then-1 else 1)*(q:Int)).natAbs=q:=by split<;>omega
def CL {z:Int} {q:Nat} (h:q≠0):z<0↔((if z<0 then-1 else 1)*(q:Int))<0:=by split<;>omega
def qta {z:Int} {q:Nat}:((if z<0 then-1 else 1)*(q:Int))=0->q=0:=by split<;>omega
def Uu {z:Int}:(if z<0 then-1 else 1)*(z.natAbs:Int)=z:=by split<;>omega
structure NF (z e w f:Int):Prop where
 eq:dK w f z e
 md:aW z e=(false,decide (w<0),lim w.natAbs,f,())
 zero:w=0->f=0
 odd:w≠0->w.natAbs%2=1
 lo: -65536<=f
 hi:f+(au w.natAbs:Int)<=65536
def NF.len {z e w f:Int} (h:NF z e w f):au w.natAbs<=131072:=by have:=h.lo;have:=h.hi;omega
def cP.nf {z e:Int} (h:cP z e): ∃w f,NF z e w f:=by
 by_cases hz:z=0
 . subst hz;exact⟨0,0,dK.zero ..,by rw[qpo];simp[Qj],λ_=>rfl,λh=>absurd rfl h,O,by decide⟩
 . rcases Ya.1 h with h|⟨h1,h2⟩
   . exact absurd h hz
   . have hn:z.natAbs≠0:=O;obtain⟨k1,k2,k3⟩:=PT hn;have hb:=Q1 hn
     have hmk:aW z e=(false,decide (z<0),lim (z.natAbs/2^tz z.natAbs),e+(tz z.natAbs:Int),()):=by
      unfold aW;rw[ao hz,ao O]
     have hN:=YO (z:=z) (q:=z.natAbs/2^tz z.natAbs);refine⟨(if z<0 then-1 else 1)*(((z.natAbs/2^tz z.natAbs:Nat)):Int),e+(tz z.natAbs:Int),⟨e,O,O,?_⟩,?_,?_,?_,O,?_⟩
     . rw[VW];unfold sc;rw[show(e+(tz z.natAbs:Int)-e).toNat=tz z.natAbs by omega,M7]
       have:(((z.natAbs/2^tz z.natAbs:Nat)):Int)*2^tz z.natAbs=(z.natAbs:Int):=by
        conv=>rhs;rw[k2]
        rw[qZ,Iq,nY];rfl
       rw[this,Uu]
     . rw[hmk,hN,decide_eq_decide.2 (CL k1)]
     . intro h0;exact absurd (qta h0) k1
     . intro _;rw[hN];exact k3
     . rw[hN];omega
def NF.ok {z e w f:Int} (h:NF z e w f):cP w f:=by
 unfold cP;rw[h.eq.mk,h.md]
def Qu {n k:Nat} (h:au n<=k):(lim n).length<=k/32+1:=by
 refine Xl ?_;refine tL (Zc n) ?_;rw[show(4294967296:Nat)=2^32 by decide,<-Nat.pow_mul]
 exact zW O O
def qqw {n k:Nat} (h:(lim n).length<=k):au n<=32*k:=by
 by_cases h0:n=0
 . subst h0;rw[Z7];omega
 . have h1:=cd (Q9 n);rw[qx]at h1
   have h2:n<2^(32*k):=by
    refine tL h1 ?_;rw[show(4294967296:Nat)=2^32 by decide,<-Nat.pow_mul]
    exact zW O O
   rw[X8 h0];exact(xQ h0).2 h2
def Yd {n k:Nat} (h:n<=k):au n<=au k:=by
 by_cases h0:n=0
 . subst h0;rw[Z7];omega
 . have hk:k≠0:=O;rw[X8 h0,X8 hk];have:n.log2<k.log2+1:=(xQ h0).2 (xP h Nat.lt_log2_self);omega
def Qr {n k:Nat} (h:n<2^k):au n<=k:=by
 by_cases h0:n=0
 . subst h0;rw[Z7];omega
 . rw[X8 h0];exact(xQ h0).2 h
def Rc {a b k:Nat} (ha:au a<=k) (hb:au b<=k):au (a+b)<=k+1:=by
 apply Qr;have h1:=Zc a;have h2:=Zc b;have h3:2^au a<=2^k:=zW O ha;have h4:2^au b<=2^k:=zW O hb;rw[gV];omega
def Ov {a b:Nat}:au (a*b)<=au a+au b:=by
 apply Qr;rw[xt];exact Nat.mul_lt_mul_of_lt_of_le (Zc a) (tp (Zc b)) (f9 O)
def OP {a b:Int} {k:Nat} (ha:au a.natAbs<=k) (hb:au b.natAbs<=k):au (a+b).natAbs<=k+1:=
 zf (Yd (show(a+b).natAbs<=a.natAbs+b.natAbs by omega)) (Rc ha hb)
def YR {a b:Int}:au (a*b).natAbs<=au a.natAbs+au b.natAbs:=by
 rw[Na];exact Ov
def W7 {a:Int} {k:Nat}:au (a*2^k).natAbs<=k+au a.natAbs:=by
 by_cases h:a.natAbs=0
 . rw[Ye,h,gd,Z7];omega
 . rw[Ye,Yu h];omega
def FF (z:Int):(zB z).1=decide (z<0):=rfl
def FE (z:Int):(zB z).2.1=lim z.natAbs:=rfl
def d7 (z:Int):Lm (zB z).2.1:=Q9 _
def xG {z:Int} {k:Nat} (h:au z.natAbs<=k):(zB z).2.1.length<=k/32+1:=Qu h
def ff {m:Nat} (hm:3000000<m) {z:Int} (hz:au z.natAbs<=1000000) {k:Int} (h0:0<=k) (hk:k<=1048576):jP m (zB z).1 (zB z).2.1 k=some (zB (z*2^k.toNat),(),(),()):=by
 have hl:=xG hz;obtain⟨n,rfl⟩: ∃n:Nat,k=(n:Int):=⟨k.toNat,O⟩;rw[jP,Ww hm (d7 z) O O,bS,ba];rfl
def od {m:Nat} (hm:3000000<m) {z:Int} (hz:au z.natAbs<=1000000) {k:Nat} (hk:k<=1048576):v8 m (zB z).1 (zB z).2.1 (k:Int)=some (zB (z/2^k),(),(),()):=by
 have hl:=xG hz;obtain⟨m',rfl⟩: ∃m',m=m'+1:=⟨m-1,O⟩;rw[v8,nN,bQ,ao O,bS];dsimp only;by_cases h0:k=0
 . subst h0;rw[show wI (0-((0:Nat):Int))=((0:Nat):Int)from by decide,Ww hm (d7 z) O O,bS,ba]
   dsimp only;rw[show z*2^0=z/2^0 by rw[Int.pow_zero,Int.mul_one,Int.ediv_one]]
 . rw[show wI (0-(k:Int))= -(k:Int) by rw[wQ,wi O O];omega,ql4 hm (d7 z) O O O,bS,ba,nY]
   rfl
def qqo {z:Int} (h:z≠0):zB (z/2^tz z.natAbs)=(decide (z<0),lim (z.natAbs/2^tz z.natAbs),()):=by
 obtain⟨k1,k2,k3⟩:=PT (n:=z.natAbs) O
 have:z=((if z<0 then-1 else 1)*((z.natAbs/2^tz z.natAbs:Nat):Int))*2^tz z.natAbs:=by
  rw[M7]
  have:(((z.natAbs/2^tz z.natAbs:Nat)):Int)*2^tz z.natAbs=(z.natAbs:Int):=by
   conv=>rhs;rw[k2]
   rw[qZ,Iq,nY];rfl
  rw[this,Uu]
 have h2:z/2^tz z.natAbs=(if z<0 then-1 else 1)*((z.natAbs/2^tz z.natAbs:Nat):Int):=by
  conv=>lhs;arg 1;rw[this]
  rw[Int.mul_ediv_cancel];have:=JL (tz z.natAbs);omega
 have h3:=CL (z:=z) k1;have h4:=YO (z:=z) (q:=z.natAbs/2^tz z.natAbs);rw[<-h2]at h3 h4;unfold zB;rw[h4,decide_eq_decide.2 h3.symm]
theorem Qy {z:Int}:sgn z=0↔z=0:=by unfold sgn;repeat' split
                                   all_goals omega
def Sp {n:Nat}:tz n<=au n:=by
 by_cases h:n=0
 . subst h;rw[QG];omega
 . rw[Q1 h];omega
def Vy {m:Nat} (hm:3000000<m) {z:Int} (hz:au z.natAbs<=900000) {e:Int} (h1: -1000000000<=e) (h2:e<=1000000000):gQ m false (zB z).1 (zB z).2.1 e=some ((aW z e,decide (cP z e),()),(),()):=by
 have hl:=xG hz;have hS:Sz (zB z).2.1:=⟨d7 z,O⟩;have hv:vl (zB z).2.1=z.natAbs:=qx _;rw[gQ,cond_false,qt2 O hS,bS,ba];dsimp only;rw[Cl O hS,bS,ba,aF];dsimp only;by_cases h:z=0
 . subst h;rw[iP (Qy.2 rfl)];rfl
 . have hn:z.natAbs≠0:=O;have ht:=Sp (n:=z.natAbs);rw[ao (λe=>h (Qy.1 e)),q0x O hS O,bS,H9 O hS,bS,hv]
   dsimp only
   rw[show wI (65536-((au z.natAbs:Nat):Int))=65536-((au z.natAbs:Nat):Int) by rw[wQ,wi O O],
    show wI ((-65536)-((tz z.natAbs:Nat):Int))=(-65536)-((tz z.natAbs:Nat):Int) by rw[wQ,wi O O],
    show wI (e+((tz z.natAbs:Nat):Int))=e+((tz z.natAbs:Nat):Int) by rw[wQ,wi O O],
    bQ,bQ,od hm O O,bS,qqo h]
   by_cases hk:cP z e
   . rcases Ya.1 hk with h0|⟨k1,k2⟩
     . exact absurd h0 h
     . rw[ao O,ao O,decide_eq_true hk];unfold aW;rw[ao h,ao O]
   . have hk2: ¬(e+(au z.natAbs:Int)<=65536/\ -65536<=e+(tz z.natAbs:Int)):=λc=>hk (Ya.2 (Or.inr c))
     rw[FQ hk,decide_eq_false hk];by_cases c:e>65536-((au z.natAbs:Nat):Int)
     . rw[iP c];rfl
     . rw[ao c,iP O];rfl
def JE {m:Nat} (hm:3000000<m) {z:Int} (hz:au z.natAbs<=900000) {e:Int} (h1: -1000000000<=e) (h2:e<=1000000000):jR m (zB z).1 (zB z).2.1 e=some (aW z e,(),(),()):=by
 rw[jR,Vy hm hz h1 h2];rfl
def VI {m:Nat} (hm:3000000<m) {z e:Int} (h:cP z e):gQ m (aW z e).1 (aW z e).2.1 (aW z e).2.2.1 (aW z e).2.2.2.1=some ((aW z e,true,()),(),()):=by
 obtain⟨w,f,k⟩:=h.nf;rw[k.md];have:=Vy hm (z:=w) (by have:=k.len;omega) (e:=f) (by have:=k.lo;omega) (by have:=k.hi;omega)
 rw[FF,FE]at this;rw[this,k.eq.mk,k.md,decide_eq_true k.ok]
def HX {m:Nat} (hm:3000000<m) {z e:Int}:gQ m (aW z e).1 (aW z e).2.1 (aW z e).2.2.1 (aW z e).2.2.2.1=some ((aW z e,decide (cP z e),()),(),()):=by
 by_cases h:cP z e
 . rw[VI hm h,decide_eq_true h]
 . rw[FQ h,decide_eq_false h];rfl
def Rx {m:Nat} (hm:3000000<m) {z e:Int}:nH m (aW z e).1 (aW z e).2.1 (aW z e).2.2.1 (aW z e).2.2.2.1=some (aW z e,(),()):=by
 rw[nH,HX hm];rfl
def Jg {z e:Int} (h:cP z e): ∃w f,NF z e w f/\(aW z e).2.1=(zB w).1/\(aW z e).2.2.1=(zB w).2.1/\(aW z e).2.2.2.1=f:=by
 obtain⟨w,f,k⟩:=h.nf;refine⟨w,f,k,?_⟩;rw[k.md];exact⟨rfl,rfl,rfl⟩
def NF.Sz {z e w f:Int} (h:NF z e w f):Vs.F.Sz (zB w).2.1:=⟨d7 w,by have:=xG h.len;omega⟩
def NF.sgn {z e w f:Int} (h:NF z e w f):Vs.F.sgn w=Vs.F.sgn z:=h.eq.sgn
def Ox {m:Nat} (hm:3000000<m) {z e:Int} (h:cP z e):u7 m (aW z e).1 (aW z e).2.1 (aW z e).2.2.1 (aW z e).2.2.2.1=some (sgn z,(),()):=by
 obtain⟨w,f,k,k1,k2,k3⟩:=Jg h;rw[u7,VI hm h,bS];dsimp only;rw[k1,k2,Cl O k.Sz,bS,ba,k.sgn]
def qvd {m:Nat} (hm:3000000<m) {z e y f:Int}:Aa m (aW z e).1 (aW z e).2.1 (aW z e).2.2.1 (aW z e).2.2.2.1 (aW y f).1 (aW y f).2.1 (aW y f).2.2.1 (aW y f).2.2.2.1=some ((aW z e,aW y f,decide (cP z e/\cP y f),()),(),(),()):=by
 rw[Aa,HX hm,bS,HX hm,bS];dsimp only;rw[Bool.decide_and];cases decide (cP z e)<;>rfl
def rb (neg:Bool) (half:Int) (odd:Bool) (mode:Int):Bool:=
 if mode=1 then neg else if mode=2 then !neg else if mode=3 then false else decide (0<half)||(decide (half=0)&&odd)
def eC (v n:Nat) (more:Bool):Int:=
 if 2*(v%2^n)<2^n then-1 else if 2*(v%2^n)=2^n/\more=false then 0 else 1
def je (neg:Bool) (v n:Nat) (more:Bool) (mode:Int):Nat:=
 if v%2^n=0/\more=false then v/2^n else v/2^n+(if rb neg (eC v n more) (v/2^n%2==1) mode then 1 else 0)
def ke (neg:Bool) (f:Int):Int:=if neg then f+9223372036854775808 else f
def gX (neg:Bool) (mode:Int):Int:=
 if mode=3\/(mode=1/\neg=false)\/(mode=2/\neg=true)then ke neg 9218868437227405311 else ke neg 9218868437227405312
def kh (neg:Bool) (n:Nat) (unit mode:Int):Int:=
 if n=9007199254740992 then(if unit+1076>=2047 then gX neg mode else ke neg ((unit+1076)*4503599627370496))
 else if n<4503599627370496 then ke neg (n:Int)
 else if unit+1075>=2047 then gX neg mode else ke neg ((unit+1075)*4503599627370496+((n:Int)-4503599627370496))
def bj (v:Nat) (e:Int):Int:=max (e+(au v:Int)-53) (-1074)
def eP (neg:Bool) (v:Nat) (e:Int) (more:Bool) (mode:Int):Nat:=
 if bj v e<=e then v*2^(e-bj v e).toNat else je neg v (bj v e-e).toNat more mode
def uw (neg:Bool) (v:Nat) (e:Int) (more:Bool) (mode:Int):Int:=kh neg (eP neg v e more mode) (bj v e) mode
def qtm {neg:Bool} {v n:Nat} {more:Bool} {mode:Int}:je neg v n more mode<=v/2^n+1:=by
 unfold je;split
 . omega
 . split<;>omega
def Ru (v:Nat) (e:Int): -1074<=bj v e:=by unfold bj;omega
def Ry {neg:Bool} {v:Nat} {e:Int} {more:Bool} {mode:Int}:eP neg v e more mode<=9007199254740992:=by
 unfold eP;have hb:=Zc v;split
 . rename_i h;have h1:(au v:Int)+(e-bj v e)<=53:=by unfold bj at*;omega
   have h2:v*2^(e-bj v e).toNat<=2^au v*2^(e-bj v e).toNat:=zO _ (tp hb);rw[<-Nat.pow_add]at h2;have h3:2^(au v+(e-bj v e).toNat)<=2^53:=zW O O;have:(2:Nat)^53=9007199254740992:=by decide
   omega
 . rename_i h;refine zf qtm ?_;have h1:(au v:Int)<=53+(bj v e-e):=by unfold bj at*;omega
   have:v/2^(bj v e-e).toNat<2^53:=by
    rw[B7 (f9 O),<-Nat.pow_add];exact tL hb (zW O O)
   have:(2:Nat)^53=9007199254740992:=by decide
   omega
def qh1 {neg:Bool} {v:Nat} (hv:v≠0) {e:Int} {more:Bool} {mode:Int} (h:1024<=e+(au v:Int)-1):uw neg v e more mode=gX neg mode:=by
 have hu:bj v e=e+(au v:Int)-53:=by unfold bj;omega
 have hb:=JB hv;have hp:0<au v:=by rw[X8 hv];omega
 have hge:4503599627370496<=eP neg v e more mode:=by
  have c52:(2:Nat)^52=4503599627370496:=by decide
  unfold eP;split
  . rename_i h2;have h3:2^(au v-1)*2^(e-bj v e).toNat<=v*2^(e-bj v e).toNat:=zO _ hb;rw[<-Nat.pow_add,show au v-1+(e-bj v e).toNat=52 by omega]at h3
    omega
  . rename_i h2
    have h3:2^52<=v/2^(bj v e-e).toNat:=by
     rw[HI (f9 O),<-Nat.pow_add];refine zf ?_ hb;exact zW O O
    have:v/2^(bj v e-e).toNat<=je neg v (bj v e-e).toNat more mode:=by unfold je;split<;>omega
    omega
 unfold uw kh;by_cases h1:eP neg v e more mode=9007199254740992
 . rw[iP h1,iP O]
 . rw[ao h1,ao O,iP O]
def po (z:Int):Int×Bool×Unit:=if-9223372036854775808<=z/\z<9223372036854775808 then(z,true,())else(0,false,())
def sy {l:LI} {k:Nat} (hk:k<l.length) {x:Int} (ex:l.getD k 0=x):l.take (k+1)=l.take k++[x]:=by
 rw[Nm,<-ex,List.getD,List.getElem?_eq_getElem hk];rfl
def VB {l:LI} (hl:Lm l) (h2:l.length<=2) {k x:Nat} (hk:k<l.length) (ex:l.getD k 0=(x:Int)) (hx:x<4294967296):
 bc .u64 ((vl (l.take k):Nat):Int) (bu .u64 (x:Int) ((32*k:Nat):Int))=((vl (l.take (k+1)):Nat):Int):=by
 have hL:=cd (l:=l.take k) λy hy=>hl y (pJ hy)
 rw[zk,show min k l.length=k by omega]at hL
 have hP:(4294967296:Nat)^k=2^(32*k):=by rw[show(4294967296:Nat)=2^32 by decide,<-Nat.pow_mul]
 rw[sy hk ex,Jz,zk,show min k l.length=k by omega]
 have hb:x*2^(32*k)<18446744073709551616:=by
  have:k=0\/k=1:=O;rcases this with rfl|rfl
  . simp;omega
  . simp;omega
 have hc:vl (l.take k)<18446744073709551616:=by
  have:k=0\/k=1:=O;rcases this with rfl|rfl
  . simp[vl]
  . simp at hL;omega
 rw[fD O hb,kj hc hb,Fw,zh,<-Nat.two_pow_add_eq_or_of_lt O,xr,hP]
def Ur (m:Nat) (neg:Bool) (mag:LI) {l:LI} (hl:Lm l) (h2:l.length<=2): ∀(n k:Nat),l.length-k<n->k<=l.length->
 kY m n neg mag ((vl (l.take k):Nat):Int) l (l.length:Int) (k:Int)=some (.inl ((neg,mag,()),((vl l:Nat):Int),()))
 |0,k,h,_=>O
 |n+1,k,h,hk0=>by
  rw[kY,bQ];by_cases hk:k<l.length
  . obtain⟨x,ex,hx⟩:=hl.get hk;have w:wI (32*(k:Int))=((32*k:Nat):Int):=by rw[wQ,wi O O];omega
    rw[iP O,iP O,w,iP O,tN,ex,bA O,VB hl h2 hk ex hx,show wI ((k:Int)+1)=((k+1:Nat):Int)from aB O]
    exact Ur m neg mag hl h2 n (k+1) O O
  . rw[ao O,sj O]
def Oi {n:Nat}:(lim n).length<=2↔n<18446744073709551616:=by
 constructor
 . intro h;have:=cd (Q9 n);rw[qx]at this;have h2:4294967296^(lim n).length<=4294967296^2:=zW O h;omega
 . intro h;exact Xl O
def qui {m:Nat} (hm:2000000<m) {neg:Bool} {l:LI} (h:Sz l):yR m neg l=some (po (zv neg l),(),()):=by
 rw[yR,Qz h.1 (by have:=h.2;omega) (by have:=h.2;omega),bS,bQ]
 dsimp only;unfold po;by_cases c:vl l<18446744073709551616
 . have c2:=Oi.2 c;have e:=Ur m neg l (Q9 (vl l)) c2 m 0 O O;rw[sk,nZ]at e;rw[ao O];rw[show((vl ([]:LI):Nat):Int)=0 from rfl]at e
   rw[e,bS,qx];dsimp only;cases neg with
   |false=>
    have:zv false l=(vl l:Int):=rfl;rw[this,cond_false,bQ,q9,cond_true];by_cases d:(vl l:Int)<9223372036854775808
    . rw[iP d,iP O,wQ,wi O O]
    . rw[ao d,ao O]
   |true=>
    have:zv true l= -(vl l:Int):=rfl;rw[this,cond_true,bQ,bQ,bQ,jM,cond_false,aF];by_cases d0:(vl l:Int)>0
    . rw[iP d0];by_cases d:(vl l:Int)<=9223372036854775808
      . rw[iP d,iP O,dO,Int.emod_eq_of_lt O O,show wI ((vl l:Int)-1)=(vl l:Int)-1 by rw[wQ,wi O O],
         show wI (0-((vl l:Int)-1))=0-((vl l:Int)-1) by rw[wQ,wi O O],show wI (0-((vl l:Int)-1)-1)=0-((vl l:Int)-1)-1 by rw[wQ,wi O O],show 0-((vl l:Int)-1)-1= -(vl l:Int) by omega]
      . rw[ao d,ao O,ao O]
    . rw[ao d0,iP O,iP O,iP O,show(vl l:Int)=0 by omega]
      rfl
 . have c2: ¬(lim (vl l)).length<=2:=λh=>c (Oi.1 h)
   have: ¬(-9223372036854775808<=zv neg l/\zv neg l<9223372036854775808):=by
    unfold zv;cases neg<;>simp<;>omega
   rw[iP O,ao this]
def Z9 (v:Nat):zB (v:Int)=(false,lim v,()):=by
 unfold zB;rw[nx,show decide ((v:Int)<0)=false by simp]
def tf {z:Int} (h:au z.natAbs<=1000000):Sz (zB z).2.1:=⟨d7 z,by have:=xG h;omega⟩
def nT {v:Nat} (h:au v<=1000000):Sz (zB (v:Int)).2.1:=tf (by rwa [nx])
def Yi {k:Nat}:au (2^k)=k+1:=VM (zF _) (by rw[gV];have:=f9 (n:=k) (show 0<2 by omega);omega)
def Sm {v n:Nat} {more:Bool} (h:2*(v%2^n)<2^n):eC v n more= -1:=by unfold eC;rw[iP h]
def qv3 {m:Nat} (hm:3000000<m) (neg:Bool) {v:Nat} (hv:v≠0) (hb:au v<=500000) (e:Int) (more:Bool) {k:Nat} (h0:0<k) (hk:k<=1000000):
 yC m neg (zB (v:Int)).1 (zB (v:Int)).2.1 e more (k:Int)=some ((zB ((v/2^k:Nat):Int),eC v k more,decide (v%2^k=0/\more=false),()),(),(),()):=by
 have hS:Sz (zB (v:Int)).2.1:=nT O;have iu:vl (zB (v:Int)).2.1=v:=by rw[Z9];exact qx v
 rw[yC,H9 O hS,bS,iu,bQ];dsimp only;have hlt:=Zc v;by_cases c:(k:Int)>((au v:Nat):Int)
 . have h1:2^(au v)<=2^(k-1):=zW O O;have h2:2^k=2*2^(k-1):=by rw[show k=k-1+1 by omega,gV,zh];simp
   have hd:v/2^k=0:=B0 O;have hmo:v%2^k=v:=j7 O;rw[iP c,hd,Sm (by rw[hmo];omega),hmo]
   rw[show decide (v=0/\more=false)=false by rw[decide_eq_false_iff_not];exact λh=>hv h.1,show zB ((0:Nat):Int)=(false,[],()) by rw[Z9,Qj]]
 . have hP:0<2^k:=f9 O;have hmod:=l6 v hP;have hda:=IB v (2^k);have hle:au (v/2^k)<=au v:=JN;have b1:au (((v/2^k:Nat):Int)).natAbs<=900000:=by rw[nx];omega
   have e1:(v:Int)/2^k=((v/2^k:Nat):Int):=by rw[IF,nY];rfl
   have e2:((v/2^k:Nat):Int)*2^k=((v/2^k*2^k:Nat):Int):=by rw[qZ,nY];rfl
   have b2:au (v/2^k*2^k)<=1000000:=zf (Yd (Nr ..)) O
   have e3:(v:Int)-((v/2^k*2^k:Nat):Int)=((v%2^k:Nat):Int):=by
    rw[zh];omega
   have b3:au (v%2^k)<=1000000:=zf (Yd (Nat.mod_le ..)) O;have e4:(1:Int)*2^(k-1)=((2^(k-1):Nat):Int):=by rw[Int.one_mul,nY];rfl
   have b4:au (2^(k-1))<=1000000:=by rw[Yi];omega
   have w1:wI ((k:Int)-1)=((k-1:Nat):Int):=by rw[wQ,wi O O];omega
   have h2:2^k=2*2^(k-1):=by
    have:2^(k-1+1)=2*2^(k-1):=by rw[gV,zh]
    rwa [show k-1+1=k by omega]at this
   rw[ao c,od hm (by rw[nx];omega) O,bS,e1]
   dsimp only;rw[ff hm O O O,bS,tN,e2];dsimp only;rw[qv8 O hS (nT b2),ba,ba,e3,bS,St O O O,bS];dsimp only;rw[w1,ff hm (by decide) O O,bS,tN,e4]
   dsimp only;rw[Ut O (nT b3) (nT b4),ba,ba,bS,Cl O (nT b3),ba];dsimp only;simp only[bS];generalize hr:v%2^k=r at*;generalize 2^(k-1)=H at*;have hs:sgn (r:Int)=0↔r=0:=by rw[Qy];omega
   rw[aF];unfold mn eC;rw[hr,h2];by_cases c1:(r:Int)<(H:Int)
   . rw[iP c1,ao O,iP O,aF];by_cases c2:r=0
     . rw[iP (hs.2 c2)];cases more<;>simp[c2]
     . rw[ao (λh=>c2 (hs.1 h))]
       simp[c2]
   . by_cases c3:(H:Int)<(r:Int)
     . rw[ao c1,iP c3,ao O,ao O,ao O,aF,ao (λh=>by have:=hs.1 h;omega)]
       rw[show decide (r=0/\more=false)=false by rw[decide_eq_false_iff_not];omega]
     . have hpos:r≠0:=by
        have:0<2^k:=hP;omega
       rw[ao c1,ao c3,iP rfl,ao O];cases more with
       |false=>
        rw[cond_false,aF,ao (λh=>hpos (hs.1 h)),iP ⟨O,rfl⟩]
        simp[hpos]
       |true=>
        rw[cond_true,aF,ao (λh=>hpos (hs.1 h)),ao (λh=>by cases h.2)]
        simp
def sg (neg:Bool) (n:Nat):Int:=if neg then-(n:Int)else(n:Int)
def Z3 {neg:Bool} {n:Nat}:(sg neg n).natAbs=n:=by unfold sg;cases neg<;>simp
def HZ {n:Nat} (h:n≠0):tz n=0↔n%2=1:=by
 constructor
 . intro h2;obtain⟨q,h3,h4⟩:=I8 h;rw[h2,xU,xS]at h3;omega
 . exact N3
def qby {m:Nat} (hm:3000000<m) (neg:Bool) {v:Nat} (hb:au v<=300000) {e:Int} (more:Bool) {q:Int} (mode:Int) (h:q<=e) (he:e-q<=500000) (h1: -1000000000<=q) (h2:e<=1000000000):
 qn m neg (zB (v:Int)).1 (zB (v:Int)).2.1 e more q mode=some (zB (sg neg (v*2^(e-q).toNat)),(),(),(),()):=by
 have w:wI (e-q)=e-q:=by rw[wQ,wi O O]
 have e1:(v:Int)*2^(e-q).toNat=((v*2^(e-q).toNat:Nat):Int):=by rw[qZ,nY];rfl
 have b:au (v*2^(e-q).toNat)<=1000000:=by
  have:=W7 (a:=(v:Int)) (k:=(e-q).toNat);rw[e1,nx,nx]at this;omega
 rw[qn,bQ,iP h,w,ff hm (by rw[nx];omega) O O,bS,e1]
 dsimp only;cases neg with
 |false=>rfl
 |true=>rw[cond_true,IU O (nT b),ba,bS];rfl
def qd8 {m:Nat} (hm:3000000<m) (neg:Bool) {v:Nat} (hv:v≠0) (hb:au v<=300000) {e:Int} (more:Bool) {q:Int} (mode:Int) (h:e<q) (he:q-e<=500000) (h1: -1000000000<=e) (h2:q<=1000000000):
 qn m neg (zB (v:Int)).1 (zB (v:Int)).2.1 e more q mode=some (zB (sg neg (je neg v (q-e).toNat more mode)),(),(),(),()):=by
 obtain⟨k,hk⟩: ∃k:Nat,q-e=(k:Int):=⟨(q-e).toNat,O⟩;have w:wI (q-e)=(k:Int):=by rw[wQ,wi O O,hk]
 rw[qn,bQ,ao O,w,qv3 hm neg hv O e more O O,hk,tN,bS];dsimp only;have hd:v/2^k<=v:=tQ ..;have bd:au (v/2^k)<=300000:=zf JN hb;have bd1:au (v/2^k+1)<=300001:=Rc bd (by decide)
 have hS:=nT (v:=v/2^k) O;have hS1:=nT (v:=v/2^k+1) O;have h1S:Sz (zB 1).2.1:=tf (by decide)
 have neg0:(kN m (zB ((v/2^k:Nat):Int)).1 (zB ((v/2^k:Nat):Int)).2.1).bind (λy=>some ((y.1.1,y.1.2.1,()),((),(),(),())))=some (zB (-((v/2^k:Nat):Int)),(),(),(),()):=by
  rw[IU O hS,ba];rfl
 have add1:jQ m (zB ((v/2^k:Nat):Int)).1 (zB ((v/2^k:Nat):Int)).2.1 (zB 1).1 (zB 1).2.1=some (zB ((v/2^k+1:Nat):Int),(),(),()):=by
  rw[NU O hS h1S,ba,ba];rfl
 have neg1:(kN m (zB ((v/2^k+1:Nat):Int)).1 (zB ((v/2^k+1:Nat):Int)).2.1).bind (λy=>some ((y.1.1,y.1.2.1,()),((),(),(),())))=some (zB (-((v/2^k+1:Nat):Int)),(),(),(),()):=by
  rw[IU O hS1,ba];rfl
 have plain:(bif neg then(kN m (zB ((v/2^k:Nat):Int)).1 (zB ((v/2^k:Nat):Int)).2.1).bind (λy=>some ((y.1.1,y.1.2.1,()),((),(),(),())))else some (((zB ((v/2^k:Nat):Int)).1,(zB ((v/2^k:Nat):Int)).2.1,()),((),(),(),())))=some (zB (sg neg (v/2^k)),(),(),(),()):=by
  rw[neg0];cases neg<;>rfl
 have away:((jS m 1).bind λy5=>(jQ m (zB ((v/2^k:Nat):Int)).1 (zB ((v/2^k:Nat):Int)).2.1 y5.1.1 y5.1.2.1).bind λy6=>
  bif neg then(kN m y6.1.1 y6.1.2.1).bind (λy=>some ((y.1.1,y.1.2.1,()),((),(),(),())))else some ((y6.1.1,y6.1.2.1,()),((),(),(),())))=some (zB (sg neg (v/2^k+1)),(),(),(),()):=by
  rw[St O O O,bS];dsimp only;rw[add1,bS];dsimp only;rw[neg1];cases neg<;>rfl
 unfold je;by_cases hex:v%2^k=0/\more=false
 . rw[decide_eq_true hex,cond_true,iP hex];exact plain
 . rw[decide_eq_false hex,cond_false,ao hex,aF,aF,aF];unfold rb;by_cases m1:mode=1
   . rw[iP m1,iP m1];cases neg with
     |true=>rw[cond_true,iP rfl];exact away
     |false=>rw[cond_false,ao (by simp),zU];exact plain
   . rw[ao m1,ao m1];by_cases m2:mode=2
     . rw[iP m2,iP m2];cases neg with
       |true=>rw[jM,cond_false,ao (by simp),zU];exact plain
       |false=>rw[q9,cond_true,iP rfl];exact away
     . rw[ao m2,ao m2];by_cases m3:mode=3
       . rw[iP m3,iP m3,ao (by simp),zU];exact plain
       . rw[ao m3,ao m3,bQ,aF];by_cases c1:eC v k more>0
         . rw[iP c1,show decide (0<eC v k more)=true by simpa using c1,NG,iP rfl];exact away
         . rw[ao c1,show decide (0<eC v k more)=false by simpa using c1,Bool.false_or]
           by_cases c2:eC v k more=0
           . rw[iP c2,decide_eq_true c2,pR,Cl O hS,bS,ba,aE];dsimp only;by_cases z:v/2^k=0
             . rw[iP (by rw[Qy];omega),z]
               rw[z]at plain;exact plain
             . have iu:vl (zB ((v/2^k:Nat):Int)).2.1=v/2^k:=by rw[Z9];exact qx _
               rw[ao (by rw[Qy];omega),q0x O hS (by rw[iu];exact z),bS,iu,aF]
               dsimp only;by_cases o:v/2^k%2=1
               . rw[iP (by rw[(HZ z).2 o];rfl),show(v/2^k%2==1)=true by simpa using o,iP rfl];exact away
               . rw[ao (by have:=mt (HZ z).1 o;omega),show(v/2^k%2==1)=false by simpa using o,ao (by simp),zU];exact plain
           . rw[ao c2,decide_eq_false c2,FD,ao (by simp),zU];exact plain
def UK {f:Int} (h1:0<=f) (h2:f<9223372036854775808):bc .u64 f 9223372036854775808=f+9223372036854775808:=by
 obtain⟨n,rfl⟩: ∃n:Nat,f=(n:Int):=⟨f.toNat,O⟩;have h:=kj (a:=n) (b:=9223372036854775808) O O;rw[show((9223372036854775808:Nat):Int)=9223372036854775808 from rfl]at h
 rw[h];have:=IE (i:=63) (b:=n) O 1;rw[Fw,show(9223372036854775808:Nat)=2^63*1 by decide,<-this]
 omega
def JT {m:Nat} {f:Int} (h1:0<=f) (h2:f<9223372036854775808) (neg:Bool):ia m f neg=some (ke neg f,(),(),()):=by
 unfold ia ke;rw[UK h1 h2];cases neg<;>rfl
def q7t {m:Nat} (neg:Bool) (mode:Int):vt m neg mode=some (gX neg mode,(),(),()):=by
 rw[vt,aF,aF,aF];simp only[JT (show(0:Int)<=9218868437227405311 by omega) O,JT (show(0:Int)<=9218868437227405312 by omega) O,bS]
 unfold gX;by_cases m3:mode=3
 . rw[iP m3,iP (.inl m3)]
 . rw[ao m3];by_cases m1:mode=1
   . have m2: ¬mode=2:=O;rw[iP m1,ao m2];cases neg with
     |false=>rw[iP (.inr (.inl ⟨m1,rfl⟩))];rfl
     |true=>rw[ao (by simp[m2,m3])];rfl
   . rw[ao m1];by_cases m2:mode=2
     . rw[iP m2];cases neg with
       |true=>rw[iP (.inr (.inr ⟨m2,rfl⟩))];rfl
       |false=>rw[ao (by simp[m1,m3])];rfl
     . rw[ao m2,ao (by simp[m1,m2,m3])]
def OE {q:Int} {r:Nat} (h1:0<=q) (h2:q<2048) (h3:r<4503599627370496):bc .u64 (bu .u64 (wJ (wI q)) 52) (r:Int)=q*4503599627370496+(r:Int):=by
 obtain⟨n,rfl⟩: ∃n:Nat,q=(n:Int):=⟨q.toNat,O⟩;have e1:bu .u64 (n:Int) 52=((n*2^52:Nat):Int):=fD (a:=n) (k:=52) O O;rw[wQ,wi O O,bA O,e1,kj O O];have:=IE (i:=52) (b:=r) O n;rw[zh,<-this];omega
def Ug {a b:Int}:(if b>a then b else a)=max a b:=by split<;>omega
def ZH {m:Nat} (hm:3000000<m) (neg:Bool) {v:Nat} (hv:v≠0) (hb:au v<=300000) {e:Int} (more:Bool) (mode:Int) (h1: -200000<=e) (h2:e<=200000):
 vF m neg (zB (v:Int)).1 (zB (v:Int)).2.1 e more mode=some (uw neg v e more mode,(),(),()):=by
 have hS:Sz (zB (v:Int)).2.1:=nT O;have iu:vl (zB (v:Int)).2.1=v:=by rw[Z9];exact qx v
 have w1:wI (e+((au v:Nat):Int))=e+((au v:Nat):Int):=by rw[wQ,wi O O]
 have w2:wI (e+((au v:Nat):Int)-1)=e+((au v:Nat):Int)-1:=by rw[wQ,wi O O]
 have w3:wI (e+((au v:Nat):Int)-1-52)=e+((au v:Nat):Int)-1-52:=by rw[wQ,wi O O]
 have hu:max (e+((au v:Nat):Int)-1-52) (-1074)=bj v e:=by unfold bj;congr 1;omega
 have hlog:yS m neg (zB (v:Int)).1 (zB (v:Int)).2.1 e more=some (e+((au v:Nat):Int)-1,(),()):=by
  rw[yS,H9 O hS,bS,iu];dsimp only;rw[w1,w2]
 have hun:=Ru v e;have hun2:bj v e<=600000:=by unfold bj;omega
 have hmul:qn m neg (zB (v:Int)).1 (zB (v:Int)).2.1 e more (bj v e) mode=some (zB (sg neg (eP neg v e more mode)),(),(),(),()):=by
  unfold eP;by_cases c:bj v e<=e
  . rw[iP c];exact qby hm neg hb more mode c O O O
  . rw[ao c];exact qd8 hm neg hv hb more mode O (by unfold bj at*;omega) O O
 have hle:=Ry (neg:=neg) (v:=v) (e:=e) (more:=more) (mode:=mode);rw[vF,hlog,bS];dsimp only;rw[w3,Ug,hu,hmul,bS];unfold uw;generalize eP neg v e more mode=n at*;generalize bj v e=u at*;have bn:au n<=1000000:=zf (Qr (k:=54) O) O;have w4: ∀d:Nat,d<=2000->wI (u+(d:Int))=u+(d:Int):=λd hd=>by rw[wQ,wi O O]
 have w5:wI (u+1)=u+1:=w4 1 O;have w6:wI (u+1075)=u+1075:=w4 1075 O;have w7:wI (u+1+1075)=u+1076:=by rw[Ps];exact w4 1076 O
 dsimp only;rw[P6 O (tf (by rw[Z3];omega)),ba,Z3,bS]
 dsimp only;rw[qui O (nT bn),ba,bS];unfold po;rw[iP O];dsimp only;rw[bA O,w5,w6,w7,aF,bQ,bQ,bQ];unfold kh;by_cases c1:n=9007199254740992
 . rw[iP O,iP c1];by_cases c2:u+1076>=2047
   . rw[iP c2,iP c2,q7t];rfl
   . have hf:=OE (q:=u+1076) (r:=0) O O O;rw[show wI (u+1076)=u+1076 by rw[wQ,wi O O],nZ]at hf
     rw[ao c2,ao c2,hf,NA,JT O O];rfl
 . rw[ao O,ao c1];by_cases c2:n<4503599627370496
   . rw[iP O,iP c2,JT O O];rfl
   . rw[ao O,ao c2];by_cases c3:u+1075>=2047
     . rw[iP c3,iP c3,q7t];rfl
     . have hf:=OE (q:=u+1075) (r:=n-4503599627370496) O O O;rw[w6]at hf;have w8:wJ ((n:Int)-4503599627370496)=((n-4503599627370496:Nat):Int):=by rw[dO];omega
       rw[ao c3,ao c3,w8,hf,JT O O,show((n-4503599627370496:Nat):Int)=(n:Int)-4503599627370496 by omega];rfl
def N1 (d:Bool×Bool×LI×Int×Unit) (mode:Int):Int:=
 if d.1 then 9221120237041090560 else if d.2.2.1=[]then 0 else uw d.2.1 (vl d.2.2.1) d.2.2.2.1 false mode
def dQ (f:Int):Int:=f/4503599627370496%2048
def jK (f:Int):Int:=f%4503599627370496
def jb (f:Int):Bool:=decide (9223372036854775808<=f)
def pY (f:Int):Int:=(if jb f then-1 else 1)*(if dQ f=0 then jK f else jK f+4503599627370496)
def oj (f:Int):Int:=if dQ f=0 then-1074 else dQ f-1075
def bD (f:Int):Prop:=dQ f≠2047
instance {f:Int}:Decidable (bD f):=inferInstanceAs (Decidable (_≠_))
def dg (f:Int):Prop:=0<=f/\f<18446744073709551616
def eH (f:Int):Bool×Bool×LI×Int×Unit:=if bD f then aW (pY f) (oj f)else(true,false,[],0,())
def Jn (f:Int):0<=dQ f/\dQ f<2048:=by unfold dQ;omega
def Ri (f:Int):0<=jK f/\jK f<4503599627370496:=by unfold jK;omega
def kg {m:Nat} {f:Int} (h:dg f):nP m f=some ((dQ f,jK f,()),(),()):=by
 obtain⟨n,rfl⟩: ∃n:Nat,f=(n:Int):=⟨f.toNat,by have:=h.1;omega⟩
 have hn:n<18446744073709551616:=by have:=h.2;omega
 have e1:az .u64 (n:Int) 52=((n/4503599627370496:Nat):Int):=cV (a:=n) (k:=52) O;have e2:=iq (a:=n/4503599627370496) (b:=2047) O O;have e3:=iq (a:=n) (b:=4503599627370495) hn O;rw[show((2047:Nat):Int)=2047 from rfl,show(2047:Nat)=2^11-1 by decide,B3]at e2
 rw[show((4503599627370495:Nat):Int)=4503599627370495 from rfl,show(4503599627370495:Nat)=2^52-1 by decide,B3]at e3
 rw[nP,e1,e2,e3,wQ,wi O O];unfold dQ jK;congr 3<;>omega
def Zz {m:Nat} {f:Int} (h:dg f):tI m f=some (decide (bD f),(),()):=by
 rw[tI,kg h,bS];dsimp only;by_cases c:bD f
 . rw[decide_eq_true c,show(dQ f !=2047)=true by simpa [bD]using c]
 . rw[decide_eq_false c,show(dQ f !=2047)=false by simpa [bD]using c]
def qti {n:Nat} (h:n<18446744073709551616):qp .u64 (n:Int) 9223372036854775808=if 9223372036854775808<=n then 9223372036854775808 else 0:=by
 have e:=iq (a:=n) (b:=9223372036854775808) h O;rw[show((9223372036854775808:Nat):Int)=9223372036854775808 from rfl]at e
 rw[e]
 have hb:n&&&9223372036854775808=if n.testBit 63 then 9223372036854775808 else 0:=by
  rw[show(9223372036854775808:Nat)=2^63 by decide]
  apply Nat.eq_of_testBit_eq;intro i;rw[IA,HH];by_cases c:63=i
  . subst c;cases hb:n.testBit 63
    . simp
    . rw[iP rfl,HH];simp
  . cases hb:n.testBit 63
    . simp[c]
    . rw[iP rfl,HH];simp[c]
 have ht:n.testBit 63=decide (9223372036854775808<=n):=by
  rw[Nat.testBit_eq_decide_div_mod_eq];rw[show(2:Nat)^63=9223372036854775808 by decide]
  by_cases c:9223372036854775808<=n
  . rw[decide_eq_decide];omega
  . rw[decide_eq_decide];omega
 rw[hb,ht];by_cases c:9223372036854775808<=n
 . simp[c]
 . simp[c]
def q67 {m:Nat} {f:Int} (h:dg f):s9 m f=some (jb f,(),()):=by
 obtain⟨n,rfl⟩: ∃n:Nat,f=(n:Int):=⟨f.toNat,by have:=h.1;omega⟩
 have hn:n<18446744073709551616:=by have:=h.2;omega
 rw[s9,qti hn];unfold jb;by_cases c:9223372036854775808<=n
 . rw[iP c,show decide ((9223372036854775808:Int)<=(n:Int))=true by rw[decide_eq_true_eq];omega];rfl
 . rw[ao c,show decide ((9223372036854775808:Int)<=(n:Int))=false by rw[decide_eq_false_iff_not];omega];rfl
def XS {x:Int} (h1:0<=x) (h2:x<4503599627370496):bc .u64 x 4503599627370496=x+4503599627370496:=by
 obtain⟨n,rfl⟩: ∃n:Nat,x=(n:Int):=⟨x.toNat,O⟩;have h:=kj (a:=n) (b:=4503599627370496) O O;rw[show((4503599627370496:Nat):Int)=4503599627370496 from rfl]at h
 rw[h];have:=IE (i:=52) (b:=n) O 1;rw[Fw,show(4503599627370496:Nat)=2^52*1 by decide,<-this]
 omega
def Oa (f:Int):au (pY f).natAbs<=53:=by
 apply Qr;have h1:=Ri f;have c:(2:Nat)^53=9007199254740992:=by decide
 unfold pY;cases jb f<;>(split<;>simp<;>omega)
def HS {f:Int}: -1074<=oj f/\oj f<=972:=by
 have:=Jn f;unfold oj;split<;>omega
def que {f:Int} (h:bD f):oj f<=971:=by
 have:=Jn f;unfold oj bD at*;split<;>omega
def d6 {m:Nat} (hm:3000000<m) {f:Int} (h:dg f):sP m f=some (eH f,(),()):=by
 rw[sP,kg h,bS,aF,aF];dsimp only;have h1:=Jn f;have h2:=Ri f;have hl:=Oa f;have he:=HS (f:=f);unfold eH;by_cases c:dQ f=2047
 . rw[iP c,ao (λh=>h c)]
 . have hF:bD f:=c;rw[ao c,iP hF,q67 h,XS h2.1 h2.2]
   have run: ∀(q:Int) (ex:Int),0<=q->q<9007199254740992->pY f=(if jb f then-1 else 1)*q->oj f=ex->
    ((jS m (wI q)).bind λy2=>(some (jb f,(),()):Option (Bool×Unit×Unit)).bind λy3=>bif y3.1 then
      (kN m y2.1.1 y2.1.2.1).bind λy4=>(jR m y4.1.1 y4.1.2.1 ex).bind λy5=>some ((y5.1.1,y5.1.2.1,y5.1.2.2.1,y5.1.2.2.2.1,()),((),()))
    else(jR m y2.1.1 y2.1.2.1 ex).bind λy6=>some ((y6.1.1,y6.1.2.1,y6.1.2.2.1,y6.1.2.2.2.1,()),((),())))=some (aW (pY f) (oj f),(),()):=by
    intro q ex q1 q2 eq ee
    have hq:au q.natAbs<=53:=by
     rw[eq]at hl;cases hf:jb f<;>rw[hf]at hl<;>simpa using hl
    rw[wQ,wi O O,St O O O,bS,bS];dsimp only;cases hf:jb f with
    |false=>
     rw[hf]at eq;rw[cond_false,JE hm O O O,eq,ee,ao (by simp),Int.one_mul];rfl
    |true=>
     rw[hf]at eq;rw[cond_true,IU O (tf O),ba,bS];dsimp only;rw[JE hm (by rw[BW];omega) O O,eq,ee,iP rfl,Int.neg_one_mul];rfl
   by_cases c0:dQ f=0
   . rw[iP c0];exact run _ _ h2.1 O (by unfold pY;rw[iP c0]) (by unfold oj;rw[iP c0])
   . rw[ao c0,show wI (dQ f-1075)=dQ f-1075 by rw[wQ,wi O O]]
     exact run _ _ O O (by unfold pY;rw[ao c0]) (by unfold oj;rw[ao c0])
def QR {f:Int} (h:dg f):fS f=decide (bD f):=by
 have e1:=Zz (m:=0) h;rw[q7y]at e1;have:=Nc e1;exact(Prod.mk.inj this).1
def qv5 {f:Int} (h:bD f):cP (pY f) (oj f):=by
 have hl:=Oa f;have he:=HS (f:=f);exact Ya.2 (Or.inr ⟨O,O⟩)
abbrev qS:Bool×Bool×LI×Int×Unit:=(true,false,[],0,())
def NW {z e:Int} (h: ¬cP z e):aW z e=qS:=FQ h
def VP {z e:Int}:cP (-z) e↔cP z e:=by
 rw[Ya,Ya,BW];omega
def qt1 {z e:Int} (h:cP z e):aW (-z) e=((aW z e).1,(zB (-(zv (aW z e).2.1 (aW z e).2.2.1))).1,(zB (-(zv (aW z e).2.1 (aW z e).2.2.1))).2.1,(aW z e).2.2.2.1,()):=by
 obtain⟨w,f,k⟩:=h.nf;have kn:dK (-z) e (-w) f:=k.eq.symm.neg;rw[kn.mk];have ok:cP (-w) f:=VP.2 k.ok;rw[k.md];show aW (-w) f=(false,(zB (-zv (zB w).1 (zB w).2.1)).1,(zB (-zv (zB w).1 (zB w).2.1)).2.1,f,());rw[ba];unfold aW;by_cases h0:w=0
 . subst h0;rw[k.zero rfl,show(-0:Int)=0 from rfl,iP rfl,FF,FE,show(0:Int).natAbs=0 from rfl,Qj];rfl
 . have hn:(-w).natAbs≠0:=O
   have hb: ¬(f+(au (-w).natAbs:Int)>65536\/f+(tz (-w).natAbs:Int)< -65536):=by
    rcases Ya.1 ok with h|h
    . omega
    . omega
   have ht:tz (-w).natAbs=0:=by rw[BW];exact N3 (k.odd h0)
   rw[ao O,ao hb,ht,xU,Nat.div_one,nZ,NA];rfl
def NF.lim {z e w f:Int} (h:NF z e w f):(zB w).2.1.length<=10000:=by have:=xG h.len;omega
def VO {m:Nat} (hm:3000000<m) {z e:Int}:vK m (aW z e).1 (aW z e).2.1 (aW z e).2.2.1 (aW z e).2.2.2.1=some (aW (-z) e,(),()):=by
 rw[vK,HX hm,bS];dsimp only;by_cases h:cP z e
 . obtain⟨w,f,k,k1,k2,k3⟩:=Jg h;have hS:Sz (aW z e).2.2.1:=by rw[k2];exact k.Sz
   rw[decide_eq_true h,cond_true,IU O hS,bS,qt1 h]
 . rw[decide_eq_false h,cond_false,NW (mt VP.1 h),NW h]
def JK {w f b:Int} (h:b<=f):au (sc w f b).natAbs<=(f-b).toNat+au w.natAbs:=by
 unfold sc;exact W7
def Cg {a B w f b:Int} (k:NF a B w f) (h1:b<=f) (h2: -65536<=b):au (sc w f b).natAbs<=300000:=by
 have:=JK (w:=w) h1;have:=k.len;have:=k.hi;omega
def Vi {m:Nat} (hm:4000000<=m) {a b B C:Int}:
 qC m (aW a B).1 (aW a B).2.1 (aW a B).2.2.1 (aW a B).2.2.2.1 (aW b C).1 (aW b C).2.1 (aW b C).2.2.1 (aW b C).2.2.2.1=some (if cP a B/\cP b C then aW (a*b) (B+C)else qS,(),(),()):=by
 rw[qC,qvd O,bS];dsimp only;by_cases h:cP a B/\cP b C
 . obtain⟨w,f,k,k1,k2,k3⟩:=Jg h.1;obtain⟨x,g,l,l1,l2,l3⟩:=Jg h.2;have hb1:=k.lo;have hb2:=k.hi;have hb3:=l.lo;have hb4:=l.hi;have n1:=k.len;have n2:=l.len;have hl:=k.lim;have hl2:=l.lim;have w1:wI (f+g)=f+g:=by rw[wQ,wi O O]
   rw[decide_eq_true h,jM,cond_false,iP h,k1,k2,k3,l1,l2,l3,UD hm (d7 w) (d7 x) O,ba,ba,bS,w1];dsimp only;rw[JE O (zf YR O) O O,(k.eq.mul l.eq).mk];rfl
 . rw[decide_eq_false h,ao h];rfl
end Go.Vs.F
