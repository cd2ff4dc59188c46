import Derived.Test.YtfleaheoikmdgaaGreatDoorLb
set_option linter.unusedVariables false
set_option linter.unusedSimpArgs false
set_option linter.unusedSectionVars false
set_option linter.defProp false
namespace Go.Vs.F
def mkD (z e:Int):Bool×Bool×LI×Int×Unit:=
 if z=0 then(false,false,[],0,())
 else if e+(blen z.natAbs:Int)>65536\/e+(tz z.natAbs:Int)< -65536 then(true,false,[],0,())
 else(false,decide (z<0),lim (z.natAbs/2^tz z.natAbs),e+(tz z.natAbs:Int),())
def OkD (z e:Int):Prop:=(mkD z e).1=false
def sc (z e b:Int):Int:=z*2^(e-b).toNat
def EqD (z e w f:Int):Prop:= ∃b,b<=e/\b<=f/\sc z e b=sc w f b
def q9n (e:Int):mkD 0 e=(false,false,[],0,()):=rfl
def Jy {z e:Int}:OkD z e↔z=0\/(e+(blen z.natAbs:Int)<=65536/\ -65536<=e+(tz z.natAbs:Int)):=by
 unfold OkD mkD;by_cases h:z=0
 . simp[h]
 . rw[iN' h];by_cases h2:e+(blen z.natAbs:Int)>65536\/e+(tz z.natAbs:Int)< -65536
   . rw[iP h2];simp only[h,false_or];constructor
     . intro h;cases h
     . intro h;omega
   . rw[iN' h2];simp only[h,false_or,true_iff];omega
instance {z e:Int}:Decidable (OkD z e):=inferInstanceAs (Decidable (_=_))
def qap {z e:Int} (h: ¬OkD z e):mkD z e=(true,false,[],0,()):=by
 unfold OkD mkD at*;split at h
 . exact absurd rfl h
 . rename_i h1;rw[iN' h1];split at h
   . rename_i h2;rw[iP h2]
   . exact absurd rfl h
def Yl {z:Int} {k:Nat}:(z*2^k).natAbs=2^k*z.natAbs:=by
 rw[zP3,Int.natAbs_pow,zh];rfl
def Zx {k n:Nat} (h:n≠0):blen (2^k*n)=k+blen n:=by
 have:=q3y (y:=0) h (zn (n:=k) (show 0<2 by omega))
 rwa [zV]at this
def Zb (k:Nat):0<(2:Int)^k:=Int.pow_pos O
def q3l {z:Int} {k:Nat}:z*2^k<0↔z<0:=by
 have:=Zb k;constructor
 . intro h;refine Int.not_le.1 λh2=> ?_
   have:=Int.mul_nonneg h2 (zk3 this);omega
 . intro h;exact Int.mul_neg_of_neg_of_pos h this
def qk2 {z:Int} {k:Nat} {e:Int}:mkD (z*2^k) e=mkD z (e+(k:Int)):=by
 unfold mkD;by_cases h:z=0
 . subst h;rw[zy2];rfl
 . have h2:z*2^k≠0:=Int.mul_ne_zero h (by have:=Zb k;omega)
   have hn:z.natAbs≠0:=O;rw[iN' h,iN' h2,Yl,Zx hn,qh2 hn,zW1,Nat.mul_div_mul_left _ _ (zn O)];simp only[q3l];rw[zU2,zU2,<-Int.add_assoc,<-Int.add_assoc]
def qgk {z e b:Int} (h:b<=e):mkD (sc z e b) b=mkD z e:=by
 unfold sc;rw[qk2];congr 1;omega
def EqD.mk {z e w f:Int}:EqD z e w f->mkD z e=mkD w f
 |⟨b,h1,h2,h3⟩=>by rw[<-qgk h1,<-qgk h2,h3]
def qft {z e b c:Int} (h1:c<=b) (h2:b<=e):sc z e c=sc z e b*2^(b-c).toNat:=by
 unfold sc;rw[zB3,<-Int.pow_add];congr 2;omega
def qio {x y:Int} {k:Nat} (h:x*2^k=y*2^k):x=y:=
 Int.eq_of_mul_eq_mul_right (by have:=Zb k;omega) h
def EqD.low {z e w f:Int} (h:EqD z e w f) {c:Int} (h1:c<=e) (h2:c<=f):sc z e c=sc w f c:=by
 obtain⟨b,hb1,hb2,h3⟩:=h;by_cases hc:c<=b
 . rw[qft hc hb1,qft hc hb2,h3]
 . rw[qft (b:=c) (c:=b) O h1,qft (b:=c) (c:=b) O h2]at h3;exact qio h3
def EqD.refl (z e:Int):EqD z e z e:=⟨e,O,O,rfl⟩
def EqD.symm {z e w f:Int}:EqD z e w f->EqD w f z e
 |⟨b,h1,h2,h3⟩=>⟨b,h2,h1,h3.symm⟩
def EqD.trans {z e w f y g:Int} (h:EqD z e w f) (h2:EqD w f y g):EqD z e y g:=by
 obtain⟨c,c1,c2,c3⟩: ∃c:Int,c<=e/\c<=f/\c<=g:=⟨min e (min f g),O,O,O⟩;exact⟨c,c1,c3,(h.low c1 c2).trans (h2.low c2 c3)⟩
def EqD.zero (e f:Int):EqD 0 e 0 f:=⟨min e f,O,O,by unfold sc;rw[zy2,zy2]⟩
def q9v (z e:Int):sc z e e=z:=by unfold sc;rw[Int.sub_self];exact ze3 z
def EqD.sc {z e b:Int} (h:b<=e):EqD (sc z e b) b z e:=⟨b,O,h,by rw[q9v]⟩
def EqD.add {z e w f y c x g:Int} (h1:EqD z e w f) (h2:EqD y e x f):EqD (z+y) e (w+x) f:=by
 obtain⟨c,c1,c2⟩: ∃c:Int,c<=e/\c<=f:=⟨min e f,O,O⟩;refine⟨c,c1,c2,?_⟩;have a:=h1.low c1 c2;have b:=h2.low c1 c2;unfold Vs.F.sc at*;rw[Int.add_mul,Int.add_mul,a,b]
def EqD.neg {z e w f:Int}:EqD z e w f->EqD (-z) e (-w) f
 |⟨b,h1,h2,h3⟩=>⟨b,h1,h2,by unfold Vs.F.sc at*;rw[zn3,zn3,h3]⟩
def EqD.mul {z e w f y g x h:Int} (h1:EqD z e w f) (h2:EqD y g x h):EqD (z*y) (e+g) (w*x) (f+h):=by
 obtain⟨b,b1,b2,b3⟩:=h1;obtain⟨c,c1,c2,c3⟩:=h2;refine⟨b+c,O,O,?_⟩
 have k: ∀{z e y g:Int},b<=e->c<=g->Vs.F.sc (z*y) (e+g) (b+c)=Vs.F.sc z e b*Vs.F.sc y g c:=by
  intro z e y g h1 h2;unfold Vs.F.sc;rw[show(e+g-(b+c)).toNat=(e-b).toNat+(g-c).toNat by omega,Int.pow_add]
  simp only[zB3,Int.mul_comm,Int.mul_left_comm]
 rw[k b1 c1,k b2 c2,b3,c3]
def EqD.sgn {z e w f:Int} (h:EqD z e w f):Vs.F.sgn z=Vs.F.sgn w:=by
 obtain⟨b,h1,h2,h3⟩:=h
 have k: ∀z e:Int,Vs.F.sgn (Vs.F.sc z e b)=Vs.F.sgn z:=by
  intro z e;unfold Vs.F.sgn Vs.F.sc;simp only[q3l]
  have:0<z*2^(e-b).toNat↔0<z:=by
   have:=Zb (e-b).toNat;constructor
   . intro h;exact Int.pos_of_mul_pos_left h this
   . intro h;exact Int.mul_pos h this
  simp only[this]
 rw[<-k z e,<-k w f,h3]
def qgt {n k:Nat}:blen (n/2^k)<=blen n:=by
 by_cases h:n/2^k=0
 . rw[h,q2d];omega
 . have h0:n≠0:=by rintro rfl;simp at h
   rw[Xw h,Xw h0]
   have:(n/2^k).log2<n.log2+1:=by
    rw[zJ3 h];exact zn1 (zj2 ..) Nat.lt_log2_self
   omega
def qgv {n:Nat} (h:n≠0):n/2^tz n≠0/\n=2^tz n*(n/2^tz n)/\(n/2^tz n)%2=1:=by
 obtain⟨q,h1,h2⟩:=q5u h
 have:n/2^tz n=q:=by
  conv=>lhs;arg 1;rw[h1]
  exact Nat.mul_div_cancel_left q (zn O)
 rw[this];exact⟨O,h1,h2⟩
def qj4 {n:Nat} (h:n≠0):blen n=tz n+blen (n/2^tz n):=by
 obtain⟨h1,h2,_⟩:=qgv h;conv=>lhs;rw[h2]
 exact Zx h1
def qbk {z:Int} {q:Nat}:((if z<0 then-1 else 1)*(q:Int)).natAbs=q:=by split<;>omega
def lt_sg {z:Int} {q:Nat} (h:q≠0):z<0↔((if z<0 then-1 else 1)*(q:Int))<0:=by split<;>omega
def qqa {z:Int} {q:Nat}:((if z<0 then-1 else 1)*(q:Int))=0->q=0:=by split<;>omega
def qnl {z:Int}:(if z<0 then-1 else 1)*(z.natAbs:Int)=z:=by split<;>omega
structure NF (z e w f:Int):Prop where
 eq:EqD w f z e
 md:mkD z e=(false,decide (w<0),lim w.natAbs,f,())
 zero:w=0->f=0
 odd:w≠0->w.natAbs%2=1
 lo: -65536<=f
 hi:f+(blen w.natAbs:Int)<=65536
def NF.len {z e w f:Int} (h:NF z e w f):blen w.natAbs<=131072:=by have:=h.lo;have:=h.hi;omega
def OkD.nf {z e:Int} (h:OkD z e): ∃w f,NF z e w f:=by
 by_cases hz:z=0
 . subst hz;exact⟨0,0,EqD.zero ..,by rw[q9n];simp[Q8],λ_=>rfl,λh=>absurd rfl h,O,by decide⟩
 . rcases Jy.1 h with h|⟨h1,h2⟩
   . exact absurd h hz
   . have hn:z.natAbs≠0:=O;obtain⟨k1,k2,k3⟩:=qgv hn;have hb:=qj4 hn
     have hmk:mkD z e=(false,decide (z<0),lim (z.natAbs/2^tz z.natAbs),e+(tz z.natAbs:Int),()):=by
      unfold mkD;rw[iN' hz,iN' O]
     have hN:=qbk (z:=z) (q:=z.natAbs/2^tz z.natAbs);refine⟨(if z<0 then-1 else 1)*(((z.natAbs/2^tz z.natAbs:Nat)):Int),e+(tz z.natAbs:Int),⟨e,O,O,?_⟩,?_,?_,?_,O,?_⟩
     . rw[q9v];unfold sc;rw[show(e+(tz z.natAbs:Int)-e).toNat=tz z.natAbs by omega,zB3]
       have:(((z.natAbs/2^tz z.natAbs:Nat)):Int)*2^tz z.natAbs=(z.natAbs:Int):=by
        conv=>rhs;rw[k2]
        rw[zi1,Int.mul_comm,zV1];rfl
       rw[this,qnl]
     . rw[hmk,hN,decide_eq_decide.2 (lt_sg k1)]
     . intro h0;exact absurd (qqa h0) k1
     . intro _;rw[hN];exact k3
     . rw[hN];omega
def NF.ok {z e w f:Int} (h:NF z e w f):OkD w f:=by
 unfold OkD;rw[h.eq.mk,h.md]
def q0c {n k:Nat} (h:blen n<=k):(lim n).length<=k/32+1:=by
 refine Y7 ?_;refine zA2 (q21 n) ?_;rw[show(4294967296:Nat)=2^32 by decide,<-Nat.pow_mul]
 exact zZ O O
def q2u {n k:Nat} (h:n<=k):blen n<=blen k:=by
 by_cases h0:n=0
 . subst h0;rw[q2d];omega
 . have hk:k≠0:=O;rw[Xw h0,Xw hk];have:n.log2<k.log2+1:=(zJ3 h0).2 (zn1 h Nat.lt_log2_self);omega
def Z9 {n k:Nat} (h:n<2^k):blen n<=k:=by
 by_cases h0:n=0
 . subst h0;rw[q2d];omega
 . rw[Xw h0];exact(zJ3 h0).2 h
def qg0 {a b k:Nat} (ha:blen a<=k) (hb:blen b<=k):blen (a+b)<=k+1:=by
 apply Z9;have h1:=q21 a;have h2:=q21 b;have h3:2^blen a<=2^k:=zZ O ha;have h4:2^blen b<=2^k:=zZ O hb;rw[zD1];omega
def q38 {a b:Int} {k:Nat} (ha:blen a.natAbs<=k) (hb:blen b.natAbs<=k):blen (a+b).natAbs<=k+1:=
 zT (q2u (show(a+b).natAbs<=a.natAbs+b.natAbs by omega)) (qg0 ha hb)
def q65 {a:Int} {k:Nat}:blen (a*2^k).natAbs<=k+blen a.natAbs:=by
 by_cases h:a.natAbs=0
 . rw[Yl,h,zt1,q2d];omega
 . rw[Yl,Zx h];omega
def zB_1 (z:Int):(zB z).1=decide (z<0):=rfl
def zB_2 (z:Int):(zB z).2.1=lim z.natAbs:=rfl
def Lm_zB (z:Int):Lm (zB z).2.1:=Qu _
def q8y {z:Int} {k:Nat} (h:blen z.natAbs<=k):(zB z).2.1.length<=k/32+1:=q0c h
def left_eq {m:Nat} (hm:3000000<m) {z:Int} (hz:blen z.natAbs<=1000000) {k:Int} (h0:0<=k) (hk:k<=1048576):g131 m (zB z).1 (zB z).2.1 k=some (zB (z*2^k.toNat),(),(),()):=by
 have hl:=q8y hz;obtain⟨n,rfl⟩: ∃n:Nat,k=(n:Int):=⟨k.toNat,O⟩;rw[g131,q4p hm (Lm_zB z) O O,bS,zv_zB];rfl
def right_eq {m:Nat} (hm:3000000<m) {z:Int} (hz:blen z.natAbs<=1000000) {k:Nat} (hk:k<=1048576):g140 m (zB z).1 (zB z).2.1 (k:Int)=some (zB (z/2^k),(),(),()):=by
 have hl:=q8y hz;obtain⟨m',rfl⟩: ∃m',m=m'+1:=⟨m-1,O⟩;rw[g140,g140L0,bQ,iN' O,bS];dsimp only;by_cases h0:k=0
 . subst h0;rw[show wI (0-((0:Nat):Int))=((0:Nat):Int)from by decide,q4p hm (Lm_zB z) O O,bS,zv_zB]
   dsimp only;rw[show z*2^0=z/2^0 by rw[Int.pow_zero,ze3,Int.ediv_one]]
 . rw[show wI (0-(k:Int))= -(k:Int) by rw[wQ,wi O O];omega,qh6 hm (Lm_zB z) O O O,bS,zv_zB,zV1]
   rfl
def qnb {z:Int} (h:z≠0):zB (z/2^tz z.natAbs)=(decide (z<0),lim (z.natAbs/2^tz z.natAbs),()):=by
 obtain⟨k1,k2,k3⟩:=qgv (n:=z.natAbs) O
 have:z=((if z<0 then-1 else 1)*((z.natAbs/2^tz z.natAbs:Nat):Int))*2^tz z.natAbs:=by
  rw[zB3]
  have:(((z.natAbs/2^tz z.natAbs:Nat)):Int)*2^tz z.natAbs=(z.natAbs:Int):=by
   conv=>rhs;rw[k2]
   rw[zi1,Int.mul_comm,zV1];rfl
  rw[this,qnl]
 have h2:z/2^tz z.natAbs=(if z<0 then-1 else 1)*((z.natAbs/2^tz z.natAbs:Nat):Int):=by
  conv=>lhs;arg 1;rw[this]
  rw[Int.mul_ediv_cancel];have:=Zb (tz z.natAbs);omega
 have h3:=lt_sg (z:=z) k1;have h4:=qbk (z:=z) (q:=z.natAbs/2^tz z.natAbs);rw[<-h2]at h3 h4;unfold zB;rw[h4,decide_eq_decide.2 h3.symm]
theorem Zc {z:Int}:sgn z=0↔z=0:=by unfold sgn;repeat' split
                                   all_goals omega
def q3x {n:Nat}:tz n<=blen n:=by
 by_cases h:n=0
 . subst h;rw[qp1];omega
 . rw[qj4 h];omega
def ql6 {m:Nat} (hm:3000000<m) {z:Int} (hz:blen z.natAbs<=900000) {e:Int} (h1: -1000000000<=e) (h2:e<=1000000000):g89 m false (zB z).1 (zB z).2.1 e=some ((mkD z e,decide (OkD z e),()),(),()):=by
 have hl:=q8y hz;have hS:Sz (zB z).2.1:=⟨Lm_zB z,O⟩;have hv:vl (zB z).2.1=z.natAbs:=Qn _;rw[g89,cond_false,qlf O hS,bS,zv_zB];dsimp only;rw[q1o O hS,bS,zv_zB,bif_eq];dsimp only;by_cases h:z=0
 . subst h;rw[iP (Zc.2 rfl)];rfl
 . have hn:z.natAbs≠0:=O;have ht:=q3x (n:=z.natAbs);rw[iN' (λe=>h (Zc.1 e)),q04 O hS O,bS,q75 O hS,bS,hv]
   dsimp only
   rw[show wI (65536-((blen z.natAbs:Nat):Int))=65536-((blen z.natAbs:Nat):Int) by rw[wQ,wi O O],
    show wI ((-65536)-((tz z.natAbs:Nat):Int))=(-65536)-((tz z.natAbs:Nat):Int) by rw[wQ,wi O O],
    show wI (e+((tz z.natAbs:Nat):Int))=e+((tz z.natAbs:Nat):Int) by rw[wQ,wi O O],
    bQ,bQ,right_eq hm O O,bS,qnb h]
   by_cases hk:OkD z e
   . rcases Jy.1 hk with h0|⟨k1,k2⟩
     . exact absurd h0 h
     . rw[iN' O,iN' O,decide_eq_true hk];unfold mkD;rw[iN' h,iN' O]
   . have hk2: ¬(e+(blen z.natAbs:Int)<=65536/\ -65536<=e+(tz z.natAbs:Int)):=λc=>hk (Jy.2 (Or.inr c))
     rw[qap hk,decide_eq_false hk];by_cases c:e>65536-((blen z.natAbs:Nat):Int)
     . rw[iP c];rfl
     . rw[iN' c,iP O];rfl
def qa4 {m:Nat} (hm:3000000<m) {z:Int} (hz:blen z.natAbs<=900000) {e:Int} (h1: -1000000000<=e) (h2:e<=1000000000):g84 m (zB z).1 (zB z).2.1 e=some (mkD z e,(),(),()):=by
 rw[g84,ql6 hm hz h1 h2];rfl
def qff {m:Nat} (hm:3000000<m) {z e:Int} (h:OkD z e):g89 m (mkD z e).1 (mkD z e).2.1 (mkD z e).2.2.1 (mkD z e).2.2.2.1=some ((mkD z e,true,()),(),()):=by
 obtain⟨w,f,k⟩:=h.nf;rw[k.md];have:=ql6 hm (z:=w) (by have:=k.len;omega) (e:=f) (by have:=k.lo;omega) (by have:=k.hi;omega)
 rw[zB_1,zB_2]at this;rw[this,k.eq.mk,k.md,decide_eq_true k.ok]
def q5r {m:Nat} (hm:3000000<m) {z e:Int}:g89 m (mkD z e).1 (mkD z e).2.1 (mkD z e).2.2.1 (mkD z e).2.2.2.1=some ((mkD z e,decide (OkD z e),()),(),()):=by
 by_cases h:OkD z e
 . rw[qff hm h,decide_eq_true h]
 . rw[qap h,decide_eq_false h];rfl
def qge {m:Nat} (hm:3000000<m) {z e:Int}:g92 m (mkD z e).1 (mkD z e).2.1 (mkD z e).2.2.1 (mkD z e).2.2.2.1=some (mkD z e,(),()):=by
 rw[g92,q5r hm];rfl
def q1u {z e:Int} (h:OkD z e): ∃w f,NF z e w f/\(mkD z e).2.1=(zB w).1/\(mkD z e).2.2.1=(zB w).2.1/\(mkD z e).2.2.2.1=f:=by
 obtain⟨w,f,k⟩:=h.nf;refine⟨w,f,k,?_⟩;rw[k.md];exact⟨rfl,rfl,rfl⟩
def NF.Sz {z e w f:Int} (h:NF z e w f):Vs.F.Sz (zB w).2.1:=⟨Lm_zB w,by have:=q8y h.len;omega⟩
def NF.sgn {z e w f:Int} (h:NF z e w f):Vs.F.sgn w=Vs.F.sgn z:=h.eq.sgn
def qav {m:Nat} (hm:3000000<m) {z e:Int} (h:OkD z e):g52 m (mkD z e).1 (mkD z e).2.1 (mkD z e).2.2.1 (mkD z e).2.2.2.1=some (sgn z,(),()):=by
 obtain⟨w,f,k,k1,k2,k3⟩:=q1u h;rw[g52,qff hm h,bS];dsimp only;rw[k1,k2,q1o O k.Sz,bS,zv_zB,k.sgn]
def qqj {m:Nat} (hm:3000000<m) {z e y f:Int}:g81 m (mkD z e).1 (mkD z e).2.1 (mkD z e).2.2.1 (mkD z e).2.2.2.1 (mkD y f).1 (mkD y f).2.1 (mkD y f).2.2.1 (mkD y f).2.2.2.1=some ((mkD z e,mkD y f,decide (OkD z e/\OkD y f),()),(),(),()):=by
 rw[g81,q5r hm,bS,q5r hm,bS];dsimp only;rw[Bool.decide_and];cases decide (OkD z e)<;>rfl
def upB (neg:Bool) (half:Int) (odd:Bool) (mode:Int):Bool:=
 if mode=1 then neg else if mode=2 then !neg else if mode=3 then false else decide (0<half)||(decide (half=0)&&odd)
def halfC (v n:Nat) (more:Bool):Int:=
 if 2*(v%2^n)<2^n then-1 else if 2*(v%2^n)=2^n/\more=false then 0 else 1
def cutN (neg:Bool) (v n:Nat) (more:Bool) (mode:Int):Nat:=
 if v%2^n=0/\more=false then v/2^n else v/2^n+(if upB neg (halfC v n more) (v/2^n%2==1) mode then 1 else 0)
def sgnF (neg:Bool) (f:Int):Int:=if neg then f+9223372036854775808 else f
def overF (neg:Bool) (mode:Int):Int:=
 if mode=3\/(mode=1/\neg=false)\/(mode=2/\neg=true)then sgnF neg 9218868437227405311 else sgnF neg 9218868437227405312
def packF (neg:Bool) (n:Nat) (unit mode:Int):Int:=
 if n=9007199254740992 then(if unit+1076>=2047 then overF neg mode else sgnF neg ((unit+1076)*4503599627370496))
 else if n<4503599627370496 then sgnF neg (n:Int)
 else if unit+1075>=2047 then overF neg mode else sgnF neg ((unit+1075)*4503599627370496+((n:Int)-4503599627370496))
def unitF (v:Nat) (e:Int):Int:=max (e+(blen v:Int)-53) (-1074)
def multF (neg:Bool) (v:Nat) (e:Int) (more:Bool) (mode:Int):Nat:=
 if unitF v e<=e then v*2^(e-unitF v e).toNat else cutN neg v (unitF v e-e).toNat more mode
def q8k (neg:Bool) (v:Nat) (e:Int) (more:Bool) (mode:Int):Int:=packF neg (multF neg v e more mode) (unitF v e) mode
def qq1 {neg:Bool} {v n:Nat} {more:Bool} {mode:Int}:cutN neg v n more mode<=v/2^n+1:=by
 unfold cutN;split
 . omega
 . split<;>omega
def qmg (v:Nat) (e:Int): -1074<=unitF v e:=by unfold unitF;omega
def qmp {neg:Bool} {v:Nat} {e:Int} {more:Bool} {mode:Int}:multF neg v e more mode<=9007199254740992:=by
 unfold multF;have hb:=q21 v;split
 . rename_i h;have h1:(blen v:Int)+(e-unitF v e)<=53:=by unfold unitF at*;omega
   have h2:v*2^(e-unitF v e).toNat<=2^blen v*2^(e-unitF v e).toNat:=zN _ (zv2 hb);rw[<-Nat.pow_add]at h2;have h3:2^(blen v+(e-unitF v e).toNat)<=2^53:=zZ O O;have:(2:Nat)^53=9007199254740992:=by decide
   omega
 . rename_i h;refine zT qq1 ?_;have h1:(blen v:Int)<=53+(unitF v e-e):=by unfold unitF at*;omega
   have:v/2^(unitF v e-e).toNat<2^53:=by
    rw[zF2 (zn O),<-Nat.pow_add];exact zA2 hb (zZ O O)
   have:(2:Nat)^53=9007199254740992:=by decide
   omega
def fitI (z:Int):Int×Bool×Unit:=if-9223372036854775808<=z/\z<9223372036854775808 then(z,true,())else(0,false,())
def take_snoc {l:LI} {k:Nat} (hk:k<l.length) {x:Int} (ex:l.getD k 0=x):l.take (k+1)=l.take k++[x]:=by
 rw[List.take_add_one,<-ex,List.getD,List.getElem?_eq_getElem hk];rfl
def qoo {l:LI} (hl:Lm l) (h2:l.length<=2) {k x:Nat} (hk:k<l.length) (ex:l.getD k 0=(x:Int)) (hx:x<4294967296):
 b_or_ .u64 ((vl (l.take k):Nat):Int) (shl_ .u64 (x:Int) ((32*k:Nat):Int))=((vl (l.take (k+1)):Nat):Int):=by
 have hL:=vl_lt (l:=l.take k) λy hy=>hl y (zE1 hy)
 rw[zH1,show min k l.length=k by omega]at hL
 have hP:(4294967296:Nat)^k=2^(32*k):=by rw[show(4294967296:Nat)=2^32 by decide,<-Nat.pow_mul]
 rw[take_snoc hk ex,qe9,zH1,show min k l.length=k by omega]
 have hb:x*2^(32*k)<18446744073709551616:=by
  have:k=0\/k=1:=O;rcases this with rfl|rfl
  . simp;omega
  . simp;omega
 have hc:vl (l.take k)<18446744073709551616:=by
  have:k=0\/k=1:=O;rcases this with rfl|rfl
  . simp[vl]
  . simp at hL;omega
 rw[shl64 O hb,or64 hc hb,zc3,zh,<-Nat.two_pow_add_eq_or_of_lt O,zN3,hP]
def qo7 (m:Nat) (neg:Bool) (mag:LI) {l:LI} (hl:Lm l) (h2:l.length<=2): ∀(n k:Nat),l.length-k<n->k<=l.length->
 g142L0 m n neg mag ((vl (l.take k):Nat):Int) l (l.length:Int) (k:Int)=some (.inl ((neg,mag,()),((vl l:Nat):Int),()))
 |0,k,h,_=>O
 |n+1,k,h,hk0=>by
  rw[g142L0,bQ];by_cases hk:k<l.length
  . obtain⟨x,ex,hx⟩:=hl.get hk;have w:wI (32*(k:Int))=((32*k:Nat):Int):=by rw[wQ,wi O O];omega
    rw[iP O,iP O,w,iP O,tN,ex,w64n O,qoo hl h2 hk ex hx,show wI ((k:Int)+1)=((k+1:Nat):Int)from wsucc O]
    exact qo7 m neg mag hl h2 n (k+1) O O
  . rw[iN' O,List.take_of_length_le O]
def qjc {n:Nat}:(lim n).length<=2↔n<18446744073709551616:=by
 constructor
 . intro h;have:=vl_lt (Qu n);rw[Qn]at this;have h2:4294967296^(lim n).length<=4294967296^2:=zZ O h;omega
 . intro h;exact Y7 O
def qrn {m:Nat} (hm:2000000<m) {neg:Bool} {l:LI} (h:Sz l):g142 m neg l=some (fitI (zv neg l),(),()):=by
 rw[g142,X3 h.1 (by have:=h.2;omega) (by have:=h.2;omega),bS,bQ]
 dsimp only;unfold fitI;by_cases c:vl l<18446744073709551616
 . have c2:=qjc.2 c;have e:=qo7 m neg l (Qu (vl l)) c2 m 0 O O;rw[List.take_zero,nZ]at e;rw[iN' O];rw[show((vl ([]:LI):Nat):Int)=0 from rfl]at e
   rw[e,bS,Qn];dsimp only;cases neg with
   |false=>
    have:zv false l=(vl l:Int):=rfl;rw[this,cond_false,bQ,zL3,cond_true];by_cases d:(vl l:Int)<9223372036854775808
    . rw[iP d,iP O,wQ,wi O O]
    . rw[iN' d,iN' O]
   |true=>
    have:zv true l= -(vl l:Int):=rfl;rw[this,cond_true,bQ,bQ,bQ,zP2,cond_false,bif_eq];by_cases d0:(vl l:Int)>0
    . rw[iP d0];by_cases d:(vl l:Int)<=9223372036854775808
      . rw[iP d,iP O,w64m,Int.emod_eq_of_lt O O,show wI ((vl l:Int)-1)=(vl l:Int)-1 by rw[wQ,wi O O],
         show wI (0-((vl l:Int)-1))=0-((vl l:Int)-1) by rw[wQ,wi O O],show wI (0-((vl l:Int)-1)-1)=0-((vl l:Int)-1)-1 by rw[wQ,wi O O],show 0-((vl l:Int)-1)-1= -(vl l:Int) by omega]
      . rw[iN' d,iN' O,iN' O]
    . rw[iN' d0,iP O,iP O,iP O,show(vl l:Int)=0 by omega]
      rfl
 . have c2: ¬(lim (vl l)).length<=2:=λh=>c (qjc.1 h)
   have: ¬(-9223372036854775808<=zv neg l/\zv neg l<9223372036854775808):=by
    unfold zv;cases neg<;>simp<;>omega
   rw[iP O,iN' this]
def qg6 (v:Nat):zB (v:Int)=(false,lim v,()):=by
 unfold zB;rw[zK1,show decide ((v:Int)<0)=false by simp]
def SzB {z:Int} (h:blen z.natAbs<=1000000):Sz (zB z).2.1:=⟨Lm_zB z,by have:=q8y h;omega⟩
def SzN {v:Nat} (h:blen v<=1000000):Sz (zB (v:Int)).2.1:=SzB (by rwa [zK1])
def q4l {k:Nat}:blen (2^k)=k+1:=qkm (zD _) (by rw[zD1];have:=zn (n:=k) (show 0<2 by omega);omega)
def qi9 {v n:Nat} {more:Bool} (h:2*(v%2^n)<2^n):halfC v n more= -1:=by unfold halfC;rw[iP h]
def qr5 {m:Nat} (hm:3000000<m) (neg:Bool) {v:Nat} (hv:v≠0) (hb:blen v<=500000) (e:Int) (more:Bool) {k:Nat} (h0:0<k) (hk:k<=1000000):
 g189 m neg (zB (v:Int)).1 (zB (v:Int)).2.1 e more (k:Int)=some ((zB ((v/2^k:Nat):Int),halfC v k more,decide (v%2^k=0/\more=false),()),(),(),()):=by
 have hS:Sz (zB (v:Int)).2.1:=SzN O;have hvl:vl (zB (v:Int)).2.1=v:=by rw[qg6];exact Qn v
 rw[g189,q75 O hS,bS,hvl,bQ];dsimp only;have hlt:=q21 v;by_cases c:(k:Int)>((blen v:Nat):Int)
 . have h1:2^(blen v)<=2^(k-1):=zZ O O;have h2:2^k=2*2^(k-1):=by rw[show k=k-1+1 by omega,zD1,zh];simp
   have hd:v/2^k=0:=zx2 O;have hmo:v%2^k=v:=zU1 O;rw[iP c,hd,qi9 (by rw[hmo];omega),hmo]
   rw[show decide (v=0/\more=false)=false by rw[decide_eq_false_iff_not];exact λh=>hv h.1,show zB ((0:Nat):Int)=(false,[],()) by rw[qg6,Q8]]
 . have hP:0<2^k:=zn O;have hmod:=zN2 v hP;have hda:=zE3 v (2^k);have hle:blen (v/2^k)<=blen v:=qgt;have b1:blen (((v/2^k:Nat):Int)).natAbs<=900000:=by rw[zK1];omega
   have e1:(v:Int)/2^k=((v/2^k:Nat):Int):=by rw[Int.natCast_ediv,zV1];rfl
   have e2:((v/2^k:Nat):Int)*2^k=((v/2^k*2^k:Nat):Int):=by rw[zi1,zV1];rfl
   have b2:blen (v/2^k*2^k)<=1000000:=zT (q2u (Nat.div_mul_le_self ..)) O
   have e3:(v:Int)-((v/2^k*2^k:Nat):Int)=((v%2^k:Nat):Int):=by
    rw[zh];omega
   have b3:blen (v%2^k)<=1000000:=zT (q2u (Nat.mod_le ..)) O;have e4:(1:Int)*2^(k-1)=((2^(k-1):Nat):Int):=by rw[zo3,zV1];rfl
   have b4:blen (2^(k-1))<=1000000:=by rw[q4l];omega
   have w1:wI ((k:Int)-1)=((k-1:Nat):Int):=by rw[wQ,wi O O];omega
   have h2:2^k=2*2^(k-1):=by
    have:2^(k-1+1)=2*2^(k-1):=by rw[zD1,zh]
    rwa [show k-1+1=k by omega]at this
   rw[iN' c,right_eq hm (by rw[zK1];omega) O,bS,e1]
   dsimp only;rw[left_eq hm O O O,bS,tN,e2];dsimp only;rw[qrb O hS (SzN b2),zv_zB,zv_zB,e3,bS,Jp O O O,bS];dsimp only;rw[w1,left_eq hm (by decide) O O,bS,tN,e4]
   dsimp only;rw[qnz O (SzN b3) (SzN b4),zv_zB,zv_zB,bS,q1o O (SzN b3),zv_zB];dsimp only;simp only[bS];generalize hr:v%2^k=r at*;generalize 2^(k-1)=H at*;have hs:sgn (r:Int)=0↔r=0:=by rw[Zc];omega
   rw[bif_eq];unfold cmpZ halfC;rw[hr,h2];by_cases c1:(r:Int)<(H:Int)
   . rw[iP c1,iN' O,iP O,bif_eq];by_cases c2:r=0
     . rw[iP (hs.2 c2)];cases more<;>simp[c2]
     . rw[iN' (λh=>c2 (hs.1 h))]
       simp[c2]
   . by_cases c3:(H:Int)<(r:Int)
     . rw[iN' c1,iP c3,iN' O,iN' O,iN' O,bif_eq,iN' (λh=>by have:=hs.1 h;omega)]
       rw[show decide (r=0/\more=false)=false by rw[decide_eq_false_iff_not];omega]
     . have hpos:r≠0:=by
        have:0<2^k:=hP;omega
       rw[iN' c1,iN' c3,iP rfl,iN' O];cases more with
       |false=>
        rw[cond_false,bif_eq,iN' (λh=>hpos (hs.1 h)),iP ⟨O,rfl⟩]
        simp[hpos]
       |true=>
        rw[cond_true,bif_eq,iN' (λh=>hpos (hs.1 h)),iN' (λh=>by cases h.2)]
        simp
def sg (neg:Bool) (n:Nat):Int:=if neg then-(n:Int)else(n:Int)
def q95 {neg:Bool} {n:Nat}:(sg neg n).natAbs=n:=by unfold sg;cases neg<;>simp
def ql8 {n:Nat} (h:n≠0):tz n=0↔n%2=1:=by
 constructor
 . intro h2;obtain⟨q,h3,h4⟩:=q5u h;rw[h2,zt2,zo2]at h3;omega
 . exact qgr
def qan {m:Nat} (hm:3000000<m) (neg:Bool) {v:Nat} (hb:blen v<=300000) {e:Int} (more:Bool) {q:Int} (mode:Int) (h:q<=e) (he:e-q<=500000) (h1: -1000000000<=q) (h2:e<=1000000000):
 g144 m neg (zB (v:Int)).1 (zB (v:Int)).2.1 e more q mode=some (zB (sg neg (v*2^(e-q).toNat)),(),(),(),()):=by
 have w:wI (e-q)=e-q:=by rw[wQ,wi O O]
 have e1:(v:Int)*2^(e-q).toNat=((v*2^(e-q).toNat:Nat):Int):=by rw[zi1,zV1];rfl
 have b:blen (v*2^(e-q).toNat)<=1000000:=by
  have:=q65 (a:=(v:Int)) (k:=(e-q).toNat);rw[e1,zK1,zK1]at this;omega
 rw[g144,bQ,iP h,w,left_eq hm (by rw[zK1];omega) O O,bS,e1]
 dsimp only;cases neg with
 |false=>rfl
 |true=>rw[cond_true,q7z O (SzN b),zv_zB,bS];rfl
def qd1 {m:Nat} (hm:3000000<m) (neg:Bool) {v:Nat} (hv:v≠0) (hb:blen v<=300000) {e:Int} (more:Bool) {q:Int} (mode:Int) (h:e<q) (he:q-e<=500000) (h1: -1000000000<=e) (h2:q<=1000000000):
 g144 m neg (zB (v:Int)).1 (zB (v:Int)).2.1 e more q mode=some (zB (sg neg (cutN neg v (q-e).toNat more mode)),(),(),(),()):=by
 obtain⟨k,hk⟩: ∃k:Nat,q-e=(k:Int):=⟨(q-e).toNat,O⟩;have w:wI (q-e)=(k:Int):=by rw[wQ,wi O O,hk]
 rw[g144,bQ,iN' O,w,qr5 hm neg hv O e more O O,hk,tN,bS];dsimp only;have hd:v/2^k<=v:=zj2 ..;have bd:blen (v/2^k)<=300000:=zT qgt hb;have bd1:blen (v/2^k+1)<=300001:=qg0 bd (by decide)
 have hS:=SzN (v:=v/2^k) O;have hS1:=SzN (v:=v/2^k+1) O;have h1S:Sz (zB 1).2.1:=SzB (by decide)
 have neg0:(g88 m (zB ((v/2^k:Nat):Int)).1 (zB ((v/2^k:Nat):Int)).2.1).bind (λy=>some ((y.1.1,y.1.2.1,()),((),(),(),())))=some (zB (-((v/2^k:Nat):Int)),(),(),(),()):=by
  rw[q7z O hS,zv_zB];rfl
 have add1:g85 m (zB ((v/2^k:Nat):Int)).1 (zB ((v/2^k:Nat):Int)).2.1 (zB 1).1 (zB 1).2.1=some (zB ((v/2^k+1:Nat):Int),(),(),()):=by
  rw[qg8 O hS h1S,zv_zB,zv_zB];rfl
 have neg1:(g88 m (zB ((v/2^k+1:Nat):Int)).1 (zB ((v/2^k+1:Nat):Int)).2.1).bind (λy=>some ((y.1.1,y.1.2.1,()),((),(),(),())))=some (zB (-((v/2^k+1:Nat):Int)),(),(),(),()):=by
  rw[q7z O hS1,zv_zB];rfl
 have plain:(bif neg then(g88 m (zB ((v/2^k:Nat):Int)).1 (zB ((v/2^k:Nat):Int)).2.1).bind (λy=>some ((y.1.1,y.1.2.1,()),((),(),(),())))else some (((zB ((v/2^k:Nat):Int)).1,(zB ((v/2^k:Nat):Int)).2.1,()),((),(),(),())))=some (zB (sg neg (v/2^k)),(),(),(),()):=by
  rw[neg0];cases neg<;>rfl
 have away:((g86 m 1).bind λy5=>(g85 m (zB ((v/2^k:Nat):Int)).1 (zB ((v/2^k:Nat):Int)).2.1 y5.1.1 y5.1.2.1).bind λy6=>
  bif neg then(g88 m y6.1.1 y6.1.2.1).bind (λy=>some ((y.1.1,y.1.2.1,()),((),(),(),())))else some ((y6.1.1,y6.1.2.1,()),((),(),(),())))=some (zB (sg neg (v/2^k+1)),(),(),(),()):=by
  rw[Jp O O O,bS];dsimp only;rw[add1,bS];dsimp only;rw[neg1];cases neg<;>rfl
 unfold cutN;by_cases hex:v%2^k=0/\more=false
 . rw[decide_eq_true hex,cond_true,iP hex];exact plain
 . rw[decide_eq_false hex,cond_false,iN' hex,bif_eq,bif_eq,bif_eq];unfold upB;by_cases m1:mode=1
   . rw[iP m1,iP m1];cases neg with
     |true=>rw[cond_true,iP rfl];exact away
     |false=>rw[cond_false,iN' (by simp),zV];exact plain
   . rw[iN' m1,iN' m1];by_cases m2:mode=2
     . rw[iP m2,iP m2];cases neg with
       |true=>rw[zP2,cond_false,iN' (by simp),zV];exact plain
       |false=>rw[zL3,cond_true,iP rfl];exact away
     . rw[iN' m2,iN' m2];by_cases m3:mode=3
       . rw[iP m3,iP m3,iN' (by simp),zV];exact plain
       . rw[iN' m3,iN' m3,bQ,bif_eq];by_cases c1:halfC v k more>0
         . rw[iP c1,show decide (0<halfC v k more)=true by simpa using c1,zh3,iP rfl];exact away
         . rw[iN' c1,show decide (0<halfC v k more)=false by simpa using c1,Bool.false_or]
           by_cases c2:halfC v k more=0
           . rw[iP c2,decide_eq_true c2,zz1,q1o O hS,bS,zv_zB,bif_ne];dsimp only;by_cases z:v/2^k=0
             . rw[iP (by rw[Zc];omega),z]
               rw[z]at plain;exact plain
             . have hvl:vl (zB ((v/2^k:Nat):Int)).2.1=v/2^k:=by rw[qg6];exact Qn _
               rw[iN' (by rw[Zc];omega),q04 O hS (by rw[hvl];exact z),bS,hvl,bif_eq]
               dsimp only;by_cases o:v/2^k%2=1
               . rw[iP (by rw[(ql8 z).2 o];rfl),show(v/2^k%2==1)=true by simpa using o,iP rfl];exact away
               . rw[iN' (by have:=mt (ql8 z).1 o;omega),show(v/2^k%2==1)=false by simpa using o,iN' (by simp),zV];exact plain
           . rw[iN' c2,decide_eq_false c2,zn2,iN' (by simp),zV];exact plain
def qri {f:Int} (h1:0<=f) (h2:f<9223372036854775808):b_or_ .u64 f 9223372036854775808=f+9223372036854775808:=by
 obtain⟨n,rfl⟩: ∃n:Nat,f=(n:Int):=⟨f.toNat,O⟩;have h:=or64 (a:=n) (b:=9223372036854775808) O O;rw[show((9223372036854775808:Nat):Int)=9223372036854775808 from rfl]at h
 rw[h];have:=zT1 (i:=63) (b:=n) O 1;rw[zc3,show(9223372036854775808:Nat)=2^63*1 by decide,<-this]
 omega
def q0r {m:Nat} {f:Int} (h1:0<=f) (h2:f<9223372036854775808) (neg:Bool):g91 m f neg=some (sgnF neg f,(),(),()):=by
 unfold g91 sgnF;rw[qri h1 h2];cases neg<;>rfl
def q54 {m:Nat} (neg:Bool) (mode:Int):g145 m neg mode=some (overF neg mode,(),(),()):=by
 rw[g145,bif_eq,bif_eq,bif_eq];simp only[q0r (show(0:Int)<=9218868437227405311 by omega) O,q0r (show(0:Int)<=9218868437227405312 by omega) O,bS]
 unfold overF;by_cases m3:mode=3
 . rw[iP m3,iP (.inl m3)]
 . rw[iN' m3];by_cases m1:mode=1
   . have m2: ¬mode=2:=O;rw[iP m1,iN' m2];cases neg with
     |false=>rw[iP (.inr (.inl ⟨m1,rfl⟩))];rfl
     |true=>rw[iN' (by simp[m2,m3])];rfl
   . rw[iN' m1];by_cases m2:mode=2
     . rw[iP m2];cases neg with
       |true=>rw[iP (.inr (.inr ⟨m2,rfl⟩))];rfl
       |false=>rw[iN' (by simp[m1,m3])];rfl
     . rw[iN' m2,iN' (by simp[m1,m2,m3])]
def qg2 {q:Int} {r:Nat} (h1:0<=q) (h2:q<2048) (h3:r<4503599627370496):b_or_ .u64 (shl_ .u64 (wJ (wI q)) 52) (r:Int)=q*4503599627370496+(r:Int):=by
 obtain⟨n,rfl⟩: ∃n:Nat,q=(n:Int):=⟨q.toNat,O⟩;have e1:shl_ .u64 (n:Int) 52=((n*2^52:Nat):Int):=shl64 (a:=n) (k:=52) O O;rw[wQ,wi O O,w64n O,e1,or64 O O];have:=zT1 (i:=52) (b:=r) O n;rw[zh,<-this];omega
def qr4 {a b:Int}:(if b>a then b else a)=max a b:=by split<;>omega
def qiq {m:Nat} (hm:3000000<m) (neg:Bool) {v:Nat} (hv:v≠0) (hb:blen v<=300000) {e:Int} (more:Bool) (mode:Int) (h1: -200000<=e) (h2:e<=200000):
 g93 m neg (zB (v:Int)).1 (zB (v:Int)).2.1 e more mode=some (q8k neg v e more mode,(),(),()):=by
 have hS:Sz (zB (v:Int)).2.1:=SzN O;have hvl:vl (zB (v:Int)).2.1=v:=by rw[qg6];exact Qn v
 have w1:wI (e+((blen v:Nat):Int))=e+((blen v:Nat):Int):=by rw[wQ,wi O O]
 have w2:wI (e+((blen v:Nat):Int)-1)=e+((blen v:Nat):Int)-1:=by rw[wQ,wi O O]
 have w3:wI (e+((blen v:Nat):Int)-1-52)=e+((blen v:Nat):Int)-1-52:=by rw[wQ,wi O O]
 have hu:max (e+((blen v:Nat):Int)-1-52) (-1074)=unitF v e:=by unfold unitF;congr 1;omega
 have hlog:g141 m neg (zB (v:Int)).1 (zB (v:Int)).2.1 e more=some (e+((blen v:Nat):Int)-1,(),()):=by
  rw[g141,q75 O hS,bS,hvl];dsimp only;rw[w1,w2]
 have hun:=qmg v e;have hun2:unitF v e<=600000:=by unfold unitF;omega
 have hmul:g144 m neg (zB (v:Int)).1 (zB (v:Int)).2.1 e more (unitF v e) mode=some (zB (sg neg (multF neg v e more mode)),(),(),(),()):=by
  unfold multF;by_cases c:unitF v e<=e
  . rw[iP c];exact qan hm neg hb more mode c O O O
  . rw[iN' c];exact qd1 hm neg hv hb more mode O (by unfold unitF at*;omega) O O
 have hle:=qmp (neg:=neg) (v:=v) (e:=e) (more:=more) (mode:=mode);rw[g93,hlog,bS];dsimp only;rw[w3,qr4,hu,hmul,bS];unfold q8k;generalize multF neg v e more mode=n at*;generalize unitF v e=u at*;have bn:blen n<=1000000:=zT (Z9 (k:=54) O) O;have w4: ∀d:Nat,d<=2000->wI (u+(d:Int))=u+(d:Int):=λd hd=>by rw[wQ,wi O O]
 have w5:wI (u+1)=u+1:=w4 1 O;have w6:wI (u+1075)=u+1075:=w4 1075 O;have w7:wI (u+1+1075)=u+1076:=by rw[Int.add_assoc];exact w4 1076 O
 dsimp only;rw[qoc O (SzB (by rw[q95];omega)),zv_zB,q95,bS]
 dsimp only;rw[qrn O (SzN bn),zv_zB,bS];unfold fitI;rw[iP O];dsimp only;rw[w64n O,w5,w6,w7,bif_eq,bQ,bQ,bQ];unfold packF;by_cases c1:n=9007199254740992
 . rw[iP O,iP c1];by_cases c2:u+1076>=2047
   . rw[iP c2,iP c2,q54];rfl
   . have hf:=qg2 (q:=u+1076) (r:=0) O O O;rw[show wI (u+1076)=u+1076 by rw[wQ,wi O O],nZ]at hf
     rw[iN' c2,iN' c2,hf,zl3,q0r O O];rfl
 . rw[iN' O,iN' c1];by_cases c2:n<4503599627370496
   . rw[iP O,iP c2,q0r O O];rfl
   . rw[iN' O,iN' c2];by_cases c3:u+1075>=2047
     . rw[iP c3,iP c3,q54];rfl
     . have hf:=qg2 (q:=u+1075) (r:=n-4503599627370496) O O O;rw[w6]at hf;have w8:wJ ((n:Int)-4503599627370496)=((n-4503599627370496:Nat):Int):=by rw[w64m];omega
       rw[iN' c3,iN' c3,w8,hf,q0r O O,show((n-4503599627370496:Nat):Int)=(n:Int)-4503599627370496 by omega];rfl
def q05 (d:Bool×Bool×LI×Int×Unit) (mode:Int):Int:=
 if d.1 then 9221120237041090560 else if d.2.2.1=[]then 0 else q8k d.2.1 (vl d.2.2.1) d.2.2.2.1 false mode
def qmk {m:Nat} (hm:3000000<m) {z e:Int} (mode:Int):g54 m (mkD z e).1 (mkD z e).2.1 (mkD z e).2.2.1 (mkD z e).2.2.2.1 mode=some (q05 (mkD z e) mode,(),(),()):=by
 rw[g54,qge hm,bS];dsimp only;unfold q05;by_cases h:OkD z e
 . have h1:(mkD z e).1=false:=h;rw[qav hm h,bS,bif_eq];dsimp only;obtain⟨w,f,k,k1,k2,k3⟩:=q1u h
   have hw:sgn z=0↔(zB w).2.1=[]:=by
    rw[<-k.sgn,Zc];show w=0↔lim w.natAbs=[];rw[q44];omega
   rw[h1,cond_false,iN' (show¬(false=true) by simp)]
   by_cases c:sgn z=0
   . rw[iP c,iP (by rw[k2];exact hw.1 c)]
   . have c2: ¬(zB w).2.1=[]:=λh=>c (hw.2 h)
     have hw0:w.natAbs≠0:=λh=>c2 (q44.2 h)
     rw[iN' c,iN' (by rw[k2];exact c2),g94,k1,k2,k3,qoc O k.Sz,zv_zB,bS,bS]
     dsimp only;rw[qiq hm _ hw0 (by have:=k.len;omega) _ _ (by have:=k.lo;omega) (by have:=k.hi;omega),bS]
     show some (_,_)=some (q8k _ (vl (lim w.natAbs)) _ _ _,_)
     rw[Qn]
 . rw[qap h];rfl
def fexp (f:Int):Int:=f/4503599627370496%2048
def ffrac (f:Int):Int:=f%4503599627370496
def fneg (f:Int):Bool:=decide (9223372036854775808<=f)
def ofZ (f:Int):Int:=(if fneg f then-1 else 1)*(if fexp f=0 then ffrac f else ffrac f+4503599627370496)
def ofE (f:Int):Int:=if fexp f=0 then-1074 else fexp f-1075
def FinF (f:Int):Prop:=fexp f≠2047
instance {f:Int}:Decidable (FinF f):=inferInstanceAs (Decidable (_≠_))
def U64 (f:Int):Prop:=0<=f/\f<18446744073709551616
def ofD (f:Int):Bool×Bool×LI×Int×Unit:=if FinF f then mkD (ofZ f) (ofE f)else(true,false,[],0,())
def q6p (f:Int):0<=fexp f/\fexp f<2048:=by unfold fexp;omega
def qgx (f:Int):0<=ffrac f/\ffrac f<4503599627370496:=by unfold ffrac;omega
def parts_eq {m:Nat} {f:Int} (h:U64 f):g44 m f=some ((fexp f,ffrac f,()),(),()):=by
 obtain⟨n,rfl⟩: ∃n:Nat,f=(n:Int):=⟨f.toNat,by have:=h.1;omega⟩
 have hn:n<18446744073709551616:=by have:=h.2;omega
 have e1:shr_ .u64 (n:Int) 52=((n/4503599627370496:Nat):Int):=shr64 (a:=n) (k:=52) O;have e2:=and64 (a:=n/4503599627370496) (b:=2047) O O;have e3:=and64 (a:=n) (b:=4503599627370495) hn O;rw[show((2047:Nat):Int)=2047 from rfl,show(2047:Nat)=2^11-1 by decide,zJ1]at e2
 rw[show((4503599627370495:Nat):Int)=4503599627370495 from rfl,show(4503599627370495:Nat)=2^52-1 by decide,zJ1]at e3
 rw[g44,e1,e2,e3,wQ,wi O O];unfold fexp ffrac;congr 3<;>omega
def qf2 {m:Nat} {f:Int} (h:U64 f):g21 m f=some (decide (FinF f),(),()):=by
 rw[g21,parts_eq h,bS];dsimp only;by_cases c:FinF f
 . rw[decide_eq_true c,show(fexp f !=2047)=true by simpa [FinF]using c]
 . rw[decide_eq_false c,show(fexp f !=2047)=false by simpa [FinF]using c]
def qqe {n:Nat} (h:n<18446744073709551616):qo .u64 (n:Int) 9223372036854775808=if 9223372036854775808<=n then 9223372036854775808 else 0:=by
 have e:=and64 (a:=n) (b:=9223372036854775808) h O;rw[show((9223372036854775808:Nat):Int)=9223372036854775808 from rfl]at e
 rw[e]
 have hb:n&&&9223372036854775808=if n.testBit 63 then 9223372036854775808 else 0:=by
  rw[show(9223372036854775808:Nat)=2^63 by decide]
  apply zY2;intro i;rw[zV2,zd1];by_cases c:63=i
  . subst c;cases hb:n.testBit 63
    . simp
    . rw[iP rfl,zd1];simp
  . cases hb:n.testBit 63
    . simp[c]
    . rw[iP rfl,zd1];simp[c]
 have ht:n.testBit 63=decide (9223372036854775808<=n):=by
  rw[Nat.testBit_eq_decide_div_mod_eq];rw[show(2:Nat)^63=9223372036854775808 by decide]
  by_cases c:9223372036854775808<=n
  . rw[decide_eq_decide];omega
  . rw[decide_eq_decide];omega
 rw[hb,ht];by_cases c:9223372036854775808<=n
 . simp[c]
 . simp[c]
def q1p {m:Nat} {f:Int} (h:U64 f):g87 m f=some (fneg f,(),()):=by
 obtain⟨n,rfl⟩: ∃n:Nat,f=(n:Int):=⟨f.toNat,by have:=h.1;omega⟩
 have hn:n<18446744073709551616:=by have:=h.2;omega
 rw[g87,qqe hn];unfold fneg;by_cases c:9223372036854775808<=n
 . rw[iP c,show decide ((9223372036854775808:Int)<=(n:Int))=true by rw[decide_eq_true_eq];omega];rfl
 . rw[iN' c,show decide ((9223372036854775808:Int)<=(n:Int))=false by rw[decide_eq_false_iff_not];omega];rfl
def qk0 {x:Int} (h1:0<=x) (h2:x<4503599627370496):b_or_ .u64 x 4503599627370496=x+4503599627370496:=by
 obtain⟨n,rfl⟩: ∃n:Nat,x=(n:Int):=⟨x.toNat,O⟩;have h:=or64 (a:=n) (b:=4503599627370496) O O;rw[show((4503599627370496:Nat):Int)=4503599627370496 from rfl]at h
 rw[h];have:=zT1 (i:=52) (b:=n) O 1;rw[zc3,show(4503599627370496:Nat)=2^52*1 by decide,<-this]
 omega
def qe1 (f:Int):blen (ofZ f).natAbs<=53:=by
 apply Z9;have h1:=qgx f;have c:(2:Nat)^53=9007199254740992:=by decide
 unfold ofZ;cases fneg f<;>(split<;>simp<;>omega)
def qcf {f:Int}: -1074<=ofE f/\ofE f<=972:=by
 have:=q6p f;unfold ofE;split<;>omega
def qpn {f:Int} (h:FinF f):ofE f<=971:=by
 have:=q6p f;unfold ofE FinF at*;split<;>omega
def Of_eq {m:Nat} (hm:3000000<m) {f:Int} (h:U64 f):g51 m f=some (ofD f,(),()):=by
 rw[g51,parts_eq h,bS,bif_eq,bif_eq];dsimp only;have h1:=q6p f;have h2:=qgx f;have hl:=qe1 f;have he:=qcf (f:=f);unfold ofD;by_cases c:fexp f=2047
 . rw[iP c,iN' (λh=>h c)]
 . have hF:FinF f:=c;rw[iN' c,iP hF,q1p h,qk0 h2.1 h2.2]
   have run: ∀(q:Int) (ex:Int),0<=q->q<9007199254740992->ofZ f=(if fneg f then-1 else 1)*q->ofE f=ex->
    ((g86 m (wI q)).bind λy2=>(some (fneg f,(),()):Option (Bool×Unit×Unit)).bind λy3=>bif y3.1 then
      (g88 m y2.1.1 y2.1.2.1).bind λy4=>(g84 m y4.1.1 y4.1.2.1 ex).bind λy5=>some ((y5.1.1,y5.1.2.1,y5.1.2.2.1,y5.1.2.2.2.1,()),((),()))
    else(g84 m y2.1.1 y2.1.2.1 ex).bind λy6=>some ((y6.1.1,y6.1.2.1,y6.1.2.2.1,y6.1.2.2.2.1,()),((),())))=some (mkD (ofZ f) (ofE f),(),()):=by
    intro q ex q1 q2 eq ee
    have hq:blen q.natAbs<=53:=by
     rw[eq]at hl;cases hf:fneg f<;>rw[hf]at hl<;>simpa using hl
    rw[wQ,wi O O,Jp O O O,bS,bS];dsimp only;cases hf:fneg f with
    |false=>
     rw[hf]at eq;rw[cond_false,qa4 hm O O O,eq,ee,iN' (by simp),zo3];rfl
    |true=>
     rw[hf]at eq;rw[cond_true,q7z O (SzB O),zv_zB,bS];dsimp only;rw[qa4 hm (by rw[zb2];omega) O O,eq,ee,iP rfl,Int.neg_one_mul];rfl
   by_cases c0:fexp f=0
   . rw[iP c0];exact run _ _ h2.1 O (by unfold ofZ;rw[iP c0]) (by unfold ofE;rw[iP c0])
   . rw[iN' c0,show wI (fexp f-1075)=fexp f-1075 by rw[wQ,wi O O]]
     exact run _ _ O O (by unfold ofZ;rw[iN' c0]) (by unfold ofE;rw[iN' c0])
def qpv {f:Int} (h:U64 f):finB f=decide (FinF f):=by
 have e1:=qf2 (m:=0) h;rw[q5k]at e1;have:=zD3 e1;exact(Prod.mk.inj this).1
def qr8 {f:Int} (h:FinF f):OkD (ofZ f) (ofE f):=by
 have hl:=qe1 f;have he:=qcf (f:=f);exact Jy.2 (Or.inr ⟨O,O⟩)
abbrev badD:Bool×Bool×LI×Int×Unit:=(true,false,[],0,())
def qo4 {z e:Int} (h: ¬OkD z e):mkD z e=badD:=qap h
def qdp {z e:Int}:OkD (-z) e↔OkD z e:=by
 rw[Jy,Jy,zb2];omega
def qoj {z e:Int} (h:OkD z e):mkD (-z) e=((mkD z e).1,(zB (-(zv (mkD z e).2.1 (mkD z e).2.2.1))).1,(zB (-(zv (mkD z e).2.1 (mkD z e).2.2.1))).2.1,(mkD z e).2.2.2.1,()):=by
 obtain⟨w,f,k⟩:=h.nf;have kn:EqD (-z) e (-w) f:=k.eq.symm.neg;rw[kn.mk];have ok:OkD (-w) f:=qdp.2 k.ok;rw[k.md];show mkD (-w) f=(false,(zB (-zv (zB w).1 (zB w).2.1)).1,(zB (-zv (zB w).1 (zB w).2.1)).2.1,f,());rw[zv_zB];unfold mkD;by_cases h0:w=0
 . subst h0;rw[k.zero rfl,show(-0:Int)=0 from rfl,iP rfl,zB_1,zB_2,show(0:Int).natAbs=0 from rfl,Q8];rfl
 . have hn:(-w).natAbs≠0:=O
   have hb: ¬(f+(blen (-w).natAbs:Int)>65536\/f+(tz (-w).natAbs:Int)< -65536):=by
    rcases Jy.1 ok with h|h
    . omega
    . omega
   have ht:tz (-w).natAbs=0:=by rw[zb2];exact qgr (k.odd h0)
   rw[iN' O,iN' hb,ht,zt2,Nat.div_one,nZ,zl3];rfl
def qpw {m:Nat} (hm:3000000<m) {z e:Int}:g152 m (mkD z e).1 (mkD z e).2.1 (mkD z e).2.2.1 (mkD z e).2.2.2.1=some (mkD (-z) e,(),()):=by
 rw[g152,q5r hm,bS];dsimp only;by_cases h:OkD z e
 . obtain⟨w,f,k,k1,k2,k3⟩:=q1u h;have hS:Sz (mkD z e).2.2.1:=by rw[k2];exact k.Sz
   rw[decide_eq_true h,cond_true,q7z O hS,bS,qoj h]
 . rw[decide_eq_false h,cond_false,qo4 (mt qdp.1 h),qo4 h]
def qmo {w f b:Int} (h:b<=f):blen (sc w f b).natAbs<=(f-b).toNat+blen w.natAbs:=by
 unfold sc;exact q65
def qhv {m:Nat} (hm:3000000<m) {a B b C w f x h:Int} (k:NF a B w f) (l:NF b C x h) (b1 b2:Bool):
 g83 m b1 (zB w).1 (zB w).2.1 f b2 (zB x).1 (zB x).2.1 h=some ((zB (sc w f (min f h)),zB (sc x h (min f h)),min f h,()),(),(),()):=by
 have e1:(if h<f then h else f)=min f h:=by split<;>omega
 have hb1:=k.lo;have hb2:=k.hi;have hb3:=l.lo;have hb4:=l.hi;have hl1:=k.len;have hl2:=l.len;have w1:wI (f-min f h)=f-min f h:=by rw[wQ,wi O O]
 have w2:wI (h-min f h)=h-min f h:=by rw[wQ,wi O O]
 rw[g83,e1,w1,w2,left_eq hm O O O,bS,left_eq hm O O O,bS];rfl
def sc_bd {a B w f b:Int} (k:NF a B w f) (h1:b<=f) (h2: -65536<=b):blen (sc w f b).natAbs<=300000:=by
 have:=qmo (w:=w) h1;have:=k.len;have:=k.hi;omega
def qrk {a b B w f x h:Int} (k:NF a B w f) (l:NF b B x h):EqD (sc w f (min f h)+sc x h (min f h)) (min f h) (a+b) B:=
 ((EqD.sc O).trans k.eq).add (c:=0) (g:=0) ((EqD.sc O).trans l.eq)
def qjt {m:Nat} (hm:3000000<m) {a b B:Int}:
 g50 m (mkD a B).1 (mkD a B).2.1 (mkD a B).2.2.1 (mkD a B).2.2.2.1 (mkD b B).1 (mkD b B).2.1 (mkD b B).2.2.1 (mkD b B).2.2.2.1=some (if OkD a B/\OkD b B then mkD (a+b) B else badD,(),(),()):=by
 rw[g50,qqj hm,bS];dsimp only;by_cases h:OkD a B/\OkD b B
 . obtain⟨w,f,k,k1,k2,k3⟩:=q1u h.1;obtain⟨x,g,l,l1,l2,l3⟩:=q1u h.2;have hb1:=k.lo;have hb3:=l.lo;have:=k.hi;rw[decide_eq_true h,zP2,cond_false,iP h,k1,k2,k3,l1,l2,l3,qhv hm k l,bS];dsimp only;have s1:=sc_bd k (b:=min f g) O O;have s2:=sc_bd l (b:=min f g) O O;rw[qg8 O (SzB O) (SzB O),zv_zB,zv_zB,bS];dsimp only;rw[qa4 hm (zT (q38 s1 s2) O) O O,(qrk k l).mk];rfl
 . rw[decide_eq_false h,iN' h];rfl
def qov {m:Nat} (hm:3000000<m) {a b B:Int}:
 g106 m (mkD a B).1 (mkD a B).2.1 (mkD a B).2.2.1 (mkD a B).2.2.2.1 (mkD b B).1 (mkD b B).2.1 (mkD b B).2.2.1 (mkD b B).2.2.2.1=some (if OkD a B/\OkD b B then mkD (a-b) B else badD,(),(),()):=by
 rw[g106,qpw hm,bS];dsimp only;rw[qjt hm,bS,<-Int.sub_eq_add_neg];simp only[qdp]
def Jk (n:Int):Int:=max (min n 262144) (-262144)
def ql5 {m:Nat} (hm:3000000<m) {a B:Int} {n:Int}:
 g104 m (mkD a B).1 (mkD a B).2.1 (mkD a B).2.2.1 (mkD a B).2.2.2.1 n=some (if OkD a B then mkD a (B+Jk n)else badD,(),(),()):=by
 rw[g104,q5r hm,bS];dsimp only;by_cases h:OkD a B
 . obtain⟨w,f,k,k1,k2,k3⟩:=q1u h;have hb1:=k.lo;have hb2:=k.hi;have n1:=k.len
   have e1:(if(-262144)>(if 262144<n then 262144 else n)then(-262144)else(if 262144<n then 262144 else n))=Jk n:=by
    unfold Jk;repeat' split
    all_goals omega
   have hc: -262144<=Jk n/\Jk n<=262144:=by unfold Jk;omega
   have w1:wI (f+Jk n)=f+Jk n:=by rw[wQ,wi O O]
   have hE:EqD w (f+Jk n) a (B+Jk n):=by
    have:=k.eq.mul (EqD.refl 1 (Jk n))
    rwa [ze3,ze3]at this
   rw[decide_eq_true h,zP2,cond_false,iP h,e1,k1,k2,k3,w1,qa4 hm O O O,hE.mk];rfl
 . rw[decide_eq_false h,iN' h];rfl
end Go.Vs.F
