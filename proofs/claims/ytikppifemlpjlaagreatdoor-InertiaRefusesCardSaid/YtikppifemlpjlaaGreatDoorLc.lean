import Derived.Test.YtikppifemlpjlaaGreatDoorLb
set_option linter.unusedVariables false
set_option linter.unusedSimpArgs false
set_option linter.defProp false
namespace Go.Vs.F
def mkD (z e:Int):Bool×Bool×LI×Int×Unit:=
 if z=0 then(false,false,[],0,())
 else if e+(blen z.natAbs:Int)>65536\/e+(tz z.natAbs:Int)< -65536 then(true,false,[],0,())
 else(false,decide (z<0),lim (z.natAbs/2^tz z.natAbs),e+(tz z.natAbs:Int),())
def OkD (z e:Int):Prop:=(mkD z e).1=false
def sc (z e b:Int):Int:=z*2^(e-b).toNat
def EqD (z e w f:Int):Prop:= ∃b,b<=e/\b<=f/\sc z e b=sc w f b
def q95 (e:Int):mkD 0 e=(false,false,[],0,()):=rfl
def Ym {z e:Int}:OkD z e↔z=0\/(e+(blen z.natAbs:Int)<=65536/\ -65536<=e+(tz z.natAbs:Int)):=by
 unfold OkD mkD;by_cases h:z=0
 . simp[h]
 . rw[iN' h];by_cases h2:e+(blen z.natAbs:Int)>65536\/e+(tz z.natAbs:Int)< -65536
   . rw[iP h2];simp only[h,false_or];constructor
     . intro h;cases h
     . intro h;omega
   . rw[iN' h2];simp only[h,false_or,true_iff];omega
def qg1 (e:Int):OkD 0 e:=rfl
instance {z e:Int}:Decidable (OkD z e):=inferInstanceAs (Decidable (_=_))
def q4e {z e:Int} (h: ¬OkD z e):mkD z e=(true,false,[],0,()):=by
 unfold OkD mkD at*;split at h
 . exact absurd rfl h
 . rename_i h1;rw[iN' h1];split at h
   . rename_i h2;rw[iP h2]
   . exact absurd rfl h
def Ji {z:Int} {k:Nat}:(z*2^k).natAbs=2^k*z.natAbs:=by
 rw[zI2,Int.natAbs_pow,zW];rfl
def Jg {k n:Nat} (h:n≠0):blen (2^k*n)=k+blen n:=by
 have:=Ju (y:=0) h (zC1 (n:=k) (show 0<2 by omega))
 rwa [zL]at this
def Jd (k:Nat):0<(2:Int)^k:=Int.pow_pos O
def q90 {z:Int} {k:Nat}:z*2^k<0↔z<0:=by
 have:=Jd k;constructor
 . intro h;refine Int.not_le.1 λh2=> ?_
   have:=Int.mul_nonneg h2 (Int.le_of_lt this);omega
 . intro h;exact Int.mul_neg_of_neg_of_pos h this
def qkt {z:Int} {k:Nat} {e:Int}:mkD (z*2^k) e=mkD z (e+(k:Int)):=by
 unfold mkD;by_cases h:z=0
 . subst h;rw[zS3];rfl
 . have h2:z*2^k≠0:=zs3 h (by have:=Jd k;omega)
   have hn:z.natAbs≠0:=O;rw[iN' h,iN' h2,Ji,Jg hn,qal hn,zQ1,Nat.mul_div_mul_left _ _ (zC1 O)];simp only[q90];rw[za1,za1,<-Int.add_assoc,<-Int.add_assoc]
def q0s {z e b:Int} (h:b<=e):mkD (sc z e b) b=mkD z e:=by
 unfold sc;rw[qkt];congr 1;omega
def EqD.mk {z e w f:Int}:EqD z e w f->mkD z e=mkD w f
 |⟨b,h1,h2,h3⟩=>by rw[<-q0s h1,<-q0s h2,h3]
def qgf {z e b c:Int} (h1:c<=b) (h2:b<=e):sc z e c=sc z e b*2^(b-c).toNat:=by
 unfold sc;rw[zo3,<-Int.pow_add];congr 2;omega
def qh3 {x y:Int} {k:Nat} (h:x*2^k=y*2^k):x=y:=
 Int.eq_of_mul_eq_mul_right (by have:=Jd k;omega) h
def EqD.low {z e w f:Int} (h:EqD z e w f) {c:Int} (h1:c<=e) (h2:c<=f):sc z e c=sc w f c:=by
 obtain⟨b,hb1,hb2,h3⟩:=h;by_cases hc:c<=b
 . rw[qgf hc hb1,qgf hc hb2,h3]
 . rw[qgf (b:=c) (c:=b) O h1,qgf (b:=c) (c:=b) O h2]at h3;exact qh3 h3
def EqD.refl (z e:Int):EqD z e z e:=⟨e,O,O,rfl⟩
def EqD.symm {z e w f:Int}:EqD z e w f->EqD w f z e
 |⟨b,h1,h2,h3⟩=>⟨b,h2,h1,h3.symm⟩
def EqD.trans {z e w f y g:Int} (h:EqD z e w f) (h2:EqD w f y g):EqD z e y g:=by
 obtain⟨c,c1,c2,c3⟩: ∃c:Int,c<=e/\c<=f/\c<=g:=⟨min e (min f g),O,O,O⟩;exact⟨c,c1,c3,(h.low c1 c2).trans (h2.low c2 c3)⟩
def EqD.zero (e f:Int):EqD 0 e 0 f:=⟨min e f,O,O,by unfold sc;rw[zS3,zS3]⟩
def qdi (z e:Int):sc z e e=z:=by unfold sc;rw[Int.sub_self];exact zq3 z
def EqD.sc {z e b:Int} (h:b<=e):EqD (sc z e b) b z e:=⟨b,O,h,by rw[qdi]⟩
def EqD.add {z e w f y c x g:Int} (h1:EqD z e w f) (h2:EqD y e x f):EqD (z+y) e (w+x) f:=by
 obtain⟨c,c1,c2⟩: ∃c:Int,c<=e/\c<=f:=⟨min e f,O,O⟩;refine⟨c,c1,c2,?_⟩;have a:=h1.low c1 c2;have b:=h2.low c1 c2;unfold Vs.F.sc at*;rw[Int.add_mul,Int.add_mul,a,b]
def EqD.neg {z e w f:Int}:EqD z e w f->EqD (-z) e (-w) f
 |⟨b,h1,h2,h3⟩=>⟨b,h1,h2,by unfold Vs.F.sc at*;rw[zh3,zh3,h3]⟩
def EqD.mul {z e w f y g x h:Int} (h1:EqD z e w f) (h2:EqD y g x h):EqD (z*y) (e+g) (w*x) (f+h):=by
 obtain⟨b,b1,b2,b3⟩:=h1;obtain⟨c,c1,c2,c3⟩:=h2;refine⟨b+c,O,O,?_⟩
 have k: ∀{z e y g:Int},b<=e->c<=g->Vs.F.sc (z*y) (e+g) (b+c)=Vs.F.sc z e b*Vs.F.sc y g c:=by
  intro z e y g h1 h2;unfold Vs.F.sc;rw[show(e+g-(b+c)).toNat=(e-b).toNat+(g-c).toNat by omega,Int.pow_add]
  simp only[zo3,zT3,Int.mul_left_comm]
 rw[k b1 c1,k b2 c2,b3,c3]
def EqD.sgn {z e w f:Int} (h:EqD z e w f):Vs.F.sgn z=Vs.F.sgn w:=by
 obtain⟨b,h1,h2,h3⟩:=h
 have k: ∀z e:Int,Vs.F.sgn (Vs.F.sc z e b)=Vs.F.sgn z:=by
  intro z e;unfold Vs.F.sgn Vs.F.sc;simp only[q90]
  have:0<z*2^(e-b).toNat↔0<z:=by
   have:=Jd (e-b).toNat;constructor
   . intro h;exact Int.pos_of_mul_pos_left h this
   . intro h;exact Int.mul_pos h this
  simp only[this]
 rw[<-k z e,<-k w f,h3]
def EqD.cmp {z e w f:Int} {y x:Int} (h:EqD z e w f) (h2:EqD y e x f):cmpZ z y=cmpZ w x:=by
 have:=(h.add (c:=0) (g:=0) h2.neg).sgn;unfold Vs.F.sgn at this;unfold cmpZ
 repeat' split at this
 all_goals repeat' split
 all_goals first|rfl|omega
def q3d {n k:Nat}:blen (n/2^k)<=blen n:=by
 by_cases h:n/2^k=0
 . rw[h,J7];omega
 . have h0:n≠0:=by rintro rfl;simp at h
   rw[Qq h,Qq h0]
   have:(n/2^k).log2<n.log2+1:=by
    rw[zB3 h];exact zA2 (zl1 ..) Nat.lt_log2_self
   omega
def qfx {n:Nat} (h:n≠0):n/2^tz n≠0/\n=2^tz n*(n/2^tz n)/\(n/2^tz n)%2=1:=by
 obtain⟨q,h1,h2⟩:=q5u h
 have:n/2^tz n=q:=by
  conv=>lhs;arg 1;rw[h1]
  exact z02 q (zC1 O)
 rw[this];exact⟨O,h1,h2⟩
def qe3 {n:Nat} (h:n≠0):blen n=tz n+blen (n/2^tz n):=by
 obtain⟨h1,h2,_⟩:=qfx h;conv=>lhs;rw[h2]
 exact Jg h1
def qbl {z:Int} {q:Nat}:((if z<0 then-1 else 1)*(q:Int)).natAbs=q:=by split<;>omega
def lt_sg {z:Int} {q:Nat} (h:q≠0):z<0↔((if z<0 then-1 else 1)*(q:Int))<0:=by split<;>omega
def qpf {z:Int} {q:Nat}:((if z<0 then-1 else 1)*(q:Int))=0->q=0:=by split<;>omega
def qnw {z:Int}:(if z<0 then-1 else 1)*(z.natAbs:Int)=z:=by split<;>omega
structure NF (z e w f:Int):Prop where
 eq:EqD w f z e
 md:mkD z e=(false,decide (w<0),lim w.natAbs,f,())
 zero:w=0->f=0
 odd:w≠0->w.natAbs%2=1
 lo: -65536<=f
 hi:f+(blen w.natAbs:Int)<=65536
def NF.len {z e w f:Int} (h:NF z e w f):blen w.natAbs<=131072:=by have:=h.lo;have:=h.hi;omega
def OkD.nf {z e:Int} (h:OkD z e): ∃w f,NF z e w f:=by
 by_cases hz:z=0
 . subst hz;exact⟨0,0,EqD.zero ..,by rw[q95];simp[Q8],λ_=>rfl,λh=>absurd rfl h,O,by decide⟩
 . rcases Ym.1 h with h|⟨h1,h2⟩
   . exact absurd h hz
   . have hn:z.natAbs≠0:=O;obtain⟨k1,k2,k3⟩:=qfx hn;have hb:=qe3 hn
     have hmk:mkD z e=(false,decide (z<0),lim (z.natAbs/2^tz z.natAbs),e+(tz z.natAbs:Int),()):=by
      unfold mkD;rw[iN' hz,iN' O]
     have hN:=qbl (z:=z) (q:=z.natAbs/2^tz z.natAbs);refine⟨(if z<0 then-1 else 1)*(((z.natAbs/2^tz z.natAbs:Nat)):Int),e+(tz z.natAbs:Int),⟨e,O,O,?_⟩,?_,?_,?_,O,?_⟩
     . rw[qdi];unfold sc;rw[show(e+(tz z.natAbs:Int)-e).toNat=tz z.natAbs by omega,zo3]
       have:(((z.natAbs/2^tz z.natAbs:Nat)):Int)*2^tz z.natAbs=(z.natAbs:Int):=by
        conv=>rhs;rw[k2]
        rw[zR1,zT3,zY1];rfl
       rw[this,qnw]
     . rw[hmk,hN,decide_eq_decide.2 (lt_sg k1)]
     . intro h0;exact absurd (qpf h0) k1
     . intro _;rw[hN];exact k3
     . rw[hN];omega
def NF.ok {z e w f:Int} (h:NF z e w f):OkD w f:=by
 unfold OkD;rw[h.eq.mk,h.md]
def X7 {n k:Nat} (h:blen n<=k):(lim n).length<=k/32+1:=by
 refine Xi ?_;refine zN2 (Yw n) ?_;rw[show(4294967296:Nat)=2^32 by decide,<-Nat.pow_mul]
 exact zq O O
def qgj {n k:Nat} (h:(lim n).length<=k):blen n<=32*k:=by
 by_cases h0:n=0
 . subst h0;rw[J7];omega
 . have h1:=vl_lt (Q7 n);rw[qw]at h1
   have h2:n<2^(32*k):=by
    refine zN2 h1 ?_;rw[show(4294967296:Nat)=2^32 by decide,<-Nat.pow_mul]
    exact zq O O
   rw[Qq h0];exact(zB3 h0).2 h2
def Yd {n k:Nat} (h:n<=k):blen n<=blen k:=by
 by_cases h0:n=0
 . subst h0;rw[J7];omega
 . have hk:k≠0:=O;rw[Qq h0,Qq hk];have:n.log2<k.log2+1:=(zB3 h0).2 (zA2 h Nat.lt_log2_self);omega
def Yh {n k:Nat} (h:n<2^k):blen n<=k:=by
 by_cases h0:n=0
 . subst h0;rw[J7];omega
 . rw[Qq h0];exact(zB3 h0).2 h
def q5c {a b k:Nat} (ha:blen a<=k) (hb:blen b<=k):blen (a+b)<=k+1:=by
 apply Yh;have h1:=Yw a;have h2:=Yw b;have h3:2^blen a<=2^k:=zq O ha;have h4:2^blen b<=2^k:=zq O hb;rw[zh];omega
def q3f {a b:Nat}:blen (a*b)<=blen a+blen b:=by
 apply Yh;rw[zQ1];exact Nat.mul_lt_mul_of_lt_of_le (Yw a) (zh2 (Yw b)) (zC1 O)
def q3p {a b:Int} {k:Nat} (ha:blen a.natAbs<=k) (hb:blen b.natAbs<=k):blen (a+b).natAbs<=k+1:=
 zK (Yd (show(a+b).natAbs<=a.natAbs+b.natAbs by omega)) (q5c ha hb)
def qau {a b:Int}:blen (a*b).natAbs<=blen a.natAbs+blen b.natAbs:=by
 rw[zI2];exact q3f
def q7l {a:Int} {k:Nat}:blen (a*2^k).natAbs<=k+blen a.natAbs:=by
 by_cases h:a.natAbs=0
 . rw[Ji,h,zX,J7];omega
 . rw[Ji,Jg h];omega
def zB_1 (z:Int):(zB z).1=decide (z<0):=rfl
def zB_2 (z:Int):(zB z).2.1=lim z.natAbs:=rfl
def Lm_zB (z:Int):Lm (zB z).2.1:=Q7 _
def q14 {z:Int} {k:Nat} (h:blen z.natAbs<=k):(zB z).2.1.length<=k/32+1:=X7 h
def left_eq {m:Nat} (hm:3000000<m) {z:Int} (hz:blen z.natAbs<=1000000) {k:Int} (h0:0<=k) (hk:k<=1048576):g192 m (zB z).1 (zB z).2.1 k=some (zB (z*2^k.toNat),(),(),()):=by
 have hl:=q14 hz;obtain⟨n,rfl⟩: ∃n:Nat,k=(n:Int):=⟨k.toNat,O⟩;rw[g192,q5j hm (Lm_zB z) O O,bS,zv_zB];rfl
def right_eq {m:Nat} (hm:3000000<m) {z:Int} (hz:blen z.natAbs<=1000000) {k:Nat} (hk:k<=1048576):g151 m (zB z).1 (zB z).2.1 (k:Int)=some (zB (z/2^k),(),(),()):=by
 have hl:=q14 hz;obtain⟨m',rfl⟩: ∃m',m=m'+1:=⟨m-1,O⟩;rw[g151,g151L0,bQ,iN' O,bS];dsimp only;by_cases h0:k=0
 . subst h0;rw[show wI (0-((0:Nat):Int))=((0:Nat):Int)from by decide,q5j hm (Lm_zB z) O O,bS,zv_zB]
   dsimp only;rw[show z*2^0=z/2^0 by rw[Int.pow_zero,zq3,Int.ediv_one]]
 . rw[show wI (0-(k:Int))= -(k:Int) by rw[wQ,wi O O];omega,qgv hm (Lm_zB z) O O O,bS,zv_zB,zY1]
   rfl
def qm3 {z:Int} (h:z≠0):zB (z/2^tz z.natAbs)=(decide (z<0),lim (z.natAbs/2^tz z.natAbs),()):=by
 obtain⟨k1,k2,k3⟩:=qfx (n:=z.natAbs) O
 have:z=((if z<0 then-1 else 1)*((z.natAbs/2^tz z.natAbs:Nat):Int))*2^tz z.natAbs:=by
  rw[zo3]
  have:(((z.natAbs/2^tz z.natAbs:Nat)):Int)*2^tz z.natAbs=(z.natAbs:Int):=by
   conv=>rhs;rw[k2]
   rw[zR1,zT3,zY1];rfl
  rw[this,qnw]
 have h2:z/2^tz z.natAbs=(if z<0 then-1 else 1)*((z.natAbs/2^tz z.natAbs:Nat):Int):=by
  conv=>lhs;arg 1;rw[this]
  rw[Int.mul_ediv_cancel];have:=Jd (tz z.natAbs);omega
 have h3:=lt_sg (z:=z) k1;have h4:=qbl (z:=z) (q:=z.natAbs/2^tz z.natAbs);rw[<-h2]at h3 h4;unfold zB;rw[h4,decide_eq_decide.2 h3.symm]
theorem Qm {z:Int}:sgn z=0↔z=0:=by unfold sgn;repeat' split
                                   all_goals omega
def q26 {n:Nat}:tz n<=blen n:=by
 by_cases h:n=0
 . subst h;rw[qea];omega
 . rw[qe3 h];omega
def qkn {m:Nat} (hm:3000000<m) {z:Int} (hz:blen z.natAbs<=900000) {e:Int} (h1: -1000000000<=e) (h2:e<=1000000000):g97 m false (zB z).1 (zB z).2.1 e=some ((mkD z e,decide (OkD z e),()),(),()):=by
 have hl:=q14 hz;have hS:Sz (zB z).2.1:=⟨Lm_zB z,O⟩;have hv:vl (zB z).2.1=z.natAbs:=qw _;rw[g97,cond_false,qkr O hS,bS,zv_zB];dsimp only;rw[Zz O hS,bS,zv_zB,bif_eq];dsimp only;by_cases h:z=0
 . subst h;rw[iP (Qm.2 rfl)];rfl
 . have hn:z.natAbs≠0:=O;have ht:=q26 (n:=z.natAbs);rw[iN' (λe=>h (Qm.1 e)),q0r O hS O,bS,q1c O hS,bS,hv]
   dsimp only
   rw[show wI (65536-((blen z.natAbs:Nat):Int))=65536-((blen z.natAbs:Nat):Int) by rw[wQ,wi O O],
    show wI ((-65536)-((tz z.natAbs:Nat):Int))=(-65536)-((tz z.natAbs:Nat):Int) by rw[wQ,wi O O],
    show wI (e+((tz z.natAbs:Nat):Int))=e+((tz z.natAbs:Nat):Int) by rw[wQ,wi O O],
    bQ,bQ,right_eq hm O O,bS,qm3 h]
   by_cases hk:OkD z e
   . rcases Ym.1 hk with h0|⟨k1,k2⟩
     . exact absurd h0 h
     . rw[iN' O,iN' O,decide_eq_true hk];unfold mkD;rw[iN' h,iN' O]
   . have hk2: ¬(e+(blen z.natAbs:Int)<=65536/\ -65536<=e+(tz z.natAbs:Int)):=λc=>hk (Ym.2 (Or.inr c))
     rw[q4e hk,decide_eq_false hk];by_cases c:e>65536-((blen z.natAbs:Nat):Int)
     . rw[iP c];rfl
     . rw[iN' c,iP O];rfl
def q2f {m:Nat} (hm:3000000<m) {z:Int} (hz:blen z.natAbs<=900000) {e:Int} (h1: -1000000000<=e) (h2:e<=1000000000):g112 m (zB z).1 (zB z).2.1 e=some (mkD z e,(),(),()):=by
 rw[g112,qkn hm hz h1 h2];rfl
def qez {m:Nat} (hm:3000000<m) {z e:Int} (h:OkD z e):g97 m (mkD z e).1 (mkD z e).2.1 (mkD z e).2.2.1 (mkD z e).2.2.2.1=some ((mkD z e,true,()),(),()):=by
 obtain⟨w,f,k⟩:=h.nf;rw[k.md];have:=qkn hm (z:=w) (by have:=k.len;omega) (e:=f) (by have:=k.lo;omega) (by have:=k.hi;omega)
 rw[zB_1,zB_2]at this;rw[this,k.eq.mk,k.md,decide_eq_true k.ok]
def q0x {m:Nat} (hm:3000000<m) {z e:Int}:g97 m (mkD z e).1 (mkD z e).2.1 (mkD z e).2.2.1 (mkD z e).2.2.2.1=some ((mkD z e,decide (OkD z e),()),(),()):=by
 by_cases h:OkD z e
 . rw[qez hm h,decide_eq_true h]
 . rw[q4e h,decide_eq_false h];rfl
def qf7 {m:Nat} (hm:3000000<m) {z e:Int}:g56 m (mkD z e).1 (mkD z e).2.1 (mkD z e).2.2.1 (mkD z e).2.2.2.1=some (mkD z e,(),()):=by
 rw[g56,q0x hm];rfl
def Xe {z e:Int} (h:OkD z e): ∃w f,NF z e w f/\(mkD z e).2.1=(zB w).1/\(mkD z e).2.2.1=(zB w).2.1/\(mkD z e).2.2.2.1=f:=by
 obtain⟨w,f,k⟩:=h.nf;refine⟨w,f,k,?_⟩;rw[k.md];exact⟨rfl,rfl,rfl⟩
def NF.Sz {z e w f:Int} (h:NF z e w f):Vs.F.Sz (zB w).2.1:=⟨Lm_zB w,by have:=q14 h.len;omega⟩
def NF.sgn {z e w f:Int} (h:NF z e w f):Vs.F.sgn w=Vs.F.sgn z:=h.eq.sgn
def qfj {m:Nat} (hm:3000000<m) {z e:Int} (h:OkD z e):g92 m (mkD z e).1 (mkD z e).2.1 (mkD z e).2.2.1 (mkD z e).2.2.2.1=some (sgn z,(),()):=by
 obtain⟨w,f,k,k1,k2,k3⟩:=Xe h;rw[g92,qez hm h,bS];dsimp only;rw[k1,k2,Zz O k.Sz,bS,zv_zB,k.sgn]
def qgh {m:Nat} (hm:3000000<m) {z e y f:Int}:g161 m (mkD z e).1 (mkD z e).2.1 (mkD z e).2.2.1 (mkD z e).2.2.2.1 (mkD y f).1 (mkD y f).2.1 (mkD y f).2.2.1 (mkD y f).2.2.2.1=some ((mkD z e,mkD y f,decide (OkD z e/\OkD y f),()),(),(),()):=by
 rw[g161,q0x hm,bS,q0x hm,bS];dsimp only;rw[Bool.decide_and];cases decide (OkD z e)<;>rfl
def upB (neg:Bool) (half:Int) (odd:Bool) (mode:Int):Bool:=
 if mode=1 then neg else if mode=2 then !neg else if mode=3 then false else decide (0<half)||(decide (half=0)&&odd)
def halfC (v n:Nat) (more:Bool):Int:=
 if 2*(v%2^n)<2^n then-1 else if 2*(v%2^n)=2^n/\more=false then 0 else 1
def cutN (neg:Bool) (v n:Nat) (more:Bool) (mode:Int):Nat:=
 if v%2^n=0/\more=false then v/2^n else v/2^n+(if upB neg (halfC v n more) (v/2^n%2==1) mode then 1 else 0)
def qjg {neg:Bool} {v n:Nat} {more:Bool} {mode:Int}:cutN neg v n more mode<=v/2^n+1:=by
 unfold cutN;split
 . omega
 . split<;>omega
def take_snoc {l:LI} {k:Nat} (hk:k<l.length) {x:Int} (ex:l.getD k 0=x):l.take (k+1)=l.take k++[x]:=by
 rw[List.take_add_one,<-ex,List.getD,List.getElem?_eq_getElem hk];rfl
def Y4 (v:Nat):zB (v:Int)=(false,lim v,()):=by
 unfold zB;rw[zV,show decide ((v:Int)<0)=false by simp]
def SzB {z:Int} (h:blen z.natAbs<=1000000):Sz (zB z).2.1:=⟨Lm_zB z,by have:=q14 h;omega⟩
def SzN {v:Nat} (h:blen v<=1000000):Sz (zB (v:Int)).2.1:=SzB (by rwa [zV])
def Xf {k:Nat}:blen (2^k)=k+1:=ql3 (zH _) (by rw[zh];have:=zC1 (n:=k) (show 0<2 by omega);omega)
def q46 {v n:Nat} {more:Bool} (h:2*(v%2^n)<2^n):halfC v n more= -1:=by unfold halfC;rw[iP h]
def sg (neg:Bool) (n:Nat):Int:=if neg then-(n:Int)else(n:Int)
def q7z {neg:Bool} {n:Nat}:(sg neg n).natAbs=n:=by unfold sg;cases neg<;>simp
def q4m {n:Nat} (h:n≠0):tz n=0↔n%2=1:=by
 constructor
 . intro h2;obtain⟨q,h3,h4⟩:=q5u h;rw[h2,za2,zT2]at h3;omega
 . exact qfn
def fexp (f:Int):Int:=f/4503599627370496%2048
def ffrac (f:Int):Int:=f%4503599627370496
def fneg (f:Int):Bool:=decide (9223372036854775808<=f)
def ofZ (f:Int):Int:=(if fneg f then-1 else 1)*(if fexp f=0 then ffrac f else ffrac f+4503599627370496)
def ofE (f:Int):Int:=if fexp f=0 then-1074 else fexp f-1075
def FinF (f:Int):Prop:=fexp f≠2047
instance {f:Int}:Decidable (FinF f):=inferInstanceAs (Decidable (_≠_))
def U64 (f:Int):Prop:=0<=f/\f<18446744073709551616
def ofD (f:Int):Bool×Bool×LI×Int×Unit:=if FinF f then mkD (ofZ f) (ofE f)else(true,false,[],0,())
def q4d (f:Int):0<=fexp f/\fexp f<2048:=by unfold fexp;omega
def q9m (f:Int):0<=ffrac f/\ffrac f<4503599627370496:=by unfold ffrac;omega
def parts_eq {m:Nat} {f:Int} (h:U64 f):g103 m f=some ((fexp f,ffrac f,()),(),()):=by
 obtain⟨n,rfl⟩: ∃n:Nat,f=(n:Int):=⟨f.toNat,by have:=h.1;omega⟩
 have hn:n<18446744073709551616:=by have:=h.2;omega
 have e1:shr_ .u64 (n:Int) 52=((n/4503599627370496:Nat):Int):=shr64 (a:=n) (k:=52) O;have e2:=and64 (a:=n/4503599627370496) (b:=2047) O O;have e3:=and64 (a:=n) (b:=4503599627370495) hn O;rw[show((2047:Nat):Int)=2047 from rfl,show(2047:Nat)=2^11-1 by decide,zM1]at e2
 rw[show((4503599627370495:Nat):Int)=4503599627370495 from rfl,show(4503599627370495:Nat)=2^52-1 by decide,zM1]at e3
 rw[g103,e1,e2,e3,wQ,wi O O];unfold fexp ffrac;congr 3<;>omega
def qk3 {m:Nat} {f:Int} (h:U64 f):g61 m f=some (decide (FinF f),(),()):=by
 rw[g61,parts_eq h,bS];dsimp only;by_cases c:FinF f
 . rw[decide_eq_true c,show(fexp f !=2047)=true by simpa [FinF]using c]
 . rw[decide_eq_false c,show(fexp f !=2047)=false by simpa [FinF]using c]
def qp6 {n:Nat} (h:n<18446744073709551616):qp .u64 (n:Int) 9223372036854775808=if 9223372036854775808<=n then 9223372036854775808 else 0:=by
 have e:=and64 (a:=n) (b:=9223372036854775808) h O;rw[show((9223372036854775808:Nat):Int)=9223372036854775808 from rfl]at e
 rw[e]
 have hb:n&&&9223372036854775808=if n.testBit 63 then 9223372036854775808 else 0:=by
  rw[show(9223372036854775808:Nat)=2^63 by decide]
  apply Nat.eq_of_testBit_eq;intro i;rw[zb3,zf2];by_cases c:63=i
  . subst c;cases hb:n.testBit 63
    . simp
    . rw[iP rfl,zf2];simp
  . cases hb:n.testBit 63
    . simp[c]
    . rw[iP rfl,zf2];simp[c]
 have ht:n.testBit 63=decide (9223372036854775808<=n):=by
  rw[Nat.testBit_eq_decide_div_mod_eq];rw[show(2:Nat)^63=9223372036854775808 by decide]
  by_cases c:9223372036854775808<=n
  . rw[decide_eq_decide];omega
  . rw[decide_eq_decide];omega
 rw[hb,ht];by_cases c:9223372036854775808<=n
 . simp[c]
 . simp[c]
def q6t {m:Nat} {f:Int} (h:U64 f):g110 m f=some (fneg f,(),()):=by
 obtain⟨n,rfl⟩: ∃n:Nat,f=(n:Int):=⟨f.toNat,by have:=h.1;omega⟩
 have hn:n<18446744073709551616:=by have:=h.2;omega
 rw[g110,qp6 hn];unfold fneg;by_cases c:9223372036854775808<=n
 . rw[iP c,show decide ((9223372036854775808:Int)<=(n:Int))=true by rw[decide_eq_true_eq];omega];rfl
 . rw[iN' c,show decide ((9223372036854775808:Int)<=(n:Int))=false by rw[decide_eq_false_iff_not];omega];rfl
def qcv {x:Int} (h1:0<=x) (h2:x<4503599627370496):b_or_ .u64 x 4503599627370496=x+4503599627370496:=by
 obtain⟨n,rfl⟩: ∃n:Nat,x=(n:Int):=⟨x.toNat,O⟩;have h:=or64 (a:=n) (b:=4503599627370496) O O;rw[show((4503599627370496:Nat):Int)=4503599627370496 from rfl]at h
 rw[h];have:=zi1 (i:=52) (b:=n) O 1;rw[zF4,show(4503599627370496:Nat)=2^52*1 by decide,<-this]
 omega
def qad (f:Int):blen (ofZ f).natAbs<=53:=by
 apply Yh;have h1:=q9m f;have c:(2:Nat)^53=9007199254740992:=by decide
 unfold ofZ;cases fneg f<;>(split<;>simp<;>omega)
def q8g {f:Int}: -1074<=ofE f/\ofE f<=972:=by
 have:=q4d f;unfold ofE;split<;>omega
def qpk {f:Int} (h:FinF f):ofE f<=971:=by
 have:=q4d f;unfold ofE FinF at*;split<;>omega
def Of_eq {m:Nat} (hm:3000000<m) {f:Int} (h:U64 f):g65 m f=some (ofD f,(),()):=by
 rw[g65,parts_eq h,bS,bif_eq,bif_eq];dsimp only;have h1:=q4d f;have h2:=q9m f;have hl:=qad f;have he:=q8g (f:=f);unfold ofD;by_cases c:fexp f=2047
 . rw[iP c,iN' (λh=>h c)]
 . have hF:FinF f:=c;rw[iN' c,iP hF,q6t h,qcv h2.1 h2.2]
   have run: ∀(q:Int) (ex:Int),0<=q->q<9007199254740992->ofZ f=(if fneg f then-1 else 1)*q->ofE f=ex->
    ((g109 m (wI q)).bind λy2=>(some (fneg f,(),()):Option (Bool×Unit×Unit)).bind λy3=>bif y3.1 then
      (g111 m y2.1.1 y2.1.2.1).bind λy4=>(g112 m y4.1.1 y4.1.2.1 ex).bind λy5=>some ((y5.1.1,y5.1.2.1,y5.1.2.2.1,y5.1.2.2.2.1,()),((),()))
    else(g112 m y2.1.1 y2.1.2.1 ex).bind λy6=>some ((y6.1.1,y6.1.2.1,y6.1.2.2.1,y6.1.2.2.2.1,()),((),())))=some (mkD (ofZ f) (ofE f),(),()):=by
    intro q ex q1 q2 eq ee
    have hq:blen q.natAbs<=53:=by
     rw[eq]at hl;cases hf:fneg f<;>rw[hf]at hl<;>simpa using hl
    rw[wQ,wi O O,Jw O O O,bS,bS];dsimp only;cases hf:fneg f with
    |false=>
     rw[hf]at eq;rw[cond_false,q2f hm O O O,eq,ee,iN' (by simp),Int.one_mul];rfl
    |true=>
     rw[hf]at eq;rw[cond_true,q89 O (SzB O),zv_zB,bS];dsimp only;rw[q2f hm (by rw[zm1];omega) O O,eq,ee,iP rfl,Int.neg_one_mul];rfl
   by_cases c0:fexp f=0
   . rw[iP c0];exact run _ _ h2.1 O (by unfold ofZ;rw[iP c0]) (by unfold ofE;rw[iP c0])
   . rw[iN' c0,show wI (fexp f-1075)=fexp f-1075 by rw[wQ,wi O O]]
     exact run _ _ O O (by unfold ofZ;rw[iN' c0]) (by unfold ofE;rw[iN' c0])
def qlj {f:Int} (h:U64 f):finB f=decide (FinF f):=by
 have e1:=qk3 (m:=0) h;rw[q6r]at e1;have:=zt3 e1;exact(Prod.mk.inj this).1
def qr8 {f:Int} (h:FinF f):OkD (ofZ f) (ofE f):=by
 have hl:=qad f;have he:=q8g (f:=f);exact Ym.2 (Or.inr ⟨O,O⟩)
abbrev badD:Bool×Bool×LI×Int×Unit:=(true,false,[],0,())
def q1d {z e:Int} (h: ¬OkD z e):mkD z e=badD:=q4e h
def q69 {z e:Int}:OkD (-z) e↔OkD z e:=by
 rw[Ym,Ym,zm1];omega
def qq0 {z e:Int} (h:OkD z e):mkD (-z) e=((mkD z e).1,(zB (-(zv (mkD z e).2.1 (mkD z e).2.2.1))).1,(zB (-(zv (mkD z e).2.1 (mkD z e).2.2.1))).2.1,(mkD z e).2.2.2.1,()):=by
 obtain⟨w,f,k⟩:=h.nf;have kn:EqD (-z) e (-w) f:=k.eq.symm.neg;rw[kn.mk];have ok:OkD (-w) f:=q69.2 k.ok;rw[k.md];show mkD (-w) f=(false,(zB (-zv (zB w).1 (zB w).2.1)).1,(zB (-zv (zB w).1 (zB w).2.1)).2.1,f,());rw[zv_zB];unfold mkD;by_cases h0:w=0
 . subst h0;rw[k.zero rfl,show(-0:Int)=0 from rfl,iP rfl,zB_1,zB_2,show(0:Int).natAbs=0 from rfl,Q8];rfl
 . have hn:(-w).natAbs≠0:=O
   have hb: ¬(f+(blen (-w).natAbs:Int)>65536\/f+(tz (-w).natAbs:Int)< -65536):=by
    rcases Ym.1 ok with h|h
    . omega
    . omega
   have ht:tz (-w).natAbs=0:=by rw[zm1];exact qfn (k.odd h0)
   rw[iN' O,iN' hb,ht,za2,Nat.div_one,nZ,Int.add_zero];rfl
def NF.lim {z e w f:Int} (h:NF z e w f):(zB w).2.1.length<=10000:=by have:=q14 h.len;omega
def qq9 {m:Nat} (hm:3000000<m) {z e:Int}:g114 m (mkD z e).1 (mkD z e).2.1 (mkD z e).2.2.1 (mkD z e).2.2.2.1=some (mkD (-z) e,(),()):=by
 rw[g114,q0x hm,bS];dsimp only;by_cases h:OkD z e
 . obtain⟨w,f,k,k1,k2,k3⟩:=Xe h;have hS:Sz (mkD z e).2.2.1:=by rw[k2];exact k.Sz
   rw[decide_eq_true h,cond_true,q89 O hS,bS,qq0 h]
 . rw[decide_eq_false h,cond_false,q1d (mt q69.1 h),q1d h]
def qm6 {w f b:Int} (h:b<=f):blen (sc w f b).natAbs<=(f-b).toNat+blen w.natAbs:=by
 unfold sc;exact q7l
def q7x {m:Nat} (hm:3000000<m) {a B b C w f x h:Int} (k:NF a B w f) (l:NF b C x h) (b1 b2:Bool):
 g162 m b1 (zB w).1 (zB w).2.1 f b2 (zB x).1 (zB x).2.1 h=some ((zB (sc w f (min f h)),zB (sc x h (min f h)),min f h,()),(),(),()):=by
 have e1:(if h<f then h else f)=min f h:=by split<;>omega
 have hb1:=k.lo;have hb2:=k.hi;have hb3:=l.lo;have hb4:=l.hi;have hl1:=k.len;have hl2:=l.len;have w1:wI (f-min f h)=f-min f h:=by rw[wQ,wi O O]
 have w2:wI (h-min f h)=h-min f h:=by rw[wQ,wi O O]
 rw[g162,e1,w1,w2,left_eq hm O O O,bS,left_eq hm O O O,bS];rfl
def sc_bd {a B w f b:Int} (k:NF a B w f) (h1:b<=f) (h2: -65536<=b):blen (sc w f b).natAbs<=300000:=by
 have:=qm6 (w:=w) h1;have:=k.len;have:=k.hi;omega
def qqz {a b B w f x h:Int} (k:NF a B w f) (l:NF b B x h):EqD (sc w f (min f h)+sc x h (min f h)) (min f h) (a+b) B:=
 ((EqD.sc O).trans k.eq).add (c:=0) (g:=0) ((EqD.sc O).trans l.eq)
def qpc {m:Nat} (hm:3000000<m) {a b B:Int}:
 g113 m (mkD a B).1 (mkD a B).2.1 (mkD a B).2.2.1 (mkD a B).2.2.2.1 (mkD b B).1 (mkD b B).2.1 (mkD b B).2.2.1 (mkD b B).2.2.2.1=some (if OkD a B/\OkD b B then mkD (a+b) B else badD,(),(),()):=by
 rw[g113,qgh hm,bS];dsimp only;by_cases h:OkD a B/\OkD b B
 . obtain⟨w,f,k,k1,k2,k3⟩:=Xe h.1;obtain⟨x,g,l,l1,l2,l3⟩:=Xe h.2;have hb1:=k.lo;have hb3:=l.lo;have:=k.hi;rw[decide_eq_true h,zG1,cond_false,iP h,k1,k2,k3,l1,l2,l3,q7x hm k l,bS];dsimp only;have s1:=sc_bd k (b:=min f g) O O;have s2:=sc_bd l (b:=min f g) O O;rw[qgc O (SzB O) (SzB O),zv_zB,zv_zB,bS];dsimp only;rw[q2f hm (zK (q3p s1 s2) O) O O,(qqz k l).mk];rfl
 . rw[decide_eq_false h,iN' h];rfl
def qiv {m:Nat} (hm:3000000<m) {a b B:Int}:
 g66 m (mkD a B).1 (mkD a B).2.1 (mkD a B).2.2.1 (mkD a B).2.2.2.1 (mkD b B).1 (mkD b B).2.1 (mkD b B).2.2.1 (mkD b B).2.2.2.1=some (if OkD a B/\OkD b B then mkD (a-b) B else badD,(),(),()):=by
 rw[g66,qq9 hm,bS];dsimp only;rw[qpc hm,bS,<-Int.sub_eq_add_neg];simp only[q69]
def q04 (n:Int):Int:=max (min n 262144) (-262144)
def qiz {m:Nat} (hm:3000000<m) {a B:Int} {n:Int}:
 g94 m (mkD a B).1 (mkD a B).2.1 (mkD a B).2.2.1 (mkD a B).2.2.2.1 n=some (if OkD a B then mkD a (B+q04 n)else badD,(),(),()):=by
 rw[g94,q0x hm,bS];dsimp only;by_cases h:OkD a B
 . obtain⟨w,f,k,k1,k2,k3⟩:=Xe h;have hb1:=k.lo;have hb2:=k.hi;have n1:=k.len
   have e1:(if(-262144)>(if 262144<n then 262144 else n)then(-262144)else(if 262144<n then 262144 else n))=q04 n:=by
    unfold q04;repeat' split
    all_goals omega
   have hc: -262144<=q04 n/\q04 n<=262144:=by unfold q04;omega
   have w1:wI (f+q04 n)=f+q04 n:=by rw[wQ,wi O O]
   have hE:EqD w (f+q04 n) a (B+q04 n):=by
    have:=k.eq.mul (EqD.refl 1 (q04 n))
    rwa [zq3,zq3]at this
   rw[decide_eq_true h,zG1,cond_false,iP h,e1,k1,k2,k3,w1,q2f hm O O O,hE.mk];rfl
 . rw[decide_eq_false h,iN' h];rfl
end Go.Vs.F
