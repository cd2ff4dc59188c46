/-Dyads:the normal form of z 2^e,plain. Dyads of the program:norm,Make,Sign,Neg,Abs,Add,Sub,Mul,Cmp. Rounding to a float,plain;integers that fit. The program's rounding to a float. The program's reading of a float. The program's dyads:Neg,Add,Sub,Mul,Cmp,Scale,over a common exponent. -/
import Derived.Test.YtikppifemlpjlaaGreatDoorLb
set_option linter.unusedVariables false
set_option linter.unusedSimpArgs false
namespace Go.Vs.F
def mkD (z e:Int):Bool×Bool×LI×Int×Unit:=
 if z=0 then(false,false,[],0,())
 else if e+(blen z.natAbs:Int)>65536\/e+(tz z.natAbs:Int)< -65536 then(true,false,[],0,())
 else(false,decide (z<0),lim (z.natAbs/2^tz z.natAbs),e+(tz z.natAbs:Int),())
def OkD (z e:Int):Prop:=(mkD z e).1=false
def sc (z e b:Int):Int:=z*2^(e-b).toNat
def EqD (z e w f:Int):Prop:= ∃b,b<=e/\b<=f/\sc z e b=sc w f b
theorem qkp (e:Int):mkD 0 e=(false,false,[],0,()):=rfl
theorem Yt {z e:Int}:OkD z e↔z=0\/(e+(blen z.natAbs:Int)<=65536/\ -65536<=e+(tz z.natAbs:Int)):=by
 unfold OkD mkD;by_cases h:z=0
 . simp[h]
 . rw[iN' h];by_cases h2:e+(blen z.natAbs:Int)>65536\/e+(tz z.natAbs:Int)< -65536
   . rw[iP h2];simp only[h,false_or];constructor
     . intro h;cases h
     . intro h;omega
   . rw[iN' h2];simp only[h,false_or,true_iff];omega
instance {z e:Int}:Decidable (OkD z e):=inferInstanceAs (Decidable (_=_))
theorem q3a {z e:Int} (h: ¬OkD z e):mkD z e=(true,false,[],0,()):=by
 unfold OkD mkD at*;split at h
 . exact absurd rfl h
 . rename_i h1;rw[iN' h1];split at h
   . rename_i h2;rw[iP h2]
   . exact absurd rfl h
theorem Zu {z:Int} {k:Nat}:(z*2^k).natAbs=2^k*z.natAbs:=by
 rw[Int.natAbs_mul,Int.natAbs_pow,Nat.mul_comm];rfl
theorem q0p {k n:Nat} (h:n≠0):blen (2^k*n)=k+blen n:=by
 have:=q17 (y:=0) h (Nat.pow_pos (n:=k) (show 0<2 by omega))
 rwa [Nat.add_zero]at this
theorem Zn (k:Nat):0<(2:Int)^k:=Int.pow_pos O
theorem q7x {z:Int} {k:Nat}:z*2^k<0↔z<0:=by
 have:=Zn k;constructor
 . intro h;refine Int.not_le.1 fun h2=> ?_
   have:=Int.mul_nonneg h2 (Int.le_of_lt this);omega
 . intro h;exact Int.mul_neg_of_neg_of_pos h this
theorem qhd {z:Int} {k:Nat} {e:Int}:mkD (z*2^k) e=mkD z (e+(k:Int)):=by
 unfold mkD;by_cases h:z=0
 . subst h;rw[Int.zero_mul];rfl
 . have h2:z*2^k≠0:=Int.mul_ne_zero h (by have:=Zn k;omega)
   have hn:z.natAbs≠0:=O;rw[iN' h,iN' h2,Zu,q0p hn,q8o hn,Nat.pow_add,Nat.mul_div_mul_left _ _ (Nat.pow_pos O)];simp only[q7x];rw[Int.natCast_add,Int.natCast_add,<-Int.add_assoc,<-Int.add_assoc]
theorem qdq {z e b:Int} (h:b<=e):mkD (sc z e b) b=mkD z e:=by
 unfold sc;rw[qhd];congr 1;omega
theorem EqD.mk {z e w f:Int}:EqD z e w f->mkD z e=mkD w f
 |⟨b,h1,h2,h3⟩=>by rw[<-qdq h1,<-qdq h2,h3]
theorem qf0 {z e b c:Int} (h1:c<=b) (h2:b<=e):sc z e c=sc z e b*2^(b-c).toNat:=by
 unfold sc;rw[Int.mul_assoc,<-Int.pow_add];congr 2;omega
theorem qgc {x y:Int} {k:Nat} (h:x*2^k=y*2^k):x=y:=
 Int.eq_of_mul_eq_mul_right (by have:=Zn k;omega) h
theorem EqD.low {z e w f:Int} (h:EqD z e w f) {c:Int} (h1:c<=e) (h2:c<=f):sc z e c=sc w f c:=by
 obtain⟨b,hb1,hb2,h3⟩:=h;by_cases hc:c<=b
 . rw[qf0 hc hb1,qf0 hc hb2,h3]
 . rw[qf0 (b:=c) (c:=b) O h1,qf0 (b:=c) (c:=b) O h2]at h3;exact qgc h3
theorem EqD.refl (z e:Int):EqD z e z e:=⟨e,O,O,rfl⟩
theorem EqD.symm {z e w f:Int}:EqD z e w f->EqD w f z e
 |⟨b,h1,h2,h3⟩=>⟨b,h2,h1,h3.symm⟩
theorem EqD.trans {z e w f y g:Int} (h:EqD z e w f) (h2:EqD w f y g):EqD z e y g:=by
 obtain⟨c,c1,c2,c3⟩: ∃c:Int,c<=e/\c<=f/\c<=g:=⟨min e (min f g),O,O,O⟩;exact⟨c,c1,c3,(h.low c1 c2).trans (h2.low c2 c3)⟩
theorem EqD.zero (e f:Int):EqD 0 e 0 f:=⟨min e f,O,O,by unfold sc;rw[Int.zero_mul,Int.zero_mul]⟩
theorem qcz (z e:Int):sc z e e=z:=by unfold sc;rw[Int.sub_self];exact Int.mul_one z
theorem EqD.sc {z e b:Int} (h:b<=e):EqD (sc z e b) b z e:=⟨b,O,h,by rw[qcz]⟩
theorem EqD.add {z e w f y c x g:Int} (h1:EqD z e w f) (h2:EqD y e x f):EqD (z+y) e (w+x) f:=by
 obtain⟨c,c1,c2⟩: ∃c:Int,c<=e/\c<=f:=⟨min e f,O,O⟩;refine⟨c,c1,c2,?_⟩;have a:=h1.low c1 c2;have b:=h2.low c1 c2;unfold Vs.F.sc at*;rw[Int.add_mul,Int.add_mul,a,b]
theorem EqD.neg {z e w f:Int}:EqD z e w f->EqD (-z) e (-w) f
 |⟨b,h1,h2,h3⟩=>⟨b,h1,h2,by unfold Vs.F.sc at*;rw[Int.neg_mul,Int.neg_mul,h3]⟩
theorem EqD.mul {z e w f y g x h:Int} (h1:EqD z e w f) (h2:EqD y g x h):EqD (z*y) (e+g) (w*x) (f+h):=by
 obtain⟨b,b1,b2,b3⟩:=h1;obtain⟨c,c1,c2,c3⟩:=h2;refine⟨b+c,O,O,?_⟩
 have k: ∀{z e y g:Int},b<=e->c<=g->Vs.F.sc (z*y) (e+g) (b+c)=Vs.F.sc z e b*Vs.F.sc y g c:=by
  intro z e y g h1 h2;unfold Vs.F.sc;rw[show(e+g-(b+c)).toNat=(e-b).toNat+(g-c).toNat by omega,Int.pow_add]
  simp only[Int.mul_assoc,Int.mul_comm,Int.mul_left_comm]
 rw[k b1 c1,k b2 c2,b3,c3]
theorem EqD.sgn {z e w f:Int} (h:EqD z e w f):Vs.F.sgn z=Vs.F.sgn w:=by
 obtain⟨b,h1,h2,h3⟩:=h
 have k: ∀z e:Int,Vs.F.sgn (Vs.F.sc z e b)=Vs.F.sgn z:=by
  intro z e;unfold Vs.F.sgn Vs.F.sc;simp only[q7x]
  have:0<z*2^(e-b).toNat↔0<z:=by
   have:=Zn (e-b).toNat;constructor
   . intro h;exact Int.pos_of_mul_pos_left h this
   . intro h;exact Int.mul_pos h this
  simp only[this]
 rw[<-k z e,<-k w f,h3]
theorem qkr {n k:Nat}:blen (n/2^k)<=blen n:=by
 by_cases h:n/2^k=0
 . rw[h,q0g];omega
 . have h0:n≠0:=by rintro rfl;simp at h
   rw[X8 h,X8 h0]
   have:(n/2^k).log2<n.log2+1:=by
    rw[Nat.log2_lt h];exact Nat.lt_of_le_of_lt (Nat.div_le_self ..) Nat.lt_log2_self
   omega
theorem qez {n:Nat} (h:n≠0):n/2^tz n≠0/\n=2^tz n*(n/2^tz n)/\(n/2^tz n)%2=1:=by
 obtain⟨q,h1,h2⟩:=q8v h
 have:n/2^tz n=q:=by
  conv=>lhs;arg 1;rw[h1]
  exact Nat.mul_div_cancel_left q (Nat.pow_pos O)
 rw[this];exact⟨O,h1,h2⟩
theorem qdb {n:Nat} (h:n≠0):blen n=tz n+blen (n/2^tz n):=by
 obtain⟨h1,h2,_⟩:=qez h;conv=>lhs;rw[h2]
 exact q0p h1
theorem qa7 {z:Int} {q:Nat}:((if z<0 then-1 else 1)*(q:Int)).natAbs=q:=by split<;>omega
theorem lt_sg {z:Int} {q:Nat} (h:q≠0):z<0↔((if z<0 then-1 else 1)*(q:Int))<0:=by split<;>omega
theorem qoh {z:Int} {q:Nat}:((if z<0 then-1 else 1)*(q:Int))=0->q=0:=by split<;>omega
theorem qmj {z:Int}:(if z<0 then-1 else 1)*(z.natAbs:Int)=z:=by split<;>omega
structure NF (z e w f:Int):Prop where
 eq:EqD w f z e
 md:mkD z e=(false,decide (w<0),lim w.natAbs,f,())
 zero:w=0->f=0
 odd:w≠0->w.natAbs%2=1
 lo: -65536<=f
 hi:f+(blen w.natAbs:Int)<=65536
theorem NF.len {z e w f:Int} (h:NF z e w f):blen w.natAbs<=131072:=by have:=h.lo;have:=h.hi;omega
theorem OkD.nf {z e:Int} (h:OkD z e): ∃w f,NF z e w f:=by
 by_cases hz:z=0
 . subst hz;exact⟨0,0,EqD.zero ..,by rw[qkp];simp[Qa],fun _=>rfl,fun h=>absurd rfl h,O,by decide⟩
 . rcases Yt.1 h with h|⟨h1,h2⟩
   . exact absurd h hz
   . have hn:z.natAbs≠0:=O;obtain⟨k1,k2,k3⟩:=qez hn;have hb:=qdb hn
     have hmk:mkD z e=(false,decide (z<0),lim (z.natAbs/2^tz z.natAbs),e+(tz z.natAbs:Int),()):=by
      unfold mkD;rw[iN' hz,iN' O]
     have hN:=qa7 (z:=z) (q:=z.natAbs/2^tz z.natAbs);refine⟨(if z<0 then-1 else 1)*(((z.natAbs/2^tz z.natAbs:Nat)):Int),e+(tz z.natAbs:Int),⟨e,O,O,?_⟩,?_,?_,?_,O,?_⟩
     . rw[qcz];unfold sc;rw[show(e+(tz z.natAbs:Int)-e).toNat=tz z.natAbs by omega,Int.mul_assoc]
       have:(((z.natAbs/2^tz z.natAbs:Nat)):Int)*2^tz z.natAbs=(z.natAbs:Int):=by
        conv=>rhs;rw[k2]
        rw[Int.natCast_mul,Int.mul_comm,Int.natCast_pow];rfl
       rw[this,qmj]
     . rw[hmk,hN,decide_eq_decide.2 (lt_sg k1)]
     . intro h0;exact absurd (qoh h0) k1
     . intro _;rw[hN];exact k3
     . rw[hN];omega
theorem NF.ok {z e w f:Int} (h:NF z e w f):OkD w f:=by
 unfold OkD;rw[h.eq.mk,h.md]
theorem Zo {n k:Nat} (h:blen n<=k):(lim n).length<=k/32+1:=by
 refine Xz ?_;refine Nat.lt_of_lt_of_le (q1s n) ?_;rw[show(4294967296:Nat)=2^32 by decide,<-Nat.pow_mul]
 exact Nat.pow_le_pow_right O O
theorem qeb {n k:Nat} (h:(lim n).length<=k):blen n<=32*k:=by
 by_cases h0:n=0
 . subst h0;rw[q0g];omega
 . have h1:=vl_lt (Qc n);rw[Q9]at h1
   have h2:n<2^(32*k):=by
    refine Nat.lt_of_lt_of_le h1 ?_;rw[show(4294967296:Nat)=2^32 by decide,<-Nat.pow_mul]
    exact Nat.pow_le_pow_right O O
   rw[X8 h0];exact(Nat.log2_lt h0).2 h2
theorem qia {n k:Nat} (h:n<=k):blen n<=blen k:=by
 by_cases h0:n=0
 . subst h0;rw[q0g];omega
 . have hk:k≠0:=O;rw[X8 h0,X8 hk];have:n.log2<k.log2+1:=(Nat.log2_lt h0).2 (Nat.lt_of_le_of_lt h Nat.lt_log2_self);omega
theorem Jy {n k:Nat} (h:n<2^k):blen n<=k:=by
 by_cases h0:n=0
 . subst h0;rw[q0g];omega
 . rw[X8 h0];exact(Nat.log2_lt h0).2 h
theorem qkn {a b k:Nat} (ha:blen a<=k) (hb:blen b<=k):blen (a+b)<=k+1:=by
 apply Jy;have h1:=q1s a;have h2:=q1s b;have h3:2^blen a<=2^k:=Nat.pow_le_pow_right O ha;have h4:2^blen b<=2^k:=Nat.pow_le_pow_right O hb;rw[Nat.pow_succ];omega
theorem q51 {a b:Int} {k:Nat} (ha:blen a.natAbs<=k) (hb:blen b.natAbs<=k):blen (a+b).natAbs<=k+1:=
 Nat.le_trans (qia (show(a+b).natAbs<=a.natAbs+b.natAbs by omega)) (qkn ha hb)
theorem qa9 {a:Int} {k:Nat}:blen (a*2^k).natAbs<=k+blen a.natAbs:=by
 by_cases h:a.natAbs=0
 . rw[Zu,h,Nat.mul_zero,q0g];omega
 . rw[Zu,q0p h];omega
theorem zB_1 (z:Int):(zB z).1=decide (z<0):=rfl
theorem zB_2 (z:Int):(zB z).2.1=lim z.natAbs:=rfl
theorem Lm_zB (z:Int):Lm (zB z).2.1:=Qc _
theorem q1e {z:Int} {k:Nat} (h:blen z.natAbs<=k):(zB z).2.1.length<=k/32+1:=Zo h
theorem left_eq {m:Nat} (hm:3000000<m) {z:Int} (hz:blen z.natAbs<=1000000) {k:Int} (h0:0<=k) (hk:k<=1048576):g192 m (zB z).1 (zB z).2.1 k=some (zB (z*2^k.toNat),(),(),()):=by
 have hl:=q1e hz;obtain⟨n,rfl⟩: ∃n:Nat,k=(n:Int):=⟨k.toNat,O⟩;rw[g192,q4s hm (Lm_zB z) O O,bS,zv_zB];rfl
theorem right_eq {m:Nat} (hm:3000000<m) {z:Int} (hz:blen z.natAbs<=1000000) {k:Nat} (hk:k<=1048576):g151 m (zB z).1 (zB z).2.1 (k:Int)=some (zB (z/2^k),(),(),()):=by
 have hl:=q1e hz;obtain⟨m',rfl⟩: ∃m',m=m'+1:=⟨m-1,O⟩;rw[g151,g151L0,bQ,iN' O,bS];dsimp only;by_cases h0:k=0
 . subst h0;rw[show wI (0-((0:Nat):Int))=((0:Nat):Int)from by decide,q4s hm (Lm_zB z) O O,bS,zv_zB]
   dsimp only;rw[show z*2^0=z/2^0 by rw[Int.pow_zero,Int.mul_one,Int.ediv_one]]
 . rw[show wI (0-(k:Int))= -(k:Int) by rw[wQ,wi O O];omega,qgd hm (Lm_zB z) O O O,bS,zv_zB,Int.natCast_pow]
   rfl
theorem ql0 {z:Int} (h:z≠0):zB (z/2^tz z.natAbs)=(decide (z<0),lim (z.natAbs/2^tz z.natAbs),()):=by
 obtain⟨k1,k2,k3⟩:=qez (n:=z.natAbs) O
 have:z=((if z<0 then-1 else 1)*((z.natAbs/2^tz z.natAbs:Nat):Int))*2^tz z.natAbs:=by
  rw[Int.mul_assoc]
  have:(((z.natAbs/2^tz z.natAbs:Nat)):Int)*2^tz z.natAbs=(z.natAbs:Int):=by
   conv=>rhs;rw[k2]
   rw[Int.natCast_mul,Int.mul_comm,Int.natCast_pow];rfl
  rw[this,qmj]
 have h2:z/2^tz z.natAbs=(if z<0 then-1 else 1)*((z.natAbs/2^tz z.natAbs:Nat):Int):=by
  conv=>lhs;arg 1;rw[this]
  rw[Int.mul_ediv_cancel];have:=Zn (tz z.natAbs);omega
 have h3:=lt_sg (z:=z) k1;have h4:=qa7 (z:=z) (q:=z.natAbs/2^tz z.natAbs);rw[<-h2]at h3 h4;unfold zB;rw[h4,decide_eq_decide.2 h3.symm]
theorem Jm {z:Int}:sgn z=0↔z=0:=by unfold sgn;repeat' split
                                   all_goals omega
theorem q0u {n:Nat}:tz n<=blen n:=by
 by_cases h:n=0
 . subst h;rw[qgh];omega
 . rw[qdb h];omega
theorem qgj {m:Nat} (hm:3000000<m) {z:Int} (hz:blen z.natAbs<=900000) {e:Int} (h1: -1000000000<=e) (h2:e<=1000000000):g97 m false (zB z).1 (zB z).2.1 e=some ((mkD z e,decide (OkD z e),()),(),()):=by
 have hl:=q1e hz;have hS:Sz (zB z).2.1:=⟨Lm_zB z,O⟩;have hv:vl (zB z).2.1=z.natAbs:=Q9 _;rw[g97,cond_false,qgk O hS,bS,zv_zB];dsimp only;rw[q5i O hS,bS,zv_zB,bif_eq];dsimp only;by_cases h:z=0
 . subst h;rw[iP (Jm.2 rfl)];rfl
 . have hn:z.natAbs≠0:=O;have ht:=q0u (n:=z.natAbs);rw[iN' (fun e=>h (Jm.1 e)),q4j O hS O,bS,qh7 O hS,bS,hv]
   dsimp only
   rw[show wI (65536-((blen z.natAbs:Nat):Int))=65536-((blen z.natAbs:Nat):Int) by rw[wQ,wi O O],
    show wI ((-65536)-((tz z.natAbs:Nat):Int))=(-65536)-((tz z.natAbs:Nat):Int) by rw[wQ,wi O O],
    show wI (e+((tz z.natAbs:Nat):Int))=e+((tz z.natAbs:Nat):Int) by rw[wQ,wi O O],
    bQ,bQ,right_eq hm O O,bS,ql0 h]
   by_cases hk:OkD z e
   . rcases Yt.1 hk with h0|⟨k1,k2⟩
     . exact absurd h0 h
     . rw[iN' O,iN' O,decide_eq_true hk];unfold mkD;rw[iN' h,iN' O]
   . have hk2: ¬(e+(blen z.natAbs:Int)<=65536/\ -65536<=e+(tz z.natAbs:Int)):=fun c=>hk (Yt.2 (Or.inr c))
     rw[q3a hk,decide_eq_false hk];by_cases c:e>65536-((blen z.natAbs:Nat):Int)
     . rw[iP c];rfl
     . rw[iN' c,iP O];rfl
theorem q8j {m:Nat} (hm:3000000<m) {z:Int} (hz:blen z.natAbs<=900000) {e:Int} (h1: -1000000000<=e) (h2:e<=1000000000):g112 m (zB z).1 (zB z).2.1 e=some (mkD z e,(),(),()):=by
 rw[g112,qgj hm hz h1 h2];rfl
theorem qcl {m:Nat} (hm:3000000<m) {z e:Int} (h:OkD z e):g97 m (mkD z e).1 (mkD z e).2.1 (mkD z e).2.2.1 (mkD z e).2.2.2.1=some ((mkD z e,true,()),(),()):=by
 obtain⟨w,f,k⟩:=h.nf;rw[k.md];have:=qgj hm (z:=w) (by have:=k.len;omega) (e:=f) (by have:=k.lo;omega) (by have:=k.hi;omega)
 rw[zB_1,zB_2]at this;rw[this,k.eq.mk,k.md,decide_eq_true k.ok]
theorem q5s {m:Nat} (hm:3000000<m) {z e:Int}:g97 m (mkD z e).1 (mkD z e).2.1 (mkD z e).2.2.1 (mkD z e).2.2.2.1=some ((mkD z e,decide (OkD z e),()),(),()):=by
 by_cases h:OkD z e
 . rw[qcl hm h,decide_eq_true h]
 . rw[q3a h,decide_eq_false h];rfl
theorem qem {m:Nat} (hm:3000000<m) {z e:Int}:g56 m (mkD z e).1 (mkD z e).2.1 (mkD z e).2.2.1 (mkD z e).2.2.2.1=some (mkD z e,(),()):=by
 rw[g56,q5s hm];rfl
theorem Zd {z e:Int} (h:OkD z e): ∃w f,NF z e w f/\(mkD z e).2.1=(zB w).1/\(mkD z e).2.2.1=(zB w).2.1/\(mkD z e).2.2.2.1=f:=by
 obtain⟨w,f,k⟩:=h.nf;refine⟨w,f,k,?_⟩;rw[k.md];exact⟨rfl,rfl,rfl⟩
theorem NF.Sz {z e w f:Int} (h:NF z e w f):Vs.F.Sz (zB w).2.1:=⟨Lm_zB w,by have:=q1e h.len;omega⟩
theorem NF.sgn {z e w f:Int} (h:NF z e w f):Vs.F.sgn w=Vs.F.sgn z:=h.eq.sgn
theorem qjx {m:Nat} (hm:3000000<m) {z e:Int} (h:OkD z e):g92 m (mkD z e).1 (mkD z e).2.1 (mkD z e).2.2.1 (mkD z e).2.2.2.1=some (sgn z,(),()):=by
 obtain⟨w,f,k,k1,k2,k3⟩:=Zd h;rw[g92,qcl hm h,bS];dsimp only;rw[k1,k2,q5i O k.Sz,bS,zv_zB,k.sgn]
theorem qp5 {m:Nat} (hm:3000000<m) {z e y f:Int}:g161 m (mkD z e).1 (mkD z e).2.1 (mkD z e).2.2.1 (mkD z e).2.2.2.1 (mkD y f).1 (mkD y f).2.1 (mkD y f).2.2.1 (mkD y f).2.2.2.1=some ((mkD z e,mkD y f,decide (OkD z e/\OkD y f),()),(),(),()):=by
 rw[g161,q5s hm,bS,q5s hm,bS];dsimp only;rw[Bool.decide_and];cases decide (OkD z e)<;>rfl
def upB (neg:Bool) (half:Int) (odd:Bool) (mode:Int):Bool:=
 if mode=1 then neg else if mode=2 then !neg else if mode=3 then false else decide (0<half)||(decide (half=0)&&odd)
def halfC (v n:Nat) (more:Bool):Int:=
 if 2*(v%2^n)<2^n then-1 else if 2*(v%2^n)=2^n/\more=false then 0 else 1
def cutN (neg:Bool) (v n:Nat) (more:Bool) (mode:Int):Nat:=
 if v%2^n=0/\more=false then v/2^n else v/2^n+(if upB neg (halfC v n more) (v/2^n%2==1) mode then 1 else 0)
def sgnF (neg:Bool) (f:Int):Int:=if neg then f+9223372036854775808 else f
def overF (neg:Bool) (mode:Int):Int:=
 if mode=3\/(mode=1/\neg=false)\/(mode=2/\neg=true)then sgnF neg 9218868437227405311 else sgnF neg 9218868437227405312
def packF (neg:Bool) (n:Nat) (unit mode:Int):Int:=
 if n=9007199254740992 then(if unit+1076>=2047 then overF neg mode else sgnF neg ((unit+1076)*4503599627370496))
 else if n<4503599627370496 then sgnF neg (n:Int)
 else if unit+1075>=2047 then overF neg mode else sgnF neg ((unit+1075)*4503599627370496+((n:Int)-4503599627370496))
def unitF (v:Nat) (e:Int):Int:=max (e+(blen v:Int)-53) (-1074)
def multF (neg:Bool) (v:Nat) (e:Int) (more:Bool) (mode:Int):Nat:=
 if unitF v e<=e then v*2^(e-unitF v e).toNat else cutN neg v (unitF v e-e).toNat more mode
def qri (neg:Bool) (v:Nat) (e:Int) (more:Bool) (mode:Int):Int:=packF neg (multF neg v e more mode) (unitF v e) mode
theorem qsp {neg:Bool} {v n:Nat} {more:Bool} {mode:Int}:cutN neg v n more mode<=v/2^n+1:=by
 unfold cutN;split
 . omega
 . split<;>omega
theorem qsg (v:Nat) (e:Int): -1074<=unitF v e:=by unfold unitF;omega
theorem qsh {neg:Bool} {v:Nat} {e:Int} {more:Bool} {mode:Int}:multF neg v e more mode<=9007199254740992:=by
 unfold multF;have hb:=q1s v;split
 . rename_i h;have h1:(blen v:Int)+(e-unitF v e)<=53:=by unfold unitF at*;omega
   have h2:v*2^(e-unitF v e).toNat<=2^blen v*2^(e-unitF v e).toNat:=Nat.mul_le_mul_right _ (Nat.le_of_lt hb);rw[<-Nat.pow_add]at h2;have h3:2^(blen v+(e-unitF v e).toNat)<=2^53:=Nat.pow_le_pow_right O O;have:(2:Nat)^53=9007199254740992:=by decide
   omega
 . rename_i h;refine Nat.le_trans qsp ?_;have h1:(blen v:Int)<=53+(unitF v e-e):=by unfold unitF at*;omega
   have:v/2^(unitF v e-e).toNat<2^53:=by
    rw[Nat.div_lt_iff_lt_mul (Nat.pow_pos O),<-Nat.pow_add];exact Nat.lt_of_lt_of_le hb (Nat.pow_le_pow_right O O)
   have:(2:Nat)^53=9007199254740992:=by decide
   omega
theorem qrq {neg:Bool} {v:Nat} (hv:v≠0) {e:Int} {more:Bool} {mode:Int} (h:1024<=e+(blen v:Int)-1):qri neg v e more mode=overF neg mode:=by
 have hu:unitF v e=e+(blen v:Int)-53:=by unfold unitF;omega
 have hb:=qmq hv;have hp:0<blen v:=by rw[X8 hv];omega
 have hge:4503599627370496<=multF neg v e more mode:=by
  have c52:(2:Nat)^52=4503599627370496:=by decide
  unfold multF;split
  . rename_i h2;have h3:2^(blen v-1)*2^(e-unitF v e).toNat<=v*2^(e-unitF v e).toNat:=Nat.mul_le_mul_right _ hb;rw[<-Nat.pow_add,show blen v-1+(e-unitF v e).toNat=52 by omega]at h3
    omega
  . rename_i h2
    have h3:2^52<=v/2^(unitF v e-e).toNat:=by
     rw[Nat.le_div_iff_mul_le (Nat.pow_pos O),<-Nat.pow_add];refine Nat.le_trans ?_ hb;exact Nat.pow_le_pow_right O O
    have:v/2^(unitF v e-e).toNat<=cutN neg v (unitF v e-e).toNat more mode:=by unfold cutN;split<;>omega
    omega
 unfold qri packF;by_cases h1:multF neg v e more mode=9007199254740992
 . rw[iP h1,iP O]
 . rw[iN' h1,iN' O,iP O]
def fitI (z:Int):Int×Bool×Unit:=if-9223372036854775808<=z/\z<9223372036854775808 then(z,true,())else(0,false,())
theorem take_snoc {l:LI} {k:Nat} (hk:k<l.length) {x:Int} (ex:l.getD k 0=x):l.take (k+1)=l.take k++[x]:=by
 rw[List.take_add_one,<-ex,List.getD,List.getElem?_eq_getElem hk];rfl
theorem qsr {l:LI} (hl:Lm l) (h2:l.length<=2) {k x:Nat} (hk:k<l.length) (ex:l.getD k 0=(x:Int)) (hx:x<4294967296):
 b_or_ .u64 ((vl (l.take k):Nat):Int) (shl_ .u64 (x:Int) ((32*k:Nat):Int))=((vl (l.take (k+1)):Nat):Int):=by
 have hL:=vl_lt (l:=l.take k) fun y hy=>hl y (List.mem_of_mem_take hy)
 rw[List.length_take,show min k l.length=k by omega]at hL
 have hP:(4294967296:Nat)^k=2^(32*k):=by rw[show(4294967296:Nat)=2^32 by decide,<-Nat.pow_mul]
 rw[take_snoc hk ex,Zw,List.length_take,show min k l.length=k by omega]
 have hb:x*2^(32*k)<18446744073709551616:=by
  have:k=0\/k=1:=O;rcases this with rfl|rfl
  . simp;omega
  . simp;omega
 have hc:vl (l.take k)<18446744073709551616:=by
  have:k=0\/k=1:=O;rcases this with rfl|rfl
  . simp[vl]
  . simp at hL;omega
 rw[shl64 O hb,or64 hc hb,Nat.or_comm,Nat.mul_comm,<-Nat.two_pow_add_eq_or_of_lt O,Nat.add_comm,hP]
theorem qs8 {n:Nat}:(lim n).length<=2↔n<18446744073709551616:=by
 constructor
 . intro h;have:=vl_lt (Qc n);rw[Q9]at this;have h2:4294967296^(lim n).length<=4294967296^2:=Nat.pow_le_pow_right O h;omega
 . intro h;exact Xz O
theorem qmi (v:Nat):zB (v:Int)=(false,lim v,()):=by
 unfold zB;rw[Int.natAbs_natCast,show decide ((v:Int)<0)=false by simp]
theorem SzB {z:Int} (h:blen z.natAbs<=1000000):Sz (zB z).2.1:=⟨Lm_zB z,by have:=q1e h;omega⟩
theorem SzN {v:Nat} (h:blen v<=1000000):Sz (zB (v:Int)).2.1:=SzB (by rwa [Int.natAbs_natCast])
theorem qrj {v n:Nat} {more:Bool} (h:2*(v%2^n)<2^n):halfC v n more= -1:=by unfold halfC;rw[iP h]
theorem qrm {n:Nat} (h:n≠0):tz n=0↔n%2=1:=by
 constructor
 . intro h2;obtain⟨q,h3,h4⟩:=q8v h;rw[h2,Nat.pow_zero,Nat.one_mul]at h3;omega
 . exact qj7
theorem qsy {f:Int} (h1:0<=f) (h2:f<9223372036854775808):b_or_ .u64 f 9223372036854775808=f+9223372036854775808:=by
 obtain⟨n,rfl⟩: ∃n:Nat,f=(n:Int):=⟨f.toNat,O⟩;have h:=or64 (a:=n) (b:=9223372036854775808) O O;rw[show((9223372036854775808:Nat):Int)=9223372036854775808 from rfl]at h
 rw[h];have:=Nat.two_pow_add_eq_or_of_lt (i:=63) (b:=n) O 1;rw[Nat.or_comm,show(9223372036854775808:Nat)=2^63*1 by decide,<-this]
 omega
theorem qrv {q:Int} {r:Nat} (h1:0<=q) (h2:q<2048) (h3:r<4503599627370496):b_or_ .u64 (shl_ .u64 (wJ (wI q)) 52) (r:Int)=q*4503599627370496+(r:Int):=by
 obtain⟨n,rfl⟩: ∃n:Nat,q=(n:Int):=⟨q.toNat,O⟩;have e1:shl_ .u64 (n:Int) 52=((n*2^52:Nat):Int):=shl64 (a:=n) (k:=52) O O;rw[wQ,wi O O,w64n O,e1,or64 O O];have:=Nat.two_pow_add_eq_or_of_lt (i:=52) (b:=r) O n;rw[Nat.mul_comm,<-this];omega
theorem qsv {a b:Int}:(if b>a then b else a)=max a b:=by split<;>omega
def qrx (d:Bool×Bool×LI×Int×Unit) (mode:Int):Int:=
 if d.1 then 9221120237041090560 else if d.2.2.1=[]then 0 else qri d.2.1 (vl d.2.2.1) d.2.2.2.1 false mode
def fexp (f:Int):Int:=f/4503599627370496%2048
def ffrac (f:Int):Int:=f%4503599627370496
def fneg (f:Int):Bool:=decide (9223372036854775808<=f)
def ofZ (f:Int):Int:=(if fneg f then-1 else 1)*(if fexp f=0 then ffrac f else ffrac f+4503599627370496)
def ofE (f:Int):Int:=if fexp f=0 then-1074 else fexp f-1075
def FinF (f:Int):Prop:=fexp f≠2047
instance {f:Int}:Decidable (FinF f):=inferInstanceAs (Decidable (_≠_))
def U64 (f:Int):Prop:=0<=f/\f<18446744073709551616
def ofD (f:Int):Bool×Bool×LI×Int×Unit:=if FinF f then mkD (ofZ f) (ofE f)else(true,false,[],0,())
theorem q3m (f:Int):0<=fexp f/\fexp f<2048:=by unfold fexp;omega
theorem q9p (f:Int):0<=ffrac f/\ffrac f<4503599627370496:=by unfold ffrac;omega
theorem parts_eq {m:Nat} {f:Int} (h:U64 f):g103 m f=some ((fexp f,ffrac f,()),(),()):=by
 obtain⟨n,rfl⟩: ∃n:Nat,f=(n:Int):=⟨f.toNat,by have:=h.1;omega⟩
 have hn:n<18446744073709551616:=by have:=h.2;omega
 have e1:shr_ .u64 (n:Int) 52=((n/4503599627370496:Nat):Int):=shr64 (a:=n) (k:=52) O;have e2:=and64 (a:=n/4503599627370496) (b:=2047) O O;have e3:=and64 (a:=n) (b:=4503599627370495) hn O;rw[show((2047:Nat):Int)=2047 from rfl,show(2047:Nat)=2^11-1 by decide,Nat.and_two_pow_sub_one_eq_mod]at e2
 rw[show((4503599627370495:Nat):Int)=4503599627370495 from rfl,show(4503599627370495:Nat)=2^52-1 by decide,Nat.and_two_pow_sub_one_eq_mod]at e3
 rw[g103,e1,e2,e3,wQ,wi O O];unfold fexp ffrac;congr 3<;>omega
theorem qgq {m:Nat} {f:Int} (h:U64 f):g61 m f=some (decide (FinF f),(),()):=by
 rw[g61,parts_eq h,bS];dsimp only;by_cases c:FinF f
 . rw[decide_eq_true c,show(fexp f !=2047)=true by simpa [FinF]using c]
 . rw[decide_eq_false c,show(fexp f !=2047)=false by simpa [FinF]using c]
theorem qmx {n:Nat} (h:n<18446744073709551616):qw .u64 (n:Int) 9223372036854775808=if 9223372036854775808<=n then 9223372036854775808 else 0:=by
 have e:=and64 (a:=n) (b:=9223372036854775808) h O;rw[show((9223372036854775808:Nat):Int)=9223372036854775808 from rfl]at e
 rw[e]
 have hb:n&&&9223372036854775808=if n.testBit 63 then 9223372036854775808 else 0:=by
  rw[show(9223372036854775808:Nat)=2^63 by decide]
  apply Nat.eq_of_testBit_eq;intro i;rw[Nat.testBit_and,Nat.testBit_two_pow];by_cases c:63=i
  . subst c;cases hb:n.testBit 63
    . simp
    . rw[iP rfl,Nat.testBit_two_pow];simp
  . cases hb:n.testBit 63
    . simp[c]
    . rw[iP rfl,Nat.testBit_two_pow];simp[c]
 have ht:n.testBit 63=decide (9223372036854775808<=n):=by
  rw[Nat.testBit_eq_decide_div_mod_eq];rw[show(2:Nat)^63=9223372036854775808 by decide]
  by_cases c:9223372036854775808<=n
  . rw[decide_eq_decide];omega
  . rw[decide_eq_decide];omega
 rw[hb,ht];by_cases c:9223372036854775808<=n
 . simp[c]
 . simp[c]
theorem q55 {m:Nat} {f:Int} (h:U64 f):g110 m f=some (fneg f,(),()):=by
 obtain⟨n,rfl⟩: ∃n:Nat,f=(n:Int):=⟨f.toNat,by have:=h.1;omega⟩
 have hn:n<18446744073709551616:=by have:=h.2;omega
 rw[g110,qmx hn];unfold fneg;by_cases c:9223372036854775808<=n
 . rw[iP c,show decide ((9223372036854775808:Int)<=(n:Int))=true by rw[decide_eq_true_eq];omega];rfl
 . rw[iN' c,show decide ((9223372036854775808:Int)<=(n:Int))=false by rw[decide_eq_false_iff_not];omega];rfl
theorem qa8 {x:Int} (h1:0<=x) (h2:x<4503599627370496):b_or_ .u64 x 4503599627370496=x+4503599627370496:=by
 obtain⟨n,rfl⟩: ∃n:Nat,x=(n:Int):=⟨x.toNat,O⟩;have h:=or64 (a:=n) (b:=4503599627370496) O O;rw[show((4503599627370496:Nat):Int)=4503599627370496 from rfl]at h
 rw[h];have:=Nat.two_pow_add_eq_or_of_lt (i:=52) (b:=n) O 1;rw[Nat.or_comm,show(4503599627370496:Nat)=2^52*1 by decide,<-this]
 omega
theorem q9c (f:Int):blen (ofZ f).natAbs<=53:=by
 apply Jy;have h1:=q9p f;have c:(2:Nat)^53=9007199254740992:=by decide
 unfold ofZ;cases fneg f<;>(split<;>simp<;>omega)
theorem q7n {f:Int}: -1074<=ofE f/\ofE f<=972:=by
 have:=q3m f;unfold ofE;split<;>omega
theorem qne {f:Int} (h:FinF f):ofE f<=971:=by
 have:=q3m f;unfold ofE FinF at*;split<;>omega
theorem Of_eq {m:Nat} (hm:3000000<m) {f:Int} (h:U64 f):g65 m f=some (ofD f,(),()):=by
 rw[g65,parts_eq h,bS,bif_eq,bif_eq];dsimp only;have h1:=q3m f;have h2:=q9p f;have hl:=q9c f;have he:=q7n (f:=f);unfold ofD;by_cases c:fexp f=2047
 . rw[iP c,iN' (fun h=>h c)]
 . have hF:FinF f:=c;rw[iN' c,iP hF,q55 h,qa8 h2.1 h2.2]
   have run: ∀(q:Int) (ex:Int),0<=q->q<9007199254740992->ofZ f=(if fneg f then-1 else 1)*q->ofE f=ex->
    ((g109 m (wI q)).bind fun y2=>(some (fneg f,(),()):Option (Bool×Unit×Unit)).bind fun y3=>bif y3.1 then
      (g111 m y2.1.1 y2.1.2.1).bind fun y4=>(g112 m y4.1.1 y4.1.2.1 ex).bind fun y5=>some ((y5.1.1,y5.1.2.1,y5.1.2.2.1,y5.1.2.2.2.1,()),((),()))
    else(g112 m y2.1.1 y2.1.2.1 ex).bind fun y6=>some ((y6.1.1,y6.1.2.1,y6.1.2.2.1,y6.1.2.2.2.1,()),((),())))=some (mkD (ofZ f) (ofE f),(),()):=by
    intro q ex q1 q2 eq ee
    have hq:blen q.natAbs<=53:=by
     rw[eq]at hl;cases hf:fneg f<;>rw[hf]at hl<;>simpa using hl
    rw[wQ,wi O O,q3i O O O,bS,bS];dsimp only;cases hf:fneg f with
    |false=>
     rw[hf]at eq;rw[cond_false,q8j hm O O O,eq,ee,iN' (by simp),Int.one_mul];rfl
    |true=>
     rw[hf]at eq;rw[cond_true,qhm O (SzB O),zv_zB,bS];dsimp only;rw[q8j hm (by rw[Int.natAbs_neg];omega) O O,eq,ee,iP rfl,Int.neg_one_mul];rfl
   by_cases c0:fexp f=0
   . rw[iP c0];exact run _ _ h2.1 O (by unfold ofZ;rw[iP c0]) (by unfold ofE;rw[iP c0])
   . rw[iN' c0,show wI (fexp f-1075)=fexp f-1075 by rw[wQ,wi O O]]
     exact run _ _ O O (by unfold ofZ;rw[iN' c0]) (by unfold ofE;rw[iN' c0])
theorem qmp {f:Int} (h:U64 f):finB f=decide (FinF f):=by
 have e1:=qgq (m:=0) h;rw[q62]at e1;have:=Option.some.inj e1;exact(Prod.mk.inj this).1
theorem qq3 {f:Int} (h:FinF f):OkD (ofZ f) (ofE f):=by
 have hl:=q9c f;have he:=q7n (f:=f);exact Yt.2 (Or.inr ⟨O,O⟩)
abbrev badD:Bool×Bool×LI×Int×Unit:=(true,false,[],0,())
theorem q7u {z e:Int} (h: ¬OkD z e):mkD z e=badD:=q3a h
theorem q5p {z e:Int}:OkD (-z) e↔OkD z e:=by
 rw[Yt,Yt,Int.natAbs_neg];omega
theorem qo8 {z e:Int} (h:OkD z e):mkD (-z) e=((mkD z e).1,(zB (-(zv (mkD z e).2.1 (mkD z e).2.2.1))).1,(zB (-(zv (mkD z e).2.1 (mkD z e).2.2.1))).2.1,(mkD z e).2.2.2.1,()):=by
 obtain⟨w,f,k⟩:=h.nf;have kn:EqD (-z) e (-w) f:=k.eq.symm.neg;rw[kn.mk];have ok:OkD (-w) f:=q5p.2 k.ok;rw[k.md];show mkD (-w) f=(false,(zB (-zv (zB w).1 (zB w).2.1)).1,(zB (-zv (zB w).1 (zB w).2.1)).2.1,f,());rw[zv_zB];unfold mkD;by_cases h0:w=0
 . subst h0;rw[k.zero rfl,show(-0:Int)=0 from rfl,iP rfl,zB_1,zB_2,show(0:Int).natAbs=0 from rfl,Qa];rfl
 . have hn:(-w).natAbs≠0:=O
   have hb: ¬(f+(blen (-w).natAbs:Int)>65536\/f+(tz (-w).natAbs:Int)< -65536):=by
    rcases Yt.1 ok with h|h
    . omega
    . omega
   have ht:tz (-w).natAbs=0:=by rw[Int.natAbs_neg];exact qj7 (k.odd h0)
   rw[iN' O,iN' hb,ht,Nat.pow_zero,Nat.div_one,nZ,Int.add_zero];rfl
theorem qnx {m:Nat} (hm:3000000<m) {z e:Int}:g114 m (mkD z e).1 (mkD z e).2.1 (mkD z e).2.2.1 (mkD z e).2.2.2.1=some (mkD (-z) e,(),()):=by
 rw[g114,q5s hm,bS];dsimp only;by_cases h:OkD z e
 . obtain⟨w,f,k,k1,k2,k3⟩:=Zd h;have hS:Sz (mkD z e).2.2.1:=by rw[k2];exact k.Sz
   rw[decide_eq_true h,cond_true,qhm O hS,bS,qo8 h]
 . rw[decide_eq_false h,cond_false,q7u (mt q5p.1 h),q7u h]
theorem qk0 {w f b:Int} (h:b<=f):blen (sc w f b).natAbs<=(f-b).toNat+blen w.natAbs:=by
 unfold sc;exact qa9
theorem qfh {m:Nat} (hm:3000000<m) {a B b C w f x h:Int} (k:NF a B w f) (l:NF b C x h) (b1 b2:Bool):
 g162 m b1 (zB w).1 (zB w).2.1 f b2 (zB x).1 (zB x).2.1 h=some ((zB (sc w f (min f h)),zB (sc x h (min f h)),min f h,()),(),(),()):=by
 have e1:(if h<f then h else f)=min f h:=by split<;>omega
 have hb1:=k.lo;have hb2:=k.hi;have hb3:=l.lo;have hb4:=l.hi;have hl1:=k.len;have hl2:=l.len;have w1:wI (f-min f h)=f-min f h:=by rw[wQ,wi O O]
 have w2:wI (h-min f h)=h-min f h:=by rw[wQ,wi O O]
 rw[g162,e1,w1,w2,left_eq hm O O O,bS,left_eq hm O O O,bS];rfl
theorem sc_bd {a B w f b:Int} (k:NF a B w f) (h1:b<=f) (h2: -65536<=b):blen (sc w f b).natAbs<=300000:=by
 have:=qk0 (w:=w) h1;have:=k.len;have:=k.hi;omega
theorem qp4 {a b B w f x h:Int} (k:NF a B w f) (l:NF b B x h):EqD (sc w f (min f h)+sc x h (min f h)) (min f h) (a+b) B:=
 ((EqD.sc O).trans k.eq).add (c:=0) (g:=0) ((EqD.sc O).trans l.eq)
theorem qmu {m:Nat} (hm:3000000<m) {a b B:Int}:
 g113 m (mkD a B).1 (mkD a B).2.1 (mkD a B).2.2.1 (mkD a B).2.2.2.1 (mkD b B).1 (mkD b B).2.1 (mkD b B).2.2.1 (mkD b B).2.2.2.1=some (if OkD a B/\OkD b B then mkD (a+b) B else badD,(),(),()):=by
 rw[g113,qp5 hm,bS];dsimp only;by_cases h:OkD a B/\OkD b B
 . obtain⟨w,f,k,k1,k2,k3⟩:=Zd h.1;obtain⟨x,g,l,l1,l2,l3⟩:=Zd h.2;have hb1:=k.lo;have hb3:=l.lo;have:=k.hi;rw[decide_eq_true h,Bool.not_true,cond_false,iP h,k1,k2,k3,l1,l2,l3,qfh hm k l,bS];dsimp only;have s1:=sc_bd k (b:=min f g) O O;have s2:=sc_bd l (b:=min f g) O O;rw[qmh O (SzB O) (SzB O),zv_zB,zv_zB,bS];dsimp only;rw[q8j hm (Nat.le_trans (q51 s1 s2) O) O O,(qp4 k l).mk];rfl
 . rw[decide_eq_false h,iN' h];rfl
theorem qnw {m:Nat} (hm:3000000<m) {a b B:Int}:
 g66 m (mkD a B).1 (mkD a B).2.1 (mkD a B).2.2.1 (mkD a B).2.2.2.1 (mkD b B).1 (mkD b B).2.1 (mkD b B).2.2.1 (mkD b B).2.2.2.1=some (if OkD a B/\OkD b B then mkD (a-b) B else badD,(),(),()):=by
 rw[g66,qnx hm,bS];dsimp only;rw[qmu hm,bS,<-Int.sub_eq_add_neg];simp only[q5p]
def Jf (n:Int):Int:=max (min n 262144) (-262144)
theorem qhk {m:Nat} (hm:3000000<m) {a B:Int} {n:Int}:
 g94 m (mkD a B).1 (mkD a B).2.1 (mkD a B).2.2.1 (mkD a B).2.2.2.1 n=some (if OkD a B then mkD a (B+Jf n)else badD,(),(),()):=by
 rw[g94,q5s hm,bS];dsimp only;by_cases h:OkD a B
 . obtain⟨w,f,k,k1,k2,k3⟩:=Zd h;have hb1:=k.lo;have hb2:=k.hi;have n1:=k.len
   have e1:(if(-262144)>(if 262144<n then 262144 else n)then(-262144)else(if 262144<n then 262144 else n))=Jf n:=by
    unfold Jf;repeat' split
    all_goals omega
   have hc: -262144<=Jf n/\Jf n<=262144:=by unfold Jf;omega
   have w1:wI (f+Jf n)=f+Jf n:=by rw[wQ,wi O O]
   have hE:EqD w (f+Jf n) a (B+Jf n):=by
    have:=k.eq.mul (EqD.refl 1 (Jf n))
    rwa [Int.mul_one,Int.mul_one]at this
   rw[decide_eq_true h,Bool.not_true,cond_false,iP h,e1,k1,k2,k3,w1,q8j hm O O O,hE.mk];rfl
 . rw[decide_eq_false h,iN' h];rfl
end Go.Vs.F
