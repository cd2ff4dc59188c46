/-Dyads:the normal form of z 2^e,plain. Dyads of the program:norm,Make,Sign,Neg,Abs,Add,Sub,Mul,Cmp. Rounding to a float,plain;integers that fit. The program's rounding to a float. The program's reading of a float. The program's dyads:Neg,Add,Sub,Mul,Cmp,Scale,over a common exponent. -/
import Derived.Test.YtkbgfnhdfmmfcaaGreatDoorLb
set_option linter.unusedVariables false
set_option linter.unusedSimpArgs false
namespace Go.Vs.F
def mkD (z e:Int):Bool×Bool×LI×Int×Unit:=
 if z=0 then(false,false,[],0,())
 else if e+(blen z.natAbs:Int)>65536\/e+(tz z.natAbs:Int)< -65536 then(true,false,[],0,())
 else(false,decide (z<0),lim (z.natAbs/2^tz z.natAbs),e+(tz z.natAbs:Int),())
def OkD (z e:Int):Prop:=(mkD z e).1=false
def sc (z e b:Int):Int:=z*2^(e-b).toNat
def EqD (z e w f:Int):Prop:= ∃b,b<=e/\b<=f/\sc z e b=sc w f b
theorem qes (e:Int):mkD 0 e=(false,false,[],0,()):=rfl
theorem Xv {z e:Int}:OkD z e↔z=0\/(e+(blen z.natAbs:Int)<=65536/\ -65536<=e+(tz z.natAbs:Int)):=by
 unfold OkD mkD;by_cases h:z=0
 . simp[h]
 . rw[iN' h];by_cases h2:e+(blen z.natAbs:Int)>65536\/e+(tz z.natAbs:Int)< -65536
   . rw[iP h2];simp only[h,false_or];constructor
     . intro h;cases h
     . intro h;omega
   . rw[iN' h2];simp only[h,false_or,true_iff];omega
theorem qa8 (e:Int):OkD 0 e:=rfl
instance {z e:Int}:Decidable (OkD z e):=inferInstanceAs (Decidable (_=_))
theorem q1g {z e:Int} (h: ¬OkD z e):mkD z e=(true,false,[],0,()):=by
 unfold OkD mkD at*;split at h
 . exact absurd rfl h
 . rename_i h1;rw[iN' h1];split at h
   . rename_i h2;rw[iP h2]
   . exact absurd rfl h
theorem Xf {z:Int} {k:Nat}:(z*2^k).natAbs=2^k*z.natAbs:=by
 rw[Int.natAbs_mul,Int.natAbs_pow,Nat.mul_comm];rfl
theorem Jh {k n:Nat} (h:n≠0):blen (2^k*n)=k+blen n:=by
 have:=Jj (y:=0) h (Nat.pow_pos (n:=k) (show 0<2 by omega))
 rwa [Nat.add_zero]at this
theorem q1b (k:Nat):0<(2:Int)^k:=Int.pow_pos O
theorem q4v {z:Int} {k:Nat}:z*2^k<0↔z<0:=by
 have:=q1b k;constructor
 . intro h;refine Int.not_le.1 fun h2=> ?_
   have:=Int.mul_nonneg h2 (Int.le_of_lt this);omega
 . intro h;exact Int.mul_neg_of_neg_of_pos h this
theorem qd2 {z:Int} {k:Nat} {e:Int}:mkD (z*2^k) e=mkD z (e+(k:Int)):=by
 unfold mkD;by_cases h:z=0
 . subst h;rw[Int.zero_mul];rfl
 . have h2:z*2^k≠0:=Int.mul_ne_zero h (by have:=q1b k;omega)
   have hn:z.natAbs≠0:=O;rw[iN' h,iN' h2,Xf,Jh hn,q6i hn,Nat.pow_add,Nat.mul_div_mul_left _ _ (Nat.pow_pos O)];simp only[q4v];rw[Int.natCast_add,Int.natCast_add,<-Int.add_assoc,<-Int.add_assoc]
theorem q7f {z e b:Int} (h:b<=e):mkD (sc z e b) b=mkD z e:=by
 unfold sc;rw[qd2];congr 1;omega
theorem EqD.mk {z e w f:Int}:EqD z e w f->mkD z e=mkD w f
 |⟨b,h1,h2,h3⟩=>by rw[<-q7f h1,<-q7f h2,h3]
theorem qad {z e b c:Int} (h1:c<=b) (h2:b<=e):sc z e c=sc z e b*2^(b-c).toNat:=by
 unfold sc;rw[Int.mul_assoc,<-Int.pow_add];congr 2;omega
theorem qav {x y:Int} {k:Nat} (h:x*2^k=y*2^k):x=y:=
 Int.eq_of_mul_eq_mul_right (by have:=q1b k;omega) h
theorem EqD.low {z e w f:Int} (h:EqD z e w f) {c:Int} (h1:c<=e) (h2:c<=f):sc z e c=sc w f c:=by
 obtain⟨b,hb1,hb2,h3⟩:=h;by_cases hc:c<=b
 . rw[qad hc hb1,qad hc hb2,h3]
 . rw[qad (b:=c) (c:=b) O h1,qad (b:=c) (c:=b) O h2]at h3;exact qav h3
theorem EqD.symm {z e w f:Int}:EqD z e w f->EqD w f z e
 |⟨b,h1,h2,h3⟩=>⟨b,h2,h1,h3.symm⟩
theorem EqD.trans {z e w f y g:Int} (h:EqD z e w f) (h2:EqD w f y g):EqD z e y g:=by
 obtain⟨c,c1,c2,c3⟩: ∃c:Int,c<=e/\c<=f/\c<=g:=⟨min e (min f g),O,O,O⟩;exact⟨c,c1,c3,(h.low c1 c2).trans (h2.low c2 c3)⟩
theorem EqD.zero (e f:Int):EqD 0 e 0 f:=⟨min e f,O,O,by unfold sc;rw[Int.zero_mul,Int.zero_mul]⟩
theorem qbu (z e:Int):sc z e e=z:=by unfold sc;rw[Int.sub_self];exact Int.mul_one z
theorem EqD.sc {z e b:Int} (h:b<=e):EqD (sc z e b) b z e:=⟨b,O,h,by rw[qbu]⟩
theorem EqD.add {z e w f y c x g:Int} (h1:EqD z e w f) (h2:EqD y e x f):EqD (z+y) e (w+x) f:=by
 obtain⟨c,c1,c2⟩: ∃c:Int,c<=e/\c<=f:=⟨min e f,O,O⟩;refine⟨c,c1,c2,?_⟩;have a:=h1.low c1 c2;have b:=h2.low c1 c2;unfold Vs.F.sc at*;rw[Int.add_mul,Int.add_mul,a,b]
theorem EqD.neg {z e w f:Int}:EqD z e w f->EqD (-z) e (-w) f
 |⟨b,h1,h2,h3⟩=>⟨b,h1,h2,by unfold Vs.F.sc at*;rw[Int.neg_mul,Int.neg_mul,h3]⟩
theorem EqD.mul {z e w f y g x h:Int} (h1:EqD z e w f) (h2:EqD y g x h):EqD (z*y) (e+g) (w*x) (f+h):=by
 obtain⟨b,b1,b2,b3⟩:=h1;obtain⟨c,c1,c2,c3⟩:=h2;refine⟨b+c,O,O,?_⟩
 have k: ∀{z e y g:Int},b<=e->c<=g->Vs.F.sc (z*y) (e+g) (b+c)=Vs.F.sc z e b*Vs.F.sc y g c:=by
  intro z e y g h1 h2;unfold Vs.F.sc;rw[show(e+g-(b+c)).toNat=(e-b).toNat+(g-c).toNat by omega,Int.pow_add]
  simp only[Int.mul_assoc,Int.mul_comm,Int.mul_left_comm]
 rw[k b1 c1,k b2 c2,b3,c3]
theorem EqD.sgn {z e w f:Int} (h:EqD z e w f):Vs.F.sgn z=Vs.F.sgn w:=by
 obtain⟨b,h1,h2,h3⟩:=h
 have k: ∀z e:Int,Vs.F.sgn (Vs.F.sc z e b)=Vs.F.sgn z:=by
  intro z e;unfold Vs.F.sgn Vs.F.sc;simp only[q4v]
  have:0<z*2^(e-b).toNat↔0<z:=by
   have:=q1b (e-b).toNat;constructor
   . intro h;exact Int.pos_of_mul_pos_left h this
   . intro h;exact Int.mul_pos h this
  simp only[this]
 rw[<-k z e,<-k w f,h3]
theorem EqD.cmp {z e w f:Int} {y x:Int} (h:EqD z e w f) (h2:EqD y e x f):cmpZ z y=cmpZ w x:=by
 have:=(h.add (c:=0) (g:=0) h2.neg).sgn;unfold Vs.F.sgn at this;unfold cmpZ
 repeat' split at this
 all_goals repeat' split
 all_goals first|rfl|omega
theorem qey {n k:Nat}:blen (n/2^k)<=blen n:=by
 by_cases h:n/2^k=0
 . rw[h,Zd];omega
 . have h0:n≠0:=by rintro rfl;simp at h
   rw[Qz h,Qz h0]
   have:(n/2^k).log2<n.log2+1:=by
    rw[Nat.log2_lt h];exact Nat.lt_of_le_of_lt (Nat.div_le_self ..) Nat.lt_log2_self
   omega
theorem qdq {n:Nat} (h:n≠0):n/2^tz n≠0/\n=2^tz n*(n/2^tz n)/\(n/2^tz n)%2=1:=by
 obtain⟨q,h1,h2⟩:=q5q h
 have:n/2^tz n=q:=by
  conv=>lhs;arg 1;rw[h1]
  exact Nat.mul_div_cancel_left q (Nat.pow_pos O)
 rw[this];exact⟨O,h1,h2⟩
theorem q99 {n:Nat} (h:n≠0):blen n=tz n+blen (n/2^tz n):=by
 obtain⟨h1,h2,_⟩:=qdq h;conv=>lhs;rw[h2]
 exact Jh h1
theorem q7u {z:Int} {q:Nat}:((if z<0 then-1 else 1)*(q:Int)).natAbs=q:=by split<;>omega
theorem lt_sg {z:Int} {q:Nat} (h:q≠0):z<0↔((if z<0 then-1 else 1)*(q:Int))<0:=by split<;>omega
theorem qh8 {z:Int} {q:Nat}:((if z<0 then-1 else 1)*(q:Int))=0->q=0:=by split<;>omega
theorem qfo {z:Int}:(if z<0 then-1 else 1)*(z.natAbs:Int)=z:=by split<;>omega
structure NF (z e w f:Int):Prop where
 eq:EqD w f z e
 md:mkD z e=(false,decide (w<0),lim w.natAbs,f,())
 zero:w=0->f=0
 odd:w≠0->w.natAbs%2=1
 lo: -65536<=f
 hi:f+(blen w.natAbs:Int)<=65536
theorem NF.len {z e w f:Int} (h:NF z e w f):blen w.natAbs<=131072:=by have:=h.lo;have:=h.hi;omega
theorem OkD.nf {z e:Int} (h:OkD z e): ∃w f,NF z e w f:=by
 by_cases hz:z=0
 . subst hz;exact⟨0,0,EqD.zero ..,by rw[qes];simp[Qd],fun _=>rfl,fun h=>absurd rfl h,O,by decide⟩
 . rcases Xv.1 h with h|⟨h1,h2⟩
   . exact absurd h hz
   . have hn:z.natAbs≠0:=O;obtain⟨k1,k2,k3⟩:=qdq hn;have hb:=q99 hn
     have hmk:mkD z e=(false,decide (z<0),lim (z.natAbs/2^tz z.natAbs),e+(tz z.natAbs:Int),()):=by
      unfold mkD;rw[iN' hz,iN' O]
     have hN:=q7u (z:=z) (q:=z.natAbs/2^tz z.natAbs);refine⟨(if z<0 then-1 else 1)*(((z.natAbs/2^tz z.natAbs:Nat)):Int),e+(tz z.natAbs:Int),⟨e,O,O,?_⟩,?_,?_,?_,O,?_⟩
     . rw[qbu];unfold sc;rw[show(e+(tz z.natAbs:Int)-e).toNat=tz z.natAbs by omega,Int.mul_assoc]
       have:(((z.natAbs/2^tz z.natAbs:Nat)):Int)*2^tz z.natAbs=(z.natAbs:Int):=by
        conv=>rhs;rw[k2]
        rw[Int.natCast_mul,Int.mul_comm,Int.natCast_pow];rfl
       rw[this,qfo]
     . rw[hmk,hN,decide_eq_decide.2 (lt_sg k1)]
     . intro h0;exact absurd (qh8 h0) k1
     . intro _;rw[hN];exact k3
     . rw[hN];omega
theorem NF.ok {z e w f:Int} (h:NF z e w f):OkD w f:=by
 unfold OkD;rw[h.eq.mk,h.md]
theorem q7j {n k:Nat} (h:blen n<=k):(lim n).length<=k/32+1:=by
 refine Yk ?_;refine Nat.lt_of_lt_of_le (q1o n) ?_;rw[show(4294967296:Nat)=2^32 by decide,<-Nat.pow_mul]
 exact Nat.pow_le_pow_right O O
theorem qeh {n k:Nat} (h:(lim n).length<=k):blen n<=32*k:=by
 by_cases h0:n=0
 . subst h0;rw[Zd];omega
 . have h1:=vl_lt (Qe n);rw[Q5]at h1
   have h2:n<2^(32*k):=by
    refine Nat.lt_of_lt_of_le h1 ?_;rw[show(4294967296:Nat)=2^32 by decide,<-Nat.pow_mul]
    exact Nat.pow_le_pow_right O O
   rw[Qz h0];exact(Nat.log2_lt h0).2 h2
theorem qe4 {n k:Nat} (h:n<=k):blen n<=blen k:=by
 by_cases h0:n=0
 . subst h0;rw[Zd];omega
 . have hk:k≠0:=O;rw[Qz h0,Qz hk];have:n.log2<k.log2+1:=(Nat.log2_lt h0).2 (Nat.lt_of_le_of_lt h Nat.lt_log2_self);omega
theorem Ql {n k:Nat} (h:n<2^k):blen n<=k:=by
 by_cases h0:n=0
 . subst h0;rw[Zd];omega
 . rw[Qz h0];exact(Nat.log2_lt h0).2 h
theorem qfk {a b k:Nat} (ha:blen a<=k) (hb:blen b<=k):blen (a+b)<=k+1:=by
 apply Ql;have h1:=q1o a;have h2:=q1o b;have h3:2^blen a<=2^k:=Nat.pow_le_pow_right O ha;have h4:2^blen b<=2^k:=Nat.pow_le_pow_right O hb;rw[Nat.pow_succ];omega
theorem qfb {a b:Nat}:blen (a*b)<=blen a+blen b:=by
 apply Ql;rw[Nat.pow_add];exact Nat.mul_lt_mul_of_lt_of_le (q1o a) (Nat.le_of_lt (q1o b)) (Nat.pow_pos O)
theorem Y0 {a b:Int} {k:Nat} (ha:blen a.natAbs<=k) (hb:blen b.natAbs<=k):blen (a+b).natAbs<=k+1:=
 Nat.le_trans (qe4 (show(a+b).natAbs<=a.natAbs+b.natAbs by omega)) (qfk ha hb)
theorem q1f {a b:Int}:blen (a*b).natAbs<=blen a.natAbs+blen b.natAbs:=by
 rw[Int.natAbs_mul];exact qfb
theorem qce {a:Int} {k:Nat}:blen (a*2^k).natAbs<=k+blen a.natAbs:=by
 by_cases h:a.natAbs=0
 . rw[Xf,h,Nat.mul_zero,Zd];omega
 . rw[Xf,Jh h];omega
theorem zB_1 (z:Int):(zB z).1=decide (z<0):=rfl
theorem zB_2 (z:Int):(zB z).2.1=lim z.natAbs:=rfl
theorem Lm_zB (z:Int):Lm (zB z).2.1:=Qe _
theorem q02 {z:Int} {k:Nat} (h:blen z.natAbs<=k):(zB z).2.1.length<=k/32+1:=q7j h
theorem left_eq {m:Nat} (hm:3000000<m) {z:Int} (hz:blen z.natAbs<=1000000) {k:Int} (h0:0<=k) (hk:k<=1048576):g225 m (zB z).1 (zB z).2.1 k=some (zB (z*2^k.toNat),(),(),()):=by
 have hl:=q02 hz;obtain⟨n,rfl⟩: ∃n:Nat,k=(n:Int):=⟨k.toNat,O⟩;rw[g225,q9u hm (Lm_zB z) O O,bS,zv_zB];rfl
theorem right_eq {m:Nat} (hm:3000000<m) {z:Int} (hz:blen z.natAbs<=1000000) {k:Nat} (hk:k<=1048576):g232 m (zB z).1 (zB z).2.1 (k:Int)=some (zB (z/2^k),(),(),()):=by
 have hl:=q02 hz;obtain⟨m',rfl⟩: ∃m',m=m'+1:=⟨m-1,O⟩;rw[g232,g232L0,bQ,iN' O,bS];dsimp only;by_cases h0:k=0
 . subst h0;rw[show wI (0-((0:Nat):Int))=((0:Nat):Int)from by decide,q9u hm (Lm_zB z) O O,bS,zv_zB]
   dsimp only;rw[show z*2^0=z/2^0 by rw[Int.pow_zero,Int.mul_one,Int.ediv_one]]
 . rw[show wI (0-(k:Int))= -(k:Int) by rw[wQ,wi O O];omega,qbe hm (Lm_zB z) O O O,bS,zv_zB,Int.natCast_pow]
   rfl
theorem qf7 {z:Int} (h:z≠0):zB (z/2^tz z.natAbs)=(decide (z<0),lim (z.natAbs/2^tz z.natAbs),()):=by
 obtain⟨k1,k2,k3⟩:=qdq (n:=z.natAbs) O
 have:z=((if z<0 then-1 else 1)*((z.natAbs/2^tz z.natAbs:Nat):Int))*2^tz z.natAbs:=by
  rw[Int.mul_assoc]
  have:(((z.natAbs/2^tz z.natAbs:Nat)):Int)*2^tz z.natAbs=(z.natAbs:Int):=by
   conv=>rhs;rw[k2]
   rw[Int.natCast_mul,Int.mul_comm,Int.natCast_pow];rfl
  rw[this,qfo]
 have h2:z/2^tz z.natAbs=(if z<0 then-1 else 1)*((z.natAbs/2^tz z.natAbs:Nat):Int):=by
  conv=>lhs;arg 1;rw[this]
  rw[Int.mul_ediv_cancel];have:=q1b (tz z.natAbs);omega
 have h3:=lt_sg (z:=z) k1;have h4:=q7u (z:=z) (q:=z.natAbs/2^tz z.natAbs);rw[<-h2]at h3 h4;unfold zB;rw[h4,decide_eq_decide.2 h3.symm]
theorem Yu {z:Int}:sgn z=0↔z=0:=by unfold sgn;repeat' split
                                   all_goals omega
theorem q1h {n:Nat}:tz n<=blen n:=by
 by_cases h:n=0
 . subst h;rw[qcw];omega
 . rw[q99 h];omega
theorem qcq {m:Nat} (hm:3000000<m) {z:Int} (hz:blen z.natAbs<=900000) {e:Int} (h1: -1000000000<=e) (h2:e<=1000000000):g154 m false (zB z).1 (zB z).2.1 e=some ((mkD z e,decide (OkD z e),()),(),()):=by
 have hl:=q02 hz;have hS:Sz (zB z).2.1:=⟨Lm_zB z,O⟩;have hv:vl (zB z).2.1=z.natAbs:=Q5 _;rw[g154,cond_false,qh9 O hS,bS,zv_zB];dsimp only;rw[q9o O hS,bS,zv_zB,bif_eq];dsimp only;by_cases h:z=0
 . subst h;rw[iP (Yu.2 rfl)];rfl
 . have hn:z.natAbs≠0:=O;have ht:=q1h (n:=z.natAbs);rw[iN' (fun e=>h (Yu.1 e)),q2j O hS O,bS,qdi O hS,bS,hv]
   dsimp only
   rw[show wI (65536-((blen z.natAbs:Nat):Int))=65536-((blen z.natAbs:Nat):Int) by rw[wQ,wi O O],
    show wI ((-65536)-((tz z.natAbs:Nat):Int))=(-65536)-((tz z.natAbs:Nat):Int) by rw[wQ,wi O O],
    show wI (e+((tz z.natAbs:Nat):Int))=e+((tz z.natAbs:Nat):Int) by rw[wQ,wi O O],
    bQ,bQ,right_eq hm O O,bS,qf7 h]
   by_cases hk:OkD z e
   . rcases Xv.1 hk with h0|⟨k1,k2⟩
     . exact absurd h0 h
     . rw[iN' O,iN' O,decide_eq_true hk];unfold mkD;rw[iN' h,iN' O]
   . have hk2: ¬(e+(blen z.natAbs:Int)<=65536/\ -65536<=e+(tz z.natAbs:Int)):=fun c=>hk (Xv.2 (Or.inr c))
     rw[q1g hk,decide_eq_false hk];by_cases c:e>65536-((blen z.natAbs:Nat):Int)
     . rw[iP c];rfl
     . rw[iN' c,iP O];rfl
theorem q1j {m:Nat} (hm:3000000<m) {z:Int} (hz:blen z.natAbs<=900000) {e:Int} (h1: -1000000000<=e) (h2:e<=1000000000):g145 m (zB z).1 (zB z).2.1 e=some (mkD z e,(),(),()):=by
 rw[g145,qcq hm hz h1 h2];rfl
theorem qh0 {m:Nat} (hm:3000000<m) {z e:Int} (h:OkD z e):g154 m (mkD z e).1 (mkD z e).2.1 (mkD z e).2.2.1 (mkD z e).2.2.2.1=some ((mkD z e,true,()),(),()):=by
 obtain⟨w,f,k⟩:=h.nf;rw[k.md];have:=qcq hm (z:=w) (by have:=k.len;omega) (e:=f) (by have:=k.lo;omega) (by have:=k.hi;omega)
 rw[zB_1,zB_2]at this;rw[this,k.eq.mk,k.md,decide_eq_true k.ok]
theorem q3k {m:Nat} (hm:3000000<m) {z e:Int}:g154 m (mkD z e).1 (mkD z e).2.1 (mkD z e).2.2.1 (mkD z e).2.2.2.1=some ((mkD z e,decide (OkD z e),()),(),()):=by
 by_cases h:OkD z e
 . rw[qh0 hm h,decide_eq_true h]
 . rw[q1g h,decide_eq_false h];rfl
theorem Qm {z e:Int} (h:OkD z e): ∃w f,NF z e w f/\(mkD z e).2.1=(zB w).1/\(mkD z e).2.2.1=(zB w).2.1/\(mkD z e).2.2.2.1=f:=by
 obtain⟨w,f,k⟩:=h.nf;refine⟨w,f,k,?_⟩;rw[k.md];exact⟨rfl,rfl,rfl⟩
theorem NF.Sz {z e w f:Int} (h:NF z e w f):Vs.F.Sz (zB w).2.1:=⟨Lm_zB w,by have:=q02 h.len;omega⟩
theorem NF.sgn {z e w f:Int} (h:NF z e w f):Vs.F.sgn w=Vs.F.sgn z:=h.eq.sgn
theorem qco {m:Nat} (hm:3000000<m) {z e y f:Int}:g151 m (mkD z e).1 (mkD z e).2.1 (mkD z e).2.2.1 (mkD z e).2.2.2.1 (mkD y f).1 (mkD y f).2.1 (mkD y f).2.2.1 (mkD y f).2.2.2.1=some ((mkD z e,mkD y f,decide (OkD z e/\OkD y f),()),(),(),()):=by
 rw[g151,q3k hm,bS,q3k hm,bS];dsimp only;rw[Bool.decide_and];cases decide (OkD z e)<;>rfl
theorem qg5 (v:Nat):zB (v:Int)=(false,lim v,()):=by
 unfold zB;rw[Int.natAbs_natCast,show decide ((v:Int)<0)=false by simp]
theorem SzB {z:Int} (h:blen z.natAbs<=1000000):Sz (zB z).2.1:=⟨Lm_zB z,by have:=q02 h;omega⟩
theorem SzN {v:Nat} (h:blen v<=1000000):Sz (zB (v:Int)).2.1:=SzB (by rwa [Int.natAbs_natCast])
def fexp (f:Int):Int:=f/4503599627370496%2048
def ffrac (f:Int):Int:=f%4503599627370496
def fneg (f:Int):Bool:=decide (9223372036854775808<=f)
def ofZ (f:Int):Int:=(if fneg f then-1 else 1)*(if fexp f=0 then ffrac f else ffrac f+4503599627370496)
def ofE (f:Int):Int:=if fexp f=0 then-1074 else fexp f-1075
def FinF (f:Int):Prop:=fexp f≠2047
instance {f:Int}:Decidable (FinF f):=inferInstanceAs (Decidable (_≠_))
def U64 (f:Int):Prop:=0<=f/\f<18446744073709551616
def ofD (f:Int):Bool×Bool×LI×Int×Unit:=if FinF f then mkD (ofZ f) (ofE f)else(true,false,[],0,())
theorem q2x (f:Int):0<=fexp f/\fexp f<2048:=by unfold fexp;omega
theorem q6r (f:Int):0<=ffrac f/\ffrac f<4503599627370496:=by unfold ffrac;omega
theorem parts_eq {m:Nat} {f:Int} (h:U64 f):g110 m f=some ((fexp f,ffrac f,()),(),()):=by
 obtain⟨n,rfl⟩: ∃n:Nat,f=(n:Int):=⟨f.toNat,by have:=h.1;omega⟩
 have hn:n<18446744073709551616:=by have:=h.2;omega
 have e1:shr_ .u64 (n:Int) 52=((n/4503599627370496:Nat):Int):=shr64 (a:=n) (k:=52) O;have e2:=and64 (a:=n/4503599627370496) (b:=2047) O O;have e3:=and64 (a:=n) (b:=4503599627370495) hn O;rw[show((2047:Nat):Int)=2047 from rfl,show(2047:Nat)=2^11-1 by decide,Nat.and_two_pow_sub_one_eq_mod]at e2
 rw[show((4503599627370495:Nat):Int)=4503599627370495 from rfl,show(4503599627370495:Nat)=2^52-1 by decide,Nat.and_two_pow_sub_one_eq_mod]at e3
 rw[g110,e1,e2,e3,wQ,wi O O];unfold fexp ffrac;congr 3<;>omega
theorem qgn {m:Nat} {f:Int} (h:U64 f):g47 m f=some (decide (FinF f),(),()):=by
 rw[g47,parts_eq h,bS];dsimp only;by_cases c:FinF f
 . rw[decide_eq_true c,show(fexp f !=2047)=true by simpa [FinF]using c]
 . rw[decide_eq_false c,show(fexp f !=2047)=false by simpa [FinF]using c]
theorem qga {n:Nat} (h:n<18446744073709551616):qw .u64 (n:Int) 9223372036854775808=if 9223372036854775808<=n then 9223372036854775808 else 0:=by
 have e:=and64 (a:=n) (b:=9223372036854775808) h O;rw[show((9223372036854775808:Nat):Int)=9223372036854775808 from rfl]at e
 rw[e]
 have hb:n&&&9223372036854775808=if n.testBit 63 then 9223372036854775808 else 0:=by
  rw[show(9223372036854775808:Nat)=2^63 by decide]
  apply Nat.eq_of_testBit_eq;intro i;rw[Nat.testBit_and,Nat.testBit_two_pow];by_cases c:63=i
  . subst c;cases hb:n.testBit 63
    . simp
    . rw[iP rfl,Nat.testBit_two_pow];simp
  . cases hb:n.testBit 63
    . simp[c]
    . rw[iP rfl,Nat.testBit_two_pow];simp[c]
 have ht:n.testBit 63=decide (9223372036854775808<=n):=by
  rw[Nat.testBit_eq_decide_div_mod_eq];rw[show(2:Nat)^63=9223372036854775808 by decide]
  by_cases c:9223372036854775808<=n
  . rw[decide_eq_decide];omega
  . rw[decide_eq_decide];omega
 rw[hb,ht];by_cases c:9223372036854775808<=n
 . simp[c]
 . simp[c]
theorem q49 {m:Nat} {f:Int} (h:U64 f):g211 m f=some (fneg f,(),()):=by
 obtain⟨n,rfl⟩: ∃n:Nat,f=(n:Int):=⟨f.toNat,by have:=h.1;omega⟩
 have hn:n<18446744073709551616:=by have:=h.2;omega
 rw[g211,qga hn];unfold fneg;by_cases c:9223372036854775808<=n
 . rw[iP c,show decide ((9223372036854775808:Int)<=(n:Int))=true by rw[decide_eq_true_eq];omega];rfl
 . rw[iN' c,show decide ((9223372036854775808:Int)<=(n:Int))=false by rw[decide_eq_false_iff_not];omega];rfl
theorem q86 {x:Int} (h1:0<=x) (h2:x<4503599627370496):b_or_ .u64 x 4503599627370496=x+4503599627370496:=by
 obtain⟨n,rfl⟩: ∃n:Nat,x=(n:Int):=⟨x.toNat,O⟩;have h:=or64 (a:=n) (b:=4503599627370496) O O;rw[show((4503599627370496:Nat):Int)=4503599627370496 from rfl]at h
 rw[h];have:=Nat.two_pow_add_eq_or_of_lt (i:=52) (b:=n) O 1;rw[Nat.or_comm,show(4503599627370496:Nat)=2^52*1 by decide,<-this]
 omega
theorem q60 (f:Int):blen (ofZ f).natAbs<=53:=by
 apply Ql;have h1:=q6r f;have c:(2:Nat)^53=9007199254740992:=by decide
 unfold ofZ;cases fneg f<;>(split<;>simp<;>omega)
theorem q54 {f:Int}: -1074<=ofE f/\ofE f<=972:=by
 have:=q2x f;unfold ofE;split<;>omega
theorem qhb {f:Int} (h:FinF f):ofE f<=971:=by
 have:=q2x f;unfold ofE FinF at*;split<;>omega
theorem Of_eq {m:Nat} (hm:3000000<m) {f:Int} (h:U64 f):g112 m f=some (ofD f,(),()):=by
 rw[g112,parts_eq h,bS,bif_eq,bif_eq];dsimp only;have h1:=q2x f;have h2:=q6r f;have hl:=q60 f;have he:=q54 (f:=f);unfold ofD;by_cases c:fexp f=2047
 . rw[iP c,iN' (fun h=>h c)]
 . have hF:FinF f:=c;rw[iN' c,iP hF,q49 h,q86 h2.1 h2.2]
   have run: ∀(q:Int) (ex:Int),0<=q->q<9007199254740992->ofZ f=(if fneg f then-1 else 1)*q->ofE f=ex->
    ((g146 m (wI q)).bind fun y2=>(some (fneg f,(),()):Option (Bool×Unit×Unit)).bind fun y3=>bif y3.1 then
      (g212 m y2.1.1 y2.1.2.1).bind fun y4=>(g145 m y4.1.1 y4.1.2.1 ex).bind fun y5=>some ((y5.1.1,y5.1.2.1,y5.1.2.2.1,y5.1.2.2.2.1,()),((),()))
    else(g145 m y2.1.1 y2.1.2.1 ex).bind fun y6=>some ((y6.1.1,y6.1.2.1,y6.1.2.2.1,y6.1.2.2.2.1,()),((),())))=some (mkD (ofZ f) (ofE f),(),()):=by
    intro q ex q1 q2 eq ee
    have hq:blen q.natAbs<=53:=by
     rw[eq]at hl;cases hf:fneg f<;>rw[hf]at hl<;>simpa using hl
    rw[wQ,wi O O,q5a O O O,bS,bS];dsimp only;cases hf:fneg f with
    |false=>
     rw[hf]at eq;rw[cond_false,q1j hm O O O,eq,ee,iN' (by simp),Int.one_mul];rfl
    |true=>
     rw[hf]at eq;rw[cond_true,qg7 O (SzB O),zv_zB,bS];dsimp only;rw[q1j hm (by rw[Int.natAbs_neg];omega) O O,eq,ee,iP rfl,Int.neg_one_mul];rfl
   by_cases c0:fexp f=0
   . rw[iP c0];exact run _ _ h2.1 O (by unfold ofZ;rw[iP c0]) (by unfold ofE;rw[iP c0])
   . rw[iN' c0,show wI (fexp f-1075)=fexp f-1075 by rw[wQ,wi O O]]
     exact run _ _ O O (by unfold ofZ;rw[iN' c0]) (by unfold ofE;rw[iN' c0])
theorem qhn {f:Int} (h:FinF f):OkD (ofZ f) (ofE f):=by
 have hl:=q60 f;have he:=q54 (f:=f);exact Xv.2 (Or.inr ⟨O,O⟩)
abbrev badD:Bool×Bool×LI×Int×Unit:=(true,false,[],0,())
theorem Ja {z e:Int} (h: ¬OkD z e):mkD z e=badD:=q1g h
theorem q3q {z e:Int}:OkD (-z) e↔OkD z e:=by
 rw[Xv,Xv,Int.natAbs_neg];omega
theorem qcc {z e:Int} (h:OkD z e):mkD (-z) e=((mkD z e).1,(zB (-(zv (mkD z e).2.1 (mkD z e).2.2.1))).1,(zB (-(zv (mkD z e).2.1 (mkD z e).2.2.1))).2.1,(mkD z e).2.2.2.1,()):=by
 obtain⟨w,f,k⟩:=h.nf;have kn:EqD (-z) e (-w) f:=k.eq.symm.neg;rw[kn.mk];have ok:OkD (-w) f:=q3q.2 k.ok;rw[k.md];show mkD (-w) f=(false,(zB (-zv (zB w).1 (zB w).2.1)).1,(zB (-zv (zB w).1 (zB w).2.1)).2.1,f,());rw[zv_zB];unfold mkD;by_cases h0:w=0
 . subst h0;rw[k.zero rfl,show(-0:Int)=0 from rfl,iP rfl,zB_1,zB_2,show(0:Int).natAbs=0 from rfl,Qd];rfl
 . have hn:(-w).natAbs≠0:=O
   have hb: ¬(f+(blen (-w).natAbs:Int)>65536\/f+(tz (-w).natAbs:Int)< -65536):=by
    rcases Xv.1 ok with h|h
    . omega
    . omega
   have ht:tz (-w).natAbs=0:=by rw[Int.natAbs_neg];exact qcl (k.odd h0)
   rw[iN' O,iN' hb,ht,Nat.pow_zero,Nat.div_one,nZ,Int.add_zero];rfl
theorem NF.lim {z e w f:Int} (h:NF z e w f):(zB w).2.1.length<=10000:=by have:=q02 h.len;omega
theorem qgp {m:Nat} (hm:3000000<m) {z e:Int}:g150 m (mkD z e).1 (mkD z e).2.1 (mkD z e).2.2.1 (mkD z e).2.2.2.1=some (mkD (-z) e,(),()):=by
 rw[g150,q3k hm,bS];dsimp only;by_cases h:OkD z e
 . obtain⟨w,f,k,k1,k2,k3⟩:=Qm h;have hS:Sz (mkD z e).2.2.1:=by rw[k2];exact k.Sz
   rw[decide_eq_true h,cond_true,qg7 O hS,bS,qcc h]
 . rw[decide_eq_false h,cond_false,Ja (mt q3q.1 h),Ja h]
theorem q1d {w f b:Int} (h:b<=f):blen (sc w f b).natAbs<=(f-b).toNat+blen w.natAbs:=by
 unfold sc;exact qce
theorem q4w {m:Nat} (hm:3000000<m) {a B b C w f x h:Int} (k:NF a B w f) (l:NF b C x h) (b1 b2:Bool):
 g152 m b1 (zB w).1 (zB w).2.1 f b2 (zB x).1 (zB x).2.1 h=some ((zB (sc w f (min f h)),zB (sc x h (min f h)),min f h,()),(),(),()):=by
 have e1:(if h<f then h else f)=min f h:=by split<;>omega
 have hb1:=k.lo;have hb2:=k.hi;have hb3:=l.lo;have hb4:=l.hi;have hl1:=k.len;have hl2:=l.len;have w1:wI (f-min f h)=f-min f h:=by rw[wQ,wi O O]
 have w2:wI (h-min f h)=h-min f h:=by rw[wQ,wi O O]
 rw[g152,e1,w1,w2,left_eq hm O O O,bS,left_eq hm O O O,bS];rfl
theorem sc_bd {a B w f b:Int} (k:NF a B w f) (h1:b<=f) (h2: -65536<=b):blen (sc w f b).natAbs<=300000:=by
 have:=q1d (w:=w) h1;have:=k.len;have:=k.hi;omega
theorem qhj {a b B w f x h:Int} (k:NF a B w f) (l:NF b B x h):EqD (sc w f (min f h)+sc x h (min f h)) (min f h) (a+b) B:=
 ((EqD.sc O).trans k.eq).add (c:=0) (g:=0) ((EqD.sc O).trans l.eq)
theorem qgo {m:Nat} (hm:3000000<m) {a b B:Int}:
 g149 m (mkD a B).1 (mkD a B).2.1 (mkD a B).2.2.1 (mkD a B).2.2.2.1 (mkD b B).1 (mkD b B).2.1 (mkD b B).2.2.1 (mkD b B).2.2.2.1=some (if OkD a B/\OkD b B then mkD (a+b) B else badD,(),(),()):=by
 rw[g149,qco hm,bS];dsimp only;by_cases h:OkD a B/\OkD b B
 . obtain⟨w,f,k,k1,k2,k3⟩:=Qm h.1;obtain⟨x,g,l,l1,l2,l3⟩:=Qm h.2;have hb1:=k.lo;have hb3:=l.lo;have:=k.hi;rw[decide_eq_true h,Bool.not_true,cond_false,iP h,k1,k2,k3,l1,l2,l3,q4w hm k l,bS];dsimp only;have s1:=sc_bd k (b:=min f g) O O;have s2:=sc_bd l (b:=min f g) O O;rw[qfp O (SzB O) (SzB O),zv_zB,zv_zB,bS];dsimp only;rw[q1j hm (Nat.le_trans (Y0 s1 s2) O) O O,(qhj k l).mk];rfl
 . rw[decide_eq_false h,iN' h];rfl
theorem qh7 {m:Nat} (hm:3000000<m) {a b B:Int}:
 g83 m (mkD a B).1 (mkD a B).2.1 (mkD a B).2.2.1 (mkD a B).2.2.2.1 (mkD b B).1 (mkD b B).2.1 (mkD b B).2.2.1 (mkD b B).2.2.2.1=some (if OkD a B/\OkD b B then mkD (a-b) B else badD,(),(),()):=by
 rw[g83,qgp hm,bS];dsimp only;rw[qgo hm,bS,<-Int.sub_eq_add_neg];simp only[q3q]
theorem qgf {m:Nat} (hm:4000000<=m) {a b B C:Int}:
 g147 m (mkD a B).1 (mkD a B).2.1 (mkD a B).2.2.1 (mkD a B).2.2.2.1 (mkD b C).1 (mkD b C).2.1 (mkD b C).2.2.1 (mkD b C).2.2.2.1=some (if OkD a B/\OkD b C then mkD (a*b) (B+C)else badD,(),(),()):=by
 rw[g147,qco O,bS];dsimp only;by_cases h:OkD a B/\OkD b C
 . obtain⟨w,f,k,k1,k2,k3⟩:=Qm h.1;obtain⟨x,g,l,l1,l2,l3⟩:=Qm h.2;have hb1:=k.lo;have hb2:=k.hi;have hb3:=l.lo;have hb4:=l.hi;have n1:=k.len;have n2:=l.len;have hl:=k.lim;have hl2:=l.lim;have w1:wI (f+g)=f+g:=by rw[wQ,wi O O]
   rw[decide_eq_true h,Bool.not_true,cond_false,iP h,k1,k2,k3,l1,l2,l3,qhl hm (Lm_zB w) (Lm_zB x) O,zv_zB,zv_zB,bS,w1];dsimp only;rw[q1j O (Nat.le_trans q1f O) O O,(k.eq.mul l.eq).mk];rfl
 . rw[decide_eq_false h,iN' h];rfl
end Go.Vs.F
