/-Dyads:the normal form of z 2^e,plain. Dyads of the program:norm,Make,Sign,Neg,Abs,Add,Sub,Mul,Cmp. Rounding to a float,plain;integers that fit. The program's rounding to a float. The program's reading of a float. The program's dyads:Neg,Add,Sub,Mul,Cmp,Scale,over a common exponent. -/
import Derived.Test.YtipppakhihimpaaGreatDoorLb
set_option linter.unusedVariables false
set_option linter.unusedSimpArgs false
namespace Go.Vs.F
def mkD (z e:Int):Bool×Bool×LI×Int×Unit:=
 if z=0 then(false,false,[],0,())
 else if e+(blen z.natAbs:Int)>65536\/e+(tz z.natAbs:Int)< -65536 then(true,false,[],0,())
 else(false,decide (z<0),lim (z.natAbs/2^tz z.natAbs),e+(tz z.natAbs:Int),())
def OkD (z e:Int):Prop:=(mkD z e).1=false
def sc (z e b:Int):Int:=z*2^(e-b).toNat
def EqD (z e w f:Int):Prop:= ∃b,b<=e/\b<=f/\sc z e b=sc w f b
theorem qkc (e:Int):mkD 0 e=(false,false,[],0,()):=rfl
theorem Yk {z e:Int}:OkD z e↔z=0\/(e+(blen z.natAbs:Int)<=65536/\ -65536<=e+(tz z.natAbs:Int)):=by
 unfold OkD mkD;by_cases h:z=0
 . simp[h]
 . rw[iN' h];by_cases h2:e+(blen z.natAbs:Int)>65536\/e+(tz z.natAbs:Int)< -65536
   . rw[iP h2];simp only[h,false_or];constructor
     . intro h;cases h
     . intro h;omega
   . rw[iN' h2];simp only[h,false_or,true_iff];omega
instance {z e:Int}:Decidable (OkD z e):=inferInstanceAs (Decidable (_=_))
theorem q2x {z e:Int} (h: ¬OkD z e):mkD z e=(true,false,[],0,()):=by
 unfold OkD mkD at*;split at h
 . exact absurd rfl h
 . rename_i h1;rw[iN' h1];split at h
   . rename_i h2;rw[iP h2]
   . exact absurd rfl h
theorem Zq {z:Int} {k:Nat}:(z*2^k).natAbs=2^k*z.natAbs:=by
 rw[Int.natAbs_mul,Int.natAbs_pow,Nat.mul_comm];rfl
theorem Jw {k n:Nat} (h:n≠0):blen (2^k*n)=k+blen n:=by
 have:=q0s (y:=0) h (Nat.pow_pos (n:=k) (show 0<2 by omega))
 rwa [Nat.add_zero]at this
theorem Zk (k:Nat):0<(2:Int)^k:=Int.pow_pos O
theorem q6n {z:Int} {k:Nat}:z*2^k<0↔z<0:=by
 have:=Zk k;constructor
 . intro h;refine Int.not_le.1 fun h2=> ?_
   have:=Int.mul_nonneg h2 (Int.le_of_lt this);omega
 . intro h;exact Int.mul_neg_of_neg_of_pos h this
theorem qgs {z:Int} {k:Nat} {e:Int}:mkD (z*2^k) e=mkD z (e+(k:Int)):=by
 unfold mkD;by_cases h:z=0
 . subst h;rw[Int.zero_mul];rfl
 . have h2:z*2^k≠0:=Int.mul_ne_zero h (by have:=Zk k;omega)
   have hn:z.natAbs≠0:=O;rw[iN' h,iN' h2,Zq,Jw hn,q7g hn,Nat.pow_add,Nat.mul_div_mul_left _ _ (Nat.pow_pos O)];simp only[q6n];rw[Int.natCast_add,Int.natCast_add,<-Int.add_assoc,<-Int.add_assoc]
theorem qdj {z e b:Int} (h:b<=e):mkD (sc z e b) b=mkD z e:=by
 unfold sc;rw[qgs];congr 1;omega
theorem EqD.mk {z e w f:Int}:EqD z e w f->mkD z e=mkD w f
 |⟨b,h1,h2,h3⟩=>by rw[<-qdj h1,<-qdj h2,h3]
theorem qdy {z e b c:Int} (h1:c<=b) (h2:b<=e):sc z e c=sc z e b*2^(b-c).toNat:=by
 unfold sc;rw[Int.mul_assoc,<-Int.pow_add];congr 2;omega
theorem qe7 {x y:Int} {k:Nat} (h:x*2^k=y*2^k):x=y:=
 Int.eq_of_mul_eq_mul_right (by have:=Zk k;omega) h
theorem EqD.low {z e w f:Int} (h:EqD z e w f) {c:Int} (h1:c<=e) (h2:c<=f):sc z e c=sc w f c:=by
 obtain⟨b,hb1,hb2,h3⟩:=h;by_cases hc:c<=b
 . rw[qdy hc hb1,qdy hc hb2,h3]
 . rw[qdy (b:=c) (c:=b) O h1,qdy (b:=c) (c:=b) O h2]at h3;exact qe7 h3
theorem EqD.refl (z e:Int):EqD z e z e:=⟨e,O,O,rfl⟩
theorem EqD.symm {z e w f:Int}:EqD z e w f->EqD w f z e
 |⟨b,h1,h2,h3⟩=>⟨b,h2,h1,h3.symm⟩
theorem EqD.trans {z e w f y g:Int} (h:EqD z e w f) (h2:EqD w f y g):EqD z e y g:=by
 obtain⟨c,c1,c2,c3⟩: ∃c:Int,c<=e/\c<=f/\c<=g:=⟨min e (min f g),O,O,O⟩;exact⟨c,c1,c3,(h.low c1 c2).trans (h2.low c2 c3)⟩
theorem EqD.zero (e f:Int):EqD 0 e 0 f:=⟨min e f,O,O,by unfold sc;rw[Int.zero_mul,Int.zero_mul]⟩
theorem qcc (z e:Int):sc z e e=z:=by unfold sc;rw[Int.sub_self];exact Int.mul_one z
theorem EqD.sc {z e b:Int} (h:b<=e):EqD (sc z e b) b z e:=⟨b,O,h,by rw[qcc]⟩
theorem EqD.add {z e w f y c x g:Int} (h1:EqD z e w f) (h2:EqD y e x f):EqD (z+y) e (w+x) f:=by
 obtain⟨c,c1,c2⟩: ∃c:Int,c<=e/\c<=f:=⟨min e f,O,O⟩;refine⟨c,c1,c2,?_⟩;have a:=h1.low c1 c2;have b:=h2.low c1 c2;unfold Vs.F.sc at*;rw[Int.add_mul,Int.add_mul,a,b]
theorem EqD.neg {z e w f:Int}:EqD z e w f->EqD (-z) e (-w) f
 |⟨b,h1,h2,h3⟩=>⟨b,h1,h2,by unfold Vs.F.sc at*;rw[Int.neg_mul,Int.neg_mul,h3]⟩
theorem EqD.mul {z e w f y g x h:Int} (h1:EqD z e w f) (h2:EqD y g x h):EqD (z*y) (e+g) (w*x) (f+h):=by
 obtain⟨b,b1,b2,b3⟩:=h1;obtain⟨c,c1,c2,c3⟩:=h2;refine⟨b+c,O,O,?_⟩
 have k: ∀{z e y g:Int},b<=e->c<=g->Vs.F.sc (z*y) (e+g) (b+c)=Vs.F.sc z e b*Vs.F.sc y g c:=by
  intro z e y g h1 h2;unfold Vs.F.sc;rw[show(e+g-(b+c)).toNat=(e-b).toNat+(g-c).toNat by omega,Int.pow_add]
  simp only[Int.mul_assoc,Int.mul_comm,Int.mul_left_comm]
 rw[k b1 c1,k b2 c2,b3,c3]
theorem EqD.sgn {z e w f:Int} (h:EqD z e w f):Vs.F.sgn z=Vs.F.sgn w:=by
 obtain⟨b,h1,h2,h3⟩:=h
 have k: ∀z e:Int,Vs.F.sgn (Vs.F.sc z e b)=Vs.F.sgn z:=by
  intro z e;unfold Vs.F.sgn Vs.F.sc;simp only[q6n]
  have:0<z*2^(e-b).toNat↔0<z:=by
   have:=Zk (e-b).toNat;constructor
   . intro h;exact Int.pos_of_mul_pos_left h this
   . intro h;exact Int.mul_pos h this
  simp only[this]
 rw[<-k z e,<-k w f,h3]
theorem EqD.cmp {z e w f:Int} {y x:Int} (h:EqD z e w f) (h2:EqD y e x f):cmpZ z y=cmpZ w x:=by
 have:=(h.add (c:=0) (g:=0) h2.neg).sgn;unfold Vs.F.sgn at this;unfold cmpZ
 repeat' split at this
 all_goals repeat' split
 all_goals first|rfl|omega
theorem qja {n k:Nat}:blen (n/2^k)<=blen n:=by
 by_cases h:n/2^k=0
 . rw[h,q0f];omega
 . have h0:n≠0:=by rintro rfl;simp at h
   rw[X6 h,X6 h0]
   have:(n/2^k).log2<n.log2+1:=by
    rw[Nat.log2_lt h];exact Nat.lt_of_le_of_lt (Nat.div_le_self ..) Nat.lt_log2_self
   omega
theorem qdr {n:Nat} (h:n≠0):n/2^tz n≠0/\n=2^tz n*(n/2^tz n)/\(n/2^tz n)%2=1:=by
 obtain⟨q,h1,h2⟩:=q82 h
 have:n/2^tz n=q:=by
  conv=>lhs;arg 1;rw[h1]
  exact Nat.mul_div_cancel_left q (Nat.pow_pos O)
 rw[this];exact⟨O,h1,h2⟩
theorem qb3 {n:Nat} (h:n≠0):blen n=tz n+blen (n/2^tz n):=by
 obtain⟨h1,h2,_⟩:=qdr h;conv=>lhs;rw[h2]
 exact Jw h1
theorem q9a {z:Int} {q:Nat}:((if z<0 then-1 else 1)*(q:Int)).natAbs=q:=by split<;>omega
theorem lt_sg {z:Int} {q:Nat} (h:q≠0):z<0↔((if z<0 then-1 else 1)*(q:Int))<0:=by split<;>omega
theorem qlj {z:Int} {q:Nat}:((if z<0 then-1 else 1)*(q:Int))=0->q=0:=by split<;>omega
theorem qkk {z:Int}:(if z<0 then-1 else 1)*(z.natAbs:Int)=z:=by split<;>omega
structure NF (z e w f:Int):Prop where
 eq:EqD w f z e
 md:mkD z e=(false,decide (w<0),lim w.natAbs,f,())
 zero:w=0->f=0
 odd:w≠0->w.natAbs%2=1
 lo: -65536<=f
 hi:f+(blen w.natAbs:Int)<=65536
theorem NF.len {z e w f:Int} (h:NF z e w f):blen w.natAbs<=131072:=by have:=h.lo;have:=h.hi;omega
theorem OkD.nf {z e:Int} (h:OkD z e): ∃w f,NF z e w f:=by
 by_cases hz:z=0
 . subst hz;exact⟨0,0,EqD.zero ..,by rw[qkc];simp[Qb],fun _=>rfl,fun h=>absurd rfl h,O,by decide⟩
 . rcases Yk.1 h with h|⟨h1,h2⟩
   . exact absurd h hz
   . have hn:z.natAbs≠0:=O;obtain⟨k1,k2,k3⟩:=qdr hn;have hb:=qb3 hn
     have hmk:mkD z e=(false,decide (z<0),lim (z.natAbs/2^tz z.natAbs),e+(tz z.natAbs:Int),()):=by
      unfold mkD;rw[iN' hz,iN' O]
     have hN:=q9a (z:=z) (q:=z.natAbs/2^tz z.natAbs);refine⟨(if z<0 then-1 else 1)*(((z.natAbs/2^tz z.natAbs:Nat)):Int),e+(tz z.natAbs:Int),⟨e,O,O,?_⟩,?_,?_,?_,O,?_⟩
     . rw[qcc];unfold sc;rw[show(e+(tz z.natAbs:Int)-e).toNat=tz z.natAbs by omega,Int.mul_assoc]
       have:(((z.natAbs/2^tz z.natAbs:Nat)):Int)*2^tz z.natAbs=(z.natAbs:Int):=by
        conv=>rhs;rw[k2]
        rw[Int.natCast_mul,Int.mul_comm,Int.natCast_pow];rfl
       rw[this,qkk]
     . rw[hmk,hN,decide_eq_decide.2 (lt_sg k1)]
     . intro h0;exact absurd (qlj h0) k1
     . intro _;rw[hN];exact k3
     . rw[hN];omega
theorem NF.ok {z e w f:Int} (h:NF z e w f):OkD w f:=by
 unfold OkD;rw[h.eq.mk,h.md]
theorem q08 {n k:Nat} (h:blen n<=k):(lim n).length<=k/32+1:=by
 refine Xo ?_;refine Nat.lt_of_lt_of_le (q1b n) ?_;rw[show(4294967296:Nat)=2^32 by decide,<-Nat.pow_mul]
 exact Nat.pow_le_pow_right O O
theorem qdm {n k:Nat} (h:(lim n).length<=k):blen n<=32*k:=by
 by_cases h0:n=0
 . subst h0;rw[q0f];omega
 . have h1:=vl_lt (Qd n);rw[Q8]at h1
   have h2:n<2^(32*k):=by
    refine Nat.lt_of_lt_of_le h1 ?_;rw[show(4294967296:Nat)=2^32 by decide,<-Nat.pow_mul]
    exact Nat.pow_le_pow_right O O
   rw[X6 h0];exact(Nat.log2_lt h0).2 h2
theorem qgm {n k:Nat} (h:n<=k):blen n<=blen k:=by
 by_cases h0:n=0
 . subst h0;rw[q0f];omega
 . have hk:k≠0:=O;rw[X6 h0,X6 hk];have:n.log2<k.log2+1:=(Nat.log2_lt h0).2 (Nat.lt_of_le_of_lt h Nat.lt_log2_self);omega
theorem Jm {n k:Nat} (h:n<2^k):blen n<=k:=by
 by_cases h0:n=0
 . subst h0;rw[q0f];omega
 . rw[X6 h0];exact(Nat.log2_lt h0).2 h
theorem qip {a b k:Nat} (ha:blen a<=k) (hb:blen b<=k):blen (a+b)<=k+1:=by
 apply Jm;have h1:=q1b a;have h2:=q1b b;have h3:2^blen a<=2^k:=Nat.pow_le_pow_right O ha;have h4:2^blen b<=2^k:=Nat.pow_le_pow_right O hb;rw[Nat.pow_succ];omega
theorem q55 {a b:Int} {k:Nat} (ha:blen a.natAbs<=k) (hb:blen b.natAbs<=k):blen (a+b).natAbs<=k+1:=
 Nat.le_trans (qgm (show(a+b).natAbs<=a.natAbs+b.natAbs by omega)) (qip ha hb)
theorem qa4 {a:Int} {k:Nat}:blen (a*2^k).natAbs<=k+blen a.natAbs:=by
 by_cases h:a.natAbs=0
 . rw[Zq,h,Nat.mul_zero,q0f];omega
 . rw[Zq,Jw h];omega
theorem zB_1 (z:Int):(zB z).1=decide (z<0):=rfl
theorem zB_2 (z:Int):(zB z).2.1=lim z.natAbs:=rfl
theorem Lm_zB (z:Int):Lm (zB z).2.1:=Qd _
theorem q0w {z:Int} {k:Nat} (h:blen z.natAbs<=k):(zB z).2.1.length<=k/32+1:=q08 h
theorem left_eq {m:Nat} (hm:3000000<m) {z:Int} (hz:blen z.natAbs<=1000000) {k:Int} (h0:0<=k) (hk:k<=1048576):g113 m (zB z).1 (zB z).2.1 k=some (zB (z*2^k.toNat),(),(),()):=by
 have hl:=q0w hz;obtain⟨n,rfl⟩: ∃n:Nat,k=(n:Int):=⟨k.toNat,O⟩;rw[g113,q49 hm (Lm_zB z) O O,bS,zv_zB];rfl
theorem right_eq {m:Nat} (hm:3000000<m) {z:Int} (hz:blen z.natAbs<=1000000) {k:Nat} (hk:k<=1048576):g151 m (zB z).1 (zB z).2.1 (k:Int)=some (zB (z/2^k),(),(),()):=by
 have hl:=q0w hz;obtain⟨m',rfl⟩: ∃m',m=m'+1:=⟨m-1,O⟩;rw[g151,g151L0,bQ,iN' O,bS];dsimp only;by_cases h0:k=0
 . subst h0;rw[show wI (0-((0:Nat):Int))=((0:Nat):Int)from by decide,q49 hm (Lm_zB z) O O,bS,zv_zB]
   dsimp only;rw[show z*2^0=z/2^0 by rw[Int.pow_zero,Int.mul_one,Int.ediv_one]]
 . rw[show wI (0-(k:Int))= -(k:Int) by rw[wQ,wi O O];omega,qec hm (Lm_zB z) O O O,bS,zv_zB,Int.natCast_pow]
   rfl
theorem qjm {z:Int} (h:z≠0):zB (z/2^tz z.natAbs)=(decide (z<0),lim (z.natAbs/2^tz z.natAbs),()):=by
 obtain⟨k1,k2,k3⟩:=qdr (n:=z.natAbs) O
 have:z=((if z<0 then-1 else 1)*((z.natAbs/2^tz z.natAbs:Nat):Int))*2^tz z.natAbs:=by
  rw[Int.mul_assoc]
  have:(((z.natAbs/2^tz z.natAbs:Nat)):Int)*2^tz z.natAbs=(z.natAbs:Int):=by
   conv=>rhs;rw[k2]
   rw[Int.natCast_mul,Int.mul_comm,Int.natCast_pow];rfl
  rw[this,qkk]
 have h2:z/2^tz z.natAbs=(if z<0 then-1 else 1)*((z.natAbs/2^tz z.natAbs:Nat):Int):=by
  conv=>lhs;arg 1;rw[this]
  rw[Int.mul_ediv_cancel];have:=Zk (tz z.natAbs);omega
 have h3:=lt_sg (z:=z) k1;have h4:=q9a (z:=z) (q:=z.natAbs/2^tz z.natAbs);rw[<-h2]at h3 h4;unfold zB;rw[h4,decide_eq_decide.2 h3.symm]
theorem Jc {z:Int}:sgn z=0↔z=0:=by unfold sgn;repeat' split
                                   all_goals omega
theorem q0k {n:Nat}:tz n<=blen n:=by
 by_cases h:n=0
 . subst h;rw[qg8];omega
 . rw[qb3 h];omega
theorem qgr {m:Nat} (hm:3000000<m) {z:Int} (hz:blen z.natAbs<=900000) {e:Int} (h1: -1000000000<=e) (h2:e<=1000000000):g111 m false (zB z).1 (zB z).2.1 e=some ((mkD z e,decide (OkD z e),()),(),()):=by
 have hl:=q0w hz;have hS:Sz (zB z).2.1:=⟨Lm_zB z,O⟩;have hv:vl (zB z).2.1=z.natAbs:=Q8 _;rw[g111,cond_false,qfx O hS,bS,zv_zB];dsimp only;rw[q5g O hS,bS,zv_zB,bif_eq];dsimp only;by_cases h:z=0
 . subst h;rw[iP (Jc.2 rfl)];rfl
 . have hn:z.natAbs≠0:=O;have ht:=q0k (n:=z.natAbs);rw[iN' (fun e=>h (Jc.1 e)),q41 O hS O,bS,qhh O hS,bS,hv]
   dsimp only
   rw[show wI (65536-((blen z.natAbs:Nat):Int))=65536-((blen z.natAbs:Nat):Int) by rw[wQ,wi O O],
    show wI ((-65536)-((tz z.natAbs:Nat):Int))=(-65536)-((tz z.natAbs:Nat):Int) by rw[wQ,wi O O],
    show wI (e+((tz z.natAbs:Nat):Int))=e+((tz z.natAbs:Nat):Int) by rw[wQ,wi O O],
    bQ,bQ,right_eq hm O O,bS,qjm h]
   by_cases hk:OkD z e
   . rcases Yk.1 hk with h0|⟨k1,k2⟩
     . exact absurd h0 h
     . rw[iN' O,iN' O,decide_eq_true hk];unfold mkD;rw[iN' h,iN' O]
   . have hk2: ¬(e+(blen z.natAbs:Int)<=65536/\ -65536<=e+(tz z.natAbs:Int)):=fun c=>hk (Yk.2 (Or.inr c))
     rw[q2x hk,decide_eq_false hk];by_cases c:e>65536-((blen z.natAbs:Nat):Int)
     . rw[iP c];rfl
     . rw[iN' c,iP O];rfl
theorem q7y {m:Nat} (hm:3000000<m) {z:Int} (hz:blen z.natAbs<=900000) {e:Int} (h1: -1000000000<=e) (h2:e<=1000000000):g68 m (zB z).1 (zB z).2.1 e=some (mkD z e,(),(),()):=by
 rw[g68,qgr hm hz h1 h2];rfl
theorem qbi {m:Nat} (hm:3000000<m) {z e:Int} (h:OkD z e):g111 m (mkD z e).1 (mkD z e).2.1 (mkD z e).2.2.1 (mkD z e).2.2.2.1=some ((mkD z e,true,()),(),()):=by
 obtain⟨w,f,k⟩:=h.nf;rw[k.md];have:=qgr hm (z:=w) (by have:=k.len;omega) (e:=f) (by have:=k.lo;omega) (by have:=k.hi;omega)
 rw[zB_1,zB_2]at this;rw[this,k.eq.mk,k.md,decide_eq_true k.ok]
theorem q50 {m:Nat} (hm:3000000<m) {z e:Int}:g111 m (mkD z e).1 (mkD z e).2.1 (mkD z e).2.2.1 (mkD z e).2.2.2.1=some ((mkD z e,decide (OkD z e),()),(),()):=by
 by_cases h:OkD z e
 . rw[qbi hm h,decide_eq_true h]
 . rw[q2x h,decide_eq_false h];rfl
theorem qij {m:Nat} (hm:3000000<m) {z e:Int}:g77 m (mkD z e).1 (mkD z e).2.1 (mkD z e).2.2.1 (mkD z e).2.2.2.1=some (mkD z e,(),()):=by
 rw[g77,q50 hm];rfl
theorem Yv {z e:Int} (h:OkD z e): ∃w f,NF z e w f/\(mkD z e).2.1=(zB w).1/\(mkD z e).2.2.1=(zB w).2.1/\(mkD z e).2.2.2.1=f:=by
 obtain⟨w,f,k⟩:=h.nf;refine⟨w,f,k,?_⟩;rw[k.md];exact⟨rfl,rfl,rfl⟩
theorem NF.Sz {z e w f:Int} (h:NF z e w f):Vs.F.Sz (zB w).2.1:=⟨Lm_zB w,by have:=q0w h.len;omega⟩
theorem NF.sgn {z e w f:Int} (h:NF z e w f):Vs.F.sgn w=Vs.F.sgn z:=h.eq.sgn
theorem qiq {m:Nat} (hm:3000000<m) {z e:Int} (h:OkD z e):g78 m (mkD z e).1 (mkD z e).2.1 (mkD z e).2.2.1 (mkD z e).2.2.2.1=some (sgn z,(),()):=by
 obtain⟨w,f,k,k1,k2,k3⟩:=Yv h;rw[g78,qbi hm h,bS];dsimp only;rw[k1,k2,q5g O k.Sz,bS,zv_zB,k.sgn]
theorem qo1 {m:Nat} (hm:3000000<m) {z e y f:Int}:g70 m (mkD z e).1 (mkD z e).2.1 (mkD z e).2.2.1 (mkD z e).2.2.2.1 (mkD y f).1 (mkD y f).2.1 (mkD y f).2.2.1 (mkD y f).2.2.2.1=some ((mkD z e,mkD y f,decide (OkD z e/\OkD y f),()),(),(),()):=by
 rw[g70,q50 hm,bS,q50 hm,bS];dsimp only;rw[Bool.decide_and];cases decide (OkD z e)<;>rfl
def upB (neg:Bool) (half:Int) (odd:Bool) (mode:Int):Bool:=
 if mode=1 then neg else if mode=2 then !neg else if mode=3 then false else decide (0<half)||(decide (half=0)&&odd)
def halfC (v n:Nat) (more:Bool):Int:=
 if 2*(v%2^n)<2^n then-1 else if 2*(v%2^n)=2^n/\more=false then 0 else 1
def cutN (neg:Bool) (v n:Nat) (more:Bool) (mode:Int):Nat:=
 if v%2^n=0/\more=false then v/2^n else v/2^n+(if upB neg (halfC v n more) (v/2^n%2==1) mode then 1 else 0)
def sgnF (neg:Bool) (f:Int):Int:=if neg then f+9223372036854775808 else f
def overF (neg:Bool) (mode:Int):Int:=
 if mode=3\/(mode=1/\neg=false)\/(mode=2/\neg=true)then sgnF neg 9218868437227405311 else sgnF neg 9218868437227405312
def packF (neg:Bool) (n:Nat) (unit mode:Int):Int:=
 if n=9007199254740992 then(if unit+1076>=2047 then overF neg mode else sgnF neg ((unit+1076)*4503599627370496))
 else if n<4503599627370496 then sgnF neg (n:Int)
 else if unit+1075>=2047 then overF neg mode else sgnF neg ((unit+1075)*4503599627370496+((n:Int)-4503599627370496))
def unitF (v:Nat) (e:Int):Int:=max (e+(blen v:Int)-53) (-1074)
def multF (neg:Bool) (v:Nat) (e:Int) (more:Bool) (mode:Int):Nat:=
 if unitF v e<=e then v*2^(e-unitF v e).toNat else cutN neg v (unitF v e-e).toNat more mode
def qq6 (neg:Bool) (v:Nat) (e:Int) (more:Bool) (mode:Int):Int:=packF neg (multF neg v e more mode) (unitF v e) mode
theorem qso {neg:Bool} {v n:Nat} {more:Bool} {mode:Int}:cutN neg v n more mode<=v/2^n+1:=by
 unfold cutN;split
 . omega
 . split<;>omega
theorem qr5 (v:Nat) (e:Int): -1074<=unitF v e:=by unfold unitF;omega
theorem qr6 {neg:Bool} {v:Nat} {e:Int} {more:Bool} {mode:Int}:multF neg v e more mode<=9007199254740992:=by
 unfold multF;have hb:=q1b v;split
 . rename_i h;have h1:(blen v:Int)+(e-unitF v e)<=53:=by unfold unitF at*;omega
   have h2:v*2^(e-unitF v e).toNat<=2^blen v*2^(e-unitF v e).toNat:=Nat.mul_le_mul_right _ (Nat.le_of_lt hb);rw[<-Nat.pow_add]at h2;have h3:2^(blen v+(e-unitF v e).toNat)<=2^53:=Nat.pow_le_pow_right O O;have:(2:Nat)^53=9007199254740992:=by decide
   omega
 . rename_i h;refine Nat.le_trans qso ?_;have h1:(blen v:Int)<=53+(unitF v e-e):=by unfold unitF at*;omega
   have:v/2^(unitF v e-e).toNat<2^53:=by
    rw[Nat.div_lt_iff_lt_mul (Nat.pow_pos O),<-Nat.pow_add];exact Nat.lt_of_lt_of_le hb (Nat.pow_le_pow_right O O)
   have:(2:Nat)^53=9007199254740992:=by decide
   omega
theorem qr2 {neg:Bool} {v:Nat} (hv:v≠0) {e:Int} {more:Bool} {mode:Int} (h:1024<=e+(blen v:Int)-1):qq6 neg v e more mode=overF neg mode:=by
 have hu:unitF v e=e+(blen v:Int)-53:=by unfold unitF;omega
 have hb:=qn0 hv;have hp:0<blen v:=by rw[X6 hv];omega
 have hge:4503599627370496<=multF neg v e more mode:=by
  have c52:(2:Nat)^52=4503599627370496:=by decide
  unfold multF;split
  . rename_i h2;have h3:2^(blen v-1)*2^(e-unitF v e).toNat<=v*2^(e-unitF v e).toNat:=Nat.mul_le_mul_right _ hb;rw[<-Nat.pow_add,show blen v-1+(e-unitF v e).toNat=52 by omega]at h3
    omega
  . rename_i h2
    have h3:2^52<=v/2^(unitF v e-e).toNat:=by
     rw[Nat.le_div_iff_mul_le (Nat.pow_pos O),<-Nat.pow_add];refine Nat.le_trans ?_ hb;exact Nat.pow_le_pow_right O O
    have:v/2^(unitF v e-e).toNat<=cutN neg v (unitF v e-e).toNat more mode:=by unfold cutN;split<;>omega
    omega
 unfold qq6 packF;by_cases h1:multF neg v e more mode=9007199254740992
 . rw[iP h1,iP O]
 . rw[iN' h1,iN' O,iP O]
def fitI (z:Int):Int×Bool×Unit:=if-9223372036854775808<=z/\z<9223372036854775808 then(z,true,())else(0,false,())
theorem take_snoc {l:LI} {k:Nat} (hk:k<l.length) {x:Int} (ex:l.getD k 0=x):l.take (k+1)=l.take k++[x]:=by
 rw[List.take_add_one,<-ex,List.getD,List.getElem?_eq_getElem hk];rfl
theorem qrp {l:LI} (hl:Lm l) (h2:l.length<=2) {k x:Nat} (hk:k<l.length) (ex:l.getD k 0=(x:Int)) (hx:x<4294967296):
 b_or_ .u64 ((vl (l.take k):Nat):Int) (shl_ .u64 (x:Int) ((32*k:Nat):Int))=((vl (l.take (k+1)):Nat):Int):=by
 have hL:=vl_lt (l:=l.take k) fun y hy=>hl y (List.mem_of_mem_take hy)
 rw[List.length_take,show min k l.length=k by omega]at hL
 have hP:(4294967296:Nat)^k=2^(32*k):=by rw[show(4294967296:Nat)=2^32 by decide,<-Nat.pow_mul]
 rw[take_snoc hk ex,Zt,List.length_take,show min k l.length=k by omega]
 have hb:x*2^(32*k)<18446744073709551616:=by
  have:k=0\/k=1:=O;rcases this with rfl|rfl
  . simp;omega
  . simp;omega
 have hc:vl (l.take k)<18446744073709551616:=by
  have:k=0\/k=1:=O;rcases this with rfl|rfl
  . simp[vl]
  . simp at hL;omega
 rw[shl64 O hb,or64 hc hb,Nat.or_comm,Nat.mul_comm,<-Nat.two_pow_add_eq_or_of_lt O,Nat.add_comm,hP]
theorem qs4 (m:Nat) (neg:Bool) (mag:LI) {l:LI} (hl:Lm l) (h2:l.length<=2): ∀(n k:Nat),l.length-k<n->k<=l.length->
 g120L0 m n neg mag ((vl (l.take k):Nat):Int) l (l.length:Int) (k:Int)=some (.inl ((neg,mag,()),((vl l:Nat):Int),()))
 |0,k,h,_=>O
 |n+1,k,h,hk0=>by
  rw[g120L0,bQ];by_cases hk:k<l.length
  . obtain⟨x,ex,hx⟩:=hl.get hk;have w:wI (32*(k:Int))=((32*k:Nat):Int):=by rw[wQ,wi O O];omega
    rw[iP O,iP O,w,iP O,tN,ex,w64n O,qrp hl h2 hk ex hx,show wI ((k:Int)+1)=((k+1:Nat):Int)from wsucc O]
    exact qs4 m neg mag hl h2 n (k+1) O O
  . rw[iN' O,List.take_of_length_le O]
theorem qqp {n:Nat}:(lim n).length<=2↔n<18446744073709551616:=by
 constructor
 . intro h;have:=vl_lt (Qd n);rw[Q8]at this;have h2:4294967296^(lim n).length<=4294967296^2:=Nat.pow_le_pow_right O h;omega
 . intro h;exact Xo O
theorem qss {m:Nat} (hm:2000000<m) {neg:Bool} {l:LI} (h:Sz l):g120 m neg l=some (fitI (zv neg l),(),()):=by
 rw[g120,X0 h.1 (by have:=h.2;omega) (by have:=h.2;omega),bS,bQ]
 dsimp only;unfold fitI;by_cases c:vl l<18446744073709551616
 . have c2:=qqp.2 c;have e:=qs4 m neg l (Qd (vl l)) c2 m 0 O O;rw[List.take_zero,nZ]at e;rw[iN' O];rw[show((vl ([]:LI):Nat):Int)=0 from rfl]at e
   rw[e,bS,Q8];dsimp only;cases neg with
   |false=>
    have:zv false l=(vl l:Int):=rfl;rw[this,cond_false,bQ,Bool.not_false,cond_true];by_cases d:(vl l:Int)<9223372036854775808
    . rw[iP d,iP O,wQ,wi O O]
    . rw[iN' d,iN' O]
   |true=>
    have:zv true l= -(vl l:Int):=rfl;rw[this,cond_true,bQ,bQ,bQ,Bool.not_true,cond_false,bif_eq];by_cases d0:(vl l:Int)>0
    . rw[iP d0];by_cases d:(vl l:Int)<=9223372036854775808
      . rw[iP d,iP O,w64m,Int.emod_eq_of_lt O O,show wI ((vl l:Int)-1)=(vl l:Int)-1 by rw[wQ,wi O O],
         show wI (0-((vl l:Int)-1))=0-((vl l:Int)-1) by rw[wQ,wi O O],show wI (0-((vl l:Int)-1)-1)=0-((vl l:Int)-1)-1 by rw[wQ,wi O O],show 0-((vl l:Int)-1)-1= -(vl l:Int) by omega]
      . rw[iN' d,iN' O,iN' O]
    . rw[iN' d0,iP O,iP O,iP O,show(vl l:Int)=0 by omega]
      rfl
 . have c2: ¬(lim (vl l)).length<=2:=fun h=>c (qqp.1 h)
   have: ¬(-9223372036854775808<=zv neg l/\zv neg l<9223372036854775808):=by
    unfold zv;cases neg<;>simp<;>omega
   rw[iP O,iN' this]
theorem qkl (v:Nat):zB (v:Int)=(false,lim v,()):=by
 unfold zB;rw[Int.natAbs_natCast,show decide ((v:Int)<0)=false by simp]
theorem SzB {z:Int} (h:blen z.natAbs<=1000000):Sz (zB z).2.1:=⟨Lm_zB z,by have:=q0w h;omega⟩
theorem SzN {v:Nat} (h:blen v<=1000000):Sz (zB (v:Int)).2.1:=SzB (by rwa [Int.natAbs_natCast])
theorem qqe {k:Nat}:blen (2^k)=k+1:=qlf (Nat.le_refl _) (by rw[Nat.pow_succ];have:=Nat.pow_pos (n:=k) (show 0<2 by omega);omega)
theorem qqb {v n:Nat} {more:Bool} (h:2*(v%2^n)<2^n):halfC v n more= -1:=by unfold halfC;rw[iP h]
theorem qsr {m:Nat} (hm:3000000<m) (neg:Bool) {v:Nat} (hv:v≠0) (hb:blen v<=500000) (e:Int) (more:Bool) {k:Nat} (h0:0<k) (hk:k<=1000000):
 g154 m neg (zB (v:Int)).1 (zB (v:Int)).2.1 e more (k:Int)=some ((zB ((v/2^k:Nat):Int),halfC v k more,decide (v%2^k=0/\more=false),()),(),(),()):=by
 have hS:Sz (zB (v:Int)).2.1:=SzN O;have hvl:vl (zB (v:Int)).2.1=v:=by rw[qkl];exact Q8 v
 rw[g154,qhh O hS,bS,hvl,bQ];dsimp only;have hlt:=q1b v;by_cases c:(k:Int)>((blen v:Nat):Int)
 . have h1:2^(blen v)<=2^(k-1):=Nat.pow_le_pow_right O O;have h2:2^k=2*2^(k-1):=by rw[show k=k-1+1 by omega,Nat.pow_succ,Nat.mul_comm];simp
   have hd:v/2^k=0:=Nat.div_eq_of_lt O;have hmo:v%2^k=v:=Nat.mod_eq_of_lt O;rw[iP c,hd,qqb (by rw[hmo];omega),hmo]
   rw[show decide (v=0/\more=false)=false by rw[decide_eq_false_iff_not];exact fun h=>hv h.1,show zB ((0:Nat):Int)=(false,[],()) by rw[qkl,Qb]]
 . have hP:0<2^k:=Nat.pow_pos O;have hmod:=Nat.mod_lt v hP;have hda:=Nat.mod_add_div v (2^k);have hle:blen (v/2^k)<=blen v:=qja;have b1:blen (((v/2^k:Nat):Int)).natAbs<=900000:=by rw[Int.natAbs_natCast];omega
   have e1:(v:Int)/2^k=((v/2^k:Nat):Int):=by rw[Int.natCast_ediv,Int.natCast_pow];rfl
   have e2:((v/2^k:Nat):Int)*2^k=((v/2^k*2^k:Nat):Int):=by rw[Int.natCast_mul,Int.natCast_pow];rfl
   have b2:blen (v/2^k*2^k)<=1000000:=Nat.le_trans (qgm (Nat.div_mul_le_self ..)) O
   have e3:(v:Int)-((v/2^k*2^k:Nat):Int)=((v%2^k:Nat):Int):=by
    rw[Nat.mul_comm];omega
   have b3:blen (v%2^k)<=1000000:=Nat.le_trans (qgm (Nat.mod_le ..)) O;have e4:(1:Int)*2^(k-1)=((2^(k-1):Nat):Int):=by rw[Int.one_mul,Int.natCast_pow];rfl
   have b4:blen (2^(k-1))<=1000000:=by rw[qqe];omega
   have w1:wI ((k:Int)-1)=((k-1:Nat):Int):=by rw[wQ,wi O O];omega
   have h2:2^k=2*2^(k-1):=by
    have:2^(k-1+1)=2*2^(k-1):=by rw[Nat.pow_succ,Nat.mul_comm]
    rwa [show k-1+1=k by omega]at this
   rw[iN' c,right_eq hm (by rw[Int.natAbs_natCast];omega) O,bS,e1]
   dsimp only;rw[left_eq hm O O O,bS,tN,e2];dsimp only;rw[qsp O hS (SzN b2),zv_zB,zv_zB,e3,bS,q2u O O O,bS];dsimp only;rw[w1,left_eq hm (by decide) O O,bS,tN,e4]
   dsimp only;rw[qnq O (SzN b3) (SzN b4),zv_zB,zv_zB,bS,q5g O (SzN b3),zv_zB];dsimp only;simp only[bS];generalize hr:v%2^k=r at*;generalize 2^(k-1)=H at*;have hs:sgn (r:Int)=0↔r=0:=by rw[Jc];omega
   rw[bif_eq];unfold cmpZ halfC;rw[hr,h2];by_cases c1:(r:Int)<(H:Int)
   . rw[iP c1,iN' O,iP O,bif_eq];by_cases c2:r=0
     . rw[iP (hs.2 c2)];cases more<;>simp[c2]
     . rw[iN' (fun h=>c2 (hs.1 h))]
       simp[c2]
   . by_cases c3:(H:Int)<(r:Int)
     . rw[iN' c1,iP c3,iN' O,iN' O,iN' O,bif_eq,iN' (fun h=>by have:=hs.1 h;omega)]
       rw[show decide (r=0/\more=false)=false by rw[decide_eq_false_iff_not];omega]
     . have hpos:r≠0:=by
        have:0<2^k:=hP;omega
       rw[iN' c1,iN' c3,iP rfl,iN' O];cases more with
       |false=>
        rw[cond_false,bif_eq,iN' (fun h=>hpos (hs.1 h)),iP ⟨O,rfl⟩]
        simp[hpos]
       |true=>
        rw[cond_true,bif_eq,iN' (fun h=>hpos (hs.1 h)),iN' (fun h=>by cases h.2)]
        simp
def sg (neg:Bool) (n:Nat):Int:=if neg then-(n:Int)else(n:Int)
theorem qql {neg:Bool} {n:Nat}:(sg neg n).natAbs=n:=by unfold sg;cases neg<;>simp
theorem qqd {n:Nat} (h:n≠0):tz n=0↔n%2=1:=by
 constructor
 . intro h2;obtain⟨q,h3,h4⟩:=q82 h;rw[h2,Nat.pow_zero,Nat.one_mul]at h3;omega
 . exact qfp
theorem qqt {m:Nat} (hm:3000000<m) (neg:Bool) {v:Nat} (hb:blen v<=300000) {e:Int} (more:Bool) {q:Int} (mode:Int) (h:q<=e) (he:e-q<=500000) (h1: -1000000000<=q) (h2:e<=1000000000):
 g122 m neg (zB (v:Int)).1 (zB (v:Int)).2.1 e more q mode=some (zB (sg neg (v*2^(e-q).toNat)),(),(),(),()):=by
 have w:wI (e-q)=e-q:=by rw[wQ,wi O O]
 have e1:(v:Int)*2^(e-q).toNat=((v*2^(e-q).toNat:Nat):Int):=by rw[Int.natCast_mul,Int.natCast_pow];rfl
 have b:blen (v*2^(e-q).toNat)<=1000000:=by
  have:=qa4 (a:=(v:Int)) (k:=(e-q).toNat);rw[e1,Int.natAbs_natCast,Int.natAbs_natCast]at this;omega
 rw[g122,bQ,iP h,w,left_eq hm (by rw[Int.natAbs_natCast];omega) O O,bS,e1]
 dsimp only;cases neg with
 |false=>rfl
 |true=>rw[cond_true,qhc O (SzN b),zv_zB,bS];rfl
theorem qqv {m:Nat} (hm:3000000<m) (neg:Bool) {v:Nat} (hv:v≠0) (hb:blen v<=300000) {e:Int} (more:Bool) {q:Int} (mode:Int) (h:e<q) (he:q-e<=500000) (h1: -1000000000<=e) (h2:q<=1000000000):
 g122 m neg (zB (v:Int)).1 (zB (v:Int)).2.1 e more q mode=some (zB (sg neg (cutN neg v (q-e).toNat more mode)),(),(),(),()):=by
 obtain⟨k,hk⟩: ∃k:Nat,q-e=(k:Int):=⟨(q-e).toNat,O⟩;have w:wI (q-e)=(k:Int):=by rw[wQ,wi O O,hk]
 rw[g122,bQ,iN' O,w,qsr hm neg hv O e more O O,hk,tN,bS];dsimp only;have hd:v/2^k<=v:=Nat.div_le_self ..;have bd:blen (v/2^k)<=300000:=Nat.le_trans qja hb;have bd1:blen (v/2^k+1)<=300001:=qip bd (by decide)
 have hS:=SzN (v:=v/2^k) O;have hS1:=SzN (v:=v/2^k+1) O;have h1S:Sz (zB 1).2.1:=SzB (by decide)
 have neg0:(g75 m (zB ((v/2^k:Nat):Int)).1 (zB ((v/2^k:Nat):Int)).2.1).bind (fun y=>some ((y.1.1,y.1.2.1,()),((),(),(),())))=some (zB (-((v/2^k:Nat):Int)),(),(),(),()):=by
  rw[qhc O hS,zv_zB];rfl
 have add1:g73 m (zB ((v/2^k:Nat):Int)).1 (zB ((v/2^k:Nat):Int)).2.1 (zB 1).1 (zB 1).2.1=some (zB ((v/2^k+1:Nat):Int),(),(),()):=by
  rw[qki O hS h1S,zv_zB,zv_zB];rfl
 have neg1:(g75 m (zB ((v/2^k+1:Nat):Int)).1 (zB ((v/2^k+1:Nat):Int)).2.1).bind (fun y=>some ((y.1.1,y.1.2.1,()),((),(),(),())))=some (zB (-((v/2^k+1:Nat):Int)),(),(),(),()):=by
  rw[qhc O hS1,zv_zB];rfl
 have plain:(bif neg then(g75 m (zB ((v/2^k:Nat):Int)).1 (zB ((v/2^k:Nat):Int)).2.1).bind (fun y=>some ((y.1.1,y.1.2.1,()),((),(),(),())))else some (((zB ((v/2^k:Nat):Int)).1,(zB ((v/2^k:Nat):Int)).2.1,()),((),(),(),())))=some (zB (sg neg (v/2^k)),(),(),(),()):=by
  rw[neg0];cases neg<;>rfl
 have away:((g69 m 1).bind fun y5=>(g73 m (zB ((v/2^k:Nat):Int)).1 (zB ((v/2^k:Nat):Int)).2.1 y5.1.1 y5.1.2.1).bind fun y6=>
  bif neg then(g75 m y6.1.1 y6.1.2.1).bind (fun y=>some ((y.1.1,y.1.2.1,()),((),(),(),())))else some ((y6.1.1,y6.1.2.1,()),((),(),(),())))=some (zB (sg neg (v/2^k+1)),(),(),(),()):=by
  rw[q2u O O O,bS];dsimp only;rw[add1,bS];dsimp only;rw[neg1];cases neg<;>rfl
 unfold cutN;by_cases hex:v%2^k=0/\more=false
 . rw[decide_eq_true hex,cond_true,iP hex];exact plain
 . rw[decide_eq_false hex,cond_false,iN' hex,bif_eq,bif_eq,bif_eq];unfold upB;by_cases m1:mode=1
   . rw[iP m1,iP m1];cases neg with
     |true=>rw[cond_true,iP rfl];exact away
     |false=>rw[cond_false,iN' (by simp),Nat.add_zero];exact plain
   . rw[iN' m1,iN' m1];by_cases m2:mode=2
     . rw[iP m2,iP m2];cases neg with
       |true=>rw[Bool.not_true,cond_false,iN' (by simp),Nat.add_zero];exact plain
       |false=>rw[Bool.not_false,cond_true,iP rfl];exact away
     . rw[iN' m2,iN' m2];by_cases m3:mode=3
       . rw[iP m3,iP m3,iN' (by simp),Nat.add_zero];exact plain
       . rw[iN' m3,iN' m3,bQ,bif_eq];by_cases c1:halfC v k more>0
         . rw[iP c1,show decide (0<halfC v k more)=true by simpa using c1,Bool.true_or,iP rfl];exact away
         . rw[iN' c1,show decide (0<halfC v k more)=false by simpa using c1,Bool.false_or]
           by_cases c2:halfC v k more=0
           . rw[iP c2,decide_eq_true c2,Bool.true_and,q5g O hS,bS,zv_zB,bif_ne];dsimp only;by_cases z:v/2^k=0
             . rw[iP (by rw[Jc];omega),z]
               rw[z]at plain;exact plain
             . have hvl:vl (zB ((v/2^k:Nat):Int)).2.1=v/2^k:=by rw[qkl];exact Q8 _
               rw[iN' (by rw[Jc];omega),q41 O hS (by rw[hvl];exact z),bS,hvl,bif_eq]
               dsimp only;by_cases o:v/2^k%2=1
               . rw[iP (by rw[(qqd z).2 o];rfl),show(v/2^k%2==1)=true by simpa using o,iP rfl];exact away
               . rw[iN' (by have:=mt (qqd z).1 o;omega),show(v/2^k%2==1)=false by simpa using o,iN' (by simp),Nat.add_zero];exact plain
           . rw[iN' c2,decide_eq_false c2,Bool.false_and,iN' (by simp),Nat.add_zero];exact plain
theorem qsc {f:Int} (h1:0<=f) (h2:f<9223372036854775808):b_or_ .u64 f 9223372036854775808=f+9223372036854775808:=by
 obtain⟨n,rfl⟩: ∃n:Nat,f=(n:Int):=⟨f.toNat,O⟩;have h:=or64 (a:=n) (b:=9223372036854775808) O O;rw[show((9223372036854775808:Nat):Int)=9223372036854775808 from rfl]at h
 rw[h];have:=Nat.two_pow_add_eq_or_of_lt (i:=63) (b:=n) O 1;rw[Nat.or_comm,show(9223372036854775808:Nat)=2^63*1 by decide,<-this]
 omega
theorem qq7 {m:Nat} {f:Int} (h1:0<=f) (h2:f<9223372036854775808) (neg:Bool):g123 m f neg=some (sgnF neg f,(),(),()):=by
 unfold g123 sgnF;rw[qsc h1 h2];cases neg<;>rfl
theorem qqj {m:Nat} (neg:Bool) (mode:Int):g124 m neg mode=some (overF neg mode,(),(),()):=by
 rw[g124,bif_eq,bif_eq,bif_eq];simp only[qq7 (show(0:Int)<=9218868437227405311 by omega) O,qq7 (show(0:Int)<=9218868437227405312 by omega) O,bS]
 unfold overF;by_cases m3:mode=3
 . rw[iP m3,iP (.inl m3)]
 . rw[iN' m3];by_cases m1:mode=1
   . have m2: ¬mode=2:=O;rw[iP m1,iN' m2];cases neg with
     |false=>rw[iP (.inr (.inl ⟨m1,rfl⟩))];rfl
     |true=>rw[iN' (by simp[m2,m3])];rfl
   . rw[iN' m1];by_cases m2:mode=2
     . rw[iP m2];cases neg with
       |true=>rw[iP (.inr (.inr ⟨m2,rfl⟩))];rfl
       |false=>rw[iN' (by simp[m1,m3])];rfl
     . rw[iN' m2,iN' (by simp[m1,m2,m3])]
theorem qqf {q:Int} {r:Nat} (h1:0<=q) (h2:q<2048) (h3:r<4503599627370496):b_or_ .u64 (shl_ .u64 (wJ (wI q)) 52) (r:Int)=q*4503599627370496+(r:Int):=by
 obtain⟨n,rfl⟩: ∃n:Nat,q=(n:Int):=⟨q.toNat,O⟩;have e1:shl_ .u64 (n:Int) 52=((n*2^52:Nat):Int):=shl64 (a:=n) (k:=52) O O;rw[wQ,wi O O,w64n O,e1,or64 O O];have:=Nat.two_pow_add_eq_or_of_lt (i:=52) (b:=r) O n;rw[Nat.mul_comm,<-this];omega
theorem qs2 {a b:Int}:(if b>a then b else a)=max a b:=by split<;>omega
theorem qrh {m:Nat} (hm:3000000<m) (neg:Bool) {v:Nat} (hv:v≠0) (hb:blen v<=300000) {e:Int} (more:Bool) (mode:Int) (h1: -200000<=e) (h2:e<=200000):
 g79 m neg (zB (v:Int)).1 (zB (v:Int)).2.1 e more mode=some (qq6 neg v e more mode,(),(),()):=by
 have hS:Sz (zB (v:Int)).2.1:=SzN O;have hvl:vl (zB (v:Int)).2.1=v:=by rw[qkl];exact Q8 v
 have w1:wI (e+((blen v:Nat):Int))=e+((blen v:Nat):Int):=by rw[wQ,wi O O]
 have w2:wI (e+((blen v:Nat):Int)-1)=e+((blen v:Nat):Int)-1:=by rw[wQ,wi O O]
 have w3:wI (e+((blen v:Nat):Int)-1-52)=e+((blen v:Nat):Int)-1-52:=by rw[wQ,wi O O]
 have hu:max (e+((blen v:Nat):Int)-1-52) (-1074)=unitF v e:=by unfold unitF;congr 1;omega
 have hlog:g119 m neg (zB (v:Int)).1 (zB (v:Int)).2.1 e more=some (e+((blen v:Nat):Int)-1,(),()):=by
  rw[g119,qhh O hS,bS,hvl];dsimp only;rw[w1,w2]
 have hun:=qr5 v e;have hun2:unitF v e<=600000:=by unfold unitF;omega
 have hmul:g122 m neg (zB (v:Int)).1 (zB (v:Int)).2.1 e more (unitF v e) mode=some (zB (sg neg (multF neg v e more mode)),(),(),(),()):=by
  unfold multF;by_cases c:unitF v e<=e
  . rw[iP c];exact qqt hm neg hb more mode c O O O
  . rw[iN' c];exact qqv hm neg hv hb more mode O (by unfold unitF at*;omega) O O
 have hle:=qr6 (neg:=neg) (v:=v) (e:=e) (more:=more) (mode:=mode);rw[g79,hlog,bS];dsimp only;rw[w3,qs2,hu,hmul,bS];unfold qq6;generalize multF neg v e more mode=n at*;generalize unitF v e=u at*;have bn:blen n<=1000000:=Nat.le_trans (Jm (k:=54) O) O;have w4: ∀d:Nat,d<=2000->wI (u+(d:Int))=u+(d:Int):=fun d hd=>by rw[wQ,wi O O]
 have w5:wI (u+1)=u+1:=w4 1 O;have w6:wI (u+1075)=u+1075:=w4 1075 O;have w7:wI (u+1+1075)=u+1076:=by rw[Int.add_assoc];exact w4 1076 O
 dsimp only;rw[qs5 O (SzB (by rw[qql];omega)),zv_zB,qql,bS]
 dsimp only;rw[qss O (SzN bn),zv_zB,bS];unfold fitI;rw[iP O];dsimp only;rw[w64n O,w5,w6,w7,bif_eq,bQ,bQ,bQ];unfold packF;by_cases c1:n=9007199254740992
 . rw[iP O,iP c1];by_cases c2:u+1076>=2047
   . rw[iP c2,iP c2,qqj];rfl
   . have hf:=qqf (q:=u+1076) (r:=0) O O O;rw[show wI (u+1076)=u+1076 by rw[wQ,wi O O],nZ]at hf
     rw[iN' c2,iN' c2,hf,Int.add_zero,qq7 O O];rfl
 . rw[iN' O,iN' c1];by_cases c2:n<4503599627370496
   . rw[iP O,iP c2,qq7 O O];rfl
   . rw[iN' O,iN' c2];by_cases c3:u+1075>=2047
     . rw[iP c3,iP c3,qqj];rfl
     . have hf:=qqf (q:=u+1075) (r:=n-4503599627370496) O O O;rw[w6]at hf;have w8:wJ ((n:Int)-4503599627370496)=((n-4503599627370496:Nat):Int):=by rw[w64m];omega
       rw[iN' c3,iN' c3,w8,hf,qq7 O O,show((n-4503599627370496:Nat):Int)=(n:Int)-4503599627370496 by omega];rfl
def qq5 (d:Bool×Bool×LI×Int×Unit) (mode:Int):Int:=
 if d.1 then 9221120237041090560 else if d.2.2.1=[]then 0 else qq6 d.2.1 (vl d.2.2.1) d.2.2.2.1 false mode
theorem qr3 {m:Nat} (hm:3000000<m) {z e:Int} (mode:Int):g43 m (mkD z e).1 (mkD z e).2.1 (mkD z e).2.2.1 (mkD z e).2.2.2.1 mode=some (qq5 (mkD z e) mode,(),(),()):=by
 rw[g43,qij hm,bS];dsimp only;unfold qq5;by_cases h:OkD z e
 . have h1:(mkD z e).1=false:=h;rw[qiq hm h,bS,bif_eq];dsimp only;obtain⟨w,f,k,k1,k2,k3⟩:=Yv h
   have hw:sgn z=0↔(zB w).2.1=[]:=by
    rw[<-k.sgn,Jc];show w=0↔lim w.natAbs=[];rw[q31];omega
   rw[h1,cond_false,iN' (show¬(false=true) by simp)]
   by_cases c:sgn z=0
   . rw[iP c,iP (by rw[k2];exact hw.1 c)]
   . have c2: ¬(zB w).2.1=[]:=fun h=>c (hw.2 h)
     have hw0:w.natAbs≠0:=fun h=>c2 (q31.2 h)
     rw[iN' c,iN' (by rw[k2];exact c2),g80,k1,k2,k3,qs5 O k.Sz,zv_zB,bS,bS]
     dsimp only;rw[qrh hm _ hw0 (by have:=k.len;omega) _ _ (by have:=k.lo;omega) (by have:=k.hi;omega),bS]
     show some (_,_)=some (qq6 _ (vl (lim w.natAbs)) _ _ _,_)
     rw[Q8]
 . rw[q2x h];rfl
def fexp (f:Int):Int:=f/4503599627370496%2048
def ffrac (f:Int):Int:=f%4503599627370496
def fneg (f:Int):Bool:=decide (9223372036854775808<=f)
def ofZ (f:Int):Int:=(if fneg f then-1 else 1)*(if fexp f=0 then ffrac f else ffrac f+4503599627370496)
def ofE (f:Int):Int:=if fexp f=0 then-1074 else fexp f-1075
def FinF (f:Int):Prop:=fexp f≠2047
instance {f:Int}:Decidable (FinF f):=inferInstanceAs (Decidable (_≠_))
def U64 (f:Int):Prop:=0<=f/\f<18446744073709551616
def ofD (f:Int):Bool×Bool×LI×Int×Unit:=if FinF f then mkD (ofZ f) (ofE f)else(true,false,[],0,())
theorem q36 (f:Int):0<=fexp f/\fexp f<2048:=by unfold fexp;omega
theorem q7j (f:Int):0<=ffrac f/\ffrac f<4503599627370496:=by unfold ffrac;omega
theorem parts_eq {m:Nat} {f:Int} (h:U64 f):g55 m f=some ((fexp f,ffrac f,()),(),()):=by
 obtain⟨n,rfl⟩: ∃n:Nat,f=(n:Int):=⟨f.toNat,by have:=h.1;omega⟩
 have hn:n<18446744073709551616:=by have:=h.2;omega
 have e1:shr_ .u64 (n:Int) 52=((n/4503599627370496:Nat):Int):=shr64 (a:=n) (k:=52) O;have e2:=and64 (a:=n/4503599627370496) (b:=2047) O O;have e3:=and64 (a:=n) (b:=4503599627370495) hn O;rw[show((2047:Nat):Int)=2047 from rfl,show(2047:Nat)=2^11-1 by decide,Nat.and_two_pow_sub_one_eq_mod]at e2
 rw[show((4503599627370495:Nat):Int)=4503599627370495 from rfl,show(4503599627370495:Nat)=2^52-1 by decide,Nat.and_two_pow_sub_one_eq_mod]at e3
 rw[g55,e1,e2,e3,wQ,wi O O];unfold fexp ffrac;congr 3<;>omega
theorem qb4 {m:Nat} {f:Int} (h:U64 f):g53 m f=some (decide (FinF f),(),()):=by
 rw[g53,parts_eq h,bS];dsimp only;by_cases c:FinF f
 . rw[decide_eq_true c,show(fexp f !=2047)=true by simpa [FinF]using c]
 . rw[decide_eq_false c,show(fexp f !=2047)=false by simpa [FinF]using c]
theorem qm2 {n:Nat} (h:n<18446744073709551616):qw .u64 (n:Int) 9223372036854775808=if 9223372036854775808<=n then 9223372036854775808 else 0:=by
 have e:=and64 (a:=n) (b:=9223372036854775808) h O;rw[show((9223372036854775808:Nat):Int)=9223372036854775808 from rfl]at e
 rw[e]
 have hb:n&&&9223372036854775808=if n.testBit 63 then 9223372036854775808 else 0:=by
  rw[show(9223372036854775808:Nat)=2^63 by decide]
  apply Nat.eq_of_testBit_eq;intro i;rw[Nat.testBit_and,Nat.testBit_two_pow];by_cases c:63=i
  . subst c;cases hb:n.testBit 63
    . simp
    . rw[iP rfl,Nat.testBit_two_pow];simp
  . cases hb:n.testBit 63
    . simp[c]
    . rw[iP rfl,Nat.testBit_two_pow];simp[c]
 have ht:n.testBit 63=decide (9223372036854775808<=n):=by
  rw[Nat.testBit_eq_decide_div_mod_eq];rw[show(2:Nat)^63=9223372036854775808 by decide]
  by_cases c:9223372036854775808<=n
  . rw[decide_eq_decide];omega
  . rw[decide_eq_decide];omega
 rw[hb,ht];by_cases c:9223372036854775808<=n
 . simp[c]
 . simp[c]
theorem q4i {m:Nat} {f:Int} (h:U64 f):g74 m f=some (fneg f,(),()):=by
 obtain⟨n,rfl⟩: ∃n:Nat,f=(n:Int):=⟨f.toNat,by have:=h.1;omega⟩
 have hn:n<18446744073709551616:=by have:=h.2;omega
 rw[g74,qm2 hn];unfold fneg;by_cases c:9223372036854775808<=n
 . rw[iP c,show decide ((9223372036854775808:Int)<=(n:Int))=true by rw[decide_eq_true_eq];omega];rfl
 . rw[iN' c,show decide ((9223372036854775808:Int)<=(n:Int))=false by rw[decide_eq_false_iff_not];omega];rfl
theorem qac {x:Int} (h1:0<=x) (h2:x<4503599627370496):b_or_ .u64 x 4503599627370496=x+4503599627370496:=by
 obtain⟨n,rfl⟩: ∃n:Nat,x=(n:Int):=⟨x.toNat,O⟩;have h:=or64 (a:=n) (b:=4503599627370496) O O;rw[show((4503599627370496:Nat):Int)=4503599627370496 from rfl]at h
 rw[h];have:=Nat.two_pow_add_eq_or_of_lt (i:=52) (b:=n) O 1;rw[Nat.or_comm,show(4503599627370496:Nat)=2^52*1 by decide,<-this]
 omega
theorem q7w (f:Int):blen (ofZ f).natAbs<=53:=by
 apply Jm;have h1:=q7j f;have c:(2:Nat)^53=9007199254740992:=by decide
 unfold ofZ;cases fneg f<;>(split<;>simp<;>omega)
theorem q6d {f:Int}: -1074<=ofE f/\ofE f<=972:=by
 have:=q36 f;unfold ofE;split<;>omega
theorem qmp {f:Int} (h:FinF f):ofE f<=971:=by
 have:=q36 f;unfold ofE FinF at*;split<;>omega
theorem Of_eq {m:Nat} (hm:3000000<m) {f:Int} (h:U64 f):g41 m f=some (ofD f,(),()):=by
 rw[g41,parts_eq h,bS,bif_eq,bif_eq];dsimp only;have h1:=q36 f;have h2:=q7j f;have hl:=q7w f;have he:=q6d (f:=f);unfold ofD;by_cases c:fexp f=2047
 . rw[iP c,iN' (fun h=>h c)]
 . have hF:FinF f:=c;rw[iN' c,iP hF,q4i h,qac h2.1 h2.2]
   have run: ∀(q:Int) (ex:Int),0<=q->q<9007199254740992->ofZ f=(if fneg f then-1 else 1)*q->ofE f=ex->
    ((g69 m (wI q)).bind fun y2=>(some (fneg f,(),()):Option (Bool×Unit×Unit)).bind fun y3=>bif y3.1 then
      (g75 m y2.1.1 y2.1.2.1).bind fun y4=>(g68 m y4.1.1 y4.1.2.1 ex).bind fun y5=>some ((y5.1.1,y5.1.2.1,y5.1.2.2.1,y5.1.2.2.2.1,()),((),()))
    else(g68 m y2.1.1 y2.1.2.1 ex).bind fun y6=>some ((y6.1.1,y6.1.2.1,y6.1.2.2.1,y6.1.2.2.2.1,()),((),())))=some (mkD (ofZ f) (ofE f),(),()):=by
    intro q ex q1 q2 eq ee
    have hq:blen q.natAbs<=53:=by
     rw[eq]at hl;cases hf:fneg f<;>rw[hf]at hl<;>simpa using hl
    rw[wQ,wi O O,q2u O O O,bS,bS];dsimp only;cases hf:fneg f with
    |false=>
     rw[hf]at eq;rw[cond_false,q7y hm O O O,eq,ee,iN' (by simp),Int.one_mul];rfl
    |true=>
     rw[hf]at eq;rw[cond_true,qhc O (SzB O),zv_zB,bS];dsimp only;rw[q7y hm (by rw[Int.natAbs_neg];omega) O O,eq,ee,iP rfl,Int.neg_one_mul];rfl
   by_cases c0:fexp f=0
   . rw[iP c0];exact run _ _ h2.1 O (by unfold ofZ;rw[iP c0]) (by unfold ofE;rw[iP c0])
   . rw[iN' c0,show wI (fexp f-1075)=fexp f-1075 by rw[wQ,wi O O]]
     exact run _ _ O O (by unfold ofZ;rw[iN' c0]) (by unfold ofE;rw[iN' c0])
theorem qnp {f:Int} (h:FinF f):OkD (ofZ f) (ofE f):=by
 have hl:=q7w f;have he:=q6d (f:=f);exact Yk.2 (Or.inr ⟨O,O⟩)
abbrev badD:Bool×Bool×LI×Int×Unit:=(true,false,[],0,())
theorem q6p {z e:Int} (h: ¬OkD z e):mkD z e=badD:=q2x h
theorem q5l {z e:Int}:OkD (-z) e↔OkD z e:=by
 rw[Yk,Yk,Int.natAbs_neg];omega
theorem qm5 {z e:Int} (h:OkD z e):mkD (-z) e=((mkD z e).1,(zB (-(zv (mkD z e).2.1 (mkD z e).2.2.1))).1,(zB (-(zv (mkD z e).2.1 (mkD z e).2.2.1))).2.1,(mkD z e).2.2.2.1,()):=by
 obtain⟨w,f,k⟩:=h.nf;have kn:EqD (-z) e (-w) f:=k.eq.symm.neg;rw[kn.mk];have ok:OkD (-w) f:=q5l.2 k.ok;rw[k.md];show mkD (-w) f=(false,(zB (-zv (zB w).1 (zB w).2.1)).1,(zB (-zv (zB w).1 (zB w).2.1)).2.1,f,());rw[zv_zB];unfold mkD;by_cases h0:w=0
 . subst h0;rw[k.zero rfl,show(-0:Int)=0 from rfl,iP rfl,zB_1,zB_2,show(0:Int).natAbs=0 from rfl,Qb];rfl
 . have hn:(-w).natAbs≠0:=O
   have hb: ¬(f+(blen (-w).natAbs:Int)>65536\/f+(tz (-w).natAbs:Int)< -65536):=by
    rcases Yk.1 ok with h|h
    . omega
    . omega
   have ht:tz (-w).natAbs=0:=by rw[Int.natAbs_neg];exact qfp (k.odd h0)
   rw[iN' O,iN' hb,ht,Nat.pow_zero,Nat.div_one,nZ,Int.add_zero];rfl
theorem qmz {m:Nat} (hm:3000000<m) {z e:Int}:g81 m (mkD z e).1 (mkD z e).2.1 (mkD z e).2.2.1 (mkD z e).2.2.2.1=some (mkD (-z) e,(),()):=by
 rw[g81,q50 hm,bS];dsimp only;by_cases h:OkD z e
 . obtain⟨w,f,k,k1,k2,k3⟩:=Yv h;have hS:Sz (mkD z e).2.2.1:=by rw[k2];exact k.Sz
   rw[decide_eq_true h,cond_true,qhc O hS,bS,qm5 h]
 . rw[decide_eq_false h,cond_false,q6p (mt q5l.1 h),q6p h]
theorem qka {w f b:Int} (h:b<=f):blen (sc w f b).natAbs<=(f-b).toNat+blen w.natAbs:=by
 unfold sc;exact qa4
theorem qem {m:Nat} (hm:3000000<m) {a B b C w f x h:Int} (k:NF a B w f) (l:NF b C x h) (b1 b2:Bool):
 g72 m b1 (zB w).1 (zB w).2.1 f b2 (zB x).1 (zB x).2.1 h=some ((zB (sc w f (min f h)),zB (sc x h (min f h)),min f h,()),(),(),()):=by
 have e1:(if h<f then h else f)=min f h:=by split<;>omega
 have hb1:=k.lo;have hb2:=k.hi;have hb3:=l.lo;have hb4:=l.hi;have hl1:=k.len;have hl2:=l.len;have w1:wI (f-min f h)=f-min f h:=by rw[wQ,wi O O]
 have w2:wI (h-min f h)=h-min f h:=by rw[wQ,wi O O]
 rw[g72,e1,w1,w2,left_eq hm O O O,bS,left_eq hm O O O,bS];rfl
theorem sc_bd {a B w f b:Int} (k:NF a B w f) (h1:b<=f) (h2: -65536<=b):blen (sc w f b).natAbs<=300000:=by
 have:=qka (w:=w) h1;have:=k.len;have:=k.hi;omega
theorem qnu {a b B w f x h:Int} (k:NF a B w f) (l:NF b B x h):EqD (sc w f (min f h)+sc x h (min f h)) (min f h) (a+b) B:=
 ((EqD.sc O).trans k.eq).add (c:=0) (g:=0) ((EqD.sc O).trans l.eq)
theorem qn7 {m:Nat} (hm:3000000<m) {a b B:Int}:
 g40 m (mkD a B).1 (mkD a B).2.1 (mkD a B).2.2.1 (mkD a B).2.2.2.1 (mkD b B).1 (mkD b B).2.1 (mkD b B).2.2.1 (mkD b B).2.2.2.1=some (if OkD a B/\OkD b B then mkD (a+b) B else badD,(),(),()):=by
 rw[g40,qo1 hm,bS];dsimp only;by_cases h:OkD a B/\OkD b B
 . obtain⟨w,f,k,k1,k2,k3⟩:=Yv h.1;obtain⟨x,g,l,l1,l2,l3⟩:=Yv h.2;have hb1:=k.lo;have hb3:=l.lo;have:=k.hi;rw[decide_eq_true h,Bool.not_true,cond_false,iP h,k1,k2,k3,l1,l2,l3,qem hm k l,bS];dsimp only;have s1:=sc_bd k (b:=min f g) O O;have s2:=sc_bd l (b:=min f g) O O;rw[qki O (SzB O) (SzB O),zv_zB,zv_zB,bS];dsimp only;rw[q7y hm (Nat.le_trans (q55 s1 s2) O) O O,(qnu k l).mk];rfl
 . rw[decide_eq_false h,iN' h];rfl
theorem ql8 {m:Nat} (hm:3000000<m) {a b B:Int}:
 g44 m (mkD a B).1 (mkD a B).2.1 (mkD a B).2.2.1 (mkD a B).2.2.2.1 (mkD b B).1 (mkD b B).2.1 (mkD b B).2.2.1 (mkD b B).2.2.2.1=some (if OkD a B/\OkD b B then mkD (a-b) B else badD,(),(),()):=by
 rw[g44,qmz hm,bS];dsimp only;rw[qn7 hm,bS,<-Int.sub_eq_add_neg];simp only[q5l]
def J5 (n:Int):Int:=max (min n 262144) (-262144)
theorem qh3 {m:Nat} (hm:3000000<m) {a B:Int} {n:Int}:
 g98 m (mkD a B).1 (mkD a B).2.1 (mkD a B).2.2.1 (mkD a B).2.2.2.1 n=some (if OkD a B then mkD a (B+J5 n)else badD,(),(),()):=by
 rw[g98,q50 hm,bS];dsimp only;by_cases h:OkD a B
 . obtain⟨w,f,k,k1,k2,k3⟩:=Yv h;have hb1:=k.lo;have hb2:=k.hi;have n1:=k.len
   have e1:(if(-262144)>(if 262144<n then 262144 else n)then(-262144)else(if 262144<n then 262144 else n))=J5 n:=by
    unfold J5;repeat' split
    all_goals omega
   have hc: -262144<=J5 n/\J5 n<=262144:=by unfold J5;omega
   have w1:wI (f+J5 n)=f+J5 n:=by rw[wQ,wi O O]
   have hE:EqD w (f+J5 n) a (B+J5 n):=by
    have:=k.eq.mul (EqD.refl 1 (J5 n))
    rwa [Int.mul_one,Int.mul_one]at this
   rw[decide_eq_true h,Bool.not_true,cond_false,iP h,e1,k1,k2,k3,w1,q7y hm O O O,hE.mk];rfl
 . rw[decide_eq_false h,iN' h];rfl
end Go.Vs.F
