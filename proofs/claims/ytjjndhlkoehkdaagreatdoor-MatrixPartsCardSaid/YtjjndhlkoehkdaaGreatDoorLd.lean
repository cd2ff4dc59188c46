/-Dyads:the normal form of z 2^e,plain. Dyads of the program:norm,Make,Sign,Neg,Abs,Add,Sub,Mul,Cmp. Rounding to a float,plain;integers that fit. The program's rounding to a float. The program's reading of a float. The program's dyads:Neg,Add,Sub,Mul,Cmp,Scale,over a common exponent. -/
import Derived.Test.YtjjndhlkoehkdaaGreatDoorLc
set_option linter.unusedVariables false
set_option linter.unusedSimpArgs false
namespace Go.Vs.F
def mkD (z e:Int):Bool×Bool×List Int×Int×Unit:=
 if z=0 then(false,false,[],0,())
 else if e+(blen z.natAbs:Int)>65536∨e+(tz z.natAbs:Int)< -65536 then(true,false,[],0,())
 else(false,decide (z<0),lim (z.natAbs/2^tz z.natAbs),e+(tz z.natAbs:Int),())
def OkD (z e:Int):Prop:=(mkD z e).1=false
def sc (z e b:Int):Int:=z*2^(e-b).toNat
def EqD (z e w f:Int):Prop:= ∃b,b≤e∧b≤f∧sc z e b=sc w f b
theorem qd0 (e:Int):mkD 0 e=(false,false,[],0,()):=rfl
theorem Zj {z e:Int}:OkD z e↔z=0∨(e+(blen z.natAbs:Int)≤65536∧ -65536≤e+(tz z.natAbs:Int)):=by
 unfold OkD mkD
 by_cases h:z=0
 · simp[h]
 · rw[if_neg h]
   by_cases h2:e+(blen z.natAbs:Int)>65536∨e+(tz z.natAbs:Int)< -65536
   · rw[if_pos h2];simp only[h,false_or]
     constructor
     · intro h;cases h
     · intro h;omega
   · rw[if_neg h2];simp only[h,false_or,true_iff];omega
instance {z e:Int}:Decidable (OkD z e):=inferInstanceAs (Decidable (_=_))
theorem Je {z e:Int} (h: ¬OkD z e):mkD z e=(true,false,[],0,()):=by
 unfold OkD mkD at*
 split at h
 · exact absurd rfl h
 · rename_i h1;rw[if_neg h1]
   split at h
   · rename_i h2;rw[if_pos h2]
   · exact absurd rfl h
theorem Yy {z:Int} {k:Nat}:(z*2^k).natAbs=2^k*z.natAbs:=by
 rw[Int.natAbs_mul,Int.natAbs_pow,Nat.mul_comm];rfl
theorem Zz {k n:Nat} (h:n≠0):blen (2^k*n)=k+blen n:=by
 have:=Jr (y:=0) h (Nat.pow_pos (n:=k) (show 0<2 by omega))
 rwa [Nat.add_zero]at this
theorem q1c (k:Nat):0<(2:Int)^k:=Int.pow_pos O
theorem q5n {z:Int} {k:Nat}:z*2^k<0↔z<0:=by
 have:=q1c k
 constructor
 · intro h
   refine Int.not_le.1 fun h2=> ?_
   have:=Int.mul_nonneg h2 (Int.le_of_lt this)
   omega
 · intro h;exact Int.mul_neg_of_neg_of_pos h this
theorem qgp {z:Int} {k:Nat} {e:Int}:mkD (z*2^k) e=mkD z (e+(k:Int)):=by
 unfold mkD
 by_cases h:z=0
 · subst h;rw[Int.zero_mul];rfl
 · have h2:z*2^k≠0:=Int.mul_ne_zero h (by have:=q1c k;omega)
   have hn:z.natAbs≠0:=O
   rw[if_neg h,if_neg h2,Yy,Zz hn,q6x hn,Nat.pow_add,Nat.mul_div_mul_left _ _ (Nat.pow_pos O)]
   simp only[q5n]
   rw[Int.natCast_add,Int.natCast_add,←Int.add_assoc,←Int.add_assoc]
theorem qd8 {z e b:Int} (h:b≤e):mkD (sc z e b) b=mkD z e:=by
 unfold sc
 rw[qgp]
 congr 1
 omega
theorem EqD.mk {z e w f:Int}:EqD z e w f→mkD z e=mkD w f
 |⟨b,h1,h2,h3⟩=>by rw[←qd8 h1,←qd8 h2,h3]
theorem qca {z e b c:Int} (h1:c≤b) (h2:b≤e):sc z e c=sc z e b*2^(b-c).toNat:=by
 unfold sc
 rw[Int.mul_assoc,←Int.pow_add]
 congr 2
 omega
theorem qda {x y:Int} {k:Nat} (h:x*2^k=y*2^k):x=y:=
 Int.eq_of_mul_eq_mul_right (by have:=q1c k;omega) h
theorem EqD.low {z e w f:Int} (h:EqD z e w f) {c:Int} (h1:c≤e) (h2:c≤f):sc z e c=sc w f c:=by
 obtain⟨b,hb1,hb2,h3⟩:=h
 by_cases hc:c≤b
 · rw[qca hc hb1,qca hc hb2,h3]
 · rw[qca (b:=c) (c:=b) O h1,qca (b:=c) (c:=b) O h2]at h3
   exact qda h3
theorem EqD.symm {z e w f:Int}:EqD z e w f→EqD w f z e
 |⟨b,h1,h2,h3⟩=>⟨b,h2,h1,h3.symm⟩
theorem EqD.trans {z e w f y g:Int} (h:EqD z e w f) (h2:EqD w f y g):EqD z e y g:=by
 obtain⟨c,c1,c2,c3⟩: ∃c:Int,c≤e∧c≤f∧c≤g:=⟨min e (min f g),O,O,O⟩
 exact⟨c,c1,c3,(h.low c1 c2).trans (h2.low c2 c3)⟩
theorem EqD.zero (e f:Int):EqD 0 e 0 f:=⟨min e f,O,O,by unfold sc;rw[Int.zero_mul,Int.zero_mul]⟩
theorem qg3 (z e:Int):sc z e e=z:=by unfold sc;rw[Int.sub_self];exact Int.mul_one z
theorem EqD.sc {z e b:Int} (h:b≤e):EqD (sc z e b) b z e:=⟨b,O,h,by rw[qg3]⟩
theorem EqD.sgn {z e w f:Int} (h:EqD z e w f):Vs.F.sgn z=Vs.F.sgn w:=by
 obtain⟨b,h1,h2,h3⟩:=h
 have k: ∀z e:Int,Vs.F.sgn (Vs.F.sc z e b)=Vs.F.sgn z:=by
  intro z e
  unfold Vs.F.sgn Vs.F.sc
  simp only[q5n]
  have:0<z*2^(e-b).toNat↔0<z:=by
   have:=q1c (e-b).toNat
   constructor
   · intro h;exact Int.pos_of_mul_pos_left h this
   · intro h;exact Int.mul_pos h this
  simp only[this]
 rw[←k z e,←k w f,h3]
theorem q1q {n k:Nat}:blen (n/2^k)≤blen n:=by
 by_cases h:n/2^k=0
 · rw[h,J4];omega
 · have h0:n≠0:=by rintro rfl;simp at h
   rw[Qu h,Qu h0]
   have:(n/2^k).log2<n.log2+1:=by
    rw[Nat.log2_lt h]
    exact Nat.lt_of_le_of_lt (Nat.div_le_self ..) Nat.lt_log2_self
   omega
theorem qfd {n:Nat} (h:n≠0):n/2^tz n≠0∧n=2^tz n*(n/2^tz n)∧(n/2^tz n)%2=1:=by
 obtain⟨q,h1,h2⟩:=q4f h
 have:n/2^tz n=q:=by
  conv=>lhs;arg 1;rw[h1]
  exact Nat.mul_div_cancel_left q (Nat.pow_pos O)
 rw[this]
 exact⟨O,h1,h2⟩
theorem qb6 {n:Nat} (h:n≠0):blen n=tz n+blen (n/2^tz n):=by
 obtain⟨h1,h2,_⟩:=qfd h
 conv=>lhs;rw[h2]
 exact Zz h1
theorem q8g {z:Int} {q:Nat}:((if z<0 then-1 else 1)*(q:Int)).natAbs=q:=by split<;>omega
theorem lt_sg {z:Int} {q:Nat} (h:q≠0):z<0↔((if z<0 then-1 else 1)*(q:Int))<0:=by split<;>omega
theorem qj9 {z:Int} {q:Nat}:((if z<0 then-1 else 1)*(q:Int))=0→q=0:=by split<;>omega
theorem qi3 {z:Int}:(if z<0 then-1 else 1)*(z.natAbs:Int)=z:=by split<;>omega
structure NF (z e w f:Int):Prop where
 eq:EqD w f z e
 md:mkD z e=(false,decide (w<0),lim w.natAbs,f,())
 zero:w=0→f=0
 odd:w≠0→w.natAbs%2=1
 lo: -65536≤f
 hi:f+(blen w.natAbs:Int)≤65536
theorem NF.len {z e w f:Int} (h:NF z e w f):blen w.natAbs≤131072:=by have:=h.lo;have:=h.hi;omega
theorem OkD.nf {z e:Int} (h:OkD z e): ∃w f,NF z e w f:=by
 by_cases hz:z=0
 · subst hz
   exact⟨0,0,EqD.zero ..,by rw[qd0];simp[Qh],fun _=>rfl,fun h=>absurd rfl h,O,by decide⟩
 · rcases Zj.1 h with h|⟨h1,h2⟩
   · exact absurd h hz
   · have hn:z.natAbs≠0:=O
     obtain⟨k1,k2,k3⟩:=qfd hn
     have hb:=qb6 hn
     have hmk:mkD z e=(false,decide (z<0),lim (z.natAbs/2^tz z.natAbs),e+(tz z.natAbs:Int),()):=by
      unfold mkD;rw[if_neg hz,if_neg O]
     have hN:=q8g (z:=z) (q:=z.natAbs/2^tz z.natAbs)
     refine⟨(if z<0 then-1 else 1)*(((z.natAbs/2^tz z.natAbs:Nat)):Int),e+(tz z.natAbs:Int),⟨e,O,O,?_⟩,?_,?_,?_,O,?_⟩
     · rw[qg3]
       unfold sc
       rw[show(e+(tz z.natAbs:Int)-e).toNat=tz z.natAbs by omega,Int.mul_assoc]
       have:(((z.natAbs/2^tz z.natAbs:Nat)):Int)*2^tz z.natAbs=(z.natAbs:Int):=by
        conv=>rhs;rw[k2]
        rw[Int.natCast_mul,Int.mul_comm,Int.natCast_pow];rfl
       rw[this,qi3]
     · rw[hmk,hN,decide_eq_decide.2 (lt_sg k1)]
     · intro h0;exact absurd (qj9 h0) k1
     · intro _;rw[hN];exact k3
     · rw[hN];omega
theorem NF.ok {z e w f:Int} (h:NF z e w f):OkD w f:=by
 unfold OkD;rw[h.eq.mk,h.md]
theorem q7y {n k:Nat} (h:blen n≤k):(lim n).length≤k/32+1:=by
 refine Xm ?_
 refine Nat.lt_of_lt_of_le (Zy n) ?_
 rw[show(4294967296:Nat)=2^32 by decide,←Nat.pow_mul]
 exact Nat.pow_le_pow_right O O
theorem qh6 {n k:Nat} (h:(lim n).length≤k):blen n≤32*k:=by
 by_cases h0:n=0
 · subst h0;rw[J4];omega
 · have h1:=vl_lt (Qa n)
   rw[qw]at h1
   have h2:n<2^(32*k):=by
    refine Nat.lt_of_lt_of_le h1 ?_
    rw[show(4294967296:Nat)=2^32 by decide,←Nat.pow_mul]
    exact Nat.pow_le_pow_right O O
   rw[Qu h0]
   exact(Nat.log2_lt h0).2 h2
theorem X6 {n k:Nat} (h:n<2^k):blen n≤k:=by
 by_cases h0:n=0
 · subst h0;rw[J4];omega
 · rw[Qu h0];exact(Nat.log2_lt h0).2 h
theorem q97 {a:Int} {k:Nat}:blen (a*2^k).natAbs≤k+blen a.natAbs:=by
 by_cases h:a.natAbs=0
 · rw[Yy,h,Nat.mul_zero,J4];omega
 · rw[Yy,Zz h];omega
theorem zB_1 (z:Int):(zB z).1=decide (z<0):=rfl
theorem zB_2 (z:Int):(zB z).2.1=lim z.natAbs:=rfl
theorem Lm_zB (z:Int):Lm (zB z).2.1:=Qa _
theorem q05 {z:Int} {k:Nat} (h:blen z.natAbs≤k):(zB z).2.1.length≤k/32+1:=q7y h
theorem right_eq {m:Nat} (hm:3000000<m) {z:Int} (hz:blen z.natAbs≤1000000) {k:Nat} (hk:k≤1048576):g141 m (zB z).1 (zB z).2.1 (k:Int)=some (zB (z/2^k),(),(),()):=by
 have hl:=q05 hz
 obtain⟨m',rfl⟩: ∃m',m=m'+1:=⟨m-1,O⟩
 rw[g141,g141_L0,bif_decide,if_neg O,Option.bind_some]
 dsimp only
 by_cases h0:k=0
 · subst h0
   rw[show w_i64 (0-((0:Nat):Int))=((0:Nat):Int)from by decide,qch hm (Lm_zB z) O O,Option.bind_some,zv_zB]
   dsimp only
   rw[show z*2^0=z/2^0 by rw[Int.pow_zero,Int.mul_one,Int.ediv_one]]
 · rw[show w_i64 (0-(k:Int))= -(k:Int) by rw[w_i64_eq,wi O O];omega,qde hm (Lm_zB z) O O O,Option.bind_some,zv_zB,Int.natCast_pow]
   rfl
theorem qh3 {z:Int} (h:z≠0):zB (z/2^tz z.natAbs)=(decide (z<0),lim (z.natAbs/2^tz z.natAbs),()):=by
 obtain⟨k1,k2,k3⟩:=qfd (n:=z.natAbs) O
 have:z=((if z<0 then-1 else 1)*((z.natAbs/2^tz z.natAbs:Nat):Int))*2^tz z.natAbs:=by
  rw[Int.mul_assoc]
  have:(((z.natAbs/2^tz z.natAbs:Nat)):Int)*2^tz z.natAbs=(z.natAbs:Int):=by
   conv=>rhs;rw[k2]
   rw[Int.natCast_mul,Int.mul_comm,Int.natCast_pow];rfl
  rw[this,qi3]
 have h2:z/2^tz z.natAbs=(if z<0 then-1 else 1)*((z.natAbs/2^tz z.natAbs:Nat):Int):=by
  conv=>lhs;arg 1;rw[this]
  rw[Int.mul_ediv_cancel]
  have:=q1c (tz z.natAbs);omega
 have h3:=lt_sg (z:=z) k1
 have h4:=q8g (z:=z) (q:=z.natAbs/2^tz z.natAbs)
 rw[←h2]at h3 h4
 unfold zB
 rw[h4,decide_eq_decide.2 h3.symm]
theorem Xd {z:Int}:sgn z=0↔z=0:=by unfold sgn;repeat' split
                                   all_goals omega
theorem q21 {n:Nat}:tz n≤blen n:=by
 by_cases h:n=0
 · subst h;rw[qbf];omega
 · rw[qb6 h];omega
theorem qgf {m:Nat} (hm:3000000<m) {z:Int} (hz:blen z.natAbs≤900000) {e:Int} (h1: -1000000000≤e) (h2:e≤1000000000):g80 m false (zB z).1 (zB z).2.1 e=some ((mkD z e,decide (OkD z e),()),(),()):=by
 have hl:=q05 hz
 have hS:Sz (zB z).2.1:=⟨Lm_zB z,O⟩
 have hv:vl (zB z).2.1=z.natAbs:=qw _
 rw[g80,cond_false,qix O hS,Option.bind_some,zv_zB]
 dsimp only
 rw[q2d O hS,Option.bind_some,zv_zB,bif_eq]
 dsimp only
 by_cases h:z=0
 · subst h;rw[if_pos (Xd.2 rfl)];rfl
 · have hn:z.natAbs≠0:=O
   have ht:=q21 (n:=z.natAbs)
   rw[if_neg (fun e=>h (Xd.1 e)),Zu O hS O,Option.bind_some,q51 O hS,Option.bind_some,hv]
   dsimp only
   rw[show w_i64 (65536-((blen z.natAbs:Nat):Int))=65536-((blen z.natAbs:Nat):Int) by rw[w_i64_eq,wi O O],
    show w_i64 ((-65536)-((tz z.natAbs:Nat):Int))=(-65536)-((tz z.natAbs:Nat):Int) by rw[w_i64_eq,wi O O],
    show w_i64 (e+((tz z.natAbs:Nat):Int))=e+((tz z.natAbs:Nat):Int) by rw[w_i64_eq,wi O O],
    bif_decide,bif_decide,right_eq hm O O,Option.bind_some,qh3 h]
   by_cases hk:OkD z e
   · rcases Zj.1 hk with h0|⟨k1,k2⟩
     · exact absurd h0 h
     · rw[if_neg O,if_neg O,decide_eq_true hk]
       unfold mkD
       rw[if_neg h,if_neg O]
   · have hk2: ¬(e+(blen z.natAbs:Int)≤65536∧ -65536≤e+(tz z.natAbs:Int)):=fun c=>hk (Zj.2 (Or.inr c))
     rw[Je hk,decide_eq_false hk]
     by_cases c:e>65536-((blen z.natAbs:Nat):Int)
     · rw[if_pos c];rfl
     · rw[if_neg c,if_pos O];rfl
theorem q7h {m:Nat} (hm:3000000<m) {z:Int} (hz:blen z.natAbs≤900000) {e:Int} (h1: -1000000000≤e) (h2:e≤1000000000):g28 m (zB z).1 (zB z).2.1 e=some (mkD z e,(),(),()):=by
 rw[g28,qgf hm hz h1 h2];rfl
theorem qb5 {m:Nat} (hm:3000000<m) {z e:Int} (h:OkD z e):g80 m (mkD z e).1 (mkD z e).2.1 (mkD z e).2.2.1 (mkD z e).2.2.2.1=some ((mkD z e,true,()),(),()):=by
 obtain⟨w,f,k⟩:=h.nf
 rw[k.md]
 have:=qgf hm (z:=w) (by have:=k.len;omega) (e:=f) (by have:=k.lo;omega) (by have:=k.hi;omega)
 rw[zB_1,zB_2]at this
 rw[this,k.eq.mk,k.md,decide_eq_true k.ok]
theorem Yb {z e:Int} (h:OkD z e): ∃w f,NF z e w f∧(mkD z e).2.1=(zB w).1∧(mkD z e).2.2.1=(zB w).2.1∧(mkD z e).2.2.2.1=f:=by
 obtain⟨w,f,k⟩:=h.nf
 refine⟨w,f,k,?_⟩
 rw[k.md]
 exact⟨rfl,rfl,rfl⟩
theorem NF.Sz {z e w f:Int} (h:NF z e w f):Vs.F.Sz (zB w).2.1:=⟨Lm_zB w,by have:=q05 h.len;omega⟩
theorem NF.sgn {z e w f:Int} (h:NF z e w f):Vs.F.sgn w=Vs.F.sgn z:=h.eq.sgn
theorem qgs {m:Nat} (hm:3000000<m) {z e:Int} (h:OkD z e):g77 m (mkD z e).1 (mkD z e).2.1 (mkD z e).2.2.1 (mkD z e).2.2.2.1=some (sgn z,(),()):=by
 obtain⟨w,f,k,k1,k2,k3⟩:=Yb h
 rw[g77,qb5 hm h,Option.bind_some]
 dsimp only
 rw[k1,k2,q2d O k.Sz,Option.bind_some,zv_zB,k.sgn]
theorem take_snoc {l:List Int} {k:Nat} (hk:k<l.length) {x:Int} (ex:l.getD k 0=x):l.take (k+1)=l.take k++[x]:=by
 rw[List.take_add_one,←ex,List.getD,List.getElem?_eq_getElem hk];rfl
theorem q06 (v:Nat):zB (v:Int)=(false,lim v,()):=by
 unfold zB
 rw[Int.natAbs_natCast,show decide ((v:Int)<0)=false by simp]
theorem SzB {z:Int} (h:blen z.natAbs≤1000000):Sz (zB z).2.1:=⟨Lm_zB z,by have:=q05 h;omega⟩
theorem SzN {v:Nat} (h:blen v≤1000000):Sz (zB (v:Int)).2.1:=SzB (by rwa [Int.natAbs_natCast])
def fexp (f:Int):Int:=f/4503599627370496%2048
def ffrac (f:Int):Int:=f%4503599627370496
def fneg (f:Int):Bool:=decide (9223372036854775808≤f)
def ofZ (f:Int):Int:=(if fneg f then-1 else 1)*(if fexp f=0 then ffrac f else ffrac f+4503599627370496)
def ofE (f:Int):Int:=if fexp f=0 then-1074 else fexp f-1075
def FinF (f:Int):Prop:=fexp f≠2047
instance {f:Int}:Decidable (FinF f):=inferInstanceAs (Decidable (_≠_))
def U64 (f:Int):Prop:=0≤f∧f<18446744073709551616
def ofD (f:Int):Bool×Bool×List Int×Int×Unit:=if FinF f then mkD (ofZ f) (ofE f)else(true,false,[],0,())
theorem q46 (f:Int):0≤fexp f∧fexp f<2048:=by unfold fexp;omega
theorem q7l (f:Int):0≤ffrac f∧ffrac f<4503599627370496:=by unfold ffrac;omega
theorem parts_eq {m:Nat} {f:Int} (h:U64 f):g81 m f=some ((fexp f,ffrac f,()),(),()):=by
 obtain⟨n,rfl⟩: ∃n:Nat,f=(n:Int):=⟨f.toNat,by have:=h.1;omega⟩
 have hn:n<18446744073709551616:=by have:=h.2;omega
 have e1:shr_ .u64 (n:Int) 52=((n/4503599627370496:Nat):Int):=shr64 (a:=n) (k:=52) O
 have e2:=and64 (a:=n/4503599627370496) (b:=2047) O O
 have e3:=and64 (a:=n) (b:=4503599627370495) hn O
 rw[show((2047:Nat):Int)=2047 from rfl,show(2047:Nat)=2^11-1 by decide,Nat.and_two_pow_sub_one_eq_mod]at e2
 rw[show((4503599627370495:Nat):Int)=4503599627370495 from rfl,show(4503599627370495:Nat)=2^52-1 by decide,Nat.and_two_pow_sub_one_eq_mod]at e3
 rw[g81,e1,e2,e3,w_i64_eq,wi O O]
 unfold fexp ffrac
 congr 3<;>omega
theorem q4s {m:Nat} {f:Int} (h:U64 f):g58 m f=some (decide (FinF f),(),()):=by
 rw[g58,parts_eq h,Option.bind_some]
 dsimp only
 by_cases c:FinF f
 · rw[decide_eq_true c,show(fexp f !=2047)=true by simpa [FinF]using c]
 · rw[decide_eq_false c,show(fexp f !=2047)=false by simpa [FinF]using c]
theorem qjc {n:Nat} (h:n<18446744073709551616):qx .u64 (n:Int) 9223372036854775808=if 9223372036854775808≤n then 9223372036854775808 else 0:=by
 have e:=and64 (a:=n) (b:=9223372036854775808) h O
 rw[show((9223372036854775808:Nat):Int)=9223372036854775808 from rfl]at e
 rw[e]
 have hb:n&&&9223372036854775808=if n.testBit 63 then 9223372036854775808 else 0:=by
  rw[show(9223372036854775808:Nat)=2^63 by decide]
  apply Nat.eq_of_testBit_eq
  intro i
  rw[Nat.testBit_and,Nat.testBit_two_pow]
  by_cases c:63=i
  · subst c
    cases hb:n.testBit 63
    · simp
    · rw[if_pos rfl,Nat.testBit_two_pow];simp
  · cases hb:n.testBit 63
    · simp[c]
    · rw[if_pos rfl,Nat.testBit_two_pow];simp[c]
 have ht:n.testBit 63=decide (9223372036854775808≤n):=by
  rw[Nat.testBit_eq_decide_div_mod_eq]
  rw[show(2:Nat)^63=9223372036854775808 by decide]
  by_cases c:9223372036854775808≤n
  · rw[decide_eq_decide];omega
  · rw[decide_eq_decide];omega
 rw[hb,ht]
 by_cases c:9223372036854775808≤n
 · simp[c]
 · simp[c]
theorem q4g {m:Nat} {f:Int} (h:U64 f):g83 m f=some (fneg f,(),()):=by
 obtain⟨n,rfl⟩: ∃n:Nat,f=(n:Int):=⟨f.toNat,by have:=h.1;omega⟩
 have hn:n<18446744073709551616:=by have:=h.2;omega
 rw[g83,qjc hn]
 unfold fneg
 by_cases c:9223372036854775808≤n
 · rw[if_pos c,show decide ((9223372036854775808:Int)≤(n:Int))=true by rw[decide_eq_true_eq];omega];rfl
 · rw[if_neg c,show decide ((9223372036854775808:Int)≤(n:Int))=false by rw[decide_eq_false_iff_not];omega];rfl
theorem q84 {x:Int} (h1:0≤x) (h2:x<4503599627370496):b_or_ .u64 x 4503599627370496=x+4503599627370496:=by
 obtain⟨n,rfl⟩: ∃n:Nat,x=(n:Int):=⟨x.toNat,O⟩
 have h:=or64 (a:=n) (b:=4503599627370496) O O
 rw[show((4503599627370496:Nat):Int)=4503599627370496 from rfl]at h
 rw[h]
 have:=Nat.two_pow_add_eq_or_of_lt (i:=52) (b:=n) O 1
 rw[Nat.or_comm,show(4503599627370496:Nat)=2^52*1 by decide,←this]
 omega
theorem q7b (f:Int):blen (ofZ f).natAbs≤53:=by
 apply X6
 have h1:=q7l f
 have c:(2:Nat)^53=9007199254740992:=by decide
 unfold ofZ
 cases fneg f<;>(split<;>simp<;>omega)
theorem q64 {f:Int}: -1074≤ofE f∧ofE f≤972:=by
 have:=q46 f
 unfold ofE;split<;>omega
theorem Of_eq {m:Nat} (hm:3000000<m) {f:Int} (h:U64 f):g29 m f=some (ofD f,(),()):=by
 rw[g29,parts_eq h,Option.bind_some,bif_eq,bif_eq]
 dsimp only
 have h1:=q46 f
 have h2:=q7l f
 have hl:=q7b f
 have he:=q64 (f:=f)
 unfold ofD
 by_cases c:fexp f=2047
 · rw[if_pos c,if_neg (fun h=>h c)]
 · have hF:FinF f:=c
   rw[if_neg c,if_pos hF,q4g h,q84 h2.1 h2.2]
   have run: ∀(q:Int) (ex:Int),0≤q→q<9007199254740992→ofZ f=(if fneg f then-1 else 1)*q→ofE f=ex→
    ((g82 m (w_i64 q)).bind fun y2=>(some (fneg f,(),()):Option (Bool×Unit×Unit)).bind fun y3=>bif y3.1 then
      (g84 m y2.1.1 y2.1.2.1).bind fun y4=>(g28 m y4.1.1 y4.1.2.1 ex).bind fun y5=>some ((y5.1.1,y5.1.2.1,y5.1.2.2.1,y5.1.2.2.2.1,()),((),()))
    else(g28 m y2.1.1 y2.1.2.1 ex).bind fun y6=>some ((y6.1.1,y6.1.2.1,y6.1.2.2.1,y6.1.2.2.2.1,()),((),())))=some (mkD (ofZ f) (ofE f),(),()):=by
    intro q ex q1 q2 eq ee
    have hq:blen q.natAbs≤53:=by
     rw[eq]at hl
     cases hf:fneg f<;>rw[hf]at hl<;>simpa using hl
    rw[w_i64_eq,wi O O,q2l O O O,Option.bind_some,Option.bind_some]
    dsimp only
    cases hf:fneg f with
    |false=>
     rw[hf]at eq
     rw[cond_false,q7h hm O O O,eq,ee,if_neg (by simp),Int.one_mul];rfl
    |true=>
     rw[hf]at eq
     rw[cond_true,qc7 O (SzB O),zv_zB,Option.bind_some]
     dsimp only
     rw[q7h hm (by rw[Int.natAbs_neg];omega) O O,eq,ee,if_pos rfl,Int.neg_one_mul];rfl
   by_cases c0:fexp f=0
   · rw[if_pos c0]
     exact run _ _ h2.1 O (by unfold ofZ;rw[if_pos c0]) (by unfold ofE;rw[if_pos c0])
   · rw[if_neg c0,show w_i64 (fexp f-1075)=fexp f-1075 by rw[w_i64_eq,wi O O]]
     exact run _ _ O O (by unfold ofZ;rw[if_neg c0]) (by unfold ofE;rw[if_neg c0])
theorem q27 {f:Int} (h:U64 f):finB f=decide (FinF f):=by
 have e1:=q4s (m:=0) h
 rw[q3k]at e1
 have:=Option.some.inj e1
 exact(Prod.mk.inj this).1
theorem qjp {f:Int} (h:FinF f):OkD (ofZ f) (ofE f):=by
 have hl:=q7b f
 have he:=q64 (f:=f)
 exact Zj.2 (Or.inr ⟨O,O⟩)
abbrev badD:Bool×Bool×List Int×Int×Unit:=(true,false,[],0,())
theorem qcx {z e:Int} (h: ¬OkD z e):mkD z e=badD:=Je h
theorem NF.lim {z e w f:Int} (h:NF z e w f):(zB w).2.1.length≤10000:=by have:=q05 h.len;omega
theorem qcq {w f b:Int} (h:b≤f):blen (sc w f b).natAbs≤(f-b).toNat+blen w.natAbs:=by
 unfold sc;exact q97
end Go.Vs.F
