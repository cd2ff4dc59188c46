import Derived.Test.YtoeiaipcgnjfcaaGreatDoorLb
set_option linter.unusedSectionVars false
set_option linter.unusedVariables false
set_option linter.unusedSimpArgs false
set_option linter.defProp false
namespace Go.Vs.F
def mkD (z e:Int):Bool×Bool×LI×Int×Unit:=
 if z=0 then(false,false,[],0,())
 else if e+(blen z.natAbs:Int)>65536\/e+(tz z.natAbs:Int)< -65536 then(true,false,[],0,())
 else(false,decide (z<0),lim (z.natAbs/2^tz z.natAbs),e+(tz z.natAbs:Int),())
def OkD (z e:Int):Prop:=(mkD z e).1=false
def sc (z e b:Int):Int:=z*2^(e-b).toNat
def EqD (z e w f:Int):Prop:= ∃b,b<=e/\b<=f/\sc z e b=sc w f b
def qkd (e:Int):mkD 0 e=(false,false,[],0,()):=rfl
def q97 {z e:Int}:OkD z e↔z=0\/(e+(blen z.natAbs:Int)<=65536/\ -65536<=e+(tz z.natAbs:Int)):=by
 unfold OkD mkD;by_cases h:z=0
 . simp[h]
 . rw[iN' h];by_cases h2:e+(blen z.natAbs:Int)>65536\/e+(tz z.natAbs:Int)< -65536
   . rw[iP h2];simp only[h,false_or];constructor
     . intro h;cases h
     . intro h;omega
   . rw[iN' h2];simp only[h,false_or,true_iff];omega
instance {z e:Int}:Decidable (OkD z e):=inferInstanceAs (Decidable (_=_))
def qmo {z e:Int} (h: ¬OkD z e):mkD z e=(true,false,[],0,()):=by
 unfold OkD mkD at*;split at h
 . exact absurd rfl h
 . rename_i h1;rw[iN' h1];split at h
   . rename_i h2;rw[iP h2]
   . exact absurd rfl h
def Ja {z:Int} {k:Nat}:(z*2^k).natAbs=2^k*z.natAbs:=by
 rw[zq2,Int.natAbs_pow,zx];rfl
def q0l {k n:Nat} (h:n≠0):blen (2^k*n)=k+blen n:=by
 have:=q3b (y:=0) h (zZ1 (n:=k) (show 0<2 by omega))
 rwa [zU]at this
def q14 (k:Nat):0<(2:Int)^k:=Int.pow_pos O
def q7e {z:Int} {k:Nat}:z*2^k<0↔z<0:=by
 have:=q14 k;constructor
 . intro h;refine Int.not_le.1 λh2=> ?_
   have:=Int.mul_nonneg h2 (Int.le_of_lt this);omega
 . intro h;exact Int.mul_neg_of_neg_of_pos h this
def qia {z:Int} {k:Nat} {e:Int}:mkD (z*2^k) e=mkD z (e+(k:Int)):=by
 unfold mkD;by_cases h:z=0
 . subst h;rw[zG3];rfl
 . have h2:z*2^k≠0:=za2 h (by have:=q14 k;omega)
   have hn:z.natAbs≠0:=O;rw[iN' h,iN' h2,Ja,q0l hn,qe6 hn,zu1,Nat.mul_div_mul_left _ _ (zZ1 O)];simp only[q7e];rw[zi1,zi1,<-Int.add_assoc,<-Int.add_assoc]
def qem {z e b:Int} (h:b<=e):mkD (sc z e b) b=mkD z e:=by
 unfold sc;rw[qia];congr 1;omega
def EqD.mk {z e w f:Int}:EqD z e w f->mkD z e=mkD w f
 |⟨b,h1,h2,h3⟩=>by rw[<-qem h1,<-qem h2,h3]
def qdp {z e b c:Int} (h1:c<=b) (h2:b<=e):sc z e c=sc z e b*2^(b-c).toNat:=by
 unfold sc;rw[Int.mul_assoc,<-Int.pow_add];congr 2;omega
def qfd {x y:Int} {k:Nat} (h:x*2^k=y*2^k):x=y:=
 Int.eq_of_mul_eq_mul_right (by have:=q14 k;omega) h
def EqD.low {z e w f:Int} (h:EqD z e w f) {c:Int} (h1:c<=e) (h2:c<=f):sc z e c=sc w f c:=by
 obtain⟨b,hb1,hb2,h3⟩:=h;by_cases hc:c<=b
 . rw[qdp hc hb1,qdp hc hb2,h3]
 . rw[qdp (b:=c) (c:=b) O h1,qdp (b:=c) (c:=b) O h2]at h3;exact qfd h3
def EqD.trans {z e w f y g:Int} (h:EqD z e w f) (h2:EqD w f y g):EqD z e y g:=by
 obtain⟨c,c1,c2,c3⟩: ∃c:Int,c<=e/\c<=f/\c<=g:=⟨min e (min f g),O,O,O⟩;exact⟨c,c1,c3,(h.low c1 c2).trans (h2.low c2 c3)⟩
def EqD.zero (e f:Int):EqD 0 e 0 f:=⟨min e f,O,O,by unfold sc;rw[zG3,zG3]⟩
def q9a (z e:Int):sc z e e=z:=by unfold sc;rw[Int.sub_self];exact Int.mul_one z
def EqD.sc {z e b:Int} (h:b<=e):EqD (sc z e b) b z e:=⟨b,O,h,by rw[q9a]⟩
def EqD.sgn {z e w f:Int} (h:EqD z e w f):Vs.F.sgn z=Vs.F.sgn w:=by
 obtain⟨b,h1,h2,h3⟩:=h
 have k: ∀z e:Int,Vs.F.sgn (Vs.F.sc z e b)=Vs.F.sgn z:=by
  intro z e;unfold Vs.F.sgn Vs.F.sc;simp only[q7e]
  have:0<z*2^(e-b).toNat↔0<z:=by
   have:=q14 (e-b).toNat;constructor
   . intro h;exact Int.pos_of_mul_pos_left h this
   . intro h;exact Int.mul_pos h this
  simp only[this]
 rw[<-k z e,<-k w f,h3]
def qi3 {n:Nat} (h:n≠0):n/2^tz n≠0/\n=2^tz n*(n/2^tz n)/\(n/2^tz n)%2=1:=by
 obtain⟨q,h1,h2⟩:=q9e h
 have:n/2^tz n=q:=by
  conv=>lhs;arg 1;rw[h1]
  exact Nat.mul_div_cancel_left q (zZ1 O)
 rw[this];exact⟨O,h1,h2⟩
def qgo {n:Nat} (h:n≠0):blen n=tz n+blen (n/2^tz n):=by
 obtain⟨h1,h2,_⟩:=qi3 h;conv=>lhs;rw[h2]
 exact q0l h1
def qa6 {z:Int} {q:Nat}:((if z<0 then-1 else 1)*(q:Int)).natAbs=q:=by split<;>omega
def lt_sg {z:Int} {q:Nat} (h:q≠0):z<0↔((if z<0 then-1 else 1)*(q:Int))<0:=by split<;>omega
def qlb {z:Int} {q:Nat}:((if z<0 then-1 else 1)*(q:Int))=0->q=0:=by split<;>omega
def qkr {z:Int}:(if z<0 then-1 else 1)*(z.natAbs:Int)=z:=by split<;>omega
structure NF (z e w f:Int):Prop where
 eq:EqD w f z e
 md:mkD z e=(false,decide (w<0),lim w.natAbs,f,())
 zero:w=0->f=0
 odd:w≠0->w.natAbs%2=1
 lo: -65536<=f
 hi:f+(blen w.natAbs:Int)<=65536
def NF.len {z e w f:Int} (h:NF z e w f):blen w.natAbs<=131072:=by have:=h.lo;have:=h.hi;omega
def OkD.nf {z e:Int} (h:OkD z e): ∃w f,NF z e w f:=by
 by_cases hz:z=0
 . subst hz;exact⟨0,0,EqD.zero ..,by rw[qkd];simp[Qc],λ_=>rfl,λh=>absurd rfl h,O,by decide⟩
 . rcases q97.1 h with h|⟨h1,h2⟩
   . exact absurd h hz
   . have hn:z.natAbs≠0:=O;obtain⟨k1,k2,k3⟩:=qi3 hn;have hb:=qgo hn
     have hmk:mkD z e=(false,decide (z<0),lim (z.natAbs/2^tz z.natAbs),e+(tz z.natAbs:Int),()):=by
      unfold mkD;rw[iN' hz,iN' O]
     have hN:=qa6 (z:=z) (q:=z.natAbs/2^tz z.natAbs);refine⟨(if z<0 then-1 else 1)*(((z.natAbs/2^tz z.natAbs:Nat)):Int),e+(tz z.natAbs:Int),⟨e,O,O,?_⟩,?_,?_,?_,O,?_⟩
     . rw[q9a];unfold sc;rw[show(e+(tz z.natAbs:Int)-e).toNat=tz z.natAbs by omega,Int.mul_assoc]
       have:(((z.natAbs/2^tz z.natAbs:Nat)):Int)*2^tz z.natAbs=(z.natAbs:Int):=by
        conv=>rhs;rw[k2]
        rw[zp1,Int.mul_comm,zl2];rfl
       rw[this,qkr]
     . rw[hmk,hN,decide_eq_decide.2 (lt_sg k1)]
     . intro h0;exact absurd (qlb h0) k1
     . intro _;rw[hN];exact k3
     . rw[hN];omega
def NF.ok {z e w f:Int} (h:NF z e w f):OkD w f:=by
 unfold OkD;rw[h.eq.mk,h.md]
def q3w {n k:Nat} (h:blen n<=k):(lim n).length<=k/32+1:=by
 refine Xc ?_;refine z81 (qbs n) ?_;rw[show(4294967296:Nat)=2^32 by decide,<-Nat.pow_mul]
 exact zQ1 O O
def q2b {n k:Nat} (h:n<2^k):blen n<=k:=by
 by_cases h0:n=0
 . subst h0;rw[qb3];omega
 . rw[J6 h0];exact(zZ3 h0).2 h
def qhk {a:Int} {k:Nat}:blen (a*2^k).natAbs<=k+blen a.natAbs:=by
 by_cases h:a.natAbs=0
 . rw[Ja,h,zG1,qb3];omega
 . rw[Ja,q0l h];omega
def zB_1 (z:Int):(zB z).1=decide (z<0):=rfl
def zB_2 (z:Int):(zB z).2.1=lim z.natAbs:=rfl
def Lm_zB (z:Int):Lm (zB z).2.1:=Qk _
def qbj {z:Int} {k:Nat} (h:blen z.natAbs<=k):(zB z).2.1.length<=k/32+1:=q3w h
def right_eq {m:Nat} (hm:3000000<m) {z:Int} (hz:blen z.natAbs<=1000000) {k:Nat} (hk:k<=1048576):g194 m (zB z).1 (zB z).2.1 (k:Int)=some (zB (z/2^k),(),(),()):=by
 have hl:=qbj hz;obtain⟨m',rfl⟩: ∃m',m=m'+1:=⟨m-1,O⟩;rw[g194,g194L0,bQ,iN' O,bS];dsimp only;by_cases h0:k=0
 . subst h0;rw[show wI (0-((0:Nat):Int))=((0:Nat):Int)from by decide,qdy hm (Lm_zB z) O O,bS,zv_zB]
   dsimp only;rw[show z*2^0=z/2^0 by rw[Int.pow_zero,Int.mul_one,Int.ediv_one]]
 . rw[show wI (0-(k:Int))= -(k:Int) by rw[wQ,wi O O];omega,qfe hm (Lm_zB z) O O O,bS,zv_zB,zl2]
   rfl
def qk6 {z:Int} (h:z≠0):zB (z/2^tz z.natAbs)=(decide (z<0),lim (z.natAbs/2^tz z.natAbs),()):=by
 obtain⟨k1,k2,k3⟩:=qi3 (n:=z.natAbs) O
 have:z=((if z<0 then-1 else 1)*((z.natAbs/2^tz z.natAbs:Nat):Int))*2^tz z.natAbs:=by
  rw[Int.mul_assoc]
  have:(((z.natAbs/2^tz z.natAbs:Nat)):Int)*2^tz z.natAbs=(z.natAbs:Int):=by
   conv=>rhs;rw[k2]
   rw[zp1,Int.mul_comm,zl2];rfl
  rw[this,qkr]
 have h2:z/2^tz z.natAbs=(if z<0 then-1 else 1)*((z.natAbs/2^tz z.natAbs:Nat):Int):=by
  conv=>lhs;arg 1;rw[this]
  rw[Int.mul_ediv_cancel];have:=q14 (tz z.natAbs);omega
 have h3:=lt_sg (z:=z) k1;have h4:=qa6 (z:=z) (q:=z.natAbs/2^tz z.natAbs);rw[<-h2]at h3 h4;unfold zB;rw[h4,decide_eq_decide.2 h3.symm]
theorem Zb {z:Int}:sgn z=0↔z=0:=by unfold sgn;repeat' split
                                   all_goals omega
def qf2 {n:Nat}:tz n<=blen n:=by
 by_cases h:n=0
 . subst h;rw[qlm];omega
 . rw[qgo h];omega
def qhn {m:Nat} (hm:3000000<m) {z:Int} (hz:blen z.natAbs<=900000) {e:Int} (h1: -1000000000<=e) (h2:e<=1000000000):g114 m false (zB z).1 (zB z).2.1 e=some ((mkD z e,decide (OkD z e),()),(),()):=by
 have hl:=qbj hz;have hS:Sz (zB z).2.1:=⟨Lm_zB z,O⟩;have hv:vl (zB z).2.1=z.natAbs:=Ql _;rw[g114,cond_false,qgd O hS,bS,zv_zB];dsimp only;rw[qd2 O hS,bS,zv_zB,bif_eq];dsimp only;by_cases h:z=0
 . subst h;rw[iP (Zb.2 rfl)];rfl
 . have hn:z.natAbs≠0:=O;have ht:=qf2 (n:=z.natAbs);rw[iN' (λe=>h (Zb.1 e)),q4d O hS O,bS,qit O hS,bS,hv]
   dsimp only
   rw[show wI (65536-((blen z.natAbs:Nat):Int))=65536-((blen z.natAbs:Nat):Int) by rw[wQ,wi O O],
    show wI ((-65536)-((tz z.natAbs:Nat):Int))=(-65536)-((tz z.natAbs:Nat):Int) by rw[wQ,wi O O],
    show wI (e+((tz z.natAbs:Nat):Int))=e+((tz z.natAbs:Nat):Int) by rw[wQ,wi O O],
    bQ,bQ,right_eq hm O O,bS,qk6 h]
   by_cases hk:OkD z e
   . rcases q97.1 hk with h0|⟨k1,k2⟩
     . exact absurd h0 h
     . rw[iN' O,iN' O,decide_eq_true hk];unfold mkD;rw[iN' h,iN' O]
   . have hk2: ¬(e+(blen z.natAbs:Int)<=65536/\ -65536<=e+(tz z.natAbs:Int)):=λc=>hk (q97.2 (Or.inr c))
     rw[qmo hk,decide_eq_false hk];by_cases c:e>65536-((blen z.natAbs:Nat):Int)
     . rw[iP c];rfl
     . rw[iN' c,iP O];rfl
def qhh {m:Nat} (hm:3000000<m) {z:Int} (hz:blen z.natAbs<=900000) {e:Int} (h1: -1000000000<=e) (h2:e<=1000000000):g113 m (zB z).1 (zB z).2.1 e=some (mkD z e,(),(),()):=by
 rw[g113,qhn hm hz h1 h2];rfl
def qmg {m:Nat} (hm:3000000<m) {z e:Int} (h:OkD z e):g114 m (mkD z e).1 (mkD z e).2.1 (mkD z e).2.2.1 (mkD z e).2.2.2.1=some ((mkD z e,true,()),(),()):=by
 obtain⟨w,f,k⟩:=h.nf;rw[k.md];have:=qhn hm (z:=w) (by have:=k.len;omega) (e:=f) (by have:=k.lo;omega) (by have:=k.hi;omega)
 rw[zB_1,zB_2]at this;rw[this,k.eq.mk,k.md,decide_eq_true k.ok]
def qgg {z e:Int} (h:OkD z e): ∃w f,NF z e w f/\(mkD z e).2.1=(zB w).1/\(mkD z e).2.2.1=(zB w).2.1/\(mkD z e).2.2.2.1=f:=by
 obtain⟨w,f,k⟩:=h.nf;refine⟨w,f,k,?_⟩;rw[k.md];exact⟨rfl,rfl,rfl⟩
def NF.Sz {z e w f:Int} (h:NF z e w f):Vs.F.Sz (zB w).2.1:=⟨Lm_zB w,by have:=qbj h.len;omega⟩
def NF.sgn {z e w f:Int} (h:NF z e w f):Vs.F.sgn w=Vs.F.sgn z:=h.eq.sgn
def qe4 {m:Nat} (hm:3000000<m) {z e:Int} (h:OkD z e):g42 m (mkD z e).1 (mkD z e).2.1 (mkD z e).2.2.1 (mkD z e).2.2.2.1=some (sgn z,(),()):=by
 obtain⟨w,f,k,k1,k2,k3⟩:=qgg h;rw[g42,qmg hm h,bS];dsimp only;rw[k1,k2,qd2 O k.Sz,bS,zv_zB,k.sgn]
def take_snoc {l:LI} {k:Nat} (hk:k<l.length) {x:Int} (ex:l.getD k 0=x):l.take (k+1)=l.take k++[x]:=by
 rw[List.take_add_one,<-ex,List.getD,List.getElem?_eq_getElem hk];rfl
def SzB {z:Int} (h:blen z.natAbs<=1000000):Sz (zB z).2.1:=⟨Lm_zB z,by have:=qbj h;omega⟩
def fexp (f:Int):Int:=f/4503599627370496%2048
def ffrac (f:Int):Int:=f%4503599627370496
def fneg (f:Int):Bool:=decide (9223372036854775808<=f)
def ofZ (f:Int):Int:=(if fneg f then-1 else 1)*(if fexp f=0 then ffrac f else ffrac f+4503599627370496)
def ofE (f:Int):Int:=if fexp f=0 then-1074 else fexp f-1075
def FinF (f:Int):Prop:=fexp f≠2047
instance {f:Int}:Decidable (FinF f):=inferInstanceAs (Decidable (_≠_))
def U64 (f:Int):Prop:=0<=f/\f<18446744073709551616
def ofD (f:Int):Bool×Bool×LI×Int×Unit:=if FinF f then mkD (ofZ f) (ofE f)else(true,false,[],0,())
def qg4 (f:Int):0<=fexp f/\fexp f<2048:=by unfold fexp;omega
def qdx (f:Int):0<=ffrac f/\ffrac f<4503599627370496:=by unfold ffrac;omega
def parts_eq {m:Nat} {f:Int} (h:U64 f):g110 m f=some ((fexp f,ffrac f,()),(),()):=by
 obtain⟨n,rfl⟩: ∃n:Nat,f=(n:Int):=⟨f.toNat,by have:=h.1;omega⟩
 have hn:n<18446744073709551616:=by have:=h.2;omega
 have e1:shr_ .u64 (n:Int) 52=((n/4503599627370496:Nat):Int):=shr64 (a:=n) (k:=52) O;have e2:=and64 (a:=n/4503599627370496) (b:=2047) O O;have e3:=and64 (a:=n) (b:=4503599627370495) hn O;rw[show((2047:Nat):Int)=2047 from rfl,show(2047:Nat)=2^11-1 by decide,zU1]at e2
 rw[show((4503599627370495:Nat):Int)=4503599627370495 from rfl,show(4503599627370495:Nat)=2^52-1 by decide,zU1]at e3
 rw[g110,e1,e2,e3,wQ,wi O O];unfold fexp ffrac;congr 3<;>omega
def qly {m:Nat} {f:Int} (h:U64 f):g82 m f=some (decide (FinF f),(),()):=by
 rw[g82,parts_eq h,bS];dsimp only;by_cases c:FinF f
 . rw[decide_eq_true c,show(fexp f !=2047)=true by simpa [FinF]using c]
 . rw[decide_eq_false c,show(fexp f !=2047)=false by simpa [FinF]using c]
def qmf {n:Nat} (h:n<18446744073709551616):qo .u64 (n:Int) 9223372036854775808=if 9223372036854775808<=n then 9223372036854775808 else 0:=by
 have e:=and64 (a:=n) (b:=9223372036854775808) h O;rw[show((9223372036854775808:Nat):Int)=9223372036854775808 from rfl]at e
 rw[e]
 have hb:n&&&9223372036854775808=if n.testBit 63 then 9223372036854775808 else 0:=by
  rw[show(9223372036854775808:Nat)=2^63 by decide]
  apply Nat.eq_of_testBit_eq;intro i;rw[zz2,zR2];by_cases c:63=i
  . subst c;cases hb:n.testBit 63
    . simp
    . rw[iP rfl,zR2];simp
  . cases hb:n.testBit 63
    . simp[c]
    . rw[iP rfl,zR2];simp[c]
 have ht:n.testBit 63=decide (9223372036854775808<=n):=by
  rw[Nat.testBit_eq_decide_div_mod_eq];rw[show(2:Nat)^63=9223372036854775808 by decide]
  by_cases c:9223372036854775808<=n
  . rw[decide_eq_decide];omega
  . rw[decide_eq_decide];omega
 rw[hb,ht];by_cases c:9223372036854775808<=n
 . simp[c]
 . simp[c]
def qca {m:Nat} {f:Int} (h:U64 f):g112 m f=some (fneg f,(),()):=by
 obtain⟨n,rfl⟩: ∃n:Nat,f=(n:Int):=⟨f.toNat,by have:=h.1;omega⟩
 have hn:n<18446744073709551616:=by have:=h.2;omega
 rw[g112,qmf hn];unfold fneg;by_cases c:9223372036854775808<=n
 . rw[iP c,show decide ((9223372036854775808:Int)<=(n:Int))=true by rw[decide_eq_true_eq];omega];rfl
 . rw[iN' c,show decide ((9223372036854775808:Int)<=(n:Int))=false by rw[decide_eq_false_iff_not];omega];rfl
def qie {x:Int} (h1:0<=x) (h2:x<4503599627370496):b_or_ .u64 x 4503599627370496=x+4503599627370496:=by
 obtain⟨n,rfl⟩: ∃n:Nat,x=(n:Int):=⟨x.toNat,O⟩;have h:=or64 (a:=n) (b:=4503599627370496) O O;rw[show((4503599627370496:Nat):Int)=4503599627370496 from rfl]at h
 rw[h];have:=zC2 (i:=52) (b:=n) O 1;rw[Nat.or_comm,show(4503599627370496:Nat)=2^52*1 by decide,<-this]
 omega
def qi2 (f:Int):blen (ofZ f).natAbs<=53:=by
 apply q2b;have h1:=qdx f;have c:(2:Nat)^53=9007199254740992:=by decide
 unfold ofZ;cases fneg f<;>(split<;>simp<;>omega)
def qec {f:Int}: -1074<=ofE f/\ofE f<=972:=by
 have:=qg4 f;unfold ofE;split<;>omega
def Of_eq {m:Nat} (hm:3000000<m) {f:Int} (h:U64 f):g41 m f=some (ofD f,(),()):=by
 rw[g41,parts_eq h,bS,bif_eq,bif_eq];dsimp only;have h1:=qg4 f;have h2:=qdx f;have hl:=qi2 f;have he:=qec (f:=f);unfold ofD;by_cases c:fexp f=2047
 . rw[iP c,iN' (λh=>h c)]
 . have hF:FinF f:=c;rw[iN' c,iP hF,qca h,qie h2.1 h2.2]
   have run: ∀(q:Int) (ex:Int),0<=q->q<9007199254740992->ofZ f=(if fneg f then-1 else 1)*q->ofE f=ex->
    ((g111 m (wI q)).bind λy2=>(some (fneg f,(),()):Option (Bool×Unit×Unit)).bind λy3=>bif y3.1 then
      (g50 m y2.1.1 y2.1.2.1).bind λy4=>(g113 m y4.1.1 y4.1.2.1 ex).bind λy5=>some ((y5.1.1,y5.1.2.1,y5.1.2.2.1,y5.1.2.2.2.1,()),((),()))
    else(g113 m y2.1.1 y2.1.2.1 ex).bind λy6=>some ((y6.1.1,y6.1.2.1,y6.1.2.2.1,y6.1.2.2.2.1,()),((),())))=some (mkD (ofZ f) (ofE f),(),()):=by
    intro q ex q1 q2 eq ee
    have hq:blen q.natAbs<=53:=by
     rw[eq]at hl;cases hf:fneg f<;>rw[hf]at hl<;>simpa using hl
    rw[wQ,wi O O,q70 O O O,bS,bS];dsimp only;cases hf:fneg f with
    |false=>
     rw[hf]at eq;rw[cond_false,qhh hm O O O,eq,ee,iN' (by simp),Int.one_mul];rfl
    |true=>
     rw[hf]at eq;rw[cond_true,ql0 O (SzB O),zv_zB,bS];dsimp only;rw[qhh hm (by rw[Int.natAbs_neg];omega) O O,eq,ee,iP rfl,Int.neg_one_mul];rfl
   by_cases c0:fexp f=0
   . rw[iP c0];exact run _ _ h2.1 O (by unfold ofZ;rw[iP c0]) (by unfold ofE;rw[iP c0])
   . rw[iN' c0,show wI (fexp f-1075)=fexp f-1075 by rw[wQ,wi O O]]
     exact run _ _ O O (by unfold ofZ;rw[iN' c0]) (by unfold ofE;rw[iN' c0])
def qct {f:Int} (h:U64 f):finB f=decide (FinF f):=by
 have e1:=qly (m:=0) h;rw[q5y]at e1;have:=Option.some.inj e1;exact(Prod.mk.inj this).1
def qnq {f:Int} (h:FinF f):OkD (ofZ f) (ofE f):=by
 have hl:=qi2 f;have he:=qec (f:=f);exact q97.2 (Or.inr ⟨O,O⟩)
def NF.lim {z e w f:Int} (h:NF z e w f):(zB w).2.1.length<=10000:=by have:=qbj h.len;omega
def qjs {w f b:Int} (h:b<=f):blen (sc w f b).natAbs<=(f-b).toNat+blen w.natAbs:=by
 unfold sc;exact qhk
end Go.Vs.F
