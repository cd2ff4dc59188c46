import Derived.Test.YtfleaheoikmdgaaGreatDoorLf
set_option linter.unusedVariables false
set_option linter.unusedSimpArgs false
set_option linter.unusedSectionVars false
set_option linter.defProp false
namespace Go.Vs.F
def qje {a:Int} {k:Nat}:Int.fdiv a (2^k)=a/2^k:=
 Int.fdiv_eq_ediv_of_nonneg _ (by exact zk3 (Int.pow_pos O))
def qdx {n:Nat} (h:n<18446744073709551616):n&&&9223372036854775808=if 9223372036854775808<=n then 9223372036854775808 else 0:=by
 have hb:n&&&9223372036854775808=if n.testBit 63 then 9223372036854775808 else 0:=by
  rw[show(9223372036854775808:Nat)=2^63 by decide]
  apply zY2;intro i;rw[zV2,zd1];by_cases c:63=i
  . subst c;cases hb:n.testBit 63
    . simp
    . rw[iP rfl,zd1];simp
  . cases hb:n.testBit 63
    . simp[c]
    . rw[iP rfl,zd1];simp[c]
 have ht:n.testBit 63=decide (9223372036854775808<=n):=by
  rw[Nat.testBit_eq_decide_div_mod_eq];rw[show(2:Nat)^63=9223372036854775808 by decide]
  by_cases c:9223372036854775808<=n
  . rw[decide_eq_decide];omega
  . rw[decide_eq_decide];omega
 rw[hb,ht];by_cases c:9223372036854775808<=n
 . simp[c]
 . simp[c]
def qga: ∀(k a b:Nat),a<2^k->b<2^k->a+b=2*(a&&&b)+(a^^^b)
 |0,a,b,ha,hb=>by
  have:a=0:=by simpa using ha
  have:b=0:=by simpa using hb
  subst a;subst b;rfl
 |k+1,a,b,ha,hb=>by
  have ih:=qga k (a/2) (b/2) (by rw[zD1]at ha;omega) (by rw[zD1]at hb;omega)
  have e1:(a&&&b)/2=a/2&&&b/2:=Nat.and_div_two;have e2:(a^^^b)/2=a/2^^^b/2:=Nat.xor_div_two
  have m1:(a&&&b)%2=a%2*(b%2):=by
   have h:=Nat.and_mod_two_pow (a:=a) (b:=b) (n:=1);rw[Nat.pow_one]at h;rw[h];rcases zo1 a with h1|h1<;>rcases zo1 b with h2|h2<;>rw[h1,h2]<;>rfl
  have m2:(a^^^b)%2=(a%2+b%2)%2:=by
   have h:=Nat.xor_mod_two_pow (a:=a) (b:=b) (n:=1);rw[Nat.pow_one]at h;rw[h];rcases zo1 a with h1|h1<;>rcases zo1 b with h2|h2<;>rw[h1,h2]<;>rfl
  rw[<-e1,<-e2]at ih;rcases zo1 a with h1|h1<;>rcases zo1 b with h2|h2<;>rw[h1,h2]at m1 m2<;>omega
def qn0 {a b:Nat} (ha:a<18446744073709551616) (hb:b<18446744073709551616):
 (a&&&b)<18446744073709551616/\(a^^^b)<18446744073709551616/\
 (9223372036854775808<=(a&&&b)↔9223372036854775808<=a/\9223372036854775808<=b)/\
 (9223372036854775808<=(a^^^b)↔ ¬(9223372036854775808<=a↔9223372036854775808<=b)):=by
 have h1:(a&&&b)<2^64:=zn1 zW3 ha;have h2:(a^^^b)<2^64:=Nat.xor_lt_two_pow ha hb
 have t: ∀n:Nat,n<18446744073709551616->(9223372036854775808<=n↔n.testBit 63=true):=by
  intro n hn;rw[Nat.testBit_eq_decide_div_mod_eq,decide_eq_true_eq,show(2:Nat)^63=9223372036854775808 by decide]
  omega
 refine⟨h1,h2,?_,?_⟩
 . rw[t _ h1,t _ ha,t _ hb,zV2,zF]
 . rw[t _ h2,t _ ha,t _ hb,Nat.testBit_xor];cases a.testBit 63<;>cases b.testBit 63<;>simp
def lowF (f:Int):Int:=f%9223372036854775808
def keyF (f:Int):Int:=if 9223372036854775808<=f then-lowF f else lowF f
def nanB (f:Int):Bool:=decide (9218868437227405312<lowF f)
def inK (k:Int):Prop:= -9218868437227405312<=k/\k<=9218868437227405312
instance {k:Int}:Decidable (inK k):=inferInstanceAs (Decidable (_/\_))
def fields {f:Int} (h:U64 f):qo .u64 (shr_ .u64 f 52) 2047=f/4503599627370496%2048/\qo .u64 f 4503599627370495=f%4503599627370496:=by
 obtain⟨n,rfl⟩: ∃n:Nat,f=(n:Int):=⟨f.toNat,by have:=h.1;omega⟩
 have hn:n<18446744073709551616:=by have:=h.2;omega
 have e1:shr_ .u64 (n:Int) 52=((n/4503599627370496:Nat):Int):=by
  unfold shr_;rw[show min (52:Int).toNat (IntKind.u64.bits)=52 by decide,qje];rfl
 have e2:=and64 (a:=n/4503599627370496) (b:=2047) O O;have e3:=and64 (a:=n) (b:=4503599627370495) hn O;rw[show((2047:Nat):Int)=2047 from rfl,show(2047:Nat)=2^11-1 by decide,zJ1]at e2
 rw[show((4503599627370495:Nat):Int)=4503599627370495 from rfl,show(4503599627370495:Nat)=2^52-1 by decide,zJ1]at e3
 rw[e1,e2,e3];constructor<;>omega
def tops {f:Int} (h:U64 f):qo .u64 f 9223372036854775808=(if 9223372036854775808<=f then 9223372036854775808 else 0)/\Zo .u64 f 9223372036854775808=lowF f/\
 Zw .u64 f 9223372036854775808=(if 9223372036854775808<=f then f-9223372036854775808 else f+9223372036854775808)/\b_or_ .u64 f 9223372036854775808=lowF f+9223372036854775808:=by
 obtain⟨n,rfl⟩: ∃n:Nat,f=(n:Int):=⟨f.toNat,by have:=h.1;omega⟩
 have hn:n<18446744073709551616:=by have:=h.2;omega
 have ha:=qdx hn;have hs:=qga 64 n 9223372036854775808 hn O;obtain⟨p1,p2,-,-⟩:=qn0 hn (show 9223372036854775808<18446744073709551616 by omega)
 have hx:(n^^^9223372036854775808)=if 9223372036854775808<=n then n-9223372036854775808 else n+9223372036854775808:=by
  split at ha<;>split<;>omega
 have ho:(n|||9223372036854775808)=n%9223372036854775808+9223372036854775808:=by
  have hl:n%9223372036854775808<2^63:=O;have e:=zT1 hl 1;rw[zk1]at e
  have e2:n|||9223372036854775808=9223372036854775808|||n%9223372036854775808:=by
   apply zY2;intro i;rw[show(9223372036854775808:Nat)=2^63 by decide]
   simp only[za3,zd1,Nat.testBit_mod_two_pow];by_cases c:i<63
   . simp[c,Bool.or_comm]
   . by_cases d:63=i
     . simp[d]
     . have:n.testBit i=false:=Nat.testBit_lt_two_pow (zA2 hn (by
        rw[show(18446744073709551616:Nat)=2^64 by decide];exact zZ O O))
       simp[c,d,this]
  rw[e2];rw[show(9223372036854775808:Nat)=2^63 by decide,<-e];omega
 have e1:=and64 hn (show 9223372036854775808<18446744073709551616 by omega)
 have n1:(BitVec.ofInt 64 (n:Int)).toNat=n:=ofInt64 hn;have n2:(BitVec.ofInt 64 9223372036854775808).toNat=9223372036854775808:=ofInt64 (a:=9223372036854775808) O;refine⟨?_,?_,?_,?_⟩
 . rw[show((9223372036854775808:Nat):Int)=9223372036854775808 from rfl]at e1
   rw[e1,ha];split<;>split<;>omega
 . unfold Zo lowF;show IntKind.wrap .u64 ((BitVec.ofInt 64 (n:Int)&&& ~~~(BitVec.ofInt 64 9223372036854775808)).toNat:Int)=_
   have e:(BitVec.ofInt 64 (n:Int)&&& ~~~(BitVec.ofInt 64 9223372036854775808)).toNat=n%9223372036854775808:=by
    rw[BitVec.toNat_and,n1,show(~~~(BitVec.ofInt 64 9223372036854775808)).toNat=2^63-1 by decide,zJ1]
   rw[e,wu O O];omega
 . unfold Zw;show IntKind.wrap .u64 ((BitVec.ofInt 64 (n:Int)^^^BitVec.ofInt 64 9223372036854775808).toNat:Int)=_;rw[BitVec.toNat_xor,n1,n2,hx,wu (by split<;>omega) (by split<;>omega)]
   split<;>split<;>omega
 . unfold b_or_ lowF;show IntKind.wrap .u64 ((BitVec.ofInt 64 (n:Int)|||BitVec.ofInt 64 9223372036854775808).toNat:Int)=_
   rw[BitVec.toNat_or,n1,n2,ho,wu O O];omega
def qoz {f:Int} (h:U64 f):9218868437227405312<lowF f↔f/4503599627370496%2048=2047/\f%4503599627370496≠0:=by
 unfold lowF;have:=h.1;have:=h.2;omega
def q9o {m:Nat} {f:Int} (h:U64 f): ∃k,g63 m f=some (k,(),())/\g55 m f=some (k,(),())/\(k=3↔nanB f=true):=by
 have hf:=fields h;have hn:=qoz h;have hl:0<=f/4503599627370496%2048/\f/4503599627370496%2048<2048:=O;unfold nanB;rw[decide_eq_true_eq,hn,g63,g44,g55,hf.1,hf.2,bS,wQ,wi O O];dsimp only;simp only[bif_eq,bif_ne];generalize f/4503599627370496%2048=a;generalize f%4503599627370496=b;by_cases c:a=2047
 . by_cases d:b=0
   . exact⟨2,by simp[c,d],by simp[c,d],by simp[c,d]⟩
   . exact⟨3,by simp[c,d],by simp[c,d],by simp[c,d]⟩
 . by_cases e:a=0
   . by_cases d:b=0
     . exact⟨0,by simp[e,d],by simp[e,d],by simp[e,d]⟩
     . exact⟨1,by simp[e,d],by simp[e,d],by simp[e,d]⟩
   . exact⟨1,by simp[c,e],by simp[c,e],by simp[c,e]⟩
def q4y {m:Nat} {f:Int} (h:U64 f):g26 m f=some (nanB f,(),()):=by
 obtain⟨k,-,h2,h3⟩:=q9o (m:=m) h;rw[g26,h2,bS];dsimp only;by_cases c:k=3
 . rw[h3.1 c,c];rfl
 . rw[show(k==3)=false by simpa using c]
   cases hb:nanB f
   . rfl
   . exact absurd (h3.2 hb) c
def Yg (f:Int):0<=lowF f/\lowF f<9223372036854775808:=by unfold lowF;omega
def cmpR (a b:Int):Int×Bool×Unit:=if nanB a then(0,false,())else if nanB b then(0,false,())else(if keyF a<keyF b then-1 else if keyF a>keyF b then 1 else 0,true,())
end Go.Vs.F
set_option maxRecDepth 100000
namespace Go.Vs.F
def qbx {f:Int} (h:U64 f):kindN f=3↔nanB f=true:=by
 obtain⟨k,h1,h2,h3⟩:=q9o (m:=0) h;have:=(q0q (m:=0) h).1;rw[this]at h1;have e:kindN f=k:=by injection h1 with h1;exact congrArg Prod.fst h1
 rw[e];exact h3
end Go.Vs.F
set_option maxRecDepth 100000
namespace Go.Vs.F
def gv (k:Nat):Nat:=if k/4503599627370496=0 then k else(k%4503599627370496+4503599627370496)*2^(k/4503599627370496-1)
def gv_lt {k l:Nat} (h:k<l):gv k<gv l:=by
 unfold gv;by_cases c1:k/4503599627370496=0
 . rw[iP c1];by_cases c2:l/4503599627370496=0
   . rw[iP c2];exact h
   . rw[iN' c2];have:=Nat.le_mul_of_pos_right (l%4503599627370496+4503599627370496) (zn (n:=l/4503599627370496-1) (show 0<2 by decide))
     omega
 . rw[iN' c1,iN' O];by_cases c2:k/4503599627370496=l/4503599627370496
   . rw[c2];exact Nat.mul_lt_mul_of_pos_right O (zn (by decide))
   . have hp:2^(l/4503599627370496-1)=2^(k/4503599627370496-1)*2*2^(l/4503599627370496-1-(k/4503599627370496-1)-1):=by
      rw[<-Nat.pow_succ,<-Nat.pow_add];congr 1;omega
     have h1:(k%4503599627370496+4503599627370496)*2^(k/4503599627370496-1)<4503599627370496*(2^(k/4503599627370496-1)*2):=by
      have hpp:=zn (n:=k/4503599627370496-1) (show 0<2 by decide)
      have:(k%4503599627370496+4503599627370496)*2^(k/4503599627370496-1)<(4503599627370496*2)*2^(k/4503599627370496-1):=Nat.mul_lt_mul_of_pos_right O hpp;rw[zk,zh 2]at this;exact this
     have h2:4503599627370496*(2^(k/4503599627370496-1)*2)<=(l%4503599627370496+4503599627370496)*2^(l/4503599627370496-1):=by
      rw[hp];refine zD2 O ?_;exact Nat.le_mul_of_pos_right _ (zn (by decide))
     omega
def gv_le {k l:Nat} (h:k<=l):gv k<=gv l:=by
 rcases zq k l with c|c
 . exact zv2 (gv_lt c)
 . rw[Nat.le_antisymm h c];exact zD _
def Zi {f:Int} (h:U64 f) (hf:FinF f):valF f=if 9223372036854775808<=f then-((gv (lowF f).toNat:Nat):Int)else((gv (lowF f).toNat:Nat):Int):=by
 obtain⟨k,hk⟩: ∃k:Nat,lowF f=(k:Int):=⟨(lowF f).toNat,by have:=Yg f;omega⟩
 have e1:fexp f=((k/4503599627370496:Nat):Int):=by unfold fexp;unfold lowF at hk;omega
 have e2:ffrac f=((k%4503599627370496:Nat):Int):=by unfold ffrac;unfold lowF at hk;omega
 rw[hk,tN];unfold valF sc ofZ ofE fneg gv;rw[e1,e2]
 have key: ∀s:Int,s*(if((k/4503599627370496:Nat):Int)=0 then((k%4503599627370496:Nat):Int)else((k%4503599627370496:Nat):Int)+4503599627370496)*2^((if((k/4503599627370496:Nat):Int)=0 then-1074 else((k/4503599627370496:Nat):Int)-1075)- -1074).toNat=s*(((if k/4503599627370496=0 then k else(k%4503599627370496+4503599627370496)*2^(k/4503599627370496-1)):Nat):Int):=by
  intro s;by_cases c:k/4503599627370496=0
  . rw[iP O,iP O,iP c,show((-1074:Int)- -1074).toNat=0 by decide,Int.pow_zero,ze3]
    congr 2;omega
  . rw[iN' O,iN' O,iN' c,zB3,zi1,zV1];congr 2
    . congr 1;omega
 by_cases c:9223372036854775808<=f
 . rw[decide_eq_true c,iP c,iP rfl,key,Int.neg_one_mul]
 . rw[decide_eq_false c,iN' c,iN' (by decide),key,zo3]
def qlp {x y:Int} (hx:U64 x) (hy:U64 y) (fx:FinF x) (fy:FinF y) (h:keyF x<keyF y):valF x<valF y:=by
 rw[Zi hx fx,Zi hy fy];have hl:=Yg x;have hm:=Yg y;unfold keyF at h;have g0: ∀k:Nat,0<k->0<gv k:=λk hk=>zn1 (zc1 _) (gv_lt hk)
 by_cases c:9223372036854775808<=x
 . rw[iP c]at h⊢;by_cases d:9223372036854775808<=y
   . rw[iP d]at h⊢;have:=gv_lt (k:=(lowF y).toNat) (l:=(lowF x).toNat) O;omega
   . rw[iN' d]at h⊢;by_cases e:lowF x=0
     . have:=g0 (lowF y).toNat O;omega
     . have:=g0 (lowF x).toNat O;omega
 . rw[iN' c]at h⊢;by_cases d:9223372036854775808<=y
   . rw[iP d]at h;omega
   . rw[iN' d]at h⊢;have:=gv_lt (k:=(lowF x).toNat) (l:=(lowF y).toNat) O;omega
def qqm {x y:Int} (hx:U64 x) (hy:U64 y) (fx:FinF x) (fy:FinF y) (h:keyF x=keyF y):valF x=valF y:=by
 rw[Zi hx fx,Zi hy fy];have hl:=Yg x;have hm:=Yg y;unfold keyF at h;have g0:gv 0=0:=rfl;by_cases c:9223372036854775808<=x
 . rw[iP c]at h⊢;by_cases d:9223372036854775808<=y
   . rw[iP d]at h⊢;rw[show lowF x=lowF y by omega]
   . rw[iN' d]at h⊢;rw[show lowF x=0 by omega,show lowF y=0 by omega];rfl
 . rw[iN' c]at h⊢;by_cases d:9223372036854775808<=y
   . rw[iP d]at h⊢;rw[show lowF x=0 by omega,show lowF y=0 by omega];rfl
   . rw[iN' d]at h⊢;rw[show lowF x=lowF y by omega]
def q1i {x y:Int} (hx:U64 x) (hy:U64 y) (fx:FinF x) (fy:FinF y) (h:keyF x<=keyF y):valF x<=valF y:=by
 rcases Int.lt_or_eq_of_le h with c|c
 . exact zk3 (qlp hx hy fx fy c)
 . exact Int.le_of_eq (qqm hx hy fx fy c)
section
variable {es es':List Ent} {r c:Nat}
def DistE.val (hD:DistE es) {i j v v':Int} (h:((i,(j,v)):Ent)∈es) (h':((i,(j,v')):Ent)∈es):v=v':=by
 obtain⟨k,hk,e⟩:=q2i h;obtain⟨k',hk',e'⟩:=q2i h';have:=hD k k' hk hk' (by rw[e,e']) (by rw[e,e'])
 subst this;rw[e]at e';cases e';rfl
def q3g {i j:Nat} (h:0<Q7 es i j es.length):(((i:Int),((j:Int),(es.getD (Q7 es i j es.length-1) zE).2.2)):Ent)∈es:=by
 obtain⟨g1,g2,g3⟩:=q5f h;rw[show((i:Int),((j:Int),(es.getD (Q7 es i j es.length-1) zE).2.2))=es.getD (Q7 es i j es.length-1) zE by rw[<-g2,<-g3]]
 simp[List.getD,g1]
def q8w {i j:Nat}:0<Q7 es i j es.length↔ ∃v,(((i:Int),((j:Int),v)):Ent)∈es:=by
 constructor
 . intro h;exact⟨_,q3g h⟩
 . rintro ⟨v,h⟩
   obtain⟨k,hk,e⟩:=q2i h;exact q6x hk (by rw[e]) (by rw[e])
def qib (hD:DistE es) (hp: ∀x,x∈es↔x∈es') (hD':DistE es') (j:Nat):canE es r j=canE es' r j:=by
 have hx: ∀i:Nat,0<Q7 es i j es.length↔0<Q7 es' i j es'.length:=λi=>by
  rw[q8w,q8w];exact⟨λ⟨v,h⟩=>⟨v,(hp _).1 h⟩,λ⟨v,h⟩=>⟨v,(hp _).2 h⟩⟩
 have hc:colR es j 0 r=colR es' j 0 r:=List.filter_congr λi _=>by rw[decide_eq_decide];exact hx i
 unfold canE;rw[<-hc];refine zx1 λi hi=> ?_
 have h1:=of_decide_eq_true (zR1.1 hi).2;have h2:=(hx i).1 h1;rw[hD.val (q3g h1) ((hp _).2 (q3g h2))]
def qjn (hD:DistE es) (hp: ∀x,x∈es↔x∈es') (hD':DistE es'): ∀j,can es r j=can es' r j
 |0=>rfl
 |j+1=>by rw[can,can,qjn hD hp hD' j,qib hD hp hD' j]
def q4h {α:Type} {A B D:List α} {k:Nat} {d:α} (hk:k<B.length):(A++B++D).getD (A.length+k) d=B.getD k d:=by
 have: ¬A.length+k<A.length:=O;simp[List.getD,List.getElem?_append,hk,this]
def qfb {j:Nat} (hj:j<c): ∃zs,packI es r c=packI es r j++colI es j 0 r++zs:=by
 obtain⟨zs,e⟩:=q3b (es:=es) (r:=r) (t:=j+1) (c-(j+1));rw[show j+1+(c-(j+1))=c by omega]at e
 exact⟨zs,by rw[e,packI]⟩
def qd4 {t:Nat}: ∀d,∃zs,packV es r (t+d)=packV es r t++zs
 |0=>⟨[],by simp⟩
 |d+1=>by
  obtain⟨zs,h⟩:=qd4 (t:=t) d;exact⟨zs++colV es (t+d) 0 r,by rw[<-Nat.add_assoc,packV,h,zG1]⟩
def qe7 {j:Nat} (hj:j<c): ∃zs,packV es r c=packV es r j++colV es j 0 r++zs:=by
 obtain⟨zs,e⟩:=qd4 (es:=es) (r:=r) (t:=j+1) (c-(j+1));rw[show j+1+(c-(j+1))=c by omega]at e
 exact⟨zs,by rw[e,packV]⟩
def qe0 {j:Nat} (hj:j<c):Yf (packS es r c) (packI es r c) (packV es r c) j ((packS es r c).getD j 0).toNat ((packS es r c).getD (j+1) 0).toNat=canE es r j:=by
 rw[Yp O,Yp O,tN,tN]
 have hl:(packI es r (j+1)).length-(packI es r j).length=(colR es j 0 r).length:=by
  rw[packI,zO];simp[colI]
 unfold Yf canE;rw[hl];obtain⟨zs,e⟩:=qfb (es:=es) (r:=r) hj;obtain⟨ws,e'⟩:=qe7 (es:=es) (r:=r) hj;refine zS3 (by simp) λk h1 h2=> ?_
 simp only[zh1,List.length_range']at h1;have hk:k<(colR es j 0 r).length:=h1;simp only[zA1,List.getElem_range',zo2]
 have eI:(packI es r c).getD ((packI es r j).length+k) 0=((colR es j 0 r)[k]:Int):=by
  rw[e,q4h (by simp[colI];exact hk)]
  simp[colI,List.getD,hk]
 have eV:(packV es r c).getD ((packI es r j).length+k) 0=(es.getD (Q7 es ((colR es j 0 r)[k]) j es.length-1) zE).2.2:=by
  rw[e',<-Ja es r j,q4h (by simp[colV];exact hk)]
  simp[colV,List.getD,hk]
 rw[eI,eV]
def qc8: ∀(d k:Nat),k+d=c->can es r k++ents (packS es r c) (packI es r c) (packV es r c) d k=can es r c
 |0,k,h=>by
  have:k=c:=O;subst this;simp[ents]
 |d+1,k,h=>by
  have ih:=qc8 d (k+1) O;rw[ents,qe0 O,<-List.append_assoc];exact ih
def q76:ents (packS es r c) (packI es r c) (packV es r c) c 0=can es r c:=by
 have:=qc8 (es:=es) (r:=r) (c:=c) c 0 O;simpa [can]using this
end
section
variable {R C:Nat} {S I V:LI}
end
end Go.Vs.F
set_option maxRecDepth 100000
namespace Go.Vs.F
def qbc {es:List Ent} {k:Nat} (h:k<es.length):es.getD k zE∈es:=by simp[List.getD,h]
structure MV (R C:Nat) (S I V:LI):Prop where
 ok:MatOK R C S I
 vl:V.length=I.length
 chk:chk (R:Int) (C:Int) S I V=0
section
variable {R C:Nat} {S I V:LI}
def MV.ents (h:MV R C S I V):EntsOK R C (ents S I V C 0):=by
 obtain⟨_,_,_,_,_,_,hfin⟩:=qqu h.chk;exact qqb h.ok h.vl hfin
def MV.dist (h:MV R C S I V):DistE (Go.Vs.F.ents S I V C 0):=qbb (qd5 h.ok C 0 O)
def MV.len (h:MV R C S I V):(Go.Vs.F.ents S I V C 0).length<=10000:=by
 rw[qfq h.ok C 0 O O];have:=h.ok.st.rng (j:=C) (zD _);have:=h.ok.sz;omega
def MV.sl (h:MV R C S I V):S.length<=201:=by
 have:=h.ok.st.len;have:=h.ok.cz;omega
end
def getD_take {α:Type} {l:List α} {j k:Nat} {d:α} (h:j<k):(l.take k).getD j d=l.getD j d:=by
 simp[List.getD,List.getElem?_take,h]
end Go.Vs.F
set_option maxRecDepth 100000
namespace Go.Vs.F
section
variable {R C:Nat} {S I V:LI}
def Jm {x:Ent}: ∀{d k:Nat},x∈ents S I V d k↔ ∃j t,k<=j/\j<k+d/\(S.getD j 0).toNat<=t/\t<(S.getD (j+1) 0).toNat/\x=(I.getD t 0,(j:Int),V.getD t 0)
 |0,k=>by
  constructor
  . intro h;simp[ents]at h
  . rintro ⟨j,t,h1,h2,_⟩;omega
 |d+1,k=>by
  rw[ents,zL,Jm (d:=d) (k:=k+1)];constructor
  . rintro (h|⟨j,t,h1,h2,h3⟩)
    . unfold Yf at h;obtain⟨t,ht,rfl⟩:=zM.1 h;rw[zW2]at ht;exact⟨k,t,zD _,O,ht.1,O,rfl⟩
    . exact⟨j,t,O,O,h3⟩
  . rintro ⟨j,t,h1,h2,h3,h4,h5⟩
    by_cases e:j=k
    . subst e;left;unfold Yf;exact zM.2 ⟨t,zW2.2 ⟨h3,O⟩,h5.symm⟩
    . right;exact⟨j,t,O,O,h3,h4,h5⟩
end
end Go.Vs.F
set_option maxRecDepth 100000
namespace Go.Vs.F
def gapL {l x:LI} {k:Nat} (h:k<l.length):(l++x).getD k 0=l.getD k 0:=by simp[List.getD,List.getElem?_append_left h]
def gapR {l x:LI} {k:Nat} (h:l.length<=k):(l++x).getD k 0=x.getD (k-l.length) 0:=by simp[List.getD,List.getElem?_append_right h]
def qpg {l x:LI} (h:FnL l) (h':FnL x):FnL (l++x):=by
 intro i hi;rw[zO]at hi;by_cases c:i<l.length
 . rw[gapL c];exact h i c
 . rw[gapR O];exact h' _ O
structure CX (i:Nat) (X Y:LI):Prop where
 yl:Y.length=X.length
 fn:FnL Y
 sz:X.length<=i
 row: ∀k,k<X.length->0<=X.getD k 0/\X.getD k 0<(i:Int)/\(0<k->X.getD (k-1) 0<X.getD k 0)
def CX.nil:CX 0 [] []:=⟨rfl,qkp,zD _,λk h=>absurd h (zW _)⟩
def CX.skip {i:Nat} {X Y:LI} (h:CX i X Y):CX (i+1) X Y:=⟨h.yl,h.fn,by have:=h.sz;omega,λk hk=>by have:=h.row k hk;exact⟨this.1,O,this.2.2⟩⟩
def CX.snoc {i:Nat} {X Y:LI} (h:CX i X Y) {f:Int} (h1:U64 f) (h2:FinF f):CX (i+1) (X++[(i:Int)]) (Y++[f]):=by
 refine⟨by simp[h.yl],qm7 h.fn h1 h2,by have:=h.sz;simp;omega,λk hk=> ?_⟩
 rw[zO]at hk;have e1:([(i:Int)]:LI).length=1:=rfl;by_cases c:k<X.length
 . have:=h.row k c;rw[gapL c];exact⟨this.1,O,λh0=>by rw[gapL O];exact this.2.2 h0⟩
 . have hk':k=X.length:=O;subst hk';rw[gapR (zD _),zw2];refine⟨by show(0:Int)<=i;omega,by show(i:Int)<((i+1:Nat):Int);omega,λh0=> ?_⟩
   rw[gapL O];exact(h.row _ O).2.1
structure GI (R j:Nat) (S I V:LI):Prop where
 st:StartOK j S I
 col: ∀t,t<j-> ∀k,(S.getD t 0).toNat<=k->k<(S.getD (t+1) 0).toNat->0<=I.getD k 0/\I.getD k 0<(R:Int)/\((S.getD t 0).toNat<k->I.getD (k-1) 0<I.getD k 0)
 vl:V.length=I.length
 fn:FnL V
 sz:I.length<=j*R
def GI.nil {R:Nat}:GI R 0 [0] [] []:=⟨⟨rfl,rfl,λj h=>absurd h (zW _),rfl⟩,λt h=>absurd h (zW _),rfl,qkp,zc1 _⟩
def GI.snoc {R j:Nat} {S I V X Y:LI} (h:GI R j S I V) (hX:CX R X Y):GI R (j+1) (S++[((I++X).length:Int)]) (I++X) (V++Y):=by
 have hl:=h.st.len;have hlast:=h.st.last;have h0:=h.st.s0;have s1:=hX.sz;have ea:(I++X).length=I.length+X.length:=zO;have eL: ∀t,t<=j->(S++[((I++X).length:Int)]).getD t 0=S.getD t 0:=λt ht=>gapL O
 have eR:(S++[((I++X).length:Int)]).getD (j+1) 0=((I++X).length:Int):=by rw[gapR O,show j+1-S.length=0 by omega];rfl
 refine⟨⟨by simp[hl],by rw[eL 0 O];exact h0,λt ht=> ?_,eR⟩,λt ht k hk1 hk2=> ?_,by simp[h.vl,hX.yl],qpg h.fn hX.fn,?_⟩
 . by_cases c:t<j
   . rw[eL t O,eL (t+1) O];exact h.st.mono t c
   . have:t=j:=O;subst this;rw[eL t (zD _),eR,hlast,ea];omega
 . by_cases c:t<j
   . rw[eL t O]at hk1⊢;rw[eL (t+1) O]at hk2;have:=h.st.le (i:=t+1) (j:=j) O (zD _);rw[gapL O];have q:=h.col t c k hk1 hk2;exact⟨q.1,q.2.1,λhs=>by rw[gapL O];exact q.2.2 hs⟩
   . have:t=j:=O;subst this;rw[eL t (zD _)]at hk1⊢;rw[eR]at hk2;rw[hlast]at hk1⊢;rw[gapR O];have q:=hX.row (k-I.length) O;refine⟨q.1,q.2.1,λhs=> ?_⟩
     rw[gapR O,show k-1-I.length=k-I.length-1 by omega]
     exact q.2.2 O
 . have:=h.sz;rw[ea,zi3];omega
def GI.mat {R C:Nat} {S I V:LI} (h:GI R C S I V) (hR:R<=100) (hC:C<=100):MatOK R C S I:=by
 have:C*R<=100*100:=zD2 hC hR;have:=h.sz;refine⟨h.st,λj hj=> ?_,O,O,O⟩
 unfold q09;rw[qy];intro k h1 h2;obtain⟨q1,q2,q3⟩:=h.col j hj k h1 h2;unfold entOK;by_cases c:(S.getD j 0).toNat<k
 . simp only[q1,q2,c,q3 c,decide_true,zf3,zP2,zQ3]
 . simp only[q1,q2,c,decide_true,decide_false,zf3,zL3,zh3]
section
variable {m:Nat} (hm:5000000000<=m) {raw:LI} (hl:raw.length<=9223372036854775807) {R C:Nat} (hR:R<=100) (style:Int)
include hm hl hR
end
end Go.Vs.F
set_option maxRecDepth 100000
namespace Go.Vs.F
def GI.MV {R C:Nat} {S I V:LI} (h:GI R C S I V) (hR:R<=100) (hC:C<=100):MV R C S I V:=by
 have hM:=h.mat hR hC;refine⟨hM,h.vl,?_⟩;have hz:=hM.sz
 have h1:(decide (0<=(R:Int))&&decide ((R:Int)<=200)&&decide (0<=(C:Int))&&decide ((C:Int)<=200)&&decide (I.length<=10000))=true:=by
  simp only[zF,decide_eq_true_eq];omega
 have h2:strB (R:Int) (C:Int) S I V=true:=by
  unfold strB;have a1:((S.length:Int)=(C:Int)+1):=by have:=hM.st.len;omega
  have a2:=hM.st.s0;have a3:Qa (le2 S) 0 (C:Int).toNat=true:=qy.2 λk _ hk=>decide_eq_true (hM.st.mono k O)
  have a4:S.getD (C:Int).toNat 0=(I.length:Int):=hM.st.last;have a6:Qa (λj=>q09 (R:Int) S I j) 0 (C:Int).toNat=true:=qy.2 λk _ hk=>hM.ent k O
  simp only[a1,a2,a3,a4,a6,h.vl,decide_true,zf3]
 have h3:finL V=true:=by
  unfold finL
  exact qy.2 λk _ hk=>by
   obtain⟨u,f⟩:=h.fn k hk;rw[qpv u];exact decide_eq_true f
 unfold chk;rw[h1,h2,h3];rfl
def findA (I V:LI) (i:Int):Nat->Nat->Option Int
 |0,_=>none
 |d+1,k=>if I.getD k 0=i then some (V.getD k 0)else findA I V i d (k+1)
def elA (S I V:LI) (i j:Nat):Int:=(findA I V (i:Int) ((S.getD (j+1) 0).toNat-(S.getD j 0).toNat) (S.getD j 0).toNat).getD 0
section
variable {R C:Nat} {S I V:LI}
end
end Go.Vs.F
set_option maxRecDepth 100000
namespace Go.Vs.F
def q0v {I V:LI} {i v:Int}: ∀{d k:Nat},findA I V i d k=some v-> ∃t,k<=t/\t<k+d/\I.getD t 0=i/\v=V.getD t 0
 |0,k,h=>by rw[findA]at h;cases h
 |d+1,k,h=>by
  rw[findA]at h;by_cases c:I.getD k 0=i
  . rw[iP c]at h;injection h with h
    exact⟨k,zD _,O,c,h.symm⟩
  . rw[iN' c]at h;obtain⟨t,h1,h2,h3⟩:=q0v h;exact⟨t,O,O,h3⟩
def qor:U64 0/\FinF 0:=⟨⟨O,O⟩,by decide⟩
def qk6 {R C:Nat} {S I V:LI} (h:GI R C S I V) (i:Nat) {j:Nat} (hj:j<C):U64 (elA S I V i j)/\FinF (elA S I V i j):=by
 unfold elA;have a:=h.st.rng (j:=j) O;have b:=h.st.rng (j:=j+1) O;have mo:=h.st.mono j hj;cases e:findA I V (i:Int) ((S.getD (j+1) 0).toNat-(S.getD j 0).toNat) (S.getD j 0).toNat with
 |none=>exact qor
 |some v=>
  obtain⟨t,h1,h2,_,h3⟩:=q0v e;subst h3;exact h.fn t (by have:=h.vl;omega)
def syD (S I V:LI) (x:Int) (i j:Nat):Int:=if i=j then valF (elA S I V i i)-valF x else valF (elA S I V (max i j) (min i j))
def qec (S I V:LI) (x:Int) (i j:Nat):syD S I V x i j=syD S I V x j i:=by
 unfold syD;by_cases c:i=j
 . subst c;rfl
 . rw[iN' c,iN' (λh=>c h.symm),Nat.max_comm,Nat.min_comm]
def qqf {n:Nat} {S I V:LI} {x:Int} (h:GI n n S I V) (hx:FinF x) {i j:Nat} (hi:i<n) (hj:j<n):blen (syD S I V x i j).natAbs<=2099:=by
 unfold syD;by_cases c:i=j
 . rw[iP c];exact qmt (q1k (qk6 h i hi).2) (q1k hx)
 . rw[iN' c];exact zT (q1k (qk6 h _ O).2) (by decide)
section
variable {m:Nat} (hm:5000000000<=m) {n:Nat} {S I V:LI} {x:Int} (hG:GI n n S I V) (hn:n<=100) (hxU:U64 x) (hx:FinF x)
include hm hG hn hxU hx
end
end Go.Vs.F
set_option maxRecDepth 100000
namespace Go.Vs.F
def q80 {I V:LI} {i:Int}: ∀{d k:Nat},findA I V i (d+1) k=match findA I V i d k with|some v=>some v|none=>if I.getD (k+d) 0=i then some (V.getD (k+d) 0)else none
 |0,k=>rfl
 |d+1,k=>by
  rw[show findA I V i (d+1+1) k=if I.getD k 0=i then some (V.getD k 0)else findA I V i (d+1) (k+1)from rfl,show findA I V i (d+1) k=if I.getD k 0=i then some (V.getD k 0)else findA I V i d (k+1)from rfl]
  by_cases c:I.getD k 0=i
  . rw[iP c,iP c]
  . rw[iN' c,iN' c,q80 (d:=d) (k:=k+1),show k+1+d=k+(d+1) by omega]
def colP (I V:LI) (s:Nat):Nat->Int->Int
 |0,_=>0
 |d+1,a=>if I.getD (s+d) 0=a then valF (V.getD (s+d) 0)else colP I V s d a
def qkl:valF 0=0:=by decide
def qjs {I V:LI} {a:Int} {s:Nat}: ∀{d:Nat},(∀t t',s<=t->t<t'->t'<s+d->I.getD t 0≠I.getD t' 0)->colP I V s d a=valF ((findA I V a d s).getD 0)
 |0,_=>qkl.symm
 |d+1,h=>by
  rw[colP,q80];by_cases c:I.getD (s+d) 0=a
  . rw[iP c]
    have:findA I V a d s=none:=by
     cases e:findA I V a d s with
     |none=>rfl
     |some v=>
      obtain⟨t,h1,h2,h3,_⟩:=q0v e;exact absurd (h3.trans c.symm) (h t (s+d) h1 h2 O)
    rw[this];dsimp only;rw[iP c];rfl
  . rw[iN' c,qjs (d:=d) (λt t' h1 h2 h3=>h t t' h1 h2 O)]
    cases findA I V a d s with
    |some v=>rfl
    |none=>dsimp only;rw[iN' c]
def cM (S I V:LI) (j d a b:Nat):Int:=if min a b<j then valF (elA S I V (max a b) (min a b))else if min a b=j then colP I V (S.getD j 0).toNat d ((max a b:Nat):Int)else 0
def qkd {S I V:LI} {j d a b:Nat} (h: ¬(min a b=j/\I.getD ((S.getD j 0).toNat+d) 0=((max a b:Nat):Int))):cM S I V j (d+1) a b=cM S I V j d a b:=by
 unfold cM;by_cases c1:min a b<j
 . rw[iP c1,iP c1]
 . rw[iN' c1,iN' c1];by_cases c2:min a b=j
   . rw[iP c2,iP c2,colP,iN' λe=>h ⟨c2,e⟩]
   . rw[iN' c2,iN' c2]
def qrc {S I V:LI} {j d a b:Nat} (h1:min a b=j) (h2:I.getD ((S.getD j 0).toNat+d) 0=((max a b:Nat):Int)):cM S I V j (d+1) a b=valF (V.getD ((S.getD j 0).toNat+d) 0):=by
 unfold cM;rw[iN' O,iP h1,colP,iP h2]
def qoh {S I V:LI} {j d r:Nat} (hr:I.getD ((S.getD j 0).toNat+d) 0=(r:Int)) (hj:j<=r) (a b:Nat):
 (if a=j then(λb=>if b=r then valF (V.getD ((S.getD j 0).toNat+d) 0)else(if j=r then(λb=>if b=j then valF (V.getD ((S.getD j 0).toNat+d) 0)else cM S I V j d r b)else cM S I V j d j) b)else(if a=r then(λb=>if b=j then valF (V.getD ((S.getD j 0).toNat+d) 0)else cM S I V j d r b)else cM S I V j d a)) b=cM S I V j (d+1) a b:=by
 by_cases c:min a b=j/\max a b=r
 . rw[qrc c.1 (by rw[hr,c.2])]
   by_cases c1:a=j
   . rw[iP c1];rw[iP O]
   . rw[iN' c1,iP O];rw[iP O]
 . rw[qkd (λh=>c ⟨h.1,by have:=h.2;rw[hr]at this;omega⟩)]
   by_cases c1:a=j
   . rw[iP c1];subst c1;rw[iN' O];by_cases c2:a=r
     . rw[iP c2];rw[iN' O,c2]
     . rw[iN' c2]
   . rw[iN' c1];by_cases c2:a=r
     . rw[iP c2];rw[iN' O,c2]
     . rw[iN' c2]
section
variable {m:Nat} (hm:5000000000<=m) {n:Nat} {S I V:LI} {x:Int} (hG:GI n n S I V) (hn:n<=100) (hxU:U64 x) (hx:FinF x)
include hm hG hn hxU hx
theorem Sh_L2 {j:Nat} (hj:j<n) (t27 t28:Int): ∀(N d:Nat),(S.getD (j+1) 0).toNat-(S.getD j 0).toNat-d<N->(S.getD j 0).toNat+d<=(S.getD (j+1) 0).toNat->
 g66L2 m N x (n:Int) (n:Int) S I V (matD n (cM S I V j d)) (j:Int) (((S.getD j 0).toNat+d:Nat):Int) t27 t28=some (.inl (x,((n:Int),(n:Int),S,I,V,()),matD n (cM S I V j ((S.getD (j+1) 0).toNat-(S.getD j 0).toNat)),t27,t28,())):=by
 have hM:=hG.mat hn hn;have hz:=hM.sz;have hl:=hG.st.len;have hvl:=hG.vl;have a:=hG.st.rng (j:=j) O;have b:=hG.st.rng (j:=j+1) O;have mo:=hG.st.mono j hj;have w:wI ((j:Int)+1)=((j+1:Nat):Int):=wsucc O;have he:S.getD (j+1) 0=(((S.getD (j+1) 0).toNat:Nat):Int):=O;intro N;induction N with
 |zero=>intro d h;omega
 |succ N ih=>
  intro d h hd;rw[g66L2,w,iP O,tN,bQ];by_cases c:(S.getD j 0).toNat+d<(S.getD (j+1) 0).toNat
  . obtain⟨q1,q2⟩:=hM.row hj (k:=(S.getD j 0).toNat+d) O c;obtain⟨u,f⟩:=hG.fn ((S.getD j 0).toNat+d) O;have w2:wI ((((S.getD j 0).toNat+d:Nat):Int)+1)=(((S.getD j 0).toNat+(d+1):Nat):Int):=wsucc O;obtain⟨r,hr⟩: ∃r:Nat,I.getD ((S.getD j 0).toNat+d) 0=(r:Int):=⟨(I.getD ((S.getD j 0).toNat+d) 0).toNat,O⟩;rw[iP O,iP O];simp only[tN,hr,bQ,w2];by_cases c2:j<=r
    . rw[iP O,q00,iP O,iP O,iP O,Of_eq O u,q3o f,bS,iP O,bS];dsimp only;rw[q2b (show r<n by omega),Ju,iP O,q5a,q1v,q2b hj,Ju,iP O,q5a,q1v]
      refine Eq.trans ?_ (ih (d+1) O O);congr 1;unfold matD;refine Qg λa ha=> ?_
      unfold rowD;refine Qg λb hb=> ?_
      congr 1;exact qoh hr c2 a b
    . rw[iN' O];refine Eq.trans ?_ (ih (d+1) O O);congr 1;unfold matD;refine Qg λa ha=> ?_
      unfold rowD;refine Qg λb hb=> ?_
      rw[qkd (λh=>by have:=h.2;rw[hr]at this;omega)]
  . rw[iN' O,show(S.getD (j+1) 0).toNat-(S.getD j 0).toNat=d by omega]
end
end Go.Vs.F
set_option maxRecDepth 100000
namespace Go.Vs.F
def Ji {n:Nat} {D D':Nat->Nat->Int} (h: ∀a b,a<n->b<n->D a b=D' a b):matD n D=matD n D':=by
 unfold matD;refine Qg λa ha=> ?_
 unfold rowD;exact Qg λb hb=>by rw[h a b ha hb]
def qpt {n:Nat} {S I V:LI} (hM:MatOK n n S I) {j:Nat} (hj:j<n) (a b:Nat):cM S I V j ((S.getD (j+1) 0).toNat-(S.getD j 0).toNat) a b=cM S I V (j+1) 0 a b:=by
 unfold cM;by_cases c1:min a b<j
 . rw[iP c1,iP O]
 . rw[iN' c1];by_cases c2:min a b=j
   . rw[iP c2,iP O,c2,elA];refine qjs λt t' h1 h2 h3=> ?_
     have:=hM.asc hj (t'-t-1) t h1 O;rw[show t+(t'-t-1+1)=t' by omega]at this
     omega
   . rw[iN' c2,iN' O];split
     . rfl
     . rfl
def dM (S I V:LI) (x:Int) (i a b:Nat):Int:=if a=b/\a<i then valF (elA S I V a a)-valF x else valF (elA S I V (max a b) (min a b))
section
variable {m:Nat} (hm:5000000000<=m) {n:Nat} {S I V:LI} {x:Int} (hG:GI n n S I V) (hn:n<=100) (hxU:U64 x) (hx:FinF x)
include hm hG hn hxU hx
theorem Sh_L1: ∀(N j:Nat),n-j<N->j<=n->
 g66L1 m N x (n:Int) (n:Int) S I V (matD n (cM S I V j 0)) (n:Int) (j:Int)=some (.inl (x,matD n (cM S I V n 0),())):=by
 have hM:=hG.mat hn hn;have hz:=hM.sz;have hl:=hG.st.len;intro N;induction N with
 |zero=>intro d h;omega
 |succ N ih=>
  intro j h hj;rw[g66L1,bQ];by_cases c:j<n
  . have a:=hG.st.rng (j:=j) O;have b:=hG.st.rng (j:=j+1) O;have mo:=hG.st.mono j c;have e:=Sh_L2 hm hG hn hxU hx c (n:Int) (j:Int) m 0 O O;rw[zV,show(((S.getD j 0).toNat:Nat):Int)=S.getD j 0 by omega,Ji (λa b _ _=>qpt (V:=V) hM c a b)]at e
    rw[iP O,iP O,tN,e,bS];dsimp only;rw[wQ,wsucc O];exact ih (j+1) O O
  . have:j=n:=O;subst this;rw[iN' O]
theorem Sh_L0: ∀(N i:Nat),n-i<N->i<=n->
 g66L0 m N x (n:Int) (n:Int) S I V (mr n λk=>if k<i then rowD n (λ_=>0)else []) (n:Int) (i:Int)=some (.inl (x,((n:Int),(n:Int),S,I,V,()),matD n (λ_ _=>0),())):=by
 intro N;induction N with
 |zero=>intro d h;omega
 |succ N ih=>
  intro i h hi;rw[g66L0,bQ];by_cases c:i<n
  . rw[iP O,iP O,Qi,iP O,tN,tN,qjd,q1g,wQ,wsucc O];refine Eq.trans ?_ (ih (i+1) O O);congr 1;refine Qg λk hk=> ?_
    by_cases c1:k=i
    . rw[iP c1,iP O]
    . rw[iN' c1];by_cases c2:k<i
      . rw[iP c2,iP O]
      . rw[iN' c2,iN' O]
  . have:i=n:=O;subst this;rw[iN' O];rw[show(mr i λk=>if k<i then rowD i (λ_=>0)else [])=matD i (λ_ _=>0)from Qg λk hk=>iP hk]
end
end Go.Vs.F
set_option maxRecDepth 100000
namespace Go.Vs.F
section
variable {m:Nat} (hm:5000000000<=m) {n:Nat} {S I V:LI} (hG:GI n n S I V) (h5:n<=3) {x:Int} (hx:U64 x)
include hm hG h5 hx
end
instance {k:Int}:Decidable (inK k):=inferInstanceAs (Decidable (_/\_))
def qok {m:Nat} (hm:10<m) {f:Int} (h:U64 f):g47 m [f]=some (nanB f,(),()):=by
 obtain⟨k,h1,-,h3⟩:=q9o (m:=m) h;obtain⟨j,rfl⟩: ∃j,m=j+2:=⟨m-2,O⟩;rw[g47,g47L0];simp only[za1,List.length_nil,zK,Int.toNat_zero];rw[show(((1:Nat):Int))=1 from rfl,bQ,iP O,iP O]
 simp only[List.getD_cons_zero,h1,bS,bif_eq];by_cases c:k=3
 . rw[iP c,bS,h3.1 c]
 . rw[iN' c,wQ,wi O O,g47L0,bQ,iN' O,bS];cases hb:nanB f
   . rfl
   . exact absurd (h3.2 hb) c
def qkw {m:Nat} {f:Int} (h:U64 f):g33 m f=some (keyF f,(),()):=by
 have ht:=tops h;have hl:=Yg f;have h1:=h.1;have h2:=h.2;rw[g33,g62,bS,ht.1,ht.2.1];simp only[bif_ne,wQ];rw[wi (n:=lowF f) O O,wi (n:=0-lowF f) O O];unfold keyF;by_cases d:9223372036854775808<=f
 . rw[iP d,iN' O,iP d,Int.zero_sub]
 . rw[iN' d,iP rfl,iN' d,wi O O];have:f=lowF f:=by unfold lowF;omega
   rw[<-this]
def qpd {m:Nat} {a b:Int} (ha:U64 a) (hb:U64 b):g13 m a b=some (cmpR a b,(),(),()):=by
 rw[g13,q4y ha,q4y hb,bS,bS,qkw ha,qkw hb];unfold cmpR;simp only[bS,bQ];cases nanB a
 . cases nanB b
   . simp only[cond_false,zp1,if_false];split
     . rfl
     . split<;>rfl
   . rfl
 . rfl
def qiz: ∀(k:Nat) (L:List Nat) (A:Nat->Nat->Rat),L.length=k->L.Nodup->(∀i∈L,∀j∈L,A i j=A j i)-> ∃V b,Dg L A V b:=by
 intro k;induction k using Nat.strongRecOn with
 |ind k IH=>
 intro L A hk hn hs;by_cases h1: ∃p∈L,A p p≠0
 . obtain⟨p,hp,hpp⟩:=h1;have hR:=qcz hn hp;have hlen:=hR.length_eq;rw[za1]at hlen;have hsub: ∀i∈L.filter (keepP p p),i∈L:=λi hi=>(zR1.1 hi).1
   obtain⟨W,g,d⟩:=IH (L.filter (keepP p p)).length O (L.filter (keepP p p)) (λi j=>A i j-A i p*A p j/A p p) rfl (hn.sublist z92) (λi hi j hj=>by
    rw[hs i (hsub i hi) j (hsub j hj),hs i (hsub i hi) p hp,hs p hp j (hsub j hj)];grind)
   exact⟨_,_,(qn7 (hR.nodup_iff.1 hn) (λi hi j hj=>hs i (hR.mem_iff.2 hi) j (hR.mem_iff.2 hj)) hpp (λi _ j _=>rfl) d).perm hR.symm⟩
 . have h0: ∀p∈L,A p p=0:=λp hp=>zx λc=>h1 ⟨p,hp,c⟩
   by_cases h2: ∃p∈L,∃q∈L,A p q≠0
   . obtain⟨p,hp,q,hq,hb⟩:=h2;have hpq:p≠q:=λe=>hb (by rw[<-e];exact h0 p hp)
     have hR:=qck hn hp hq hpq;have hlen:=hR.length_eq;rw[za1,za1]at hlen;have hsub: ∀i∈L.filter (keepP p q),i∈L:=λi hi=>(zR1.1 hi).1
     obtain⟨W,g,d⟩:=IH (L.filter (keepP p q)).length O (L.filter (keepP p q)) (λi j=>A i j-A i p*A q j/A p q-A i q*A p j/A p q) rfl (hn.sublist z92) (λi hi j hj=>by
      rw[hs i (hsub i hi) j (hsub j hj),hs i (hsub i hi) p hp,hs q hq j (hsub j hj),hs i (hsub i hi) q hq,hs p hp j (hsub j hj)];grind)
     exact⟨_,_,(qma (hR.nodup_iff.1 hn) (λi hi j hj=>hs i (hR.mem_iff.2 hi) j (hR.mem_iff.2 hj)) (h0 p hp) (h0 q hq) hb (λi _ j _=>rfl) d).perm hR.symm⟩
   . exact⟨_,_,qk3 hn λi hi j hj=>zx λc=>h2 ⟨i,hi,j,hj,c⟩⟩
end Go.Vs.F
set_option maxRecDepth 100000
namespace Go.Vs.F
def q0m {f:Int} (h:U64 f):FinF f↔lowF f<9218868437227405312:=by unfold FinF fexp lowF;obtain⟨h1,h2⟩:=h;omega
def q7e {f:Int} (h:U64 f) (hf:FinF f):nanB f=false:=by
 have:=(q0m h).1 hf;unfold nanB;exact decide_eq_false O
def qhx {m:Nat} (hm:5000000000<=m) {n:Nat} (hn:n<=3) {D:Nat->Nat->Int} (hD: ∀i j,i<n->j<n->blen (D i j).natAbs<=2111) (hs: ∀i j,D i j=D j i):
 ∃V b,Dg (List.range n) (qM D) V b/\
  (g64 m (matB n (qD n D))=some ((((npos (List.range n) (λi=> -b i):Nat):Int),((n-(npos (List.range n) b+npos (List.range n) (λi=> -b i)):Nat):Int),((npos (List.range n) b:Nat):Int),0,()),(),())):=by
 have hl: ∀i j,i<n->j<n->zlen (qD n D i j)<=66:=λi j hi hj=>qql (hD i j hi hj)
 have hsq: ∀i j,i<n->j<n->qD n D i j=qD n D j i:=λi j _ _=>by unfold qD;rw[hs i j]
 obtain⟨V,b,d1⟩:=qiz n (List.range n) (qM (qD n D)) (by simp) zZ2 (λi hi j hj=>by
  show((qD n D i j:Int):Rat)=((qD n D j i:Int):Rat)
  rw[hsq i j (zO1.1 hi) (zO1.1 hj)])
 have d3:=qh7 (m:=m) O (n:=n) O (M:=qD n D) (e:=66) O hl hsq d1
 have hc:(0:Rat)<((2^kM n D:Int):Rat):=by
  have:=Zb (kM n D);have:=Rat.intCast_lt_intCast.2 this;exact this
 refine⟨V,λi=>((2^kM n D:Int):Rat)*b i,((d1.scale ((2^kM n D:Int):Rat)).congr λi hi j hj=> ?_),?_⟩
 . show((2^kM n D:Int):Rat)*(qD n D i j:Rat)=(D i j:Rat)
   rw[qqp (D:=D) (zO1.1 hi) (zO1.1 hj),Rat.intCast_mul,zZ3]
 . rw[q94 hc,q7q hc];exact d3
def qn5 {m:Nat} (hm:3000000<m) {a b:Int} (ha:FinF a) (hb:FinF b):
 g106 m (ofD a).1 (ofD a).2.1 (ofD a).2.2.1 (ofD a).2.2.2.1 (ofD b).1 (ofD b).2.1 (ofD b).2.2.1 (ofD b).2.2.2.1=some (mkD (valF a-valF b) (-1074),(),(),()):=by
 rw[q3o ha,q3o hb,qov hm,iP ⟨val_ok ha,val_ok hb⟩]
section
variable {m:Nat} (hm:5000000000<=m) {n:Nat} {S I V:LI} {x:Int} (hG:GI n n S I V) (hn:n<=100) (hxU:U64 x) (hx:FinF x)
include hm hG hn hxU hx
theorem Sh_L3: ∀(N i:Nat),n-i<N->i<=n->
 g66L3 m N x (matD n (dM S I V x i)) (n:Int) (i:Int)=some (.inl (matD n (syD S I V x),())):=by
 intro N;induction N with
 |zero=>intro d h;omega
 |succ N ih=>
  intro i h hi;rw[g66L3,bQ];by_cases c:i<n
  . obtain⟨u,f⟩:=qk6 hG i (j:=i) c;have key:=qn5 (m:=m) O f hx;rw[q3o f]at key;have hv:dM S I V x i i i=valF (elA S I V i i):=by unfold dM;rw[iN' O,Nat.max_self,Nat.min_self]
    rw[iP O,q00,iP O,iP O,tN,q2b c,Ju,iP O,Of_eq O hxU,bS,q9r c,hv];dsimp only;rw[show g106 m (dE (valF (elA S I V i i))).1 (dE (valF (elA S I V i i))).2.1.1 (dE (valF (elA S I V i i))).2.1.2 (dE (valF (elA S I V i i))).2.2 (ofD x).1 (ofD x).2.1 (ofD x).2.2.1 (ofD x).2.2.2.1=_ from key,bS,iP O]
    dsimp only;rw[q5a,q1v,wQ,wsucc O];refine Eq.trans ?_ (ih (i+1) O O);congr 1;refine Ji λa b ha hb=> ?_
    by_cases c1:a=i
    . rw[iP c1];subst c1;by_cases c2:b=a
      . rw[iP c2];subst c2;unfold dM;rw[iP ⟨rfl,O⟩]
      . rw[iN' c2];unfold dM;rw[iN' (λh=>c2 h.1.symm),iN' (λh=>c2 h.1.symm)]
    . rw[iN' c1];unfold dM;by_cases c2:a=b/\a<i
      . rw[iP c2,iP ⟨c2.1,O⟩]
      . rw[iN' c2,iN' (λh=>c2 ⟨h.1,O⟩)]
  . have:i=n:=O;subst this;rw[iN' O];rw[Ji (D':=syD S I V x) λa b ha hb=> ?_]
    unfold dM syD;by_cases c2:a=b
    . rw[iP ⟨c2,ha⟩,iP c2]
    . rw[iN' (λh=>c2 h.1),iN' c2]
theorem qhy:g66 m (n:Int) (n:Int) S I V x=some (matD n (syD S I V x),(),(),()):=by
 have e0:=Sh_L0 hm hG hn hxU hx m 0 O O;rw[show(mr n λk=>if k<0 then rowD n (λ_=>0)else [])=List.replicate n [] by rw[q8q];exact Qg λk _=>iN' O,nZ]at e0
 have e1:=Sh_L1 hm hG hn hxU hx m 0 O O;rw[Ji (D:=cM S I V 0 0) (D':=λ_ _=>0) (λa b _ _=>by unfold cM;rw[iN' O];split<;>rfl),nZ]at e1
 have e3:=Sh_L3 hm hG hn hxU hx m 0 O O;rw[Ji (D:=dM S I V x 0) (D':=cM S I V n 0) (λa b _ _=>by unfold cM dM;rw[iN' O,iP O]),nZ]at e3
 rw[g66,iP O,tN,zm1,e0,bS];dsimp only;rw[e1,bS];dsimp only;rw[q00,e3,bS]
end
def q8c {m:Nat} (hm:5000000000<=m) {n:Nat} {S I V:LI} (hG:GI n n S I V) (h5:n<=3) {x:Int} (hx:U64 x) (hF:FinF x) (inf:Bool):
 g34 m (n:Int) (n:Int) S I V x inf=some (0,(),(),(),()):=by
 have hMV:=hG.MV O O;have hck:=hMV.chk;have hsl:=hMV.sl;have hsz:=hMV.ok.sz;have hvl:=hMV.vl;obtain⟨q1,_⟩:=q0q (m:=m) hx;rw[g34,g27eq O O O O O,bS,bif_ne,bif_ne,bQ,q1];dsimp only;rw[iP hck,iP rfl,iN' (show¬((n:Int)>16) by omega),bS,bif_eq,iN' (qn3 hF)]
 cases inf
 . rw[qf2 hx];simp[hF]
 . rfl
section
variable {m:Nat} (hm:5000000000<=m) {n:Nat} {S I V:LI} (hG:GI n n S I V) (h5:n<=3) {x:Int} (hx:U64 x) (hF:FinF x)
include hm hG h5 hx hF
theorem q7w: ∃c:Nat,IsCnt n (syD S I V x) c/\g14 m (n:Int) (n:Int) S I V x=some (((c:Int),0,()),(),(),()):=by
 have j1:=q8c hm hG h5 hx hF true;have j2:=q8c hm hG h5 hx hF false;have hlen:=λi j (hi:i<n) (hj:j<n)=>qqf hG hF hi hj
 obtain⟨W,b,d1,d2⟩:=qhx hm h5 (D:=syD S I V x) (λi j hi hj=>zT (hlen i j hi hj) (by decide)) (qec S I V x)
 have hbig: ∀i j,i<n->j<n->blen (syD S I V x i j).natAbs<=10000:=λi j hi hj=>zT (hlen i j hi hj) (by decide)
 have hne:x≠infP/\x≠infM:=by
  constructor<;>(rintro rfl;exact hF (by decide))
 have le2:=qg4 (L:=List.range n) (b:=b);rw[zm2]at le2
 have hsum:wI (((npos (List.range n) (λi=> -b i):Nat):Int)+((n-(npos (List.range n) b+npos (List.range n) (λi=> -b i)):Nat):Int))=((n-npos (List.range n) b:Nat):Int):=by
  rw[wQ,wi O O];omega
 refine⟨n-npos (List.range n) b,⟨W,b,d1,rfl⟩,?_⟩;rw[g14,j1,bS];dsimp only;rw[show((0:Int) !=0)=false from rfl,cond_false,bif_eq,bif_eq,iN' hne.1,iN' hne.2]
 rw[g35,j2,bS];dsimp only;rw[show((0:Int) !=0)=false from rfl,cond_false,qhy hm hG O hx hF,bS,qp6 hm O hbig,bS,d2,bS,bS]
 dsimp only;rw[hsum]
end
end Go.Vs.F
set_option maxRecDepth 100000
namespace Go.Vs.F
def negF (f:Int):Int:=if 9223372036854775808<=f then f-9223372036854775808 else f+9223372036854775808
def q59 {f:Int} (h:U64 f):U64 (negF f):=by unfold negF U64;obtain⟨h1,h2⟩:=h;split<;>omega
def q4n {f:Int} (h:U64 f):lowF (negF f)=lowF f:=by unfold negF lowF;obtain⟨h1,h2⟩:=h;split<;>omega
def q4w {f:Int} (h:U64 f) (hf:FinF f):FinF (negF f):=by
 rw[q0m (q59 h),q4n h];exact(q0m h).1 hf
def q9k {f:Int} (h:U64 f) (hf:FinF f):valF (negF f)= -valF f:=by
 rw[Zi (q59 h) (q4w h hf),Zi h hf,q4n h];obtain⟨h1,h2⟩:=h;unfold negF;by_cases c:9223372036854775808<=f
 . rw[iP c,iN' O,iP c];omega
 . rw[iN' c,iP O,iN' c]
end Go.Vs.F
set_option maxRecDepth 100000
namespace Go.Vs.F
def nbT (V:Nat):Nat:=blen V-53
def kfl (V:Nat):Nat:=nbT V*4503599627370496+V/2^nbT V
def kce (V:Nat):Nat:=nbT V*4503599627370496+(if V%2^nbT V=0 then V/2^nbT V else V/2^nbT V+1)
def qdt {n N:Nat} (h:N<=9007199254740992) (h2:4503599627370496<=N\/n=0):gv (n*4503599627370496+N)=N*2^n:=by
 unfold gv;by_cases c:N<4503599627370496
 . have hn:n=0:=O;subst hn;rw[iP O,zO3,zK,zt2,zk1]
 . by_cases d:N=9007199254740992
   . subst d;have e1:(n*4503599627370496+9007199254740992)/4503599627370496=n+2:=O;have e2:(n*4503599627370496+9007199254740992)%4503599627370496=0:=O;rw[e1,e2,iN' O,zK,show n+2-1=n+1 by omega,zD1]
     omega
   . have e1:(n*4503599627370496+N)/4503599627370496=n+1:=O;have e2:(n*4503599627370496+N)%4503599627370496=N-4503599627370496:=O;rw[e1,e2,iN' O,show n+1-1=n by omega]
     congr 1;omega
def nb_lo {V:Nat} (hV:V≠0):V/2^nbT V<9007199254740992/\(4503599627370496<=V/2^nbT V\/nbT V=0):=by
 have h1:=q21 V;have h2:=qkf hV;have c53:(2:Nat)^53=9007199254740992:=by decide
 have c52:(2:Nat)^52=4503599627370496:=by decide
 constructor
 . rw[zF2 (zn O),<-c53,<-Nat.pow_add];refine zA2 h1 (zZ O ?_);unfold nbT;omega
 . by_cases c:nbT V=0
   . exact .inr c
   . left;rw[Nat.le_div_iff_mul_le (zn O),<-c52,<-Nat.pow_add];refine zT (zZ O ?_) h2;unfold nbT at*;omega
def qob {V:Nat} (hV:V≠0):gv (kfl V)=V/2^nbT V*2^nbT V/\gv (kfl V+1)=(V/2^nbT V+1)*2^nbT V:=by
 obtain⟨h1,h2⟩:=nb_lo hV;refine⟨qdt O h2,?_⟩;have:kfl V+1=nbT V*4503599627370496+(V/2^nbT V+1):=by unfold kfl;omega
 rw[this];exact qdt O O
def qgj {V:Nat} (hV:V≠0) (l:Nat):gv l<=V↔l<=kfl V:=by
 obtain⟨h1,h2⟩:=qob hV;have h3:=Nat.div_mul_le_self V (2^nbT V)
 have h4:V<(V/2^nbT V+1)*2^nbT V:=by
  have:=Nat.lt_mul_div_succ V (zn (n:=nbT V) (show 0<2 by decide))
  rwa [zh]at this
 constructor
 . intro h;refine zC2 λhlt=> ?_
   have:=gv_le (k:=kfl V+1) (l:=l) hlt;omega
 . intro h;have:=gv_le h;omega
def qiw {V:Nat} (hV:V≠0) (l:Nat):V<=gv l↔kce V<=l:=by
 have h0:=qgj hV;obtain⟨h1,h2⟩:=qob hV;have h3:=zX3 V (2^nbT V)
 have e:kce V=if V%2^nbT V=0 then kfl V else kfl V+1:=by
  unfold kce kfl;split<;>omega
 rw[e];by_cases c:V%2^nbT V=0
 . rw[iP c];have hv:gv (kfl V)=V:=by rw[h1,zh];omega
   constructor
   . intro h;refine zC2 λhlt=> ?_
     have:=gv_lt hlt;omega
   . intro h;have:=gv_le h;omega
 . rw[iN' c];have hne:gv (kfl V)≠V:=by rw[h1,zh];omega
   constructor
   . intro h;refine Nat.lt_of_not_le λhle=> ?_
     have a1:=(h0 l).2 hle;have a2:gv l=V:=O;have a3:=gv_le hle;have a4:=(h0 (kfl V)).2 (zD _);omega
   . intro h;refine zC2 λhlt=> ?_
     have:=(h0 l).1 (zv2 hlt);omega
def awayB (neg:Bool) (mode:Int):Bool:=if mode=1 then neg else !neg
def rdK (neg:Bool) (mode:Int) (V:Nat):Nat:=if awayB neg mode then min (kce V) 9218868437227405312 else min (kfl V) 9218868437227405311
def qil {neg:Bool} {v:Nat} (hv:v≠0) {e:Int} (he: -1074<=e) (hv2:blen v<=100000) (he2:e<=100000) {mode:Int} (hm:mode=1\/mode=2):q8k neg v e false mode=sgnF neg ((rdK neg mode (v*2^(e+1074).toNat):Nat):Int):=by
 generalize hV:v*2^(e+1074).toNat=V
 have hV0:V≠0:=by rw[<-hV];exact Nat.mul_ne_zero hv (by have:=zn (n:=(e+1074).toNat) (show 0<2 by decide);omega)
 have hbl:blen V=(e+1074).toNat+blen v:=by rw[<-hV,zh];exact Zx hv
 have hb1:1<=blen v:=by rw[Xw hv];omega
 obtain⟨n1,n2⟩:=nb_lo hV0;have hunit:unitF v e=(nbT V:Int)-1074:=by unfold unitF nbT;rw[hbl];omega
 have hmult:multF neg v e false mode=if awayB neg mode then(if V%2^nbT V=0 then V/2^nbT V else V/2^nbT V+1)else V/2^nbT V:=by
  unfold multF;by_cases c:unitF v e<=e
  . rw[iP c]
    have hVe:V=v*2^(e-unitF v e).toNat*2^nbT V:=by
     have h1:(e+1074).toNat=(e-unitF v e).toNat+nbT V:=O;rw[h1,zW1,<-Nat.mul_assoc]at hV;exact hV.symm
    have hp:=zn (n:=nbT V) (show 0<2 by decide)
    have q1:V/2^nbT V=v*2^(e-unitF v e).toNat:=by
     conv=>lhs;arg 1;rw[hVe]
     exact Nat.mul_div_cancel _ hp
    have q2:V%2^nbT V=0:=by
     conv=>lhs;arg 1;rw[hVe]
     exact Nat.mul_mod_left ..
    rw[q2,iP rfl,q1];split<;>rfl
  . rw[iN' c];have hp:=zn (n:=(e+1074).toNat) (show 0<2 by decide)
    have hn:nbT V=(unitF v e-e).toNat+(e+1074).toNat:=O
    have q1:V/2^nbT V=v/2^(unitF v e-e).toNat:=by
     rw[hn,<-hV,zW1,Nat.mul_div_mul_right _ _ hp]
    have q2:(V%2^nbT V=0)↔v%2^(unitF v e-e).toNat=0:=by
     rw[hn,<-hV,zW1,Nat.mul_mod_mul_right];constructor
     . intro h;rcases Nat.mul_eq_zero.1 h with h|h
       . exact h
       . omega
     . intro h;rw[h,zO3]
    unfold cutN;rw[q1];by_cases c2:v%2^(unitF v e-e).toNat=0
    . rw[iP ⟨c2,rfl⟩,iP (q2.2 c2)];split<;>rfl
    . rw[iN' (λh=>c2 h.1),iN' (λh=>c2 (q2.1 h))]
      have hu: ∀h o,upB neg h o mode=awayB neg mode:=by
       intro h o;unfold upB awayB;rcases hm with rfl|rfl
       . rw[iP rfl,iP rfl]
       . rw[iN' (by decide),iP rfl,iN' (by decide)]
      rw[hu];cases awayB neg mode<;>rfl
 have hover:overF neg mode=sgnF neg (if awayB neg mode then 9218868437227405312 else 9218868437227405311):=by
  unfold overF awayB;rcases hm with rfl|rfl<;>cases neg<;>rfl
 unfold q8k;rw[hmult,hunit]
 have hpack: ∀N:Nat,N<=9007199254740992->(4503599627370496<=N\/nbT V=0)->packF neg N ((nbT V:Int)-1074) mode=if nbT V*4503599627370496+N<9218868437227405312 then sgnF neg ((nbT V*4503599627370496+N:Nat):Int)else overF neg mode:=by
  intro N hN hN2;unfold packF;by_cases c1:N=9007199254740992
  . rw[iP c1];by_cases c2:(nbT V:Int)-1074+1076>=2047
    . rw[iP c2,iN' O]
    . rw[iN' c2,iP O];congr 1;omega
  . rw[iN' c1];by_cases c3:N<4503599627370496
    . rw[iP c3,iP O];congr 2;omega
    . rw[iN' c3];by_cases c2:(nbT V:Int)-1074+1075>=2047
      . rw[iP c2,iN' O]
      . rw[iN' c2,iP O];congr 1;omega
 unfold rdK;cases ha:awayB neg mode
 . rw[ha]at hover;simp only[zp1,if_false]at hover⊢;rw[hpack _ O n2,hover];unfold kfl;by_cases c:nbT V*4503599627370496+V/2^nbT V<9218868437227405312
   . rw[iP c,zY3 O]
   . rw[iN' c,Nat.min_eq_right O];rfl
 . rw[ha]at hover;simp only[if_true]at hover⊢
   have key: ∀N,N<=9007199254740992->(4503599627370496<=N\/nbT V=0)->packF neg N ((nbT V:Int)-1074) mode=sgnF neg ((min (nbT V*4503599627370496+N) 9218868437227405312:Nat):Int):=by
    intro N a1 a2;rw[hpack N a1 a2,hover];by_cases c:nbT V*4503599627370496+N<9218868437227405312
    . rw[iP c,zY3 O]
    . rw[iN' c,Nat.min_eq_right O];rfl
   unfold kce;by_cases c:V%2^nbT V=0
   . rw[iP c];exact key _ O n2
   . rw[iN' c];exact key _ O O
def q8g {z:Int} (hz:z≠0) (hb:blen z.natAbs<=10000) {mode:Int} (hm:mode=1\/mode=2):q05 (mkD z (-1074)) mode=sgnF (decide (z<0)) ((rdK (decide (z<0)) mode z.natAbs:Nat):Int):=by
 have hok:OkD z (-1074):=Jc hb O O;obtain⟨w,f,k⟩:=hok.nf
 have hw:w≠0:=by
  rintro rfl
  have:=k.eq.low (c:=min f (-1074)) O O;unfold sc at this;rw[zy2]at this;rcases Int.mul_eq_zero.1 this.symm with h|h
  . exact hz h
  . have:=Zb (-1074-min f (-1074)).toNat;omega
 have hf:f= -1074+(tz z.natAbs:Int):=by
  have:=ex_mk hok hz;rw[k.md]at this;exact this
 have hs:w*2^(f+1074).toNat=z:=by
  have:=k.eq.low (c:= -1074) O O;rw[q9v]at this;unfold sc at this;rw[show f- -1074=f+1074 by omega]at this
  exact this
 have hN:z.natAbs=w.natAbs*2^(f+1074).toNat:=by
  rw[<-hs,Yl,zh]
 have hneg:decide (w<0)=decide (z<0):=by rw[<-hs,decide_eq_decide];exact q3l.symm
 have hl:lim w.natAbs≠[]:=λh=>hw (by have:=q44.1 h;omega)
 have htz:=q3x (n:=z.natAbs)
 have hbw:blen w.natAbs<=10000:=by
  refine zT (q2u ?_) hb;rw[hN];exact Nat.le_mul_of_pos_right _ (zn (by decide))
 unfold q05;rw[k.md];dsimp only;rw[iN' (by decide),iN' hl,Qn,qil (v:=w.natAbs) O O O O hm,<-hN,hneg]
end Go.Vs.F
set_option maxRecDepth 100000
namespace Go.Vs.F
def dnF (z:Int):Int:=q05 (mkD z (-1074)) 1
def upF (z:Int):Int:=q05 (mkD z (-1074)) 2
def q3s {g:Int} (hg:U64 g) (fg:FinF g): ∃l:Nat,l<9218868437227405312/\((keyF g=(l:Int)/\valF g=((gv l:Nat):Int))\/(keyF g= -(l:Int)/\valF g= -((gv l:Nat):Int))):=by
 have h1:=(q0m hg).1 fg;have h2:=Yg g;refine⟨(lowF g).toNat,O,?_⟩;rw[Zi hg fg];unfold keyF;by_cases c:9223372036854775808<=g
 . rw[iP c,iP c];exact .inr ⟨O,rfl⟩
 . rw[iN' c,iN' c];exact .inl ⟨O,rfl⟩
def qev:gv 0=0:=rfl
def qo3 {l:Nat} (h:0<l):0<gv l:=zn1 (zc1 _) (gv_lt h)
def q3d {k:Nat} (h:k<9223372036854775808):U64 (k:Int)/\keyF (k:Int)=(k:Int)/\lowF (k:Int)=(k:Int):=by
 have h1:lowF (k:Int)=(k:Int):=by unfold lowF;omega
 refine⟨⟨O,O⟩,?_,h1⟩;unfold keyF;rw[iN' O,h1]
def q96 {k:Nat} (h:k<9223372036854775808):U64 ((k:Int)+9223372036854775808)/\keyF ((k:Int)+9223372036854775808)= -(k:Int)/\lowF ((k:Int)+9223372036854775808)=(k:Int):=by
 have h1:lowF ((k:Int)+9223372036854775808)=(k:Int):=by unfold lowF;omega
 refine⟨⟨O,O⟩,?_,h1⟩;unfold keyF;rw[iP O,h1]
structure Rd (f:Int):Prop where
 u:U64 f
 nan:nanB f=false
 nz:f≠9223372036854775808
def qjp {V:Nat} (h:V≠0):1<=kfl V:=(qgj h 1).1 (by show 1<=V;omega)
def qjg {V:Nat} (h:V≠0):1<=kce V:=by
 rcases zq (kce V) 1 with c|c
 . have:=(qiw h 0).2 O;rw[qev]at this;omega
 . exact c
def qgi {neg:Bool} {mode:Int} {V:Nat} (h:awayB neg mode=true):rdK neg mode V=min (kce V) 9218868437227405312:=iP h
def qnk {neg:Bool} {mode:Int} {V:Nat} (h:awayB neg mode=false):rdK neg mode V=min (kfl V) 9218868437227405311:=iN' (by rw[h];decide)
def qnr (f:Int):sgnF true f=f+9223372036854775808:=iP rfl
def qnu (f:Int):sgnF false f=f:=iN' (by decide)
def qly:dnF 0=0:=by
 unfold dnF q05;rw[q9n];rfl
def qjj:upF 0=0:=by
 unfold upF q05;rw[q9n];rfl
def qlt {z:Int} (hb:blen z.natAbs<=10000):Rd (dnF z)/\keyF (dnF z)<9218868437227405312/\ ∀g,U64 g->FinF g->(valF g<=z↔keyF g<=keyF (dnF z)):=by
 by_cases hz:z=0
 . subst hz;rw[qly];refine⟨⟨⟨by decide,by decide⟩,by decide,by decide⟩,by decide,λg hg fg=> ?_⟩
   have hk:keyF 0=0:=by decide
   rw[hk];obtain⟨l,_,⟨h1,h2⟩|⟨h1,h2⟩⟩:=q3s hg fg
   . rw[h1,h2];by_cases c:l=0
     . subst c;rw[qev]
     . have:=qo3 (l:=l) O;omega
   . rw[h1,h2];omega
 . unfold dnF;rw[q8g hz hb (.inl rfl)];by_cases hn:z<0
   . rw[decide_eq_true hn];have hV:z.natAbs≠0:=O;have hk:rdK true 1 z.natAbs=min (kce z.natAbs) 9218868437227405312:=qgi rfl;have h1:=qjg hV;obtain⟨k1,k2,k3⟩:=q96 (k:=rdK true 1 z.natAbs) O;rw[qnr];refine⟨⟨k1,?_,O⟩,by rw[k2];omega,λg hg fg=> ?_⟩
     . unfold nanB;rw[k3];exact decide_eq_false O
     . rw[k2];obtain⟨l,hl,⟨g1,g2⟩|⟨g1,g2⟩⟩:=q3s hg fg
       . rw[g1,g2];omega
       . have:=qiw hV l;rw[g1,g2];constructor
         . intro h;have:=this.1 O;omega
         . intro h;have:=this.2 O;omega
   . rw[decide_eq_false hn];have hV:z.natAbs≠0:=O;have hk:rdK false 1 z.natAbs=min (kfl z.natAbs) 9218868437227405311:=qnk rfl;have h1:=qjp hV;obtain⟨k1,k2,k3⟩:=q3d (k:=rdK false 1 z.natAbs) O;rw[qnu];refine⟨⟨k1,?_,O⟩,by rw[k2];omega,λg hg fg=> ?_⟩
     . unfold nanB;rw[k3];exact decide_eq_false O
     . rw[k2];obtain⟨l,hl,⟨g1,g2⟩|⟨g1,g2⟩⟩:=q3s hg fg
       . have:=qgj hV l;rw[g1,g2];constructor
         . intro h;have:=this.1 O;omega
         . intro h;have:=this.2 O;omega
       . rw[g1,g2];omega
def qkg {z:Int} (hb:blen z.natAbs<=10000):Rd (upF z)/\ -9218868437227405312<keyF (upF z)/\ ∀g,U64 g->FinF g->(z<=valF g↔keyF (upF z)<=keyF g):=by
 by_cases hz:z=0
 . subst hz;rw[qjj];refine⟨⟨⟨by decide,by decide⟩,by decide,by decide⟩,by decide,λg hg fg=> ?_⟩
   have hk:keyF 0=0:=by decide
   rw[hk];obtain⟨l,_,⟨h1,h2⟩|⟨h1,h2⟩⟩:=q3s hg fg
   . rw[h1,h2];omega
   . rw[h1,h2];by_cases c:l=0
     . subst c;rw[qev]
     . have:=qo3 (l:=l) O;omega
 . unfold upF;rw[q8g hz hb (.inr rfl)];by_cases hn:z<0
   . rw[decide_eq_true hn];have hV:z.natAbs≠0:=O;have hk:rdK true 2 z.natAbs=min (kfl z.natAbs) 9218868437227405311:=qnk rfl;have h1:=qjp hV;obtain⟨k1,k2,k3⟩:=q96 (k:=rdK true 2 z.natAbs) O;rw[qnr];refine⟨⟨k1,?_,O⟩,by rw[k2];omega,λg hg fg=> ?_⟩
     . unfold nanB;rw[k3];exact decide_eq_false O
     . rw[k2];obtain⟨l,hl,⟨g1,g2⟩|⟨g1,g2⟩⟩:=q3s hg fg
       . rw[g1,g2];omega
       . have:=qgj hV l;rw[g1,g2];constructor
         . intro h;have:=this.1 O;omega
         . intro h;have:=this.2 O;omega
   . rw[decide_eq_false hn];have hV:z.natAbs≠0:=O;have hk:rdK false 2 z.natAbs=min (kce z.natAbs) 9218868437227405312:=qgi rfl;have h1:=qjg hV;obtain⟨k1,k2,k3⟩:=q3d (k:=rdK false 2 z.natAbs) O;rw[qnu];refine⟨⟨k1,?_,O⟩,by rw[k2];omega,λg hg fg=> ?_⟩
     . unfold nanB;rw[k3];exact decide_eq_false O
     . rw[k2];obtain⟨l,hl,⟨g1,g2⟩|⟨g1,g2⟩⟩:=q3s hg fg
       . have:=qiw hV l;rw[g1,g2];constructor
         . intro h;have:=this.1 O;omega
         . intro h;have:=this.2 O;omega
       . rw[g1,g2];omega
def Jr {f:Int} (h:U64 f):FinF f↔ -9218868437227405312<keyF f/\keyF f<9218868437227405312:=by
 rw[q0m h];have:=Yg f;unfold keyF;split<;>omega
def qp7 {a x y:Rat} {b:Rat} (h1:a<=b) (h2: -b<=a): -(b*(x*x))-b*(y*y)<=2*(x*a*y):=by
 have hb:0<=b:=by grind
 have p1:=zb1 (show 0<=b-a by grind) (sq_nonneg (x-y))
 have p2:=zb1 (show 0<=b+a by grind) (sq_nonneg (x+y))
 grind
def qar {L:List Nat} {A B:Nat->Nat->Rat} (hB: ∀i∈L,∀j∈L,A i j<=B i j/\ -(B i j)<=A i j) (hs: ∀i∈L,∀j∈L,B i j=B j i) (v:Nat->Rat):
 -sm L (λi=>sm L (λj=>B i j)*(v i*v i))<=qf L A v:=by
 have h1:sm L (λi=>sm L (λj=> -(B i j*(v i*v i))-B i j*(v j*v j)))<=sm L (λi=>sm L (λj=>2*(v i*A i j*v j))):=
  sm_le λi hi=>sm_le λj hj=>qp7 (hB i hi j hj).1 (hB i hi j hj).2
 have h2:sm L (λi=>sm L (λj=>2*(v i*A i j*v j)))=2*qf L A v:=by
  unfold qf;rw[<-Yz];exact qm λi _=>Yz 2
 have h3:sm L (λi=>sm L (λj=>B i j*(v i*v i)))=sm L (λi=>sm L (λj=>B i j)*(v i*v i)):=qm λi _=>qf3 _
 have h4:sm L (λi=>sm L (λj=>B i j*(v j*v j)))=sm L (λi=>sm L (λj=>B i j)*(v i*v i)):=by
  rw[qdv,<-h3];exact qm λj hj=>qm λi hi=>by rw[hs i hi j hj]
 have h5:sm L (λi=>sm L (λj=> -(B i j*(v i*v i))-B i j*(v j*v j)))= -(2*sm L (λi=>sm L (λj=>B i j)*(v i*v i))):=by
  have e:sm L (λi=>sm L (λj=> -(B i j*(v i*v i))-B i j*(v j*v j)))=sm L (λi=> -(sm L (λj=>B i j*(v i*v i)))-sm L (λj=>B i j*(v j*v j))):=
   qm λi _=>by rw[sm_sb,q8s]
  rw[e,sm_sb,q8s,h3,h4];grind
 rw[h2,h5]at h1
 grind
end Go.Vs.F
set_option maxRecDepth 100000
namespace Go.Vs.F
def qg5 {m:Nat} (hm:10<m) {a b:Int} (ha:U64 a) (hb:U64 b) (na:nanB a=false) (nbT':nanB b=false):g47 m [a,b]=some (false,(),()):=by
 obtain⟨j,rfl⟩: ∃j,m=j+3:=⟨m-3,O⟩;have k1:kindN a≠3:=by rw[Ne,qbx ha,na];simp
 have k2:kindN b≠3:=by rw[Ne,qbx hb,nbT'];simp
 have l2:(([a,b]:LI).length:Int)=2:=rfl;rw[g47,l2,g47L0,bQ,iP O,l2,iP O];rw[show([a,b]:LI).getD (0:Int).toNat 0=a from rfl,(q0q ha).1,bS,bif_eq,iN' k1,show wI (0+1)=1 from by decide]
 rw[g47L0,bQ,iP O,l2,iP O];rw[show([a,b]:LI).getD (1:Int).toNat 0=b from rfl,(q0q hb).1,bS,bif_eq,iN' k2,show wI (1+1)=2 from by decide]
 rw[g47L0,bQ,iN' O,bS]
def qgg {m:Nat} {f:Int} (h:U64 f):g130 m f=some (keyF f,(),()):=by
 have ht:=tops h;have hl:=Yg f;rw[g130,q1p h,bS,ht.2.1];dsimp only;unfold keyF fneg;by_cases d:9223372036854775808<=f
 . rw[decide_eq_true d,cond_true,iP d,wQ,wQ,wi (n:=lowF f) O O,wi O O,Int.zero_sub]
 . rw[decide_eq_false d,cond_false,iN' d,wQ,wi O O]
def cmpK (x y:Int):Int:=if x<y then-1 else if x>y then 1 else 0
def pFCmp {m:Nat} (hm:10<m) {a b:Int} (ha:Rd a) (hb:Rd b):g80 m a b=some ((cmpK (keyF a) (keyF b),true,()),(),(),()):=by
 rw[g80,qg5 hm ha.u hb.u ha.nan hb.nan,bS,cond_false,qgg ha.u,qgg hb.u,bS,bS,bQ,bQ];dsimp only;unfold cmpK;split
 . rfl
 . split<;>rfl
def absV {f:Int} (h:U64 f) (hf:FinF f):U64 (lowF f)/\FinF (lowF f)/\valF (lowF f)=((valF f).natAbs:Int):=by
 have hl:=Yg f;have u:U64 (lowF f):=⟨O,O⟩;have ll:lowF (lowF f)=lowF f:=by unfold lowF;omega
 have ff:FinF (lowF f):=by rw[q0m u,ll];exact(q0m h).1 hf
 refine⟨u,ff,?_⟩;rw[Zi u ff,Zi h hf,ll,iN' O];split<;>omega
section
variable {m:Nat} (hm:5000000000<=m) {d e:LI} (hd:FnL d) (he:FnL e) (hle:e.length=d.length-1) (hl:d.length<=1000)
include hm hd he hle hl
end
end Go.Vs.F
set_option maxRecDepth 100000
namespace Go.Vs.F
def q31 {n:Nat} {f:Nat->Rat}:sm (List.range (n+1)) f=sm (List.range n) f+f n:=by
 rw[List.range_succ,qny,qw,sm_nil];grind
def sm_at {n k:Nat} {c:Rat}:sm (List.range n) (λj=>if j=k then c else 0)=if k<n then c else 0:=by
 induction n with
 |zero=>rw[iN' (zW _)];rfl
 |succ n ih=>
  rw[q31,ih];show(if k<n then c else 0)+(if n=k then c else 0)=if k<n+1 then c else 0
  grind
def offA (D:Nat->Nat->Int):Nat->Nat->Rat:=λi j=>if i=j then 0 else(D i j:Rat)
def offB (D:Nat->Nat->Int):Nat->Nat->Rat:=λi j=>if i=j then 0 else((D i j).natAbs:Rat)
def qfp {n:Nat} {D:Nat->Nat->Int} (v:Nat->Rat):qf (List.range n) (qM D) v=sm (List.range n) (λi=>(D i i:Rat)*(v i*v i))+qf (List.range n) (offA D) v:=by
 unfold qf;rw[<-qch];refine qm λi hi=> ?_
 have e:sm (List.range n) (λj=>v i*qM D i j*v j)=sm (List.range n) (λj=>(if j=i then(D i i:Rat)*(v i*v i)else 0)+v i*offA D i j*v j):=by
  refine qm λj _=> ?_
  unfold offA qM;by_cases c:j=i
  . subst c;rw[iP rfl,iP rfl];grind
  . rw[iN' c,iN' (λh=>c h.symm)];grind
 rw[e,qch,sm_at,iP (zO1.1 hi)]
def qpb (z:Int):(z:Rat)<=(z.natAbs:Rat)/\ -(z.natAbs:Rat)<=(z:Rat):=by
 have h1:(z:Rat)<=(((z.natAbs:Nat):Int):Rat):=zE2.2 O;have h2:((-((z.natAbs:Nat):Int):Int):Rat)<=(z:Rat):=zE2.2 O;rw[Rat.intCast_neg]at h2;rw[Rat.intCast_natCast]at h1 h2;exact⟨h1,h2⟩
def qnq {n:Nat} {D:Nat->Nat->Int} (hs: ∀i j,D i j=D j i) (v:Nat->Rat):
 -sm (List.range n) (λi=>sm (List.range n) (offB D i)*(v i*v i))<=qf (List.range n) (offA D) v/\qf (List.range n) (offA D) v<=sm (List.range n) (λi=>sm (List.range n) (offB D i)*(v i*v i)):=by
 have hB: ∀i j,offB D i j=offB D j i:=by
  intro i j;unfold offB;rw[hs i j];by_cases c:i=j
  . rw[iP c,iP c.symm]
  . rw[iN' c,iN' (λh=>c h.symm)]
 have hA: ∀i j,offA D i j<=offB D i j/\ -(offB D i j)<=offA D i j:=by
  intro i j;unfold offA offB;by_cases c:i=j
  . rw[iP c,iP c];grind
  . rw[iN' c,iN' c];exact qpb _
 refine⟨qar (λi _ j _=>hA i j) (λi _ j _=>hB i j) v,?_⟩
 have h:=qar (L:=List.range n) (A:=λi j=> -offA D i j) (B:=offB D) (λi _ j _=>⟨by have:=(hA i j).2;grind,by have:=(hA i j).1;grind⟩) (λi _ j _=>hB i j) v
 have e:qf (List.range n) (λi j=> -offA D i j) v= -qf (List.range n) (offA D) v:=by
  unfold qf;rw[<-q8s];refine qm λi _=> ?_
  rw[<-q8s];exact qm λj _=>by grind
 rw[e]at h
 grind
def qot {n:Nat} {D:Nat->Nat->Int} {c:Nat} (hs: ∀i j,D i j=D j i) (h: ∀i,i<n->(D i i:Rat)<= -sm (List.range n) (offB D i)) (h1:IsCnt n D c):c=n:=by
 obtain⟨V,b,d1,rfl⟩:=h1;have hz:=qk3 (L:=List.range n) zZ2 (A:=λ_ _=>0) (λ_ _ _ _=>rfl)
 have:=qkx zZ2 d1 hz (λv=>by
  have hq0:qf (List.range n) (λ_ _=>(0:Rat)) v=0:=by
   unfold qf;exact Y9 λi _=>Y9 λj _=>by grind
  rw[hq0,qfp];have o:=(qnq (n:=n) hs v).2
  have s:sm (List.range n) (λi=>(D i i:Rat)*(v i*v i))<=sm (List.range n) (λi=> -(sm (List.range n) (offB D i)*(v i*v i))):=sm_le λi hi=>by
   have h2:=h i (zO1.1 hi);have h3:=zb1 (show 0<= -sm (List.range n) (offB D i)-(D i i:Rat) by grind) (sq_nonneg (v i))
   grind
  rw[q8s]at s
  grind)
 rw[qja]at this;omega
def qph {n:Nat} {D:Nat->Nat->Int} {c:Nat} (hs: ∀i j,D i j=D j i) (h: ∀i,i<n->sm (List.range n) (offB D i)+1<=(D i i:Rat)) (h1:IsCnt n D c):c=0:=by
 obtain⟨V,b,d1,rfl⟩:=h1
 let I:Nat->Nat->Rat:=λi j=>if i=j then 1 else 0
 have hI:Dg (List.range n) I I (λ_=>1):=by
  have hl: ∀(y:Nat->Rat) (j:Nat),j<n->lin (List.range n) I y j=y j:=by
   intro y j hj;unfold lin
   have:sm (List.range n) (λi=>y i*I i j)=sm (List.range n) (λi=>if i=j then y j else 0):=qm λi _=>by
    show y i*(if i=j then 1 else 0)=_
    by_cases c:i=j
    . rw[iP c,iP c,c];grind
    . rw[iN' c,iN' c];grind
   rw[this,sm_at,iP hj]
  refine⟨λy=> ?_,λy hy i hi=>by rw[<-hl y i (zO1.1 hi)];exact hy i hi⟩
  unfold qf;refine qm λi hi=> ?_
  have:sm (List.range n) (λj=>lin (List.range n) I y i*I i j*lin (List.range n) I y j)=sm (List.range n) (λj=>if j=i then y i*y i else 0):=qm λj hj=>by
   rw[hl y i (zO1.1 hi),hl y j (zO1.1 hj)];show y i*(if i=j then 1 else 0)*y j=_
   by_cases c:j=i
   . subst c;rw[iP rfl,iP rfl];grind
   . rw[iN' c,iN' (λh=>c h.symm)];grind
  rw[this,sm_at,iP (zO1.1 hi)];grind
 have:=qkx zZ2 hI d1 (λv=>by
  have hq:qf (List.range n) I v=sm (List.range n) (λi=>v i*v i):=by
   unfold qf;refine qm λi hi=> ?_
   have:sm (List.range n) (λj=>v i*I i j*v j)=sm (List.range n) (λj=>if j=i then v i*v i else 0):=qm λj hj=>by
    show v i*(if i=j then 1 else 0)*v j=_
    by_cases c:j=i
    . subst c;rw[iP rfl,iP rfl];grind
    . rw[iN' c,iN' (λh=>c h.symm)];grind
   rw[this,sm_at,iP (zO1.1 hi)]
  rw[hq,qfp];have o:=(qnq (n:=n) hs v).1
  have s:sm (List.range n) (λi=>sm (List.range n) (offB D i)*(v i*v i)+v i*v i)<=sm (List.range n) (λi=>(D i i:Rat)*(v i*v i)):=sm_le λi hi=>by
   have h2:=h i (zO1.1 hi);have h3:=zb1 (show 0<=(D i i:Rat)-sm (List.range n) (offB D i)-1 by grind) (sq_nonneg (v i))
   grind
  rw[qch]at s
  grind)
 have hn:npos (List.range n) (λ_=>(1:Rat))=n:=by
  unfold npos;rw[List.filter_eq_self.2 (λi _=>by show decide ((0:Rat)<1)=true;decide),zm2]
 rw[hn]at this;omega
def rNegN {m:Nat} {f:Int} (h:U64 f) (hn:nanB f=false):g36 m f=some (negF f,(),()):=by
 rw[g36,q4y h,bS,hn,cond_false,(tops h).2.2.1];rfl
def qa3 {f:Int} (h:U64 f):keyF (negF f)= -keyF f:=by
 have h1:=q4n h;have:=Yg f;obtain⟨a,b⟩:=h;unfold keyF;rw[h1];unfold negF;split<;>split<;>omega
def qgb {f:Int} (h:U64 f) (hn:nanB f=false):nanB (negF f)=false:=by
 unfold nanB at*;rw[q4n h];exact hn
def qqk {m:Nat} {h:Int} (hU:U64 h) (hn:nanB h=false) (hk:keyF h<9218868437227405312): ∃g,g37 m h=some (g,(),())/\U64 g/\nanB g=false/\keyF g=keyF h+1:=by
 have hl:=Yg h;obtain⟨a,b⟩:=id hU
 have hne:h≠9218868437227405312:=by
  rintro rfl
  exact absurd hk (by decide)
 have hn': ¬9218868437227405312<lowF h:=by unfold nanB at hn;simpa using hn
 rw[g37,q4y hU,bS,hn,cond_false,bif_eq,iN' hne,g67,(q0q hU).2,bS,bS];dsimp only;by_cases z:kindN h=0
 . rw[z,show((0:Int)==0)=true from rfl,cond_true]
   have hz:lowF h=0:=by
    have:fexp h=0/\ffrac h=0:=by
     unfold kindN at z;by_cases c:fexp h=2047
     . rw[iP c]at z;split at z<;>omega
     . rw[iN' c]at z;by_cases c2:fexp h=0/\ffrac h=0
       . exact c2
       . rw[iN' c2]at z;omega
    unfold fexp ffrac at this;unfold lowF;omega
   refine⟨1,rfl,⟨by decide,by decide⟩,by decide,?_⟩
   have:keyF h=0:=by unfold keyF;rw[hz];split<;>rfl
   rw[this];decide
 . have hz:lowF h≠0:=by
    intro h0;refine z ?_;unfold kindN;have:fexp h=0/\ffrac h=0:=by unfold fexp ffrac;unfold lowF at h0;omega
    rw[iN' O,iP this]
   rw[show(kindN h==0)=false by simpa using z,cond_false,qlh hU,bS]
   dsimp only;unfold fneg;by_cases c:9223372036854775808<=h
   . rw[decide_eq_true c,cond_true];have w:wJ (h-1)=h-1:=wu O O;have e1:lowF (h-1)=lowF h-1:=by unfold lowF at*;omega
     refine⟨h-1,by rw[w],⟨O,O⟩,?_,?_⟩
     . unfold nanB;rw[e1];exact decide_eq_false O
     . unfold keyF;rw[e1,iP c,iP (by unfold lowF at*;omega)];omega
   . rw[decide_eq_false c,cond_false];have w:wJ (h+1)=h+1:=wu O O;have hk2:lowF h<9218868437227405312:=by unfold keyF at hk;rw[iN' c]at hk;exact hk
     have e1:lowF (h+1)=lowF h+1:=by unfold lowF at*;omega
     refine⟨h+1,by rw[w],⟨O,O⟩,?_,?_⟩
     . unfold nanB;rw[e1];exact decide_eq_false O
     . unfold keyF;rw[e1,iN' c,iN' (by unfold lowF at*;omega)]
def qm8 {m:Nat} {f:Int} (hU:U64 f) (hn:nanB f=false) (hk: -9218868437227405312<keyF f): ∃g,g15 m f=some (g,(),())/\U64 g/\nanB g=false/\keyF g=keyF f-1:=by
 have u1:=q59 hU;have n1:=qgb hU hn;have k1:=qa3 hU;obtain⟨h,e,a1,a2,a3⟩:=qqk (m:=m) u1 n1 O;refine⟨negF h,?_,q59 a1,qgb a1 a2,by rw[qa3 a1];omega⟩
 rw[g15,rNegN hU hn,bS,e,bS,rNegN a1 a2,bS]
end Go.Vs.F
set_option maxRecDepth 100000
namespace Go.Vs.F
variable {r c:Nat} {es:List Ent}
def qld (hE:EntsOK r c es) (hr:r<=200) (hc:c<=200) (ha:c*r<=10000):MV r c (packS es r c) (packI es r c) (packV es r c):=⟨qeg hr hc ha,Ja _ _ _,qm0 hE hr hc ha⟩
end Go.Vs.F
set_option maxRecDepth 100000
namespace Go.Vs.F
section
variable {R C:Nat} {S I V:LI}
end
end Go.Vs.F
set_option maxRecDepth 100000
namespace Go.Vs.F
def BS_L0 (m:Nat) {xs:LI} {t a:Int} (hl:xs.length<=100000) (ha: ∀i j,i<j->j<xs.length->xs.getD i 0<xs.getD j 0): ∀(n i j:Nat),j-i<n->i<=j->j<=xs.length->(∀k,k<i->xs.getD k 0<t)->(∀k,j<=k->k<xs.length->t<=xs.getD k 0)->
 ∃r:Nat,g59L0 m n xs t a (i:Int) (j:Int)=some (.inl (xs,t,a,(r:Int),()))/\r<=xs.length/\(∀k,k<r->xs.getD k 0<t)/\ ∀k,r<=k->k<xs.length->t<=xs.getD k 0
 |0,i,j,h,_,_,_,_=>O
 |n+1,i,j,h,hij,hj,h1,h2=>by
  rw[g59L0,qpo O,bQ];by_cases hlt:i<j
  . have c1:(0:Int)<=(((i+j)/2:Nat):Int)/\(((i+j)/2:Nat):Int)<(xs.length:Int):=O;rw[iP O,iP c1,tN,g97];simp only[g146,bS,bif_ne,if_true];by_cases hp:xs.getD ((i+j)/2) 0<t
    . rw[decide_eq_true hp];simp only[cond_true];rw[show wI ((((i+j)/2:Nat):Int)+1)=(((i+j)/2+1:Nat):Int)from wsucc O]
      refine BS_L0 m hl ha n _ _ O O hj (λk hk=> ?_) h2
      by_cases e:k=(i+j)/2
      . subst e;exact hp
      . have:=ha k ((i+j)/2) O O;omega
    . rw[decide_eq_false hp];simp only[cond_false];refine BS_L0 m hl ha n _ _ O O O h1 (λk hk hkl=> ?_)
      by_cases e:k=(i+j)/2
      . subst e;omega
      . have:=ha ((i+j)/2) k O hkl;omega
  . rw[iN' O];have:i=j:=O;subst this;exact⟨i,rfl,hj,h1,h2⟩
def qm4 {m:Nat} {xs:LI} {k:Nat} (hl:xs.length<=100000) (hm:100001<m) (ha: ∀i j,i<j->j<xs.length->xs.getD i 0<xs.getD j 0) (hk:k<xs.length):g59 m xs (xs.getD k 0)=some (((k:Int),true,()),(),(),()):=by
 obtain⟨r,e,h1,h2,h3⟩:=BS_L0 m (t:=xs.getD k 0) (a:=(xs.length:Int)) hl ha m 0 xs.length O O (zD _) (λk hk=>absurd hk (zW _)) (λk a b=>O)
 rw[nZ]at e
 have:r=k:=by
  rcases zM3 r k with q|q|q
  . have g1:=h3 r (zD _) O;have g2:=ha r k q hk;omega
  . exact q
  . have:=h2 k q;omega
 subst this;have c1:(0:Int)<=(r:Int)/\(r:Int)<(xs.length:Int):=O;rw[g59,e,bS];dsimp only;rw[bQ,iP O,iP c1,tN,bif_eq,iP rfl]
section
variable {R C:Nat} {S I V:LI}
def qm2 {m:Nat} (hm:3000000<m) (h:MV R C S I V) {i j v:Int} (he:((i,(j,v)):Ent)∈ents S I V C 0):g29 m (R:Int) (C:Int) S I V i j=some ((v,true,()),(),(),(),()):=by
 obtain⟨j',t,_,hj,t1,t2,e⟩:=Jm.1 he;simp only[zC3]at e;obtain⟨e1,e2,e3⟩:=e;subst e2;have hjC:j'<C:=O;have hl:=h.ok.st.len;have hsz:=h.ok.sz;have hcz:=h.ok.cz;have hvl:=h.vl;have a:=h.ok.st.rng (j:=j') O;have b:=h.ok.st.rng (j:=j'+1) O;have mo:=h.ok.st.mono j' hjC;have c1:(0:Int)<=(j':Int)/\(j':Int)<(S.length:Int):=O;have c2:(0:Int)<=((j'+1:Nat):Int)/\((j'+1:Nat):Int)<(S.length:Int):=O;have c3:(0:Int)<=S.getD j' 0/\S.getD j' 0<=S.getD (j'+1) 0/\S.getD (j'+1) 0<=(I.length:Int):=O;have hcl:=Yx h.ok.st hjC;have hk:t-(S.getD j' 0).toNat<(colOf S I j').length:=O;have hcg: ∀k,k<(colOf S I j').length->(colOf S I j').getD k 0=I.getD ((S.getD j' 0).toNat+k) 0:=λk hk=>q2r h.ok.st hjC hk
 have hbs:=qm4 (m:=m) (xs:=colOf S I j') (k:=t-(S.getD j' 0).toNat) O O (λx y hxy hy=>by
  rw[hcg x O,hcg y hy];have:=h.ok.asc hjC (y-x-1) ((S.getD j' 0).toNat+x) O O;rw[show(S.getD j' 0).toNat+x+(y-x-1+1)=(S.getD j' 0).toNat+y by omega]at this
  exact this) hk
 rw[hcg _ hk,show(S.getD j' 0).toNat+(t-(S.getD j' 0).toNat)=t by omega,<-e1]at hbs
 have w1:wI (S.getD j' 0+((t-(S.getD j' 0).toNat:Nat):Int))=(t:Int):=by rw[wQ,wi O O];omega
 have c4:(0:Int)<=(t:Int)/\(t:Int)<(V.length:Int):=O;rw[g29,iP c1,show wI ((j':Int)+1)=((j'+1:Nat):Int)from wsucc O,iP c2]
 simp only[tN];rw[iP c3];have hbs':g59 m ((I.drop (S.getD j' 0).toNat).take ((S.getD (j'+1) 0).toNat-(S.getD j' 0).toNat)) i=some ((((t-(S.getD j' 0).toNat:Nat):Int),true,()),(),(),()):=hbs;rw[hbs',bS];simp only[zP2,cond_false];rw[iP c1,w1,iP c4,tN,<-e3]
end
def vlE (es:List Ent) (i j:Nat):Option Int:=if 0<Q7 es i j es.length then some (es.getD (Q7 es i j es.length-1) zE).2.2 else none
def q84 {es zs:List Ent} {i j:Nat}: ∀{t:Nat},t<=es.length->Q7 (es++zs) i j t=Q7 es i j t
 |0,_=>rfl
 |t+1,h=>by
  have hg:(es++zs).getD t ((0,(0,0)):Ent)=es.getD t (0,(0,0)):=by simp[List.getD,List.getElem?_append,show t<es.length by omega]
  rw[Q7,Q7,hg,q84 (t:=t) O]
def q17 {es:List Ent} {e:Ent} {i j:Nat}:vlE (es++[e]) i j=if e.1=(i:Int)/\e.2.1=(j:Int)then some e.2.2 else vlE es i j:=by
 have hg:(es++[e]).getD es.length ((0,(0,0)):Ent)=e:=by simp[List.getD]
 unfold vlE;rw[zO,List.length_singleton,Q7,hg];split
 . rw[iP O,zf2];rw[show(es++[e]).getD es.length zE=e from hg]
 . rw[q84 (zD _)];split
   . rename_i h1 h2;have hle:=q34 es i j es.length;have:(es++[e]).getD (Q7 es i j es.length-1) zE=es.getD (Q7 es i j es.length-1) zE:=by simp[List.getD,List.getElem?_append,show Q7 es i j es.length-1<es.length by omega]
     rw[this]
   . rfl
def SymV (es:List Ent):Prop:= ∀i j,vlE es i j=vlE es j i
def SymV.diag {es:List Ent} (h:SymV es) {i v:Int}:SymV (es++[(i,(i,v))]):=λa b=>by
 rw[q17,q17,h a b];by_cases q:i=(a:Int)/\i=(b:Int)
 . rw[iP q,iP ⟨q.2,q.1⟩]
 . rw[iN' q,iN' (λq'=>q ⟨q'.2,q'.1⟩)]
def SymV.pair {es:List Ent} (h:SymV es) {i j v:Int} (hne:i≠j):SymV (es++[(i,(j,v)),(j,(i,v))]):=λa b=>by
 have e:es++[(i,(j,v)),(j,(i,v))]=(es++[((i,(j,v)):Ent)])++[((j,(i,v)):Ent)]:=by simp
 rw[e,q17,q17,q17,q17,h a b];simp only;by_cases q1:j=(a:Int)/\i=(b:Int)
 . rw[iP q1,iN' (show¬(j=(b:Int)/\i=(a:Int)) by omega),iP ⟨q1.2,q1.1⟩]
 . rw[iN' q1];by_cases q2:i=(a:Int)/\j=(b:Int)
   . rw[iP q2,iP ⟨q2.2,q2.1⟩]
   . rw[iN' q2,iN' (λq=>q2 ⟨q.2,q.1⟩),iN' (λq=>q1 ⟨q.2,q.1⟩)]
def SymV.can {es:List Ent} {N:Nat} (h:SymV es): ∀e∈can es N N,swE e∈can es N N:=λe he=>by
 obtain⟨i,j,hi,hj,hp,rfl⟩:=q5y.1 he;have h1:=h i j;have e1:vlE es i j=some (es.getD (Q7 es i j es.length-1) zE).2.2:=by unfold vlE;rw[iP hp]
 rw[e1]at h1
 have h2:0<Q7 es j i es.length:=by
  refine zx λhn=> ?_
  unfold vlE at h1;rw[iN' hn]at h1;cases h1
 have h3:(es.getD (Q7 es i j es.length-1) zE).2.2=(es.getD (Q7 es j i es.length-1) zE).2.2:=by
  unfold vlE at h1;rw[iP h2]at h1;exact zD3 h1
 exact q5y.2 ⟨j,i,hj,hi,h2,by simp only[swE];rw[h3]⟩
end Go.Vs.F
set_option maxRecDepth 100000
namespace Go.Vs.F
section
variable {R C:Nat} {S I V:LI}
def qon {m:Nat} {xs:LI} {t:Int} (hl:xs.length<=100000) (hm:100001<m) (ha: ∀i j,i<j->j<xs.length->xs.getD i 0<xs.getD j 0) (hn: ∀k,k<xs.length->xs.getD k 0≠t):
 ∃r:Nat,g59 m xs t=some (((r:Int),false,()),(),(),()):=by
 obtain⟨r,e,h1,h2,h3⟩:=BS_L0 m (t:=t) (a:=(xs.length:Int)) hl ha m 0 xs.length O O (zD _) (λk hk=>absurd hk (zW _)) (λk a b=>O)
 rw[nZ]at e;refine⟨r,?_⟩;rw[g59,e,bS];dsimp only;rw[bQ];by_cases c:r<xs.length
 . have c1:(0:Int)<=(r:Int)/\(r:Int)<(xs.length:Int):=O;rw[iP O,iP c1,tN,bif_eq,iN' (hn r c),iP c1,g98,bS];simp
 . rw[iN' O]
def qpr {m:Nat} (hm:3000000<m) (h:MV R C S I V) {i:Int} {j':Nat} (hjC:j'<C) (hn: ∀v,((i,((j':Int),v)):Ent)∉ents S I V C 0):g29 m (R:Int) (C:Int) S I V i (j':Int)=some ((0,false,()),(),(),(),()):=by
 have hl:=h.ok.st.len;have hsz:=h.ok.sz;have hcz:=h.ok.cz;have hvl:=h.vl;have a:=h.ok.st.rng (j:=j') O;have b:=h.ok.st.rng (j:=j'+1) O;have mo:=h.ok.st.mono j' hjC;have c1:(0:Int)<=(j':Int)/\(j':Int)<(S.length:Int):=O;have c2:(0:Int)<=((j'+1:Nat):Int)/\((j'+1:Nat):Int)<(S.length:Int):=O;have c3:(0:Int)<=S.getD j' 0/\S.getD j' 0<=S.getD (j'+1) 0/\S.getD (j'+1) 0<=(I.length:Int):=O;have hcl:=Yx h.ok.st hjC;have hcg: ∀k,k<(colOf S I j').length->(colOf S I j').getD k 0=I.getD ((S.getD j' 0).toNat+k) 0:=λk hk=>q2r h.ok.st hjC hk
 obtain⟨r,hbs⟩:=qon (m:=m) (xs:=colOf S I j') (t:=i) O O (λx y hxy hy=>by
  rw[hcg x O,hcg y hy];have:=h.ok.asc hjC (y-x-1) ((S.getD j' 0).toNat+x) O O;rw[show(S.getD j' 0).toNat+x+(y-x-1+1)=(S.getD j' 0).toNat+y by omega]at this
  exact this) (λk hk e=>by
  rw[hcg k hk]at e;exact hn (V.getD ((S.getD j' 0).toNat+k) 0) (Jm.2 ⟨j',(S.getD j' 0).toNat+k,O,O,O,O,by rw[e]⟩))
 rw[g29,iP c1,show wI ((j':Int)+1)=((j'+1:Nat):Int)from wsucc O,iP c2]
 simp only[tN];rw[iP c3];have hbs':g59 m ((I.drop (S.getD j' 0).toNat).take ((S.getD (j'+1) 0).toNat-(S.getD j' 0).toNat)) i=some (((r:Int),false,()),(),(),()):=hbs;rw[hbs',bS];simp only[zL3,cond_true]
end
end Go.Vs.F
set_option maxRecDepth 100000
namespace Go.Vs.F
section
variable {R C:Nat} {S I V:LI}
end
end Go.Vs.F
