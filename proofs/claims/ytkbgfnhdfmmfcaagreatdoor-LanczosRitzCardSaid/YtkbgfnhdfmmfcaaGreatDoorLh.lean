/-Keys of floats. The law TridiagKth:program and document search the same eigenvalue. Counts are monotone,and do not see the signs beside the diagonal. The law TridiagMonotone. Directed rounding:the nearest floats below and above a dyad. The nearest floats below and above;dominant diagonals. The bounds of all eigenvalues:program and document agree. Bounds,as both compute them. The law TridiagBounds. The law TridiagRefuses. The example of chapter 38. The law LanczosRitz. -/
import Derived.Test.YtkbgfnhdfmmfcaaGreatDoorLg
import Derived.Test.YtkbgfnhdfmmfcaaGreatDoorFn
import Derived.KernelRfl
set_option linter.unusedVariables false
set_option linter.unusedSimpArgs false
namespace Go.Vs.F
theorem qbo {a:Int} {k:Nat}:Int.fdiv a (2^k)=a/2^k:=
 Int.fdiv_eq_ediv_of_nonneg _ (by exact zz3 (Int.pow_pos O))
theorem q1t {a:Int}:(BitVec.ofInt 64 a).toNat=(a%18446744073709551616).toNat:=by
 rw[BitVec.toNat_ofInt];rfl
theorem qe1 {n:Nat} (h:n<18446744073709551616):n&&&9223372036854775808=if 9223372036854775808<=n then 9223372036854775808 else 0:=by
 have hb:n&&&9223372036854775808=if n.testBit 63 then 9223372036854775808 else 0:=by
  rw[show(9223372036854775808:Nat)=2^63 by decide]
  apply zz2;intro i;rw[zx2,zm1];by_cases c:63=i
  . subst c;cases hb:n.testBit 63
    . simp
    . rw[iP rfl,zm1];simp
  . cases hb:n.testBit 63
    . simp[c]
    . rw[iP rfl,zm1];simp[c]
 have ht:n.testBit 63=decide (9223372036854775808<=n):=by
  rw[Nat.testBit_eq_decide_div_mod_eq];rw[show(2:Nat)^63=9223372036854775808 by decide]
  by_cases c:9223372036854775808<=n
  . rw[decide_eq_decide];omega
  . rw[decide_eq_decide];omega
 rw[hb,ht];by_cases c:9223372036854775808<=n
 . simp[c]
 . simp[c]
theorem q9l: ∀(k a b:Nat),a<2^k->b<2^k->a+b=2*(a&&&b)+(a^^^b)
 |0,a,b,ha,hb=>by
  have:a=0:=by simpa using ha
  have:b=0:=by simpa using hb
  subst a;subst b;rfl
 |k+1,a,b,ha,hb=>by
  have ih:=q9l k (a/2) (b/2) (by rw[zB1]at ha;omega) (by rw[zB1]at hb;omega)
  have e1:(a&&&b)/2=a/2&&&b/2:=Nat.and_div_two;have e2:(a^^^b)/2=a/2^^^b/2:=Nat.xor_div_two
  have m1:(a&&&b)%2=a%2*(b%2):=by
   have h:=Nat.and_mod_two_pow (a:=a) (b:=b) (n:=1);rw[Nat.pow_one]at h;rw[h];rcases zK1 a with h1|h1<;>rcases zK1 b with h2|h2<;>rw[h1,h2]<;>rfl
  have m2:(a^^^b)%2=(a%2+b%2)%2:=by
   have h:=Nat.xor_mod_two_pow (a:=a) (b:=b) (n:=1);rw[Nat.pow_one]at h;rw[h];rcases zK1 a with h1|h1<;>rcases zK1 b with h2|h2<;>rw[h1,h2]<;>rfl
  rw[<-e1,<-e2]at ih;rcases zK1 a with h1|h1<;>rcases zK1 b with h2|h2<;>rw[h1,h2]at m1 m2<;>omega
theorem qfh {a b:Nat} (ha:a<18446744073709551616) (hb:b<18446744073709551616):
 (a&&&b)<18446744073709551616/\(a^^^b)<18446744073709551616/\
 (9223372036854775808<=(a&&&b)↔9223372036854775808<=a/\9223372036854775808<=b)/\
 (9223372036854775808<=(a^^^b)↔ ¬(9223372036854775808<=a↔9223372036854775808<=b)):=by
 have h1:(a&&&b)<2^64:=zt1 zw3 ha;have h2:(a^^^b)<2^64:=Nat.xor_lt_two_pow ha hb
 have t: ∀n:Nat,n<18446744073709551616->(9223372036854775808<=n↔n.testBit 63=true):=by
  intro n hn;rw[Nat.testBit_eq_decide_div_mod_eq,decide_eq_true_eq,show(2:Nat)^63=9223372036854775808 by decide]
  omega
 refine⟨h1,h2,?_,?_⟩
 . rw[t _ h1,t _ ha,t _ hb,zx2,zL]
 . rw[t _ h2,t _ ha,t _ hb,Nat.testBit_xor];cases a.testBit 63<;>cases b.testBit 63<;>simp
theorem qiq {m:Nat} {a b:Int} (ha: -9218868437227405312<=a/\a<=9218868437227405312) (hb: -9218868437227405312<=b/\b<=9218868437227405312):
 g160 m a b=some ((a+b)/2,(),(),())/\g164 m a b=some ((a+b)/2,(),(),()):=by
 obtain⟨x,hx,x1⟩: ∃x:Nat,(a%18446744073709551616).toNat=x/\x<18446744073709551616:=⟨_,rfl,O⟩;obtain⟨y,hy,y1⟩: ∃y:Nat,(b%18446744073709551616).toNat=y/\y<18446744073709551616:=⟨_,rfl,O⟩;have ex:a=if 9223372036854775808<=x then(x:Int)-18446744073709551616 else(x:Int):=by split<;>omega
 have ey:b=if 9223372036854775808<=y then(y:Int)-18446744073709551616 else(y:Int):=by split<;>omega
 obtain⟨p1,p2,p3,p4⟩:=qfh x1 y1;have hs:=q9l 64 x y x1 y1
 have eand:qp .i64 a b=IntKind.wrap .i64 ((x&&&y:Nat):Int):=by
  unfold qp;show IntKind.wrap .i64 ((BitVec.ofInt 64 a&&&BitVec.ofInt 64 b).toNat:Int)=_;rw[BitVec.toNat_and,q1t,q1t,hx,hy]
 have exor:Z5 .i64 a b=IntKind.wrap .i64 ((x^^^y:Nat):Int):=by
  unfold Z5;show IntKind.wrap .i64 ((BitVec.ofInt 64 a^^^BitVec.ofInt 64 b).toNat:Int)=_;rw[BitVec.toNat_xor,q1t,q1t,hx,hy]
 have w: ∀n:Nat,n<18446744073709551616->IntKind.wrap .i64 (n:Int)=if 9223372036854775808<=n then(n:Int)-18446744073709551616 else(n:Int):=by
  intro n hn;unfold IntKind.wrap;show(if(true&&decide ((n:Int)%18446744073709551616>=9223372036854775808))=true then(n:Int)%18446744073709551616-18446744073709551616 else(n:Int)%18446744073709551616)=_
  by_cases c:9223372036854775808<=n
  . rw[iP c,iP (by simp;omega)];omega
  . rw[iN' c,iN' (by simp;omega)];omega
 have sh: ∀z:Int,shr_ .i64 z 1=z/2:=by
  intro z;unfold shr_;rw[show min (1:Int).toNat (IntKind.i64.bits)=1 by decide,qbo];rfl
 constructor
 . rw[g160,eand,exor,sh,w _ p1,w _ p2,wQ]
   have e:(if 9223372036854775808<=x&&&y then((x&&&y:Nat):Int)-18446744073709551616 else((x&&&y:Nat):Int))+(if 9223372036854775808<=x^^^y then((x^^^y:Nat):Int)-18446744073709551616 else((x^^^y:Nat):Int))/2=(a+b)/2:=by
    by_cases cx:9223372036854775808<=x<;>by_cases cy:9223372036854775808<=y
    . rw[iP cx]at ex;rw[iP cy]at ey;rw[iP (p3.2 ⟨cx,cy⟩),iN' (fun h=>p4.1 h ⟨fun _=>cy,fun _=>cx⟩)];omega
    . rw[iP cx]at ex;rw[iN' cy]at ey;rw[iN' (fun h=>cy (p3.1 h).2),iP (p4.2 (fun h=>cy (h.1 cx)))];omega
    . rw[iN' cx]at ex;rw[iP cy]at ey;rw[iN' (fun h=>cx (p3.1 h).1),iP (p4.2 (fun h=>cx (h.2 cy)))];omega
    . rw[iN' cx]at ex;rw[iN' cy]at ey;rw[iN' (fun h=>cx (p3.1 h).1),iN' (fun h=>p4.1 h ⟨fun h=>absurd h cx,fun h=>absurd h cy⟩)];omega
   rw[e,wi O O]
 . have e1:qp .i64 (qp .i64 a b) 1=(a%2)*(b%2):=by
    rw[eand];unfold qp;show IntKind.wrap .i64 ((BitVec.ofInt 64 (IntKind.wrap .i64 ((x&&&y:Nat):Int))&&&BitVec.ofInt 64 1).toNat:Int)=_;rw[BitVec.toNat_and,q1t,q1t]
    have hm:(IntKind.wrap .i64 ((x&&&y:Nat):Int)%18446744073709551616).toNat=x&&&y:=by
     rw[w _ p1];split<;>omega
    rw[hm,show((1:Int)%18446744073709551616).toNat=1 from rfl,Nat.and_one_is_mod]
    have h:=Nat.and_mod_two_pow (a:=x) (b:=y) (n:=1);rw[Nat.pow_one]at h;rw[h];have h1:(x%2:Nat)=(a%2).toNat:=by split at ex<;>omega
    have h2:(y%2:Nat)=(b%2).toNat:=by split at ey<;>omega
    rw[h1,h2];rcases(by omega:a%2=0\/a%2=1)with g|g<;>rcases(by omega:b%2=0\/b%2=1)with g'|g'<;>rw[g,g']<;>decide
   rw[g164,e1,sh,sh,wQ,wQ]
   have:(a%2)*(b%2)=if a%2=1/\b%2=1 then 1 else 0:=by
    rcases(by omega:a%2=0\/a%2=1)with g|g<;>rcases(by omega:b%2=0\/b%2=1)with g'|g'<;>rw[g,g']<;>decide
   rw[this,wi (n:=a/2+b/2) O O];have e2:a/2+b/2+(if a%2=1/\b%2=1 then 1 else 0)=(a+b)/2:=by split<;>omega
   rw[e2,wi O O]
def lowF (f:Int):Int:=f%9223372036854775808
def keyF (f:Int):Int:=if 9223372036854775808<=f then-lowF f else lowF f
def nanB (f:Int):Bool:=decide (9218868437227405312<lowF f)
def inK (k:Int):Prop:= -9218868437227405312<=k/\k<=9218868437227405312
instance {k:Int}:Decidable (inK k):=inferInstanceAs (Decidable (_/\_))
def fromK (k:Int):Int:=if k<0 then 9223372036854775808-k else k
theorem fields {f:Int} (h:U64 f):qp .u64 (shr_ .u64 f 52) 2047=f/4503599627370496%2048/\qp .u64 f 4503599627370495=f%4503599627370496:=by
 obtain⟨n,rfl⟩: ∃n:Nat,f=(n:Int):=⟨f.toNat,by have:=h.1;omega⟩
 have hn:n<18446744073709551616:=by have:=h.2;omega
 have e1:shr_ .u64 (n:Int) 52=((n/4503599627370496:Nat):Int):=by
  unfold shr_;rw[show min (52:Int).toNat (IntKind.u64.bits)=52 by decide,qbo];rfl
 have e2:=and64 (a:=n/4503599627370496) (b:=2047) O O;have e3:=and64 (a:=n) (b:=4503599627370495) hn O;rw[show((2047:Nat):Int)=2047 from rfl,show(2047:Nat)=2^11-1 by decide,zT1]at e2
 rw[show((4503599627370495:Nat):Int)=4503599627370495 from rfl,show(4503599627370495:Nat)=2^52-1 by decide,zT1]at e3
 rw[e1,e2,e3];constructor<;>omega
theorem tops {f:Int} (h:U64 f):qp .u64 f 9223372036854775808=(if 9223372036854775808<=f then 9223372036854775808 else 0)/\Zm .u64 f 9223372036854775808=lowF f/\
 Z5 .u64 f 9223372036854775808=(if 9223372036854775808<=f then f-9223372036854775808 else f+9223372036854775808)/\b_or_ .u64 f 9223372036854775808=lowF f+9223372036854775808:=by
 obtain⟨n,rfl⟩: ∃n:Nat,f=(n:Int):=⟨f.toNat,by have:=h.1;omega⟩
 have hn:n<18446744073709551616:=by have:=h.2;omega
 have ha:=qe1 hn;have hs:=q9l 64 n 9223372036854775808 hn O;obtain⟨p1,p2,-,-⟩:=qfh hn (show 9223372036854775808<18446744073709551616 by omega)
 have hx:(n^^^9223372036854775808)=if 9223372036854775808<=n then n-9223372036854775808 else n+9223372036854775808:=by
  split at ha<;>split<;>omega
 have ho:(n|||9223372036854775808)=n%9223372036854775808+9223372036854775808:=by
  have hl:n%9223372036854775808<2^63:=O;have e:=zU1 hl 1;rw[zk1]at e
  have e2:n|||9223372036854775808=9223372036854775808|||n%9223372036854775808:=by
   apply zz2;intro i;rw[show(9223372036854775808:Nat)=2^63 by decide]
   simp only[zA4,zm1,Nat.testBit_mod_two_pow];by_cases c:i<63
   . simp[c,Bool.or_comm]
   . by_cases d:63=i
     . simp[d]
     . have:n.testBit i=false:=Nat.testBit_lt_two_pow (zu1 hn (by
        rw[show(18446744073709551616:Nat)=2^64 by decide];exact zY O O))
       simp[c,d,this]
  rw[e2];rw[show(9223372036854775808:Nat)=2^63 by decide,<-e];omega
 have e1:=and64 hn (show 9223372036854775808<18446744073709551616 by omega)
 have n1:(BitVec.ofInt 64 (n:Int)).toNat=n:=ofInt64 hn;have n2:(BitVec.ofInt 64 9223372036854775808).toNat=9223372036854775808:=ofInt64 (a:=9223372036854775808) O;refine⟨?_,?_,?_,?_⟩
 . rw[show((9223372036854775808:Nat):Int)=9223372036854775808 from rfl]at e1
   rw[e1,ha];split<;>split<;>omega
 . unfold Zm lowF;show IntKind.wrap .u64 ((BitVec.ofInt 64 (n:Int)&&& ~~~(BitVec.ofInt 64 9223372036854775808)).toNat:Int)=_
   have e:(BitVec.ofInt 64 (n:Int)&&& ~~~(BitVec.ofInt 64 9223372036854775808)).toNat=n%9223372036854775808:=by
    rw[BitVec.toNat_and,n1,show(~~~(BitVec.ofInt 64 9223372036854775808)).toNat=2^63-1 by decide,zT1]
   rw[e,wu O O];omega
 . unfold Z5;show IntKind.wrap .u64 ((BitVec.ofInt 64 (n:Int)^^^BitVec.ofInt 64 9223372036854775808).toNat:Int)=_;rw[BitVec.toNat_xor,n1,n2,hx,wu (by split<;>omega) (by split<;>omega)]
   split<;>split<;>omega
 . unfold b_or_ lowF;show IntKind.wrap .u64 ((BitVec.ofInt 64 (n:Int)|||BitVec.ofInt 64 9223372036854775808).toNat:Int)=_
   rw[BitVec.toNat_or,n1,n2,ho,wu O O];omega
theorem qq0 {f:Int} (h:U64 f):9218868437227405312<lowF f↔f/4503599627370496%2048=2047/\f%4503599627370496≠0:=by
 unfold lowF;have:=h.1;have:=h.2;omega
theorem q8t {m:Nat} {f:Int} (h:U64 f): ∃k,g45 m f=some (k,(),())/\g143 m f=some (k,(),())/\(k=3↔nanB f=true):=by
 have hf:=fields h;have hn:=qq0 h;have hl:0<=f/4503599627370496%2048/\f/4503599627370496%2048<2048:=O;unfold nanB;rw[decide_eq_true_eq,hn,g45,g110,g143,hf.1,hf.2,bS,wQ,wi O O];dsimp only;simp only[bif_eq,bif_ne];generalize f/4503599627370496%2048=a;generalize f%4503599627370496=b;by_cases c:a=2047
 . by_cases d:b=0
   . exact⟨2,by simp[c,d],by simp[c,d],by simp[c,d]⟩
   . exact⟨3,by simp[c,d],by simp[c,d],by simp[c,d]⟩
 . by_cases e:a=0
   . by_cases d:b=0
     . exact⟨0,by simp[e,d],by simp[e,d],by simp[e,d]⟩
     . exact⟨1,by simp[e,d],by simp[e,d],by simp[e,d]⟩
   . exact⟨1,by simp[c,e],by simp[c,e],by simp[c,e]⟩
theorem qjk {m:Nat} (hm:10<m) {f:Int} (h:U64 f):g236 m [f]=some (nanB f,(),()):=by
 obtain⟨k,h1,-,h3⟩:=q8t (m:=m) h;obtain⟨j,rfl⟩: ∃j,m=j+2:=⟨m-2,O⟩;rw[g236,g236L0];simp only[zy,List.length_nil,zF,zJ3];rw[show(((1:Nat):Int))=1 from rfl,bQ,iP O,iP O]
 simp only[List.getD_cons_zero,h1,bS,bif_eq];by_cases c:k=3
 . rw[iP c,bS,h3.1 c]
 . rw[iN' c,wQ,wi O O,g236L0,bQ,iN' O,bS];cases hb:nanB f
   . rfl
   . exact absurd (h3.2 hb) c
theorem q2b (f:Int):0<=lowF f/\lowF f<9223372036854775808:=by unfold lowF;omega
def keyR (f:Int):Int×Bool×Unit:=if nanB f then(0,false,())else(keyF f,true,())
theorem qew {m:Nat} (hm:10<m) {f:Int} (h:U64 f):g163 m f=some (keyR f,(),()):=by
 obtain⟨k,h1,h2,h3⟩:=q8t (m:=m) h;have ht:=tops h;have hl:=q2b f;unfold keyR;rw[g163,h2,bS,bif_eq,ht.1,ht.2.1];dsimp only;by_cases c:k=3
 . rw[iP c,iP (h3.1 c)]
 . have hb:nanB f=false:=by
    cases hb:nanB f
    . rfl
    . exact absurd (h3.2 hb) c
   rw[iN' c,hb];simp only[bif_ne,wQ];rw[wi (n:=lowF f) O O,wi (n:=0-lowF f) O O];unfold keyF;by_cases d:9223372036854775808<=f
   . rw[iP d,iN' O,iP d,Int.zero_sub];rfl
   . rw[iN' d,iP rfl,iN' d];rfl
def fromR (k:Int):Int×Bool×Unit:=if inK k then(fromK k,true,())else(0,false,())
theorem qle {k:Int} (h:inK k):U64 (fromK k):=by unfold fromK U64;unfold inK at h;split<;>omega
theorem qnf {k:Int} (h:inK k):keyF (fromK k)=k/\nanB (fromK k)=false:=by
 unfold keyF fromK nanB lowF;unfold inK at h;by_cases c:k<0
 . rw[iP c,iP O];exact⟨O,decide_eq_false O⟩
 . rw[iN' c,iN' O];exact⟨O,decide_eq_false O⟩
theorem q3w {m:Nat} (hm:10<m) {k:Int} (h:I64 k):g161 m k=some (fromR k,(),())/\g165 m k=some (fromR k,(),()):=by
 unfold I64 at h;have hK:=qew hm (f:=9218868437227405312) ⟨O,O⟩;have kk:keyR 9218868437227405312=(9218868437227405312,true,()):=by decide
 unfold fromR fromK;constructor
 . rw[g161];simp only[bQ,wQ];by_cases c:k< -9218868437227405312
   . rw[iP c,iN' (show¬inK k by unfold inK;omega)]
   . by_cases d:9218868437227405312<k
     . rw[iN' c,iP d,iN' (show¬inK k by unfold inK;omega)]
     . rw[iN' c,iN' d,iP (show inK k by unfold inK;omega)]
       by_cases e:k<0
       . have u:U64 (0-k):=by unfold U64;omega
         rw[iP e,iP e,wi O O,show wJ (0-k)=0-k from wu O O,g238,qjk hm u,bS,(tops u).2.2.1]
         have:nanB (0-k)=false:=by unfold nanB lowF;exact decide_eq_false O
         rw[this,cond_false,bS,iN' O];congr 3;omega
       . rw[iN' e,iN' e,show wJ k=k from wu O O]
 . rw[g165,hK,kk,bS];have w0:wI (0-9218868437227405312)= -9218868437227405312:=by decide
   simp only[bQ,w0,wQ];by_cases c:k< -9218868437227405312
   . rw[iN' O,iP O,iN' (show¬inK k by unfold inK;omega)]
   . by_cases d:9218868437227405312<k
     . rw[iP d,iN' (show¬inK k by unfold inK;omega)]
     . rw[iN' d,iN' O,iP (show inK k by unfold inK;omega)]
       by_cases e:k<0
       . have u:U64 (0-k):=by unfold U64;omega
         rw[iP e,iP e,wi O O,show wJ (0-k)=0-k from wu O O,(tops u).2.2.2]
         have:lowF (0-k)+9223372036854775808=9223372036854775808-k:=by unfold lowF;omega
         rw[this]
       . rw[iN' e,iN' e,show wJ k=k from wu O O]
theorem qgj {f:Int} (h:nanB f=false):inK (keyF f):=by
 unfold nanB at h;rw[decide_eq_false_iff_not]at h;have:=q2b f;unfold keyF inK;split<;>omega
end Go.Vs.F
set_option linter.unusedSectionVars false
set_option maxRecDepth 100000
namespace Go.Vs.F
theorem q6w {f:Int} (h:U64 f):kindN f=3↔nanB f=true:=by
 obtain⟨k,h1,h2,h3⟩:=q8t (m:=0) h;have:=(q9m (m:=0) h).1;rw[this]at h1;have e:kindN f=k:=by injection h1 with h1;exact congrArg Prod.fst h1
 rw[e];exact h3
theorem qhw {k:Int} (h:inK k):kindN (fromK k)≠3:=by
 rw[Ne,q6w (qle h),(qnf h).2];simp
section
variable {m:Nat} (hm:5000000000<=m) {d e:LI} {C:Int->Nat} (hC: ∀q,inK q->g162 m d e (fromK q)=some ((C q:Int),(),(),(),())/\g166 m d e (fromK q)=some (((C q:Int),0,()),(),(),(),()))
include hm hC
theorem qrs (k:Int) (a b c a' b' c':Int): ∀(t N:Nat) (lo hi:Int),t<N->inK lo->inK hi->lo<hi->hi-lo<=2^t->
 ∃l,inK l/\inK (l+1)/\(((C lo:Int)<=k)->((C l:Int)<=k))/\((k<(C hi:Int))->(k<(C (l+1):Int)))/\lo<=l/\l+1<=hi/\
  g89L0 m N d e k a b c lo hi=some (.inl (d,e,(a,b,c,()),l,l+1,()))/\
  g90L0 m N d e k a' b' c' lo hi=some (.inl (d,e,(a',b',c',()),l,l+1,())):=by
 intro t;induction t with
 |zero=>
  intro N lo hi hN h1 h2 h3 h4;obtain⟨N,rfl⟩: ∃N',N=N'+1:=⟨N-1,O⟩;have:hi=lo+1:=by rw[zE4]at h4;omega
  subst this;have r1:=h1;have r2:=h2;unfold inK at r1 r2;refine⟨lo,h1,h2,fun h=>h,fun h=>h,zK3 _,zK3 _,?_,?_⟩
  . rw[g89L0,wQ,wi O O,bQ,iN' O]
  . rw[g90L0,wQ,wi O O,bQ,iN' O]
 |succ t ih=>
  intro N lo hi hN h1 h2 h3 h4;obtain⟨N,rfl⟩: ∃N',N=N'+1:=⟨N-1,O⟩;have r1:=h1;have r2:=h2;unfold inK at r1 r2;rw[g89L0,g90L0,wQ,wQ,wi (n:=hi-1) O O,wi (n:=lo+1) O O,bQ,bQ];by_cases c0:hi=lo+1
  . subst c0;rw[iN' O,iN' O];exact⟨lo,h1,h2,fun h=>h,fun h=>h,zK3 _,zK3 _,rfl,rfl⟩
  . rw[iP O,iP O];obtain⟨m1,m2⟩:=qiq (m:=m) r1 r2;have hq:inK ((lo+hi)/2):=by unfold inK;omega
    obtain⟨f1,f2⟩:=q3w (m:=m) O (k:=(lo+hi)/2) (by unfold inK at hq;unfold I64;omega)
    have hr:fromR ((lo+hi)/2)=(fromK ((lo+hi)/2),true,()):=iP hq;obtain⟨c1,c2⟩:=hC _ hq;rw[m1,m2,bS,bS];dsimp only;rw[f1,f2,hr,bS,bS];dsimp only;rw[c1,c2,bS,bS,bQ,bQ];dsimp only;have hp:(2:Int)^(t+1)=2^t+2^t:=by rw[Int.pow_succ];omega
    by_cases g:(C ((lo+hi)/2):Int)>k
    . rw[iP g,iP g];obtain⟨l,q1,q2,q3,q4,q5,q6,q7,q8⟩:=ih N lo ((lo+hi)/2) O h1 hq O O;exact⟨l,q1,q2,q3,fun _=>q4 g,q5,O,q7,q8⟩
    . rw[iN' g,iN' g];obtain⟨l,q1,q2,q3,q4,q5,q6,q7,q8⟩:=ih N ((lo+hi)/2) hi O hq h2 O O;exact⟨l,q1,q2,fun _=>q3 O,q4,O,q6,q7,q8⟩
end
theorem q9a:inK (-9218868437227405312)/\inK 9218868437227405312:=by unfold inK;omega
theorem qm2 {m:Nat} (hm:5000000000<=m) {d e:LI} (hd:FnL d) (he:FnL e) (hle:e.length=d.length-1) (h5:d.length<=5) (k:Int):
 ∃r,g89 m d e k=some (r,(),(),(),())/\g90 m d e k=some (r,(),(),(),())/\(¬(0<=k/\k<(d.length:Int))->r=((0,0,0,()),3,()))/\
  ((0<=k/\k<(d.length:Int))-> ∃(l:Int) (c1 c2:Nat),inK l/\inK (l+1)/\r=((fromK l,fromK (l+1),(c2:Int)-(c1:Int),()),0,())/\CntT d e (fromK l) c1/\CntT d e (fromK (l+1)) c2/\(c1:Int)<=k/\k<(c2:Int)):=by
 have hc:=qam hd he hle O;obtain⟨k1,k2⟩:=q1f hm hd.U he.U O O;rw[g89,g90,k1,k2,bS,bS,hc,bQ,bQ,bQ,bQ];dsimp only;rw[show((0:Int) !=0)=false from rfl,cond_false,cond_false]
 by_cases c1:k<0
 . rw[iP c1,iP c1];exact⟨_,rfl,rfl,fun _=>rfl,fun h=>O⟩
 . rw[iN' c1,iN' c1];by_cases c2:k>=(d.length:Int)
   . rw[iP c2,iP c2];exact⟨_,rfl,rfl,fun _=>rfl,fun h=>O⟩
   . rw[iN' c2,iN' c2]
     have hA: ∀q,∃c:Nat,inK q->CntT d e (fromK q) c/\g162 m d e (fromK q)=some ((c:Int),(),(),(),())/\g166 m d e (fromK q)=some (((c:Int),0,()),(),(),(),()):=by
      intro q;by_cases hq:inK q
      . obtain⟨c,g1,g2,g3,g4⟩:=qea hm hd.U he.U O O (qle hq) hc h5 (qhw hq);exact⟨c,fun _=>⟨g1,g2,g4⟩⟩
      . exact⟨0,fun h=>absurd h hq⟩
     obtain⟨C,hC⟩:=Classical.axiomOfChoice hA;obtain⟨l,q1,q2,q3,q4,q5,q6,q7,q8⟩:=qrs hm (C:=C) (fun q hq=>(hC q hq).2) k 0 0 0 0 0 0 66 m (-9218868437227405312) 9218868437227405312 O q9a.1 q9a.2 O (by decide)
     have K1:=qew (m:=m) O (f:=18442240474082181120) ⟨O,O⟩;have K2:=qew (m:=m) O (f:=9218868437227405312) ⟨O,O⟩;have e1:keyR 18442240474082181120=(-9218868437227405312,true,()):=by decide
     have e2:keyR 9218868437227405312=(9218868437227405312,true,()):=by decide
     rw[q7,K1,bS,bS,K2,bS,e1,e2];dsimp only;rw[q8,bS];dsimp only;have i1:=q1;have i2:=q2;unfold inK at i1 i2;obtain⟨f1,f2⟩:=q3w (m:=m) O (k:=l) (by unfold I64;omega)
     obtain⟨f3,f4⟩:=q3w (m:=m) O (k:=l+1) (by unfold I64;omega)
     rw[show fromR l=(fromK l,true,())from iP q1]at f1 f2
     rw[show fromR (l+1)=(fromK (l+1),true,())from iP q2]at f3 f4
     obtain⟨t1,a1,b1⟩:=hC l q1;obtain⟨t2,a2,b2⟩:=hC (l+1) q2;have l1:=t1.2.2.2;have l2:=t2.2.2.2;have w:wI (((C (l+1):Nat):Int)-((C l:Nat):Int))=((C (l+1):Nat):Int)-((C l:Nat):Int):=by rw[wQ,wi O O]
     rw[f1,bS,f3,bS,f2,bS,f4,bS];dsimp only;rw[a2,bS,a1,bS,b1,bS,b2,bS];dsimp only;rw[w];obtain⟨z1,_,_⟩:=hC _ q9a.1;obtain⟨z2,_,_⟩:=hC _ q9a.2;have y1:C (-9218868437227405312)=0:=z1.2.1 (by decide)
     have y2:C 9218868437227405312=d.length:=z2.1 (by decide)
     exact⟨_,rfl,rfl,fun h=>absurd ⟨O,O⟩ h,fun _=>⟨l,C l,C (l+1),q1,q2,rfl,t1,t2,q3 O,q4 O⟩⟩
end Go.Vs.F
set_option maxRecDepth 100000
namespace Go.Vs.F
def gv (k:Nat):Nat:=if k/4503599627370496=0 then k else(k%4503599627370496+4503599627370496)*2^(k/4503599627370496-1)
theorem gv_lt {k l:Nat} (h:k<l):gv k<gv l:=by
 unfold gv;by_cases c1:k/4503599627370496=0
 . rw[iP c1];by_cases c2:l/4503599627370496=0
   . rw[iP c2];exact h
   . rw[iN' c2];have:=zf2 (l%4503599627370496+4503599627370496) (zu (n:=l/4503599627370496-1) (show 0<2 by decide))
     omega
 . rw[iN' c1,iN' O];by_cases c2:k/4503599627370496=l/4503599627370496
   . rw[c2];exact zm2 O (zu (by decide))
   . have hp:2^(l/4503599627370496-1)=2^(k/4503599627370496-1)*2*2^(l/4503599627370496-1-(k/4503599627370496-1)-1):=by
      rw[<-Nat.pow_succ,<-Nat.pow_add];congr 1;omega
     have h1:(k%4503599627370496+4503599627370496)*2^(k/4503599627370496-1)<4503599627370496*(2^(k/4503599627370496-1)*2):=by
      have hpp:=zu (n:=k/4503599627370496-1) (show 0<2 by decide)
      have:(k%4503599627370496+4503599627370496)*2^(k/4503599627370496-1)<(4503599627370496*2)*2^(k/4503599627370496-1):=zm2 O hpp;rw[zT,zZ 2]at this;exact this
     have h2:4503599627370496*(2^(k/4503599627370496-1)*2)<=(l%4503599627370496+4503599627370496)*2^(l/4503599627370496-1):=by
      rw[hp];refine zd3 O ?_;exact zf2 _ (zu (by decide))
     omega
theorem gv_le {k l:Nat} (h:k<=l):gv k<=gv l:=by
 rcases zG1 k l with c|c
 . exact zk2 (gv_lt c)
 . rw[Nat.le_antisymm h c];exact zJ _
theorem qdl {f:Int} (h:U64 f) (hf:FinF f):valF f=if 9223372036854775808<=f then-((gv (lowF f).toNat:Nat):Int)else((gv (lowF f).toNat:Nat):Int):=by
 obtain⟨k,hk⟩: ∃k:Nat,lowF f=(k:Int):=⟨(lowF f).toNat,by have:=q2b f;omega⟩
 have e1:fexp f=((k/4503599627370496:Nat):Int):=by unfold fexp;unfold lowF at hk;omega
 have e2:ffrac f=((k%4503599627370496:Nat):Int):=by unfold ffrac;unfold lowF at hk;omega
 rw[hk,tN];unfold valF sc ofZ ofE fneg gv;rw[e1,e2]
 have key: ∀s:Int,s*(if((k/4503599627370496:Nat):Int)=0 then((k%4503599627370496:Nat):Int)else((k%4503599627370496:Nat):Int)+4503599627370496)*2^((if((k/4503599627370496:Nat):Int)=0 then-1074 else((k/4503599627370496:Nat):Int)-1075)- -1074).toNat=s*(((if k/4503599627370496=0 then k else(k%4503599627370496+4503599627370496)*2^(k/4503599627370496-1)):Nat):Int):=by
  intro s;by_cases c:k/4503599627370496=0
  . rw[iP O,iP O,iP c,show((-1074:Int)- -1074).toNat=0 by decide,zE4,zb3]
    congr 2;omega
  . rw[iN' O,iN' O,iN' c,zT3,zd1,za1];congr 2
    . congr 1;omega
 by_cases c:9223372036854775808<=f
 . rw[decide_eq_true c,iP c,iP rfl,key,Int.neg_one_mul]
 . rw[decide_eq_false c,iN' c,iN' (by decide),key,zC4]
end Go.Vs.F
set_option maxRecDepth 100000
namespace Go.Vs.F
theorem q6j {f:Int} (h:U64 f):FinF f↔lowF f<9218868437227405312:=by unfold FinF fexp lowF;obtain⟨h1,h2⟩:=h;omega
theorem qqs {f:Int} (h:U64 f) (hf:FinF f):nanB f=false:=by
 have:=(q6j h).1 hf;unfold nanB;exact decide_eq_false O
end Go.Vs.F
set_option maxRecDepth 100000
namespace Go.Vs.F
def nbT (V:Nat):Nat:=blen V-53
def kfl (V:Nat):Nat:=nbT V*4503599627370496+V/2^nbT V
def kce (V:Nat):Nat:=nbT V*4503599627370496+(if V%2^nbT V=0 then V/2^nbT V else V/2^nbT V+1)
theorem qjm {n N:Nat} (h:N<=9007199254740992) (h2:4503599627370496<=N\/n=0):gv (n*4503599627370496+N)=N*2^n:=by
 unfold gv;by_cases c:N<4503599627370496
 . have hn:n=0:=O;subst hn;rw[iP O,zO3,zF,zb2,zk1]
 . by_cases d:N=9007199254740992
   . subst d;have e1:(n*4503599627370496+9007199254740992)/4503599627370496=n+2:=O;have e2:(n*4503599627370496+9007199254740992)%4503599627370496=0:=O;rw[e1,e2,iN' O,zF,show n+2-1=n+1 by omega,zB1]
     omega
   . have e1:(n*4503599627370496+N)/4503599627370496=n+1:=O;have e2:(n*4503599627370496+N)%4503599627370496=N-4503599627370496:=O;rw[e1,e2,iN' O,show n+1-1=n by omega]
     congr 1;omega
theorem nb_lo {V:Nat} (hV:V≠0):V/2^nbT V<9007199254740992/\(4503599627370496<=V/2^nbT V\/nbT V=0):=by
 have h1:=J8 V;have h2:=qeu hV;have c53:(2:Nat)^53=9007199254740992:=by decide
 have c52:(2:Nat)^52=4503599627370496:=by decide
 constructor
 . rw[zz1 (zu O),<-c53,<-Nat.pow_add];refine zu1 h1 (zY O ?_);unfold nbT;omega
 . by_cases c:nbT V=0
   . exact .inr c
   . left;rw[zG3 (zu O),<-c52,<-Nat.pow_add];refine zK (zY O ?_) h2;unfold nbT at*;omega
theorem qnw {V:Nat} (hV:V≠0):gv (kfl V)=V/2^nbT V*2^nbT V/\gv (kfl V+1)=(V/2^nbT V+1)*2^nbT V:=by
 obtain⟨h1,h2⟩:=nb_lo hV;refine⟨qjm O h2,?_⟩;have:kfl V+1=nbT V*4503599627370496+(V/2^nbT V+1):=by unfold kfl;omega
 rw[this];exact qjm O O
theorem qf2 {V:Nat} (hV:V≠0) (l:Nat):gv l<=V↔l<=kfl V:=by
 obtain⟨h1,h2⟩:=qnw hV;have h3:=Nat.div_mul_le_self V (2^nbT V)
 have h4:V<(V/2^nbT V+1)*2^nbT V:=by
  have:=Nat.lt_mul_div_succ V (zu (n:=nbT V) (show 0<2 by decide))
  rwa [zZ]at this
 constructor
 . intro h;refine zh1 fun hlt=> ?_
   have:=gv_le (k:=kfl V+1) (l:=l) hlt;omega
 . intro h;have:=gv_le h;omega
theorem qld {V:Nat} (hV:V≠0) (l:Nat):V<=gv l↔kce V<=l:=by
 have h0:=qf2 hV;obtain⟨h1,h2⟩:=qnw hV;have h3:=zF3 V (2^nbT V)
 have e:kce V=if V%2^nbT V=0 then kfl V else kfl V+1:=by
  unfold kce kfl;split<;>omega
 rw[e];by_cases c:V%2^nbT V=0
 . rw[iP c];have hv:gv (kfl V)=V:=by rw[h1,zZ];omega
   constructor
   . intro h;refine zh1 fun hlt=> ?_
     have:=gv_lt hlt;omega
   . intro h;have:=gv_le h;omega
 . rw[iN' c];have hne:gv (kfl V)≠V:=by rw[h1,zZ];omega
   constructor
   . intro h;refine Nat.lt_of_not_le fun hle=> ?_
     have a1:=(h0 l).2 hle;have a2:gv l=V:=O;have a3:=gv_le hle;have a4:=(h0 (kfl V)).2 (zJ _);omega
   . intro h;refine zh1 fun hlt=> ?_
     have:=(h0 l).1 (zk2 hlt);omega
def awayB (neg:Bool) (mode:Int):Bool:=if mode=1 then neg else !neg
def rdK (neg:Bool) (mode:Int) (V:Nat):Nat:=if awayB neg mode then min (kce V) 9218868437227405312 else min (kfl V) 9218868437227405311
theorem qhz {neg:Bool} {v:Nat} (hv:v≠0) {e:Int} (he: -1074<=e) (hv2:blen v<=100000) (he2:e<=100000) {mode:Int} (hm:mode=1\/mode=2):q0j neg v e false mode=sgnF neg ((rdK neg mode (v*2^(e+1074).toNat):Nat):Int):=by
 generalize hV:v*2^(e+1074).toNat=V
 have hV0:V≠0:=by rw[<-hV];exact Nat.mul_ne_zero hv (by have:=zu (n:=(e+1074).toNat) (show 0<2 by decide);omega)
 have hbl:blen V=(e+1074).toNat+blen v:=by rw[<-hV,zZ];exact J3 hv
 have hb1:1<=blen v:=by rw[Qz hv];omega
 obtain⟨n1,n2⟩:=nb_lo hV0;have hunit:unitF v e=(nbT V:Int)-1074:=by unfold unitF nbT;rw[hbl];omega
 have hmult:multF neg v e false mode=if awayB neg mode then(if V%2^nbT V=0 then V/2^nbT V else V/2^nbT V+1)else V/2^nbT V:=by
  unfold multF;by_cases c:unitF v e<=e
  . rw[iP c]
    have hVe:V=v*2^(e-unitF v e).toNat*2^nbT V:=by
     have h1:(e+1074).toNat=(e-unitF v e).toNat+nbT V:=O;rw[h1,zX1,<-Nat.mul_assoc]at hV;exact hV.symm
    have hp:=zu (n:=nbT V) (show 0<2 by decide)
    have q1:V/2^nbT V=v*2^(e-unitF v e).toNat:=by
     conv=>lhs;arg 1;rw[hVe]
     exact zY3 _ hp
    have q2:V%2^nbT V=0:=by
     conv=>lhs;arg 1;rw[hVe]
     exact Nat.mul_mod_left ..
    rw[q2,iP rfl,q1];split<;>rfl
  . rw[iN' c];have hp:=zu (n:=(e+1074).toNat) (show 0<2 by decide)
    have hn:nbT V=(unitF v e-e).toNat+(e+1074).toNat:=O
    have q1:V/2^nbT V=v/2^(unitF v e-e).toNat:=by
     rw[hn,<-hV,zX1,Nat.mul_div_mul_right _ _ hp]
    have q2:(V%2^nbT V=0)↔v%2^(unitF v e-e).toNat=0:=by
     rw[hn,<-hV,zX1,Nat.mul_mod_mul_right];constructor
     . intro h;rcases Nat.mul_eq_zero.1 h with h|h
       . exact h
       . omega
     . intro h;rw[h,zO3]
    unfold cutN;rw[q1];by_cases c2:v%2^(unitF v e-e).toNat=0
    . rw[iP ⟨c2,rfl⟩,iP (q2.2 c2)];split<;>rfl
    . rw[iN' (fun h=>c2 h.1),iN' (fun h=>c2 (q2.1 h))]
      have hu: ∀h o,upB neg h o mode=awayB neg mode:=by
       intro h o;unfold upB awayB;rcases hm with rfl|rfl
       . rw[iP rfl,iP rfl]
       . rw[iN' (by decide),iP rfl,iN' (by decide)]
      rw[hu];cases awayB neg mode<;>rfl
 have hover:overF neg mode=sgnF neg (if awayB neg mode then 9218868437227405312 else 9218868437227405311):=by
  unfold overF awayB;rcases hm with rfl|rfl<;>cases neg<;>rfl
 unfold q0j;rw[hmult,hunit]
 have hpack: ∀N:Nat,N<=9007199254740992->(4503599627370496<=N\/nbT V=0)->packF neg N ((nbT V:Int)-1074) mode=if nbT V*4503599627370496+N<9218868437227405312 then sgnF neg ((nbT V*4503599627370496+N:Nat):Int)else overF neg mode:=by
  intro N hN hN2;unfold packF;by_cases c1:N=9007199254740992
  . rw[iP c1];by_cases c2:(nbT V:Int)-1074+1076>=2047
    . rw[iP c2,iN' O]
    . rw[iN' c2,iP O];congr 1;omega
  . rw[iN' c1];by_cases c3:N<4503599627370496
    . rw[iP c3,iP O];congr 2;omega
    . rw[iN' c3];by_cases c2:(nbT V:Int)-1074+1075>=2047
      . rw[iP c2,iN' O]
      . rw[iN' c2,iP O];congr 1;omega
 unfold rdK;cases ha:awayB neg mode
 . rw[ha]at hover;simp only[zA2,if_false]at hover⊢;rw[hpack _ O n2,hover];unfold kfl;by_cases c:nbT V*4503599627370496+V/2^nbT V<9218868437227405312
   . rw[iP c,zW3 O]
   . rw[iN' c,Nat.min_eq_right O];rfl
 . rw[ha]at hover;simp only[if_true]at hover⊢
   have key: ∀N,N<=9007199254740992->(4503599627370496<=N\/nbT V=0)->packF neg N ((nbT V:Int)-1074) mode=sgnF neg ((min (nbT V*4503599627370496+N) 9218868437227405312:Nat):Int):=by
    intro N a1 a2;rw[hpack N a1 a2,hover];by_cases c:nbT V*4503599627370496+N<9218868437227405312
    . rw[iP c,zW3 O]
    . rw[iN' c,Nat.min_eq_right O];rfl
   unfold kce;by_cases c:V%2^nbT V=0
   . rw[iP c];exact key _ O n2
   . rw[iN' c];exact key _ O O
theorem q7s {z:Int} (hz:z≠0) (hb:blen z.natAbs<=10000) {mode:Int} (hm:mode=1\/mode=2):q0e (mkD z (-1074)) mode=sgnF (decide (z<0)) ((rdK (decide (z<0)) mode z.natAbs:Nat):Int):=by
 have hok:OkD z (-1074):=Qk hb O O;obtain⟨w,f,k⟩:=hok.nf
 have hw:w≠0:=by
  rintro rfl
  have:=k.eq.low (c:=min f (-1074)) O O;unfold sc at this;rw[zK2]at this;rcases Int.mul_eq_zero.1 this.symm with h|h
  . exact hz h
  . have:=Z7 (-1074-min f (-1074)).toNat;omega
 have hf:f= -1074+(tz z.natAbs:Int):=by
  have:=ex_mk hok hz;rw[k.md]at this;exact this
 have hs:w*2^(f+1074).toNat=z:=by
  have:=k.eq.low (c:= -1074) O O;rw[q8s]at this;unfold sc at this;rw[show f- -1074=f+1074 by omega]at this
  exact this
 have hN:z.natAbs=w.natAbs*2^(f+1074).toNat:=by
  rw[<-hs,Xb,zZ]
 have hneg:decide (w<0)=decide (z<0):=by rw[<-hs,decide_eq_decide];exact q4i.symm
 have hl:lim w.natAbs≠[]:=fun h=>hw (by have:=Zv.1 h;omega)
 have htz:=Jk (n:=z.natAbs)
 have hbw:blen w.natAbs<=10000:=by
  refine zK (q3c ?_) hb;rw[hN];exact zf2 _ (zu (by decide))
 unfold q0e;rw[k.md];dsimp only;rw[iN' (by decide),iN' hl,Q5,qhz (v:=w.natAbs) O O O O hm,<-hN,hneg]
end Go.Vs.F
set_option maxRecDepth 100000
namespace Go.Vs.F
def dnF (z:Int):Int:=q0e (mkD z (-1074)) 1
def upF (z:Int):Int:=q0e (mkD z (-1074)) 2
theorem q44 {g:Int} (hg:U64 g) (fg:FinF g): ∃l:Nat,l<9218868437227405312/\((keyF g=(l:Int)/\valF g=((gv l:Nat):Int))\/(keyF g= -(l:Int)/\valF g= -((gv l:Nat):Int))):=by
 have h1:=(q6j hg).1 fg;have h2:=q2b g;refine⟨(lowF g).toNat,O,?_⟩;rw[qdl hg fg];unfold keyF;by_cases c:9223372036854775808<=g
 . rw[iP c,iP c];exact .inr ⟨O,rfl⟩
 . rw[iN' c,iN' c];exact .inl ⟨O,rfl⟩
theorem qdm:gv 0=0:=rfl
theorem qnx {l:Nat} (h:0<l):0<gv l:=zt1 (zG2 _) (gv_lt h)
theorem qbp {k:Nat} (h:k<9223372036854775808):U64 (k:Int)/\keyF (k:Int)=(k:Int)/\lowF (k:Int)=(k:Int):=by
 have h1:lowF (k:Int)=(k:Int):=by unfold lowF;omega
 refine⟨⟨O,O⟩,?_,h1⟩;unfold keyF;rw[iN' O,h1]
theorem q7q {k:Nat} (h:k<9223372036854775808):U64 ((k:Int)+9223372036854775808)/\keyF ((k:Int)+9223372036854775808)= -(k:Int)/\lowF ((k:Int)+9223372036854775808)=(k:Int):=by
 have h1:lowF ((k:Int)+9223372036854775808)=(k:Int):=by unfold lowF;omega
 refine⟨⟨O,O⟩,?_,h1⟩;unfold keyF;rw[iP O,h1]
structure Rd (f:Int):Prop where
 u:U64 f
 nan:nanB f=false
 nz:f≠9223372036854775808
theorem Rd.eq {f g:Int} (h1:Rd f) (h2:Rd g) (h:keyF f=keyF g):f=g:=by
 obtain⟨⟨a1,a2⟩,_,a3⟩:=h1;obtain⟨⟨b1,b2⟩,_,b3⟩:=h2;unfold keyF lowF at h;split at h<;>split at h<;>omega
theorem qip {V:Nat} (h:V≠0):1<=kfl V:=(qf2 h 1).1 (by show 1<=V;omega)
theorem qk9 {V:Nat} (h:V≠0):1<=kce V:=by
 rcases zG1 (kce V) 1 with c|c
 . have:=(qld h 0).2 O;rw[qdm]at this;omega
 . exact c
theorem qfw {neg:Bool} {mode:Int} {V:Nat} (h:awayB neg mode=true):rdK neg mode V=min (kce V) 9218868437227405312:=iP h
theorem qoh {neg:Bool} {mode:Int} {V:Nat} (h:awayB neg mode=false):rdK neg mode V=min (kfl V) 9218868437227405311:=iN' (by rw[h];decide)
theorem qoi (f:Int):sgnF true f=f+9223372036854775808:=iP rfl
theorem qnv (f:Int):sgnF false f=f:=iN' (by decide)
theorem qlo:dnF 0=0:=by
 unfold dnF q0e;rw[qai];rfl
theorem qjp:upF 0=0:=by
 unfold upF q0e;rw[qai];rfl
theorem q3t {z:Int} (hb:blen z.natAbs<=10000):Rd (dnF z)/\keyF (dnF z)<9218868437227405312/\ ∀g,U64 g->FinF g->(valF g<=z↔keyF g<=keyF (dnF z)):=by
 by_cases hz:z=0
 . subst hz;rw[qlo];refine⟨⟨⟨by decide,by decide⟩,by decide,by decide⟩,by decide,fun g hg fg=> ?_⟩
   have hk:keyF 0=0:=by decide
   rw[hk];obtain⟨l,_,⟨h1,h2⟩|⟨h1,h2⟩⟩:=q44 hg fg
   . rw[h1,h2];by_cases c:l=0
     . subst c;rw[qdm]
     . have:=qnx (l:=l) O;omega
   . rw[h1,h2];omega
 . unfold dnF;rw[q7s hz hb (.inl rfl)];by_cases hn:z<0
   . rw[decide_eq_true hn];have hV:z.natAbs≠0:=O;have hk:rdK true 1 z.natAbs=min (kce z.natAbs) 9218868437227405312:=qfw rfl;have h1:=qk9 hV;obtain⟨k1,k2,k3⟩:=q7q (k:=rdK true 1 z.natAbs) O;rw[qoi];refine⟨⟨k1,?_,O⟩,by rw[k2];omega,fun g hg fg=> ?_⟩
     . unfold nanB;rw[k3];exact decide_eq_false O
     . rw[k2];obtain⟨l,hl,⟨g1,g2⟩|⟨g1,g2⟩⟩:=q44 hg fg
       . rw[g1,g2];omega
       . have:=qld hV l;rw[g1,g2];constructor
         . intro h;have:=this.1 O;omega
         . intro h;have:=this.2 O;omega
   . rw[decide_eq_false hn];have hV:z.natAbs≠0:=O;have hk:rdK false 1 z.natAbs=min (kfl z.natAbs) 9218868437227405311:=qoh rfl;have h1:=qip hV;obtain⟨k1,k2,k3⟩:=qbp (k:=rdK false 1 z.natAbs) O;rw[qnv];refine⟨⟨k1,?_,O⟩,by rw[k2];omega,fun g hg fg=> ?_⟩
     . unfold nanB;rw[k3];exact decide_eq_false O
     . rw[k2];obtain⟨l,hl,⟨g1,g2⟩|⟨g1,g2⟩⟩:=q44 hg fg
       . have:=qf2 hV l;rw[g1,g2];constructor
         . intro h;have:=this.1 O;omega
         . intro h;have:=this.2 O;omega
       . rw[g1,g2];omega
theorem q4e {z:Int} (hb:blen z.natAbs<=10000):Rd (upF z)/\ -9218868437227405312<keyF (upF z)/\ ∀g,U64 g->FinF g->(z<=valF g↔keyF (upF z)<=keyF g):=by
 by_cases hz:z=0
 . subst hz;rw[qjp];refine⟨⟨⟨by decide,by decide⟩,by decide,by decide⟩,by decide,fun g hg fg=> ?_⟩
   have hk:keyF 0=0:=by decide
   rw[hk];obtain⟨l,_,⟨h1,h2⟩|⟨h1,h2⟩⟩:=q44 hg fg
   . rw[h1,h2];omega
   . rw[h1,h2];by_cases c:l=0
     . subst c;rw[qdm]
     . have:=qnx (l:=l) O;omega
 . unfold upF;rw[q7s hz hb (.inr rfl)];by_cases hn:z<0
   . rw[decide_eq_true hn];have hV:z.natAbs≠0:=O;have hk:rdK true 2 z.natAbs=min (kfl z.natAbs) 9218868437227405311:=qoh rfl;have h1:=qip hV;obtain⟨k1,k2,k3⟩:=q7q (k:=rdK true 2 z.natAbs) O;rw[qoi];refine⟨⟨k1,?_,O⟩,by rw[k2];omega,fun g hg fg=> ?_⟩
     . unfold nanB;rw[k3];exact decide_eq_false O
     . rw[k2];obtain⟨l,hl,⟨g1,g2⟩|⟨g1,g2⟩⟩:=q44 hg fg
       . rw[g1,g2];omega
       . have:=qf2 hV l;rw[g1,g2];constructor
         . intro h;have:=this.1 O;omega
         . intro h;have:=this.2 O;omega
   . rw[decide_eq_false hn];have hV:z.natAbs≠0:=O;have hk:rdK false 2 z.natAbs=min (kce z.natAbs) 9218868437227405312:=qfw rfl;have h1:=qk9 hV;obtain⟨k1,k2,k3⟩:=qbp (k:=rdK false 2 z.natAbs) O;rw[qnv];refine⟨⟨k1,?_,O⟩,by rw[k2];omega,fun g hg fg=> ?_⟩
     . unfold nanB;rw[k3];exact decide_eq_false O
     . rw[k2];obtain⟨l,hl,⟨g1,g2⟩|⟨g1,g2⟩⟩:=q44 hg fg
       . have:=qld hV l;rw[g1,g2];constructor
         . intro h;have:=this.1 O;omega
         . intro h;have:=this.2 O;omega
       . rw[g1,g2];omega
theorem qjv {f:Int} (h:U64 f):FinF f↔ -9218868437227405312<keyF f/\keyF f<9218868437227405312:=by
 rw[q6j h];have:=q2b f;unfold keyF;split<;>omega
theorem qky {z y:Int} (hz:blen z.natAbs<=10000) (hy:blen y.natAbs<=10000) (h:z<=y):keyF (dnF z)<=keyF (dnF y):=by
 obtain⟨r1,r2,r3⟩:=q3t hz;obtain⟨s1,s2,s3⟩:=q3t hy;have i1:=qgj r1.nan;have i2:=qgj s1.nan;unfold inK at i1 i2;by_cases c: -9218868437227405312<keyF (dnF z)
 . have hf:=(qjv r1.u).2 ⟨c,r2⟩;have:=(r3 _ r1.u hf).2 (zK3 _);exact(s3 _ r1.u hf).1 O
 . omega
theorem qjn {z y:Int} (hz:blen z.natAbs<=10000) (hy:blen y.natAbs<=10000) (h:z<=y):keyF (upF z)<=keyF (upF y):=by
 obtain⟨r1,r2,r3⟩:=q4e hz;obtain⟨s1,s2,s3⟩:=q4e hy;have i1:=qgj r1.nan;have i2:=qgj s1.nan;unfold inK at i1 i2;by_cases c:keyF (upF y)<9218868437227405312
 . have hf:=(qjv s1.u).2 ⟨s2,c⟩;have:=(s3 _ s1.u hf).2 (zK3 _);exact(r3 _ s1.u hf).1 O
 . omega
end Go.Vs.F
set_option maxRecDepth 100000
namespace Go.Vs.F
theorem qn8 {m:Nat} (hm:10<m) {a b:Int} (ha:U64 a) (hb:U64 b) (na:nanB a=false) (nbT':nanB b=false):g236 m [a,b]=some (false,(),()):=by
 obtain⟨j,rfl⟩: ∃j,m=j+3:=⟨m-3,O⟩;have k1:kindN a≠3:=by rw[Ne,q6w ha,na];simp
 have k2:kindN b≠3:=by rw[Ne,q6w hb,nbT'];simp
 have l2:(([a,b]:LI).length:Int)=2:=rfl;rw[g236,l2,g236L0,bQ,iP O,l2,iP O];rw[show([a,b]:LI).getD (0:Int).toNat 0=a from rfl,(q9m ha).1,bS,bif_eq,iN' k1,show wI (0+1)=1 from by decide]
 rw[g236L0,bQ,iP O,l2,iP O];rw[show([a,b]:LI).getD (1:Int).toNat 0=b from rfl,(q9m hb).1,bS,bif_eq,iN' k2,show wI (1+1)=2 from by decide]
 rw[g236L0,bQ,iN' O,bS]
theorem qfv {m:Nat} {f:Int} (h:U64 f):g237 m f=some (keyF f,(),()):=by
 have ht:=tops h;have hl:=q2b f;rw[g237,q2k h,bS,ht.2.1];dsimp only;unfold keyF fneg;by_cases d:9223372036854775808<=f
 . rw[decide_eq_true d,cond_true,iP d,wQ,wQ,wi (n:=lowF f) O O,wi O O,Int.zero_sub]
 . rw[decide_eq_false d,cond_false,iN' d,wQ,wi O O]
def cmpK (x y:Int):Int:=if x<y then-1 else if x>y then 1 else 0
theorem pFCmp {m:Nat} (hm:10<m) {a b:Int} (ha:Rd a) (hb:Rd b):g159 m a b=some ((cmpK (keyF a) (keyF b),true,()),(),(),()):=by
 rw[g159,qn8 hm ha.u hb.u ha.nan hb.nan,bS,cond_false,qfv ha.u,qfv hb.u,bS,bS,bQ,bQ];dsimp only;unfold cmpK;split
 . rfl
 . split<;>rfl
theorem absV {f:Int} (h:U64 f) (hf:FinF f):U64 (lowF f)/\FinF (lowF f)/\valF (lowF f)=((valF f).natAbs:Int):=by
 have hl:=q2b f;have u:U64 (lowF f):=⟨O,O⟩;have ll:lowF (lowF f)=lowF f:=by unfold lowF;omega
 have ff:FinF (lowF f):=by rw[q6j u,ll];exact(q6j h).1 hf
 refine⟨u,ff,?_⟩;rw[qdl u ff,qdl h hf,ll,iN' O];split<;>omega
theorem pAbs {m:Nat} (hm:10<m) {f:Int} (h:U64 f) (hf:FinF f):g158 m f=some (lowF f,(),()):=by
 rw[g158,qjk hm h,bS,qqs h hf,cond_false,(tops h).2.1]
theorem rDAbs {m:Nat} (hm:5000000000<=m) {z:Int} (hb:blen z.natAbs<=10000):g19 m (mkD z (-1074)).1 (mkD z (-1074)).2.1 (mkD z (-1074)).2.2.1 (mkD z (-1074)).2.2.2.1=some (mkD (z.natAbs:Int) (-1074),(),()):=by
 have hok:OkD z (-1074):=Qk hb O O;obtain⟨w,f,k,k1,k2,k3⟩:=Xm hok;have ok1:(mkD z (-1074)).1=false:=hok;have n1:=k.len;have hlo:=k.lo;have hhi:=k.hi;rw[g19,Xv O,bS];dsimp only;rw[ok1,cond_false,k1,k2,k3,q97 O k.Sz,bS,zv_zB];dsimp only;rw[q55 O (by rw[zW];omega) O O,bS]
 have e:EqD (w.natAbs:Int) f (z.natAbs:Int) (-1074):=by
  obtain⟨b,b1,b2,b3⟩:=k.eq;refine⟨b,b1,b2,?_⟩;unfold sc at b3⊢;have h:=congrArg Int.natAbs b3;rw[Xb,Xb]at h;have h2:=congrArg (fun n:Nat=>(n:Int)) h
  rw[zl2,zl2 (z.natAbs:Int)];rw[zd1,zd1,za1,za1]at h2;exact h2
 rw[e.mk]
def rad (e:LI) (i:Nat):Int:=(if 0<i then((ofF e (i-1)).natAbs:Int)else 0)+(if i<e.length then((ofF e i).natAbs:Int)else 0)
def loB (d e:LI) (i:Nat):Int:=valF (d.getD i 0)-rad e i
def hiB (d e:LI) (i:Nat):Int:=valF (d.getD i 0)+rad e i
def mnZ (d e:LI):Nat->Int
 |0=>0
 |i+1=>if i=0 then loB d e 0 else if loB d e i<mnZ d e i then loB d e i else mnZ d e i
def mxZ (d e:LI):Nat->Int
 |0=>0
 |i+1=>if i=0 then hiB d e 0 else if mxZ d e i<hiB d e i then hiB d e i else mxZ d e i
section
variable {m:Nat} (hm:5000000000<=m) {d e:LI} (hd:FnL d) (he:FnL e) (hle:e.length=d.length-1) (hl:d.length<=1000)
include hm hd he hle hl
theorem Zz {i:Nat} (hi:i<e.length):blen ((ofF e i).natAbs:Int).natAbs<=2098:=by
 rw[zW];exact Yz (he i hi).2
theorem qa3 {i:Nat} (hi:i<d.length):blen (rad e i).natAbs<=2099:=by
 unfold rad;refine Jh ?_ ?_
 . by_cases c:0<i
   . rw[iP c];exact Zz hm hd he hle hl O
   . rw[iN' c];decide
 . by_cases c:i<e.length
   . rw[iP c];exact Zz hm hd he hle hl c
   . rw[iN' c];decide
theorem q62 {i:Nat} (hi:i<d.length):blen (loB d e i).natAbs<=2100:=qfj (zK (Yz (hd i hi).2) (by decide)) (qa3 hm hd he hle hl hi)
theorem q6a {i:Nat} (hi:i<d.length):blen (hiB d e i).natAbs<=2100:=Jh (zK (Yz (hd i hi).2) (by decide)) (qa3 hm hd he hle hl hi)
theorem q95: ∀{i:Nat},i<=d.length->blen (mnZ d e i).natAbs<=2100
 |0,_=>by first|(rw[mnZ];decide)|(rw[mxZ];decide)
 |i+1,h=>by
  unfold mnZ;split
  . exact q62 hm hd he hle hl O
  . split
    . exact q62 hm hd he hle hl O
    . exact q95 O
theorem q99: ∀{i:Nat},i<=d.length->blen (mxZ d e i).natAbs<=2100
 |0,_=>by first|(rw[mnZ];decide)|(rw[mxZ];decide)
 |i+1,h=>by
  unfold mxZ;split
  . exact q6a hm hd he hle hl O
  . split
    . exact q6a hm hd he hle hl O
    . exact q99 O
theorem qq1 {i:Nat} (h0:i≠0) (hi:i<d.length):(if cmpK (keyF (dnF (loB d e i))) (keyF (dnF (mnZ d e i)))<0 then dnF (loB d e i)else dnF (mnZ d e i))=dnF (mnZ d e (i+1)):=by
 have a:=q62 hm hd he hle hl hi;have b:=q95 hm hd he hle hl (i:=i) O;rw[mnZ,iN' h0];by_cases c:keyF (dnF (loB d e i))<keyF (dnF (mnZ d e i))
 . have hlt:loB d e i<mnZ d e i:=by
    refine Int.lt_of_not_ge fun h=> ?_
    have:=qky O O h;omega
   rw[iP (by unfold cmpK;rw[iP c];decide),iP hlt]
 . rw[iN' (by unfold cmpK;rw[iN' c];split<;>decide)]
   by_cases hlt:loB d e i<mnZ d e i
   . rw[iP hlt];have:=qky O O (zz3 hlt);exact Rd.eq (q3t O).1 (q3t O).1 O
   . rw[iN' hlt]
theorem qp1 {i:Nat} (h0:i≠0) (hi:i<d.length):(if cmpK (keyF (upF (hiB d e i))) (keyF (upF (mxZ d e i)))>0 then upF (hiB d e i)else upF (mxZ d e i))=upF (mxZ d e (i+1)):=by
 have a:=q6a hm hd he hle hl hi;have b:=q99 hm hd he hle hl (i:=i) O;rw[mxZ,iN' h0];by_cases c:keyF (upF (hiB d e i))>keyF (upF (mxZ d e i))
 . have hlt:mxZ d e i<hiB d e i:=by
    refine Int.lt_of_not_ge fun h=> ?_
    have:=qjn O O h;omega
   rw[iP (by unfold cmpK;rw[iN' O,iP c];decide),iP hlt]
 . rw[iN' (by unfold cmpK;rw[iN' c];split<;>decide)]
   by_cases hlt:mxZ d e i<hiB d e i
   . rw[iP hlt];have:=qjn O O (zz3 hlt);exact Rd.eq (q4e O).1 (q4e O).1 O
   . rw[iN' hlt]
theorem pAddV {a b:Int} (ha:blen a.natAbs<=10000) (hb:blen b.natAbs<=10000):g149 m (mkD a (-1074)).1 (mkD a (-1074)).2.1 (mkD a (-1074)).2.2.1 (mkD a (-1074)).2.2.2.1 (mkD b (-1074)).1 (mkD b (-1074)).2.1 (mkD b (-1074)).2.2.1 (mkD b (-1074)).2.2.2.1=some (mkD (a+b) (-1074),(),(),()):=by
 rw[qjh O,iP ⟨Qk ha O O,Qk hb O O⟩]
theorem pSubV {a b:Int} (ha:blen a.natAbs<=10000) (hb:blen b.natAbs<=10000):g83 m (mkD a (-1074)).1 (mkD a (-1074)).2.1 (mkD a (-1074)).2.2.1 (mkD a (-1074)).2.2.2.1 (mkD b (-1074)).1 (mkD b (-1074)).2.1 (mkD b (-1074)).2.2.1 (mkD b (-1074)).2.2.2.1=some (mkD (a-b) (-1074),(),(),()):=by
 rw[qlu O,iP ⟨Qk ha O O,Qk hb O O⟩]
theorem rAddV {a b:Int} (ha:blen a.natAbs<=10000) (hb:blen b.natAbs<=10000):g67 m (mkD a (-1074)).1 (mkD a (-1074)).2.1 (mkD a (-1074)).2.2.1 (mkD a (-1074)).2.2.2.1 (mkD b (-1074)).1 (mkD b (-1074)).2.1 (mkD b (-1074)).2.2.1 (mkD b (-1074)).2.2.2.1=some (mkD (a+b) (-1074),(),(),()):=by
 rw[qg2 O,iP ⟨Qk ha O O,Qk hb O O⟩]
theorem rSubV {a b:Int} (ha:blen a.natAbs<=10000) (hb:blen b.natAbs<=10000):g20 m (mkD a (-1074)).1 (mkD a (-1074)).2.1 (mkD a (-1074)).2.2.1 (mkD a (-1074)).2.2.2.1 (mkD b (-1074)).1 (mkD b (-1074)).2.1 (mkD b (-1074)).2.2.1 (mkD b (-1074)).2.2.2.1=some (mkD (a-b) (-1074),(),(),()):=by
 rw[qgo O,iP ⟨Qk ha O O,Qk hb O O⟩]
theorem rLess {a b:Int} (ha:blen a.natAbs<=10000) (hb:blen b.natAbs<=10000):g86 m (mkD a (-1074)).1 (mkD a (-1074)).2.1 (mkD a (-1074)).2.2.1 (mkD a (-1074)).2.2.2.1 (mkD b (-1074)).1 (mkD b (-1074)).2.1 (mkD b (-1074)).2.2.1 (mkD b (-1074)).2.2.2.1=some (decide (a<b),(),(),()):=by
 rw[g86,qmj O,iP ⟨Qk ha O O,Qk hb O O⟩,bS]
 have e:decide (cmpZ a b<0)=decide (a<b):=by
  rw[decide_eq_decide];unfold cmpZ;by_cases c:a<b
  . rw[iP c];exact⟨fun _=>c,fun _=>by decide⟩
  . rw[iN' c];split<;>exact⟨fun h=>absurd h (by decide),fun h=>absurd h c⟩
 dsimp only;rw[e]
end
end Go.Vs.F
set_option maxRecDepth 100000
namespace Go.Vs.F
section
variable {m:Nat} (hm:5000000000<=m) {d e:LI} (hd:FnL d) (he:FnL e) (hle:e.length=d.length-1) (hl:d.length<=1000)
include hm hd he hle hl
theorem tailP {i:Nat} (hi:i<d.length) (N:Nat) {R:Int} (hR:R=rad e i) (a0 a1:Int):
 (
 (g112 m (d.getD i 0)).bind fun y8=>
 (g83 m y8.1.1 y8.1.2.1 y8.1.2.2.1 y8.1.2.2.2.1 (mkD R (-1074)).1 (mkD R (-1074)).2.1 (mkD R (-1074)).2.2.1 (mkD R (-1074)).2.2.2.1).bind fun y9=>
 (g107 m y9.1.1 y9.1.2.1 y9.1.2.2.1 y9.1.2.2.2.1 1).bind fun y10=>
 (g112 m (d.getD i 0)).bind fun y11=>
 (g149 m y11.1.1 y11.1.2.1 y11.1.2.2.1 y11.1.2.2.2.1 (mkD R (-1074)).1 (mkD R (-1074)).2.1 (mkD R (-1074)).2.2.1 (mkD R (-1074)).2.2.2.1).bind fun y12=>
 (g107 m y12.1.1 y12.1.2.1 y12.1.2.2.1 y12.1.2.2.2.1 2).bind fun y13=>
 (g159 m y10.1 (dnF (mnZ d e i))).bind fun y14=>
 bif (i:Int)==0 then
  (g159 m y13.1 (upF (mxZ d e i))).bind fun y15=>
  bif (i:Int)==0 then
   g88L0 m N e a0 a1 y10.1 y13.1 d (d.length:Int) (wI ((i:Int)+1))
  else
   bif decide (y15.1.1>0)then
    g88L0 m N e a0 a1 y10.1 y13.1 d (d.length:Int) (wI ((i:Int)+1))
   else
    g88L0 m N e a0 a1 y10.1 (upF (mxZ d e i)) d (d.length:Int) (wI ((i:Int)+1))
 else
  bif decide (y14.1.1<0)then
   (g159 m y13.1 (upF (mxZ d e i))).bind fun y16=>
   bif (i:Int)==0 then
    g88L0 m N e a0 a1 y10.1 y13.1 d (d.length:Int) (wI ((i:Int)+1))
   else
    bif decide (y16.1.1>0)then
     g88L0 m N e a0 a1 y10.1 y13.1 d (d.length:Int) (wI ((i:Int)+1))
    else
     g88L0 m N e a0 a1 y10.1 (upF (mxZ d e i)) d (d.length:Int) (wI ((i:Int)+1))
  else
   (g159 m y13.1 (upF (mxZ d e i))).bind fun y17=>
   bif (i:Int)==0 then
    g88L0 m N e a0 a1 (dnF (mnZ d e i)) y13.1 d (d.length:Int) (wI ((i:Int)+1))
   else
    bif decide (y17.1.1>0)then
     g88L0 m N e a0 a1 (dnF (mnZ d e i)) y13.1 d (d.length:Int) (wI ((i:Int)+1))
    else
     g88L0 m N e a0 a1 (dnF (mnZ d e i)) (upF (mxZ d e i)) d (d.length:Int) (wI ((i:Int)+1))
 )=g88L0 m N e a0 a1 (dnF (mnZ d e (i+1))) (upF (mxZ d e (i+1))) d (d.length:Int) ((i+1:Nat):Int):=by
 subst hR;obtain⟨u1,f1⟩:=hd i hi;have q1:=qa3 hm hd he hle hl hi;have q2:=Yz f1;have q3:=q62 hm hd he hle hl hi;have q4:=q6a hm hd he hle hl hi;have q5:=q95 hm hd he hle hl (i:=i) O;have q6:=q99 hm hd he hle hl (i:=i) O;have r1:=(q3t (z:=loB d e i) O).1;have r2:=(q3t (z:=mnZ d e i) O).1;have r3:=(q4e (z:=hiB d e i) O).1;have r4:=(q4e (z:=mxZ d e i) O).1;have ws:wI ((i:Int)+1)=((i+1:Nat):Int):=wsucc O;rw[Of_eq O u1,Y8 f1];simp only[bS];rw[pSubV hm hd he hle hl O O];simp only[bS];rw[qgl O];simp only[bS];rw[pAddV hm hd he hle hl O O];simp only[bS];rw[qgl O];simp only[bS];rw[show q0e (mkD (valF (d.getD i 0)-rad e i) (-1074)) 1=dnF (loB d e i)from rfl,show q0e (mkD (valF (d.getD i 0)+rad e i) (-1074)) 2=upF (hiB d e i)from rfl,ws]
 rw[pFCmp O r1 r2,pFCmp O r3 r4];simp only[bS];by_cases c:i=0
 . subst c;rw[show(((0:Nat):Int)==0)=true from rfl,cond_true,cond_true]
   rfl
 . have hc:((i:Int)==0)=false:=by simpa using c
   simp only[hc,cond_false,bQ];rw[<-qq1 hm hd he hle hl c hi,<-qp1 hm hd he hle hl c hi];split<;>split<;>rfl
theorem tailR {i:Nat} (hi:i<d.length) (N:Nat) {R:Int} (hR:R=rad e i) (a0 a1:Int):
 (
 if(0:Int)<=(i:Int)/\(i:Int)<(d.length:Int)then
 (g18 m (d.getD i 0)).bind fun y7=>
 (g20 m y7.1.1 y7.1.2.1 y7.1.2.2.1 y7.1.2.2.2.1 (mkD R (-1074)).1 (mkD R (-1074)).2.1 (mkD R (-1074)).2.2.1 (mkD R (-1074)).2.2.2.1).bind fun y8=>
 if(0:Int)<=(i:Int)/\(i:Int)<(d.length:Int)then
 (g18 m (d.getD i 0)).bind fun y9=>
 (g67 m y9.1.1 y9.1.2.1 y9.1.2.2.1 y9.1.2.2.2.1 (mkD R (-1074)).1 (mkD R (-1074)).2.1 (mkD R (-1074)).2.2.1 (mkD R (-1074)).2.2.2.1).bind fun y10=>
 bif (i:Int)==0 then
  bif (i:Int)==0 then
   g36L0 m N d e a0 a1 y8.1.1 y8.1.2.1 y8.1.2.2.1 y8.1.2.2.2.1 y10.1.1 y10.1.2.1 y10.1.2.2.1 y10.1.2.2.2.1 (wI ((i:Int)+1))
  else
   (g86 m (mkD (mxZ d e i) (-1074)).1 (mkD (mxZ d e i) (-1074)).2.1 (mkD (mxZ d e i) (-1074)).2.2.1 (mkD (mxZ d e i) (-1074)).2.2.2.1 y10.1.1 y10.1.2.1 y10.1.2.2.1 y10.1.2.2.2.1).bind fun y11=>
   bif y11.1 then
    g36L0 m N d e a0 a1 y8.1.1 y8.1.2.1 y8.1.2.2.1 y8.1.2.2.2.1 y10.1.1 y10.1.2.1 y10.1.2.2.1 y10.1.2.2.2.1 (wI ((i:Int)+1))
   else
    g36L0 m N d e a0 a1 y8.1.1 y8.1.2.1 y8.1.2.2.1 y8.1.2.2.2.1 (mkD (mxZ d e i) (-1074)).1 (mkD (mxZ d e i) (-1074)).2.1 (mkD (mxZ d e i) (-1074)).2.2.1 (mkD (mxZ d e i) (-1074)).2.2.2.1 (wI ((i:Int)+1))
 else
  (g86 m y8.1.1 y8.1.2.1 y8.1.2.2.1 y8.1.2.2.2.1 (mkD (mnZ d e i) (-1074)).1 (mkD (mnZ d e i) (-1074)).2.1 (mkD (mnZ d e i) (-1074)).2.2.1 (mkD (mnZ d e i) (-1074)).2.2.2.1).bind fun y12=>
  bif y12.1 then
   bif (i:Int)==0 then
    g36L0 m N d e a0 a1 y8.1.1 y8.1.2.1 y8.1.2.2.1 y8.1.2.2.2.1 y10.1.1 y10.1.2.1 y10.1.2.2.1 y10.1.2.2.2.1 (wI ((i:Int)+1))
   else
    (g86 m (mkD (mxZ d e i) (-1074)).1 (mkD (mxZ d e i) (-1074)).2.1 (mkD (mxZ d e i) (-1074)).2.2.1 (mkD (mxZ d e i) (-1074)).2.2.2.1 y10.1.1 y10.1.2.1 y10.1.2.2.1 y10.1.2.2.2.1).bind fun y13=>
    bif y13.1 then
     g36L0 m N d e a0 a1 y8.1.1 y8.1.2.1 y8.1.2.2.1 y8.1.2.2.2.1 y10.1.1 y10.1.2.1 y10.1.2.2.1 y10.1.2.2.2.1 (wI ((i:Int)+1))
    else
     g36L0 m N d e a0 a1 y8.1.1 y8.1.2.1 y8.1.2.2.1 y8.1.2.2.2.1 (mkD (mxZ d e i) (-1074)).1 (mkD (mxZ d e i) (-1074)).2.1 (mkD (mxZ d e i) (-1074)).2.2.1 (mkD (mxZ d e i) (-1074)).2.2.2.1 (wI ((i:Int)+1))
  else
   bif (i:Int)==0 then
    g36L0 m N d e a0 a1 (mkD (mnZ d e i) (-1074)).1 (mkD (mnZ d e i) (-1074)).2.1 (mkD (mnZ d e i) (-1074)).2.2.1 (mkD (mnZ d e i) (-1074)).2.2.2.1 y10.1.1 y10.1.2.1 y10.1.2.2.1 y10.1.2.2.2.1 (wI ((i:Int)+1))
   else
    (g86 m (mkD (mxZ d e i) (-1074)).1 (mkD (mxZ d e i) (-1074)).2.1 (mkD (mxZ d e i) (-1074)).2.2.1 (mkD (mxZ d e i) (-1074)).2.2.2.1 y10.1.1 y10.1.2.1 y10.1.2.2.1 y10.1.2.2.2.1).bind fun y14=>
    bif y14.1 then
     g36L0 m N d e a0 a1 (mkD (mnZ d e i) (-1074)).1 (mkD (mnZ d e i) (-1074)).2.1 (mkD (mnZ d e i) (-1074)).2.2.1 (mkD (mnZ d e i) (-1074)).2.2.2.1 y10.1.1 y10.1.2.1 y10.1.2.2.1 y10.1.2.2.2.1 (wI ((i:Int)+1))
    else
     g36L0 m N d e a0 a1 (mkD (mnZ d e i) (-1074)).1 (mkD (mnZ d e i) (-1074)).2.1 (mkD (mnZ d e i) (-1074)).2.2.1 (mkD (mnZ d e i) (-1074)).2.2.2.1 (mkD (mxZ d e i) (-1074)).1 (mkD (mxZ d e i) (-1074)).2.1 (mkD (mxZ d e i) (-1074)).2.2.1 (mkD (mxZ d e i) (-1074)).2.2.2.1 (wI ((i:Int)+1))
 else none
 else none
 )=g36L0 m N d e a0 a1 (mkD (mnZ d e (i+1)) (-1074)).1 (mkD (mnZ d e (i+1)) (-1074)).2.1 (mkD (mnZ d e (i+1)) (-1074)).2.2.1 (mkD (mnZ d e (i+1)) (-1074)).2.2.2.1 (mkD (mxZ d e (i+1)) (-1074)).1 (mkD (mxZ d e (i+1)) (-1074)).2.1 (mkD (mxZ d e (i+1)) (-1074)).2.2.1 (mkD (mxZ d e (i+1)) (-1074)).2.2.2.1 ((i+1:Nat):Int):=by
 subst hR;obtain⟨u1,f1⟩:=hd i hi;have q1:=qa3 hm hd he hle hl hi;have q2:=Yz f1;have q3:=q62 hm hd he hle hl hi;have q4:=q6a hm hd he hle hl hi;have q5:=q95 hm hd he hle hl (i:=i) O;have q6:=q99 hm hd he hle hl (i:=i) O;have ws:wI ((i:Int)+1)=((i+1:Nat):Int):=wsucc O;rw[iP O,q2s O u1,Y8 f1];simp only[bS];rw[rSubV hm hd he hle hl O O];simp only[bS];rw[iP O,rAddV hm hd he hle hl O O,ws];simp only[bS];rw[show valF (d.getD i 0)-rad e i=loB d e i from rfl,show valF (d.getD i 0)+rad e i=hiB d e i from rfl]
 by_cases c:i=0
 . subst c;rw[show(((0:Nat):Int)==0)=true from rfl,cond_true,cond_true]
   rfl
 . have hc:((i:Int)==0)=false:=by simpa using c
   rw[rLess hm hd he hle hl O O,rLess hm hd he hle hl O O];simp only[hc,cond_false,bS,bQ];rw[mnZ,mxZ,iN' c,iN' c];by_cases c1:loB d e i<mnZ d e i<;>by_cases c2:mxZ d e i<hiB d e i<;>simp only[c1,c2,if_true,if_false]
theorem pZero:g81 m 0=some (mkD 0 (-1074),(),()):=by
 rw[g81,Zh O (by decide) (by decide),bS,q5h O (by decide) (by decide) (by decide)]
 rfl
theorem qh4 (a0 a1:Int): ∀(N i:Nat),d.length-i<N->i<=d.length->g88L0 m N e a0 a1 (dnF (mnZ d e i)) (upF (mxZ d e i)) d (d.length:Int) (i:Int)=some (.inl ((a0,a1,()),(dnF (mnZ d e d.length),upF (mxZ d e d.length),()),())):=by
 intro N;induction N with
 |zero=>intro i h;omega
 |succ N ih=>
  intro i h hi;rw[g88L0,bQ];by_cases c:i<d.length
  . have t:=fun{R:Int} (hR:R=rad e i)=>(tailP hm hd he hle hl c N hR a0 a1).trans (ih (i+1) O O)
    rw[iP O,iP O,pZero hm hd he hle hl,bS,bQ,bQ];by_cases c1:0<i
    . have w2:wI ((i:Int)-1)=((i-1:Nat):Int):=by rw[wQ,wi O O];omega
      obtain⟨u3,f3⟩:=he (i-1) O;obtain⟨v1,v2,v3⟩:=absV u3 f3;rw[iP O,w2,iP O,tN,pAbs O u3 f3,bS,Of_eq O v1,Y8 v2,v3,bS];have p1:=Zz hm hd he hle hl (i:=i-1) O;rw[show g149 m (mkD 0 (-1074)).1 (mkD 0 (-1074)).2.1 (mkD 0 (-1074)).2.2.1 (mkD 0 (-1074)).2.2.2.1 (mkD ((valF (e.getD (i-1) 0)).natAbs:Int) (-1074)).1 (mkD ((valF (e.getD (i-1) 0)).natAbs:Int) (-1074)).2.1 (mkD ((valF (e.getD (i-1) 0)).natAbs:Int) (-1074)).2.2.1 (mkD ((valF (e.getD (i-1) 0)).natAbs:Int) (-1074)).2.2.2.1=_ from pAddV hm hd he hle hl (a:=0) (b:=((ofF e (i-1)).natAbs:Int)) (by decide) O,bS,bQ]
      by_cases c2:i<e.length
      . obtain⟨u4,f4⟩:=he i c2;obtain⟨g1,g2,g3⟩:=absV u4 f4;have p2:=Zz hm hd he hle hl (i:=i) c2;rw[iP O,iP O,tN,pAbs O u4 f4,bS,Of_eq O g1,Y8 g2,g3,bS];rw[show g149 m (mkD (0+((ofF e (i-1)).natAbs:Int)) (-1074)).1 (mkD (0+((ofF e (i-1)).natAbs:Int)) (-1074)).2.1 (mkD (0+((ofF e (i-1)).natAbs:Int)) (-1074)).2.2.1 (mkD (0+((ofF e (i-1)).natAbs:Int)) (-1074)).2.2.2.1 (mkD ((valF (e.getD i 0)).natAbs:Int) (-1074)).1 (mkD ((valF (e.getD i 0)).natAbs:Int) (-1074)).2.1 (mkD ((valF (e.getD i 0)).natAbs:Int) (-1074)).2.2.1 (mkD ((valF (e.getD i 0)).natAbs:Int) (-1074)).2.2.2.1=_ from pAddV hm hd he hle hl (a:=0+((ofF e (i-1)).natAbs:Int)) (b:=((ofF e i).natAbs:Int)) (by rw[ze3];omega) O,bS]
        exact t (by unfold rad;rw[iP c1,iP c2,ze3])
      . rw[iN' O];exact t (by unfold rad;rw[iP c1,iN' c2];omega)
    . rw[iN' O];by_cases c2:i<e.length
      . obtain⟨u4,f4⟩:=he i c2;obtain⟨g1,g2,g3⟩:=absV u4 f4;have p2:=Zz hm hd he hle hl (i:=i) c2;rw[iP O,iP O,tN,pAbs O u4 f4,bS,Of_eq O g1,Y8 g2,g3,bS];rw[show g149 m (mkD 0 (-1074)).1 (mkD 0 (-1074)).2.1 (mkD 0 (-1074)).2.2.1 (mkD 0 (-1074)).2.2.2.1 (mkD ((valF (e.getD i 0)).natAbs:Int) (-1074)).1 (mkD ((valF (e.getD i 0)).natAbs:Int) (-1074)).2.1 (mkD ((valF (e.getD i 0)).natAbs:Int) (-1074)).2.2.1 (mkD ((valF (e.getD i 0)).natAbs:Int) (-1074)).2.2.2.1=_ from pAddV hm hd he hle hl (a:=0) (b:=((ofF e i).natAbs:Int)) (by decide) O,bS]
        exact t (by unfold rad;rw[iN' c1,iP c2])
      . rw[iN' O];exact t (by unfold rad;rw[iN' c1,iN' c2];rfl)
  . have:i=d.length:=O;rw[iN' O,this]
theorem qh1 (a0 a1:Int): ∀(N i:Nat),d.length-i<N->i<=d.length->g36L0 m N d e a0 a1 (mkD (mnZ d e i) (-1074)).1 (mkD (mnZ d e i) (-1074)).2.1 (mkD (mnZ d e i) (-1074)).2.2.1 (mkD (mnZ d e i) (-1074)).2.2.2.1 (mkD (mxZ d e i) (-1074)).1 (mkD (mxZ d e i) (-1074)).2.1 (mkD (mxZ d e i) (-1074)).2.2.1 (mkD (mxZ d e i) (-1074)).2.2.2.1 (i:Int)=some (.inl ((a0,a1,()),mkD (mnZ d e d.length) (-1074),mkD (mxZ d e d.length) (-1074),())):=by
 intro N;induction N with
 |zero=>intro i h;omega
 |succ N ih=>
  intro i h hi;rw[g36L0,bQ];by_cases c:i<d.length
  . have t:=fun{R:Int} (hR:R=rad e i)=>(tailR hm hd he hle hl c N hR a0 a1).trans (ih (i+1) O O)
    rw[iP O,bQ,bQ];by_cases c1:0<i
    . have w2:wI ((i:Int)-1)=((i-1:Nat):Int):=by rw[wQ,wi O O];omega
      obtain⟨u3,f3⟩:=he (i-1) O;have p1:=Zz hm hd he hle hl (i:=i-1) O;have s1:=Yz f3;rw[iP O,w2,iP O,tN,q2s O u3,Y8 f3,bS];dsimp only;rw[rDAbs hm O,bS];rw[show g67 m false false [] 0 (mkD ((valF (e.getD (i-1) 0)).natAbs:Int) (-1074)).1 (mkD ((valF (e.getD (i-1) 0)).natAbs:Int) (-1074)).2.1 (mkD ((valF (e.getD (i-1) 0)).natAbs:Int) (-1074)).2.2.1 (mkD ((valF (e.getD (i-1) 0)).natAbs:Int) (-1074)).2.2.2.1=_ from rAddV hm hd he hle hl (a:=0) (b:=((ofF e (i-1)).natAbs:Int)) (by decide) O,bS,bQ]
      by_cases c2:i<e.length
      . obtain⟨u4,f4⟩:=he i c2;have p2:=Zz hm hd he hle hl (i:=i) c2;have s2:=Yz f4;rw[iP O,iP O,tN,q2s O u4,Y8 f4,bS];dsimp only;rw[rDAbs hm O,bS];rw[show g67 m (mkD (0+((ofF e (i-1)).natAbs:Int)) (-1074)).1 (mkD (0+((ofF e (i-1)).natAbs:Int)) (-1074)).2.1 (mkD (0+((ofF e (i-1)).natAbs:Int)) (-1074)).2.2.1 (mkD (0+((ofF e (i-1)).natAbs:Int)) (-1074)).2.2.2.1 (mkD ((valF (e.getD i 0)).natAbs:Int) (-1074)).1 (mkD ((valF (e.getD i 0)).natAbs:Int) (-1074)).2.1 (mkD ((valF (e.getD i 0)).natAbs:Int) (-1074)).2.2.1 (mkD ((valF (e.getD i 0)).natAbs:Int) (-1074)).2.2.2.1=_ from rAddV hm hd he hle hl (a:=0+((ofF e (i-1)).natAbs:Int)) (b:=((ofF e i).natAbs:Int)) (by rw[ze3];omega) O,bS]
        exact t (by unfold rad;rw[iP c1,iP c2,ze3])
      . rw[iN' O];exact t (by unfold rad;rw[iP c1,iN' c2];omega)
    . rw[iN' O];by_cases c2:i<e.length
      . obtain⟨u4,f4⟩:=he i c2;have p2:=Zz hm hd he hle hl (i:=i) c2;have s2:=Yz f4;rw[iP O,iP O,tN,q2s O u4,Y8 f4,bS];dsimp only;rw[rDAbs hm O,bS];rw[show g67 m false false [] 0 (mkD ((valF (e.getD i 0)).natAbs:Int) (-1074)).1 (mkD ((valF (e.getD i 0)).natAbs:Int) (-1074)).2.1 (mkD ((valF (e.getD i 0)).natAbs:Int) (-1074)).2.2.1 (mkD ((valF (e.getD i 0)).natAbs:Int) (-1074)).2.2.2.1=_ from rAddV hm hd he hle hl (a:=0) (b:=((ofF e i).natAbs:Int)) (by decide) O,bS]
        exact t (by unfold rad;rw[iN' c1,iP c2])
      . rw[iN' O];exact t (by unfold rad;rw[iN' c1,iN' c2])
  . have:i=d.length:=O;rw[iN' O,this]
end
end Go.Vs.F
set_option maxRecDepth 100000
namespace Go.Vs.F
theorem qd6 {m:Nat} (hm:5000000000<=m) {d e:LI} (hd:FnL d) (he:FnL e) (hle:e.length=d.length-1) (hl:d.length<=16):
 g88 m d e=some (((dnF (mnZ d e d.length),upF (mxZ d e d.length),()),0,()),(),(),())/\g36 m d e=some (((dnF (mnZ d e d.length),upF (mxZ d e d.length),()),0,()),(),(),()):=by
 have hc:=qam hd he hle hl;obtain⟨k1,k2⟩:=q1f hm hd.U he.U O O;have p0:=qh4 hm hd he hle O 0 0 m 0 O O;have r0:=qh1 hm hd he hle O 0 0 m 0 O O;rw[mnZ,mxZ,qlo,qjp,nZ]at p0;rw[show mnZ d e 0=0 from rfl,show mxZ d e 0=0 from rfl,nZ]at r0
 constructor
 . rw[g88,k1,bS,hc];dsimp only;rw[show((0:Int) !=0)=false from rfl,cond_false,p0,bS]
 . rw[g36,k2,bS,hc];dsimp only;rw[show((0:Int) !=0)=false from rfl,cond_false,show g36L0 m m d e 0 0 false false [] 0 false false [] 0 0=_ from r0,bS]
   dsimp only;rw[qbh O,bS,qbh O,bS];rfl
end Go.Vs.F
set_option maxRecDepth 100000
namespace Go.Vs.F
theorem qhv {m:Nat} (hm:5000000000<=m) {D E:LI} (hD:UL D) (hE:UL E) (hdl:D.length<=1000) (hel:E.length<=1000):
 ∃a b,g88 m D E=some (((a,b,()),chkT D E,()),(),(),())/\g36 m D E=some (((a,b,()),chkT D E,()),(),(),()):=by
 obtain⟨k1,k2⟩:=q1f hm hD hE O O;by_cases c:chkT D E=0
 . obtain⟨c1,c2,c3,c4⟩:=qe9 c;obtain⟨b1,b2⟩:=qd6 hm (q5e hD c3) (q5e hE c4) c2 c1;rw[c];exact⟨_,_,b1,b2⟩
 . refine⟨0,0,?_,?_⟩
   . rw[g88,k1,bS,bif_ne];dsimp only;rw[iN' c]
   . rw[g36,k2,bS,bif_ne];dsimp only;rw[iN' c]
theorem qjj (j:Nat):sparselaw38_awake (j+300)=some (true,()):=by kernel_rfl
end Go.Vs.F
set_option maxRecDepth 100000
namespace Go.Vs.F
theorem qp3 {m:Nat} (hm:300<=m):sparselaw38_awake m=some (true,()):=by
 obtain⟨j,rfl⟩: ∃j,m=j+300:=⟨m-300,O⟩;exact qjj j
theorem qqw {l:LI} (h:FnL l) (k:Nat):FnL (l.take k):=fun i hi=>by
 rw[zV]at hi
 have:(l.take k).getD i 0=l.getD i 0:=by
  simp only[List.getD];rw[List.getElem?_take,iP O]
 rw[this];exact h i O
section
variable {m:Nat} (hm:5000000000<=m)
include hm
theorem qpt {D E:LI} (hD:FnL D) (hE:FnL E) (hle:E.length=D.length-1) (h5:D.length<=5) (B:List LI): ∀(N k:Nat) (out:List (Int×Int×Int)),D.length-k<N->k<=D.length->out.length=k->
 ∃l,l.length<=1000/\g33L0 m N D E B out (D.length:Int) (k:Int)=some (.inr (.inl (l,())))/\g34L0 m N D E B out (k:Int)=some (.inl (l,())):=by
 intro N;induction N with
 |zero=>intro k out h;omega
 |succ N ih=>
  intro k out h hk ho;rw[g33L0,g34L0,bQ,bQ];by_cases c:k<D.length
  . have hw:wI ((k:Int)+1)=((k+1:Nat):Int):=wsucc O;obtain⟨r,r1,r2,r3,r4⟩:=qm2 hm hD hE hle h5 (k:Int);obtain⟨l,c1,c2,_,_,er,_⟩:=r4 ⟨O,O⟩;rw[iP O,iP O,r1,r2,bS,bS,er];dsimp only;rw[show((0:Int) !=0)=false from rfl,cond_false,iP (by simp;omega),iP (by simp;omega),hw]
    exact ih (k+1) _ O O (by simp;omega)
  . rw[iN' O,iN' O];exact⟨out,O,rfl,rfl⟩
theorem qjl {D E:LI} (hD:FnL D) (hE:FnL E) (h5:D.length<=5) (h6:E.length<=5) (B:List LI):
 ∃l e,l.length<=1000/\g33 m D E B=some ((l,e,()),(),())/\g34 m D E B=some ((l,e,()),(),()):=by
 obtain⟨a,b,b1,b2⟩:=qhv hm hD.U hE.U O O;rw[g33,g34,b1,b2,bS,bS,bif_ne,bif_ne];dsimp only;by_cases c:chkT D E=0
 . rw[iP c,iP c];obtain⟨c1,c2,c3,c4⟩:=qe9 c;obtain⟨l,h1,h2,h3⟩:=qpt hm hD hE c2 h5 B m 0 [] O O rfl;rw[nZ]at h2 h3;rw[h2,h3,bS,bS];exact⟨l,_,h1,rfl,rfl⟩
 . rw[iN' c,iN' c];exact⟨[],_,by simp,rfl,rfl⟩
theorem qmt (l:List (Int×Int×Int)) (hl:l.length<=1000): ∀(N k:Nat),l.length-k<N->k<=l.length->g35L0 m N l l (k:Int)=some (.inr (.inl ())):=by
 intro N;induction N with
 |zero=>intro k h;omega
 |succ N ih=>
  intro k h hk;rw[g35L0,bQ];by_cases c:k<l.length
  . have hw:wI ((k:Int)+1)=((k+1:Nat):Int):=wsucc O;rw[iP O,iP O,iP O,hw];simp only[beq_self_eq_true,Bool.and_self,zB2,cond_false];exact ih (k+1) O O
  . rw[iN' O]
theorem qif (l:List (Int×Int×Int)) (hl:l.length<=1000):g35 m l l=some (true,(),(),()):=by
 have h:=qmt hm l hl m 0 O O;rw[nZ]at h;rw[g35,bif_ne,iP rfl,h];rfl
end
theorem q68 (raw:LI) (n k style:Int) (hl:raw.length<=9223372036854775807): ∃m,sparselaw38_LanczosRitz m raw n k style=some (true,(),(),(),(),()):=by
 obtain⟨m,hm⟩: ∃m:Nat,5000000100<=m:=⟨_,zJ _⟩;refine⟨m,?_⟩;obtain⟨a,ha,ea⟩:=qci m n (k:=4) (by decide) (by decide)
 obtain⟨s,hs,es⟩:=qci m style (k:=3) (by decide) (by decide)
 obtain⟨b,hb,eb⟩:=qci m k (k:=4) (by decide) (by decide)
 obtain⟨D,d1,d2,d3⟩:=qak (m:=m) O hl (at0:=0) (n:=a) O O (s:Int);obtain⟨E,f1,f2,f3⟩:=qak (m:=m) O hl (at0:=9) (n:=b) O O (s:Int);rw[nZ]at d1;rw[sparselaw38_LanczosRitz,show(4:Int)=((4:Nat):Int)from rfl,ea,bS,show(3:Int)=((3:Nat):Int)from rfl,es,bS]
 dsimp only;rw[d1,bS,eb,bS,bS];dsimp only;rw[show(9:Int)=((9:Nat):Int)from rfl,f1,bS]
 dsimp only
 have go: ∀E',FnL E'->E'.length<=5->((g33 m D E' ([]:List LI)).bind fun y7=>
  (g34 m D E' ([]:List LI)).bind fun y8=>
  bif y7.1.2.1==y8.1.2.1 then
   (g35 m y7.1.1 y8.1.1).bind fun y9=>
   bif y9.1 then
    (sparselaw38_awake m).bind fun y10=>
    some (y10.1,((),(),(),(),()))
   else
    some (false,((),(),(),(),()))
  else
   some (false,((),(),(),(),())))=some (true,(),(),(),(),()):=by
  intro E' h1 h2;obtain⟨l,e,g1,g2,g3⟩:=qjl (m:=m) O d3 h1 O h2 [];rw[g2,g3,bS,bS];dsimp only;rw[beq_self_eq_true,cond_true,qif (m:=m) O l g1,bS];dsimp only;rw[cond_true,qp3 O];rfl
 rw[bQ];split
 . obtain⟨c,hc⟩: ∃c,c=(if(if 0>(wI ((D.length:Int)-1))then 0 else(wI ((D.length:Int)-1)))<(E.length:Int)then(if 0>(wI ((D.length:Int)-1))then 0 else(wI ((D.length:Int)-1)))else(E.length:Int)):=⟨_,rfl⟩
   have hc0:0<=c/\c<=(E.length:Int):=by
    rw[hc];generalize wI ((D.length:Int)-1)=q;split<;>split<;>omega
   rw[<-hc,iP ⟨O,O,O⟩];exact go _ (qqw f3 _) (by rw[zV];omega)
 . exact go E f3 O
end Go.Vs.F
