import Derived.Test.YtoeiaipcgnjfcaaGreatDoorLd
import Derived.KernelRfl
set_option linter.unusedVariables false
set_option linter.unusedSimpArgs false
set_option linter.unusedSectionVars false
set_option linter.defProp false
set_option maxRecDepth 100000
namespace Go.Vs.F
end Go.Vs.F
set_option maxRecDepth 100000
namespace Go.Vs.F
def T0 (x:Int):Prop:= -9223372036854775808<=x/\x<9223372036854775808
def cK (f:Int):Int:=sc (pY f) (oj f) (-1074)
def FS {f:Int} (h:bD f):eH f=aW (cK f) (-1074):=by
 have he:=HS (f:=f);unfold eH cK;rw[iP h,Cj O]
def gC {f:Int} (h:bD f):cP (cK f) (-1074):=by
 have he:=HS (f:=f);have:=qv5 h;unfold cP cK at*
 rwa [Cj O]
abbrev fu:=Bool×(Bool×LI)×Int
def Pq (d:Bool×Bool×LI×Int×Unit):fu:=(d.1,((d.2.1,d.2.2.1),d.2.2.2.1))
def dG:LI->Int
 |[]=>0
 |x::l=>x+dG l
def WE {a b:LI}:dG (a++b)=dG a+dG b:=by
 induction a with
 |nil=>simp[dG]
 |cons x a ih=>rw[qX,dG,dG,ih];omega
def WG {v:Int} (h:bD v):au (cK v).natAbs<=2100:=by
 have h1:=Oa v;have h2:=que h;have h3:=HS (f:=v);have:=JK (w:=pY v) (f:=oj v) (b:= -1074) O;unfold cK;omega
def VC {a b:Int} (ha:bD a) (hb:bD b):cP (cK a*cK b) (-2148):=by
 by_cases h:cK a*cK b=0
 . rw[h];exact qq6 _
 . have h1:=WG ha;have h2:=WG hb;have h3:=YR (a:=cK a) (b:=cK b);have h4:=Sp (n:=(cK a*cK b).natAbs);exact Ya.2 (.inr ⟨O,O⟩)
def qp6 {m:Nat} (hm:3000000<m) {n:Int} (h:T0 n):KM m n=some (aW n 0,(),()):=by
 have hb:au n.natAbs<=1000:=zf (Qr (k:=64) (by unfold T0 at h;omega)) O
 rw[KM,SC O h.1 h.2,bS];dsimp only;rw[Ou hm O O O];rfl
def qqd {m:Nat} (hm:3000000<m) {z e:Int} (h:cP z e):Pf m (aW z e).1 (aW z e).2.1 (aW z e).2.2.1 (aW z e).2.2.2.1=some (aW (z.natAbs:Int) e,(),()):=by
 have i:(aW z e).1=false:=h;rw[Pf,RN hm,bS];dsimp only;rw[i,cond_false];obtain⟨w,f,k,k1,k2,k3⟩:=Jg h;have hb:=k.len;have hb1:=k.lo;have hb2:=k.hi;rw[k1,k2,k3,QT O k.Sz,bS,ba];dsimp only;rw[Ou hm (by rw[nx];omega) O O,bS]
 have e1:dK (w.natAbs:Int) f (z.natAbs:Int) e:=by
  obtain⟨b,b1,b2,b3⟩:=k.eq;refine⟨b,b1,b2,?_⟩;unfold sc at*;have h1:(w.natAbs:Int)*2^(f-b).toNat=((w*2^(f-b).toNat).natAbs:Int):=by rw[Ye,qZ,nY];exact Iq _ _
  have h2:(z.natAbs:Int)*2^(e-b).toNat=((z*2^(e-b).toNat).natAbs:Int):=by rw[Ye,qZ,nY];exact Iq _ _
  rw[h1,h2,b3]
 rw[e1.mk]
def qol {z e:Int} (h:cP z e):cP (z.natAbs:Int) e:=by
 rw[Ya]at*;rw[nx];omega
def dy (B z:Int):fu:=Pq (aW z B)
def MZ {zs:LI} {B:Int} {k:Nat} (hk:k<zs.length) {d:fu}:(zs.map (dy B)).getD k d=dy B (zs.getD k 0):=by
 simp[List.getD,hk]
def Ia {zs:LI} {k:Nat} (hk:k<zs.length):dG (zs.take (k+1))=dG (zs.take k)+zs.getD k 0:=by
 rw[List.take_succ_eq_append_getElem hk,WE];simp[dG,List.getD,hk]
def gZ (B:Int):Int->LI->Int
 |e,[]=>e
 |e,z::zs=>gZ B (if(aW z B).2.2.2.1<e then(aW z B).2.2.2.1 else e) zs
def QX {B:Int}: ∀{zs:LI} {e:Int},gZ B e zs<=e/\ ∀z∈zs,gZ B e zs<=(aW z B).2.2.2.1
 |[],e=>⟨Ny _,λz h=>by cases h⟩
 |z::zs,e=>by
  have ih:=QX (B:=B) (zs:=zs) (e:=if(aW z B).2.2.2.1<e then(aW z B).2.2.2.1 else e)
  unfold gZ;have h1:(if(aW z B).2.2.2.1<e then(aW z B).2.2.2.1 else e)<=e/\(if(aW z B).2.2.2.1<e then(aW z B).2.2.2.1 else e)<=(aW z B).2.2.2.1:=by split<;>omega
  refine⟨O,λy hy=> ?_⟩
  rcases mC hy with rfl|hy
  . omega
  . exact ih.2 y hy
def QN {B:Int}: ∀{zs:LI} {e:Int},-65536<=e->(∀z∈zs,cP z B)-> -65536<=gZ B e zs
 |[],e,h,_=>h
 |z::zs,e,h,hz=>by
  unfold gZ;refine QN ?_ λy hy=>hz y (mT hy)
  obtain⟨w,f,k,k1,k2,k3⟩:=Jg (hz z mS);have:=k.lo;rw[k3];split<;>omega
def US {m:Nat} (hm:3000000<m) {B:Int} {zs:LI} (hl:zs.length<=10000) (hok: ∀z∈zs,cP z B) (t0 t1:Bool) (t2:LI) (t3:Int): ∀(n k:Nat) (e:Int),zs.length-k<n->k<=zs.length->
 lq m n t0 t1 t2 t3 ((zs.take k).map (dy B)) e (zs.map (dy B)) (zs.length:Int) (k:Int)=some (.inr (.inl ((t0,t1,t2,t3,()),zs.map (dy B),gZ B e (zs.drop k),())))
 |0,k,e,h,_=>absurd h (zA _)
 |n+1,k,e,h,hk0=>by
  rw[lq,bQ];by_cases hk:k<zs.length
  . have hz:cP (zs.getD k 0) B:=hok _ (Qx hk);have ih:=US hm hl hok t0 t1 t2 t3 n (k+1) (if(aW (zs.getD k 0) B).2.2.2.1<e then(aW (zs.getD k 0) B).2.2.2.1 else e) O O
    rw[iP O,iP (by rw[zy];omega),tN,MZ hk,show gQ m (dy B (zs.getD k 0)).1 (dy B (zs.getD k 0)).2.1.1 (dy B (zs.getD k 0)).2.1.2 (dy B (zs.getD k 0)).2.2=_ from HX hm,bS]
    dsimp only;rw[decide_eq_true hz,jM,cond_false,iP (by simp;omega),show wI ((k:Int)+1)=((k+1:Nat):Int)from aB O]
    have e1:(zs.take k).map (dy B)++[((aW (zs.getD k 0) B).1,((aW (zs.getD k 0) B).2.1,(aW (zs.getD k 0) B).2.2.1),(aW (zs.getD k 0) B).2.2.2.1)]=(zs.take (k+1)).map (dy B):=by
     rw[List.take_succ_eq_append_getElem hk,xp];simp[dy,Pq,List.getD,hk]
    have e2:gZ B e (zs.drop k)=gZ B (if(aW (zs.getD k 0) B).2.2.2.1<e then(aW (zs.getD k 0) B).2.2.2.1 else e) (zs.drop (k+1)):=by
     rw[Ix hk,gZ];simp[List.getD,hk]
    rw[e1,e2];exact ih
  . have:k=zs.length:=O;subst this;rw[ao O,ID,List.drop_length];rfl
def UB {m:Nat} (hm:3000000<m) {B:Int} {zs:LI} (hl:zs.length<=10000) (hok: ∀z∈zs,cP z B) {E:Int} (hE1: -65536<=E) (hE2:E<=0) (hE: ∀z∈zs,E<=(aW z B).2.2.2.1) (t0 t1:Bool) (t2:LI) (t3:Int): ∀(n k:Nat) (S:Int),zs.length-k<n->k<=zs.length->
 au S.natAbs<=300000+k->dK S E (dG (zs.take k)) B->
 ∃T,ll m n t0 t1 t2 t3 E (zB S).1 (zB S).2.1 (zs.map (dy B)) (zs.length:Int) (k:Int)=some (.inl ((t0,t1,t2,t3,()),E,((zB T).1,(zB T).2.1,()),()))/\au T.natAbs<=400000/\dK T E (dG zs) B
 |0,k,S,h,_,_,_=>absurd h (zA _)
 |n+1,k,S,h,hk0,hS,hQ=>by
  rw[ll,bQ];by_cases hk:k<zs.length
  . have hz:cP (zs.getD k 0) B:=hok _ (Qx hk);obtain⟨w,f,kk,k1,k2,k3⟩:=Jg hz;have hEf:E<=f:=by rw[<-k3];exact hE _ (Qx hk)
    have hb1:=kk.lo;have hb2:=kk.hi;have s1:=Cg kk hEf hE1;have hle:=kk.len;have w1:wI (f-E)=f-E:=by rw[wQ,wi O O]
    have q2:dK (S+sc w f E) E (dG (zs.take (k+1))) B:=by
     rw[Ia hk];exact hQ.add (c:=0) (g:=0) ((dK.sc hEf).trans kk.eq)
    have q1:au (S+sc w f E).natAbs<=300000+(k+1):=by
     have:=OP (k:=300000+k) hS (zf s1 O);omega
    obtain⟨T,i1,i2,i3⟩:=UB hm hl hok hE1 hE2 hE t0 t1 t2 t3 n (k+1) (S+sc w f E) O O q1 q2;refine⟨T,?_,i2,i3⟩
    rw[iP O,iP (by rw[zy];omega),tN,zG,MZ hk,
     show(dy B (zs.getD k 0)).2.1.1=(zB w).1 from k1,show(dy B (zs.getD k 0)).2.1.2=(zB w).2.1 from k2,show(dy B (zs.getD k 0)).2.2=f from k3,w1,ff hm O O O,bS]
    dsimp only;rw[NU O (tf O) (tf (by unfold sc at s1;omega)),ba,ba,bS,show wI ((k:Int)+1)=((k+1:Nat):Int)from aB O]
    exact i1
  . have:k=zs.length:=O;subst this;rw[ID]at hQ;exact⟨S,by rw[ao O],O,hQ⟩
def qv4 {m:Nat} (hm:3000000<m) {B:Int} {zs:LI} (hl:zs.length<=10000) (hok: ∀z∈zs,cP z B):Ak m (zs.map (dy B))=some (aW (dG zs) B,(),()):=by
 have h0:=US hm hl hok false false [] 0 m 0 0 O O;rw[sk,nW,xT,nZ]at h0;rw[Ak,zy,h0,bS];dsimp only;have hE:=QX (B:=B) (zs:=zs) (e:=0);have hE1:=QN (B:=B) (zs:=zs) (e:=0) O hok;obtain⟨T,i1,i2,i3⟩:=UB hm hl hok hE1 hE.1 hE.2 false false [] 0 m 0 0 O O (zf (Qr (n:=0) (k:=0) (by decide)) O) (dK.zero _ _)
 rw[nZ]at i1;rw[zy,show([]:LI)=(zB 0).2.1 from Qj.symm,show false=(zB 0).1 from rfl]
 rw[show(zB 0).1=false from rfl,show(zB 0).2.1=([]:LI)from Qj]at*
 rw[i1,bS];dsimp only;rw[JE hm O O O,i3.mk];rfl
end Go.Vs.F
set_option maxRecDepth 100000
namespace Go.Vs.F
def ft (l:LI):Prop:= ∀i,i<l.length->dg (l.getD i 0)/\bD (l.getD i 0)
def UL (l:LI):Prop:= ∀i,i<l.length->dg (l.getD i 0)
def HV (m:Nat) (a:Int) {k:Nat} (h0:0<k) (hk:k<9223372036854775808): ∃r:Nat,r<k/\Bw m a (k:Int)=some ((r:Int),(),(),()):=by
 have w:wJ (k:Int)=(k:Int):=bA O;obtain⟨x,hx,_⟩:=quj a;have hx':wJ a=(x:Int):=hx;refine⟨x%k,l6 _ h0,?_⟩;have:=l6 x h0;rw[Bw,w,hx',iP O,tm,wQ,wi O O]
def tS (a:Int):dg (IntKind.wrap .u64 a):=PQ a
def QP (m:Nat) {raw:LI} (hl:raw.length<=9223372036854775807) (k:Int): ∃w,Ie m raw k=some (w,(),(),())/\dg w:=by
 rw[Ie,bQ];by_cases c:0<raw.length
 . obtain⟨r,hr,e⟩:=HV m k (k:=raw.length) c O;rw[iP O,e,bS];dsimp only;rw[iP O];exact⟨_,rfl,tS _⟩
 . rw[ao O];exact⟨_,rfl,tS _⟩
def UU {x M E:Nat} (hx:x<18446744073709551616) (hM:M<18446744073709551616) (hM0:M/4503599627370496%2048=0) (hE:E<2047):
 dg (bc .u64 (qp .u64 (x:Int) (M:Int)) (bu .u64 (wJ (E:Int)) 52))/\bD (bc .u64 (qp .u64 (x:Int) (M:Int)) (bu .u64 (wJ (E:Int)) 52)):=by
 refine⟨tS _,?_⟩
 have e2:bu .u64 (wJ (E:Int)) 52=((E*2^52:Nat):Int):=by
  rw[bA O];exact fD (a:=E) (k:=52) O (by rw[show(2:Nat)^52=4503599627370496 by decide];omega)
 have ha:x&&&M<18446744073709551616:=xP Nat.and_le_left hx;have hp:(2:Nat)^52=4503599627370496:=by decide
 rw[iq hx hM,e2,kj ha (by rw[hp];omega)]
 unfold bD dQ
 have key:(x&&&M|||E*2^52)/2^52%2^11=E:=by
  rw[<-Nat.shiftRight_eq_div_pow,Nat.shiftRight_or_distrib,Nat.or_mod_two_pow,Nat.shiftRight_and_distrib,Nat.and_mod_two_pow,Nat.shiftRight_eq_div_pow M,hp];rw[show(2:Nat)^11=2048 by decide,hM0,Nat.and_zero,Nat.zero_or,Nat.shiftRight_eq_div_pow,hp,Nat.mul_div_cancel _ (by decide)]
  omega
 rw[hp,show(2:Nat)^11=2048 by decide]at key
 rw[hp];generalize (x&&&M|||E*4503599627370496)=Z at*
 omega
def IR:LI:=[13844628204490326016,13844065254536904704,13842939354630062080,13841813454723219456,13840687554816376832,13839561654909534208,13837309855095848960,13835058055282163712,13830554455654793216,0,4607182418800017408,4611686018427387904,4613937818241073152,4616189618054758400,4617315517961601024,4618441417868443648,4619567317775286272,4620693217682128896,4621256167635550208]
def qr3 (j:Nat):((List.range 19).map λr=>ph (j+100) ((r:Nat):Int))=IR.map λf=>some (f,(),()):=by kernel_rfl
def quq:(IR.all λf=>decide ((0<=f/\f<18446744073709551616)/\f/4503599627370496%2048≠2047))=true:=by decide+kernel
def qqr {m:Nat} (hm:5000000000<=m) {x:Int} (hx:dg x): ∃f,ph m x=some (f,(),())/\dg f/\bD f:=by
 obtain⟨j,rfl⟩: ∃j,m=j+100:=⟨m-100,O⟩;obtain⟨y,rfl⟩: ∃y:Nat,x=(y:Int):=⟨x.toNat,by have:=hx.1;omega⟩
 have hr:y%19<19:=l6 _ (by decide)
 have e:ph (j+100) ((y:Nat):Int)=ph (j+100) ((y%19:Nat):Int):=by
  rw[ph,ph,show(19:Int)=((19:Nat):Int)from rfl,tm,tm,xR]
 have h1:=congrArg (λl=>l[y%19]?) (qr3 j)
 have hl:IR.length=19:=by decide
 simp only[List.getElem?_map,List.getElem?_range hr,List.getElem?_eq_getElem (show y%19<IR.length by omega),sm,zM]at h1
 have h2:=zx.1 quq IR[y%19] (zN _);have h3:=of_decide_eq_true h2;exact⟨_,by rw[e];exact h1,h3.1,h3.2⟩
def Uz {m:Nat} (hm:5000000000<=m) {x:Int} (hx:dg x) (style:Int): ∃f,KC m x style=some (f,(),(),())/\dg f/\bD f:=by
 obtain⟨r,hr,e⟩:=HV m style (k:=4) (by decide) (by decide)
 obtain⟨y,rfl⟩: ∃y:Nat,x=(y:Int):=⟨x.toNat,by have:=hx.1;omega⟩
 have hy:y<18446744073709551616:=by have:=hx.2;omega
 rw[KC,show(4:Int)=((4:Nat):Int)from rfl,e,bS,aF,aF,aF]
 dsimp only;by_cases c1:r=1
 . subst c1
   have e1:qp .u64 (az .u64 (y:Int) 52) 7=((y/4503599627370496%8:Nat):Int):=by
    have h1:az .u64 (y:Int) 52=((y/4503599627370496:Nat):Int):=cV (a:=y) (k:=52) O;have h2:qp .u64 ((y/4503599627370496:Nat):Int) ((7:Nat):Int)=((y/4503599627370496&&&7:Nat):Int):=iq O (by decide)
    rw[h1,show(7:Int)=((7:Nat):Int)from rfl,h2,B3 _ 3]
   have:=UU (x:=y) (M:=9227875636482146303) (E:=1019+y/4503599627370496%8) hy (by decide) (by decide) O
   rw[iP (by decide),e1,show(1019:Int)+((y/4503599627370496%8:Nat):Int)=((1019+y/4503599627370496%8:Nat):Int) by omega]
   exact⟨_,rfl,this⟩
 . rw[ao O];by_cases c2:r=2
   . subst c2
     have e1:Int.tmod (az .u64 (y:Int) 8) 81=((y/256%81:Nat):Int):=by
      have h1:az .u64 (y:Int) 8=((y/256:Nat):Int):=cV (a:=y) (k:=8) O;rw[h1,show(81:Int)=((81:Nat):Int)from rfl,tm]
     have:=UU (x:=y) (M:=9225623836668461056) (E:=983+y/256%81) hy (by decide) (by decide) O
     rw[iP (by decide),e1,show(983:Int)+((y/256%81:Nat):Int)=((983+y/256%81:Nat):Int) by omega]
     exact⟨_,rfl,this⟩
   . rw[ao O];by_cases c3:r=3
     . subst c3;rw[iP (by decide),WL hx,bS]
       dsimp only;by_cases f:bD (y:Int)
       . rw[decide_eq_true f];exact⟨_,rfl,hx,f⟩
       . rw[decide_eq_false f];exact⟨_,rfl,⟨by decide,by decide⟩,by decide⟩
     . rw[ao O];obtain⟨f,ef,h1,h2⟩:=qqr hm hx;rw[ef,bS];exact⟨_,rfl,h1,h2⟩
def Q0:ft []:=λi hi=>absurd hi (zA _)
def We {l:LI} (h:ft l) {f:Int} (h1:dg f) (h2:bD f):ft (l++[f]):=by
 intro i hi;rw[zJ,ny]at hi;by_cases c:i<l.length
 . have:(l++[f]).getD i 0=l.getD i 0:=by rw[List.getD,List.getElem?_append_left c];rfl
   rw[this];exact h i c
 . have:i=l.length:=O;subst this;have:(l++[f]).getD l.length 0=f:=by simp[List.getD]
   rw[this];exact⟨h1,h2⟩
def qni {m:Nat} (hm:5000000000<=m) {raw:LI} (hl:raw.length<=9223372036854775807) {at0 n:Nat} (hat:at0<=1000) (hn:n<=1000) (style:Int): ∀(N k:Nat) (out:LI),n-k<N->k<=n->out.length=k->ft out->
 ∃l,pd m N raw (at0:Int) (n:Int) style out (k:Int)=some (.inl (l,()))/\l.length=n/\ft l:=by
 intro N;induction N with
 |zero=>intro k out h;omega
 |succ N ih=>
  intro k out h hk ho hF;rw[pd,bQ];by_cases c:k<n
  . obtain⟨w,ew,hw⟩:=QP m hl (wI ((at0:Int)+(k:Int)));obtain⟨f,ef,h1,h2⟩:=Uz hm hw style;rw[iP O,ew,bS,ef,bS,ho,iP (by show k+1<=_;omega),wQ,aB O]
    exact ih (k+1) _ O O (by simp[ho]) (We hF h1 h2)
  . rw[ao O];exact⟨out,rfl,O,hF⟩
def qmy {m:Nat} (hm:5000000000<=m) {raw:LI} (hl:raw.length<=9223372036854775807) {at0 n:Nat} (hat:at0<=1000) (hn:n<=1000) (style:Int): ∃l,Pm m raw (at0:Int) (n:Int) style=some (l,(),(),(),(),())/\l.length=n/\ft l:=by
 obtain⟨l,e,h1,h2⟩:=qni hm hl hat hn style m 0 [] O O rfl Q0;refine⟨l,?_,h1,h2⟩;rw[Pm];rw[nZ]at e;rw[e,bS]
def ft.U {l:LI} (h:ft l):UL l:=λi hi=>(h i hi).1
def JF {m:Nat} (hm:3000000<m) {B:Int} {zs:LI} (hl:zs.length<=10000) (hok: ∀z∈zs,cP z B) (t0 t1:Bool) (t2:LI) (t3:Int): ∀(n k:Nat) (T e:Int),zs.length-k<n->k<=zs.length->
 dK T e (dG (zs.take k)) B-> -65536<=e->e<=65536->(au T.natAbs:Int)+e<=65536+(k:Int)->
 ∃T' e',jG m n (zs.map (dy B)) t0 t1 t2 t3 (zB T).1 (zB T).2.1 e (k:Int)=some (.inr (.inl ((t0,t1,t2,t3,()),((zB T').1,(zB T').2.1,()),e',())))/\au T'.natAbs<=200000/\dK T' e' (dG zs) B/\ -65536<=e'/\e'<=65536
 |0,k,T,e,h,_,_,_,_,_=>absurd h (zA _)
 |n+1,k,T,e,h,hk0,hQ,he1,he2,hb=>by
  rw[jG,bQ];by_cases hk:k<zs.length
  . have hz:cP (zs.getD k 0) B:=hok _ (Qx hk);obtain⟨w,f,kk,k1,k2,k3⟩:=Jg hz;have hb1:=kk.lo;have hb2:=kk.hi;have hle:=kk.len;have w0:wI ((k:Int)+1)=((k+1:Nat):Int):=aB O;have hi1:(aW (zs.getD k 0) B).1=false:=hz;rw[iP (by rw[zy];omega),iP (by rw[zy];omega),tN,MZ hk,show qK m (dy B (zs.getD k 0)).1 (dy B (zs.getD k 0)).2.1.1 (dy B (zs.getD k 0)).2.1.2 (dy B (zs.getD k 0)).2.2=_ from RN hm,bS]
    dsimp only;rw[hi1,cond_false,YD hm hz,bS,aF];dsimp only;by_cases z0:zs.getD k 0=0
    . rw[iP (Qy.2 z0),w0];exact JF hm hl hok t0 t1 t2 t3 n (k+1) T e O O (by rw[Ia hk,z0,NA];exact hQ) he1 he2 O
    . have hT:Sz (zB T).2.1:=tf O;rw[ao (λh=>z0 (Qy.1 h)),Ot O hT,bS,ba,aF]
      dsimp only;by_cases hT0:T=0
      . rw[iP (Qy.2 hT0),w0,k1,k2,k3];subst hT0;refine JF hm hl hok t0 t1 t2 t3 n (k+1) w f O O ?_ hb1 O O;have q:=((dK.zero f e).trans hQ).add (c:=0) (g:=0) kk.eq;rw[Int.zero_add]at q;rw[Ia hk];exact q
      . rw[ao (λh=>hT0 (Qy.1 h)),bQ,k1,k2,k3]
        by_cases hfe:f>=e
        . have w1:wI (f-e)=f-e:=by rw[wQ,wi O O]
          have s1:=JK (w:=w) hfe;have s2:au (T+sc w f e).natAbs<=(65536+(k:Int)-e).toNat+1:=OP O O;rw[iP hfe,w1,SH hm O O O,bS];dsimp only;rw[Oj O hT (tf (by unfold sc at s1;omega)),ba,ba,bS,w0]
          refine JF hm hl hok t0 t1 t2 t3 n (k+1) (T+sc w f e) e O O ?_ he1 he2 O;rw[Ia hk];exact hQ.add (c:=0) (g:=0) ((dK.sc hfe).trans kk.eq)
        . have w1:wI (e-f)=e-f:=by rw[wQ,wi O O]
          have s1:=JK (w:=T) (f:=e) (b:=f) O;have s2:au (sc T e f+w).natAbs<=(65536+(k:Int)-f).toNat+1:=OP O O;rw[ao hfe,w1,SH hm O O O,bS];dsimp only;rw[Oj O (tf (by unfold sc at s1;omega)) kk.Sz,ba,ba,bS,w0]
          refine JF hm hl hok t0 t1 t2 t3 n (k+1) (sc T e f+w) f O O ?_ hb1 O O;rw[Ia hk];exact((dK.sc O).trans hQ).add (c:=0) (g:=0) kk.eq
  . have:k=zs.length:=O;subst this;rw[ID]at hQ;exact⟨T,e,by rw[ao (by rw[zy];omega)],O,hQ,he1,he2⟩
def qt6 {m:Nat} (hm:3000000<m) {B:Int} {zs:LI} (hl:zs.length<=10000) (hok: ∀z∈zs,cP z B):KG m (zs.map (dy B))=some (aW (dG zs) B,(),()):=by
 obtain⟨T,e,i1,i2,i3,i4,i5⟩:=JF hm hl hok false false [] 0 m 0 0 0 O O (dK.zero _ _) O O (by rw[show(0:Int).natAbs=0 from rfl,Z7];omega)
 rw[nZ,show(zB 0).1=false from rfl,show(zB 0).2.1=([]:LI)from Qj]at i1
 rw[KG,i1,bS];dsimp only;rw[Ou hm O O O,i3.mk];rfl
end Go.Vs.F
set_option maxRecDepth 100000
namespace Go.Vs.F
def dC (l:LI):Bool:=Qe (λi=>decide (bD (l.getD i 0))) 0 l.length
structure VV (V:List LI):Prop where
 n:V.length<=10
 l: ∀i,i<V.length->(V.getD i []).length<=100
 u: ∀i,i<V.length->UL (V.getD i [])
section
variable {m:Nat} (hm:5000000000<=m) {V:List LI} (hV:VV V)
include hm hV
end
def yc:Int:=sc 1 0 (-2148)
def qvc:aW 1 0=aW yc (-2148):=(Cj O).symm
def qug:au yc.natAbs<=3000:=by
 have h:=JK (w:=1) (f:=0) (b:= -2148) O;have h1:au (1:Int).natAbs<=1:=Qr (by decide)
 unfold yc;omega
def quw {z:Int} (h:au z.natAbs<=60000):cP z (-2148):=Ya.2 (.inr ⟨O,O⟩)
structure WV (V:List LI):Prop where
 v:VV V
 e: ∀i,i<V.length->(V.getD i []).length=(V.getD 0 []).length
 f: ∀i,i<V.length->ft (V.getD i [])
section
variable {m:Nat} (hm:5000000000<=m) {V:List LI} (hV:WV V)
include hV
end
section
variable {m:Nat} (hm:5000000000<=m) {V:List LI}
include hm
end
def qsu {r x:Nat} (hr:r<4294967296) (hx:x<4294967296):bc .u64 (bu .u64 (r:Int) 32) (x:Int)=((r*4294967296+x:Nat):Int):=by
 have e1:bu .u64 (r:Int) 32=((r*4294967296:Nat):Int):=by
  have h:=fD (a:=r) (k:=32) O (by rw[show(2:Nat)^32=4294967296 by decide];omega)
  rw[show(2:Nat)^32=4294967296 by decide]at h
  exact h
 rw[e1,kj O O];have:=IE (i:=32) (b:=x) O r;rw[zh,show(4294967296:Nat)=2^32 by decide,<-this]
def mj {l:LI} {i:Nat} {x:Int} (h:i<l.length):(l.set i x).drop i=x::l.drop (i+1):=by
 rw[Ix (by rw[zS];exact h)]
 congr 1
 . simp
 . rw[List.drop_set];simp
def WU (m:Nat) {a:LI} (ha:Lm a) (hl:a.length<=1000000) {d:Nat} (hd:0<d) (hd2:d<4294967296): ∀(k n:Nat) (out:LI),k<n->k<=a.length->Lm out->out.length=a.length->vl (out.drop k)=vl (a.drop k)/d->
 ∃out',iU m n a (d:Int) out ((vl (a.drop k)%d:Nat):Int) ((k:Int)-1)=some (.inl (out',((vl a%d:Nat):Int),()))/\Lm out'/\out'.length=a.length/\vl out'=vl a/d
 |0,n+1,out,_,_,h1,h2,h3=>by
  refine⟨out,?_,h1,h2,by simpa using h3⟩
  rw[iU,bQ,ao O,nW]
 |k+1,n+1,out,hn,hk,h1,h2,h3=>by
  obtain⟨x,ex,hx,hv⟩:=ha.get' k;have hr:vl (a.drop (k+1))%d<d:=l6 _ hd;have w:((k+1:Nat):Int)-1=(k:Int):=O;rw[iU,w,bQ,iP O,iP O];have wd:wJ (d:Int)=(d:Int):=bA O;rw[wd,iP O,iP O,iP O,tN,ex,bA O,qsu O hx,td,tm]
  have hq:(vl (a.drop (k+1))%d*4294967296+x)/d<4294967296:=by
   rw[B7 hd];have:(vl (a.drop (k+1))%d+1)*4294967296<=d*4294967296:=zO _ hr;omega
  have wq:wK (wJ (((vl (a.drop (k+1))%d*4294967296+x)/d:Nat):Int))=(((vl (a.drop (k+1))%d*4294967296+x)/d:Nat):Int):=by
   rw[bA O,fA,j7 hq]
  rw[wq,zG]
  have e1:vl (a.drop k)=d*(4294967296*(vl (a.drop (k+1))/d))+(vl (a.drop (k+1))%d*4294967296+x):=by
   rw[hv];have:=xM (vl (a.drop (k+1))) d;generalize vl (a.drop (k+1))/d=q at*;generalize vl (a.drop (k+1))%d=r at*;rw[<-this,zL,<-Nat.mul_assoc,zh 4294967296 d,zX];omega
  have e2:vl (a.drop k)/d=4294967296*(vl (a.drop (k+1))/d)+(vl (a.drop (k+1))%d*4294967296+x)/d:=by
   rw[e1,Nat.mul_add_div hd]
  have e3:vl (a.drop k)%d=(vl (a.drop (k+1))%d*4294967296+x)%d:=by
   rw[e1,Nb]
  rw[<-e3,wQ,wi O O];refine WU m ha hl hd hd2 k n _ O O (sF h1 hq) (by rw[zS];exact h2) ?_
  rw[mj O,vl,tN,h3,e2];omega
def qpr {m:Nat} (hm:2000000<m) {a:LI} (ha:Lm a) (hl:a.length<=1000000) {d:Nat} (hd:0<d) (hd2:d<4294967296):
 v7 m a (d:Int)=some ((lim (vl a/d),((vl a%d:Nat):Int),()),(),(),()):=by
 rw[v7,iP O,tN,wQ,wi O O];have h0:(a.drop a.length)=[]:=List.drop_length
 obtain⟨out,h1,h2,h3,h4⟩:=WU m ha hl hd hd2 a.length m (List.replicate a.length 0) O (zF _) Xe (nX ..) (by
  rw[List.drop_eq_nil_of_le (by rw[nX];exact zF _),h0]
  show 0=0/d
  rw[NB])
 rw[h0]at h1
 have e0:((vl ([]:LI)%d:Nat):Int)=0:=by
  show((0%d:Nat):Int)=0
  rw[Nat.zero_mod];rfl
 rw[e0]at h1;rw[h1,bS];dsimp only;rw[Qz h2 O O,bS,h4,fA,j7 (Nat.lt_trans (l6 _ hd) hd2)]
def XU {d:Nat} (h0:0<d) (h:d<4294967296):lim d=[(d:Int)]:=by
 rw[Ck O,B0 h,Qj,j7 h]
def qde {m:Nat} (hm:2000000<m) {A d:Nat} (hA:(lim A).length<=1000000) (h0:0<d) (h:d<4294967296):
 pk m (lim A) (lim d)=some ((lim (A/d),lim (A%d),()),(),(),()):=by
 have hd1:(lim d).length=1:=by rw[XU h0 h];rfl
 rw[pk,Jb hm hA O,bS,bQ];dsimp only;by_cases c:A<d
 . have hc:dm A d= -1:=by unfold dm;rw[iP c]
   rw[hc,iP O,I6 O,bS,B0 c,j7 c,Qj]
 . have hc: ¬dm A d<0:=by unfold dm;rw[ao c];split<;>omega
   rw[ao hc,hd1,aF,iP (show((1:Nat):Int)=1 from rfl),iP O,XU h0 h]
   show(v7 m (lim A) (d:Int)).bind _=_
   rw[qpr hm (Q9 A) hA h0 h,bS,qx];dsimp only;have hr:A%d<4294967296:=Nat.lt_trans (l6 _ h0) h;rw[Qz (λx hx=>by rw[zC.1 hx];omega) (by simp;omega) (by simp),bS]
   show some ((_,lim ((((A%d:Nat):Int)).toNat+4294967296*0),()),_)=_
   rw[tN,gd,zU]
def Y6 (l:LI) (k:Nat) (h:k<=l.length):vl l=vl (l.take k)+4294967296^k*vl (l.drop k):=by
 conv=>lhs;rw[<-List.take_append_drop k l]
 rw[xH,zk,Nat.min_eq_left h]
def Lm.take {l:LI} (h:Lm l) (k:Nat):Lm (l.take k):=λx hx=>h x (pJ hx)
def Lm.drop {l:LI} (h:Lm l) (k:Nat):Lm (l.drop k):=λx hx=>h x (xn hx)
def Jc {l:LI} (h:Lm l) {k:Nat} (hk:k<=l.length):vl (l.take k)<4294967296^k:=by
 have:=cd (h.take k)
 rwa [zk,Nat.min_eq_left hk]at this
def q5m {l:LI} {k:Nat} (hk:k<=l.length) (hlt:vl l<4294967296^k):vl (l.drop k)=0:=by
 have:=Y6 l k hk;rcases B5 (vl (l.drop k))with h|h
 . exact h
 . have:=Nat.le_mul_of_pos_right (4294967296^k) h;omega
def qr6 {W lo P t V lo' y d:Nat} (hW:W=lo+P*t) (hlo:lo<P) (hV:V=lo'+P*y) (hy:0<y) (hd:d*V<=W):d<=t/y:=by
 rw[HI hy];have h1:d*(P*y)<=d*V:=zi _ O
 have h2:P*(d*y)<P*(t+1):=by
  rw[xw P d y,zL,iw];omega
 have:=Iz h2;omega
def qtw {B:Nat} (h:B≠0):4294967296^((lim B).length-1)<=B:=by
 refine xu λhlt=> ?_
 have h1:=Xl hlt;have:lim B≠[]:=λh2=>h (Jt.1 h2)
 have:=List.length_pos_iff.2 this;omega
def Cr {r x:Nat} (hr:r<4294967296) (hx:x<4294967296):bc .u64 (bu .u64 (r:Int) 32) (x:Int)=((r*4294967296+x:Nat):Int):=by
 have e1:bu .u64 (r:Int) 32=((r*2^32:Nat):Int):=fD (a:=r) (k:=32) O (by rw[show(2:Nat)^32=4294967296 by decide];omega)
 have hp:(2:Nat)^32=4294967296:=by decide
 rw[e1,kj (by rw[hp];omega) O]
 have:=IE (i:=32) (b:=x) O r;rw[zh,<-this,hp,zh]
section
variable {Q top v1 v2 u2:Nat}
structure QF (Q top v1 v2 u2:Nat):Prop where
 big:Q<4294967296
 ge: ∀q r,q*v1+r=top->r*4294967296+u2<q*v2->Q<q
 fin1: ∀q r,q*v1+r=top->q<4294967296->q*v2<=r*4294967296+u2->q<=Q+1
 fin2: ∀q r,q*v1+r=top->q<=4294967296->4294967296<=r->q<=Q
def Wf (m:Nat) {u v:LI} {n:Nat} (hn:v.length=n) (h2:2<=n) (hul:u.length=n+1) (hl:n<=1000000)
 (e1:v.getD (n-1) 0=(v1:Int)) (e2:v.getD (n-2) 0=(v2:Int)) (e3:u.getD (n-2) 0=(u2:Int)) (h1:2147483648<=v1) (hv1:v1<4294967296) (hv2:v2<4294967296) (hu2:u2<4294967296) (hQ:QF Q top v1 v2 u2):
 ∀(N k q r:Nat),k<N->4294967296<=r+k*2147483648->q*v1+r=top->r<4294967296->Q<=q->q<=4294967297->
  ∃q':Nat,gO m N u v (n:Int) (q:Int) (r:Int)=some (.inl (u,v,(n:Int),(q':Int),()))/\Q<=q'/\q'<=Q+1/\q'<4294967296
 |0,k,q,r,h,_,_,_,_,_=>O
 |N+1,k,q,r,h,hk,hqr,hr,hQq,hq=>by
  have w1:wI ((n:Int)-1)=((n-1:Nat):Int):=by rw[wQ,wi O O];omega
  have w2:wI ((n:Int)-2)=((n-2:Nat):Int):=by rw[wQ,wi O O];omega
  have w3:wJ (v1:Int)=(v1:Int):=bA O;have w4:wJ (v2:Int)=(v2:Int):=bA O;have w5:wJ (u2:Int)=(u2:Int):=bA O;have w6:wJ ((r:Int)+(v1:Int))=((r+v1:Nat):Int):=by rw[<-Int.natCast_add];exact bA O
  have i1:(0:Int)<=((n-1:Nat):Int)/\((n-1:Nat):Int)<(v.length:Int):=O;have i2:(0:Int)<=((n-2:Nat):Int)/\((n-2:Nat):Int)<(v.length:Int):=O;have i3:(0:Int)<=((n-2:Nat):Int)/\((n-2:Nat):Int)<(u.length:Int):=O
  have down:1<=q->Q<q-> ∃q':Nat,(if(0:Int)<=((n-1:Nat):Int)/\((n-1:Nat):Int)<(v.length:Int)then
   bif decide (((r+v1:Nat):Int)>4294967295)then some (.inl (u,v,(n:Int),wJ ((q:Int)-1),()))
   else gO m N u v (n:Int) (wJ ((q:Int)-1)) ((r+v1:Nat):Int)
   else none)=some (.inl (u,v,(n:Int),(q':Int),()))/\Q<=q'/\q'<=Q+1/\q'<4294967296:=by
   intro hq1 hQ1;have w7:wJ ((q:Int)-1)=((q-1:Nat):Int):=by rw[show(q:Int)-1=((q-1:Nat):Int) by omega];exact bA O
   have hs:(q-1)*v1+(r+v1)=top:=by
    have:q*v1=(q-1)*v1+v1:=by rw[<-Nat.succ_mul];congr 1;omega
    omega
   rw[iP i1,bQ,w7];by_cases c:((r+v1:Nat):Int)>4294967295
   . rw[iP c];have:=hQ.fin2 (q-1) (r+v1) hs O O;have:=hQ.big;exact⟨q-1,rfl,O,O,O⟩
   . rw[ao c]
     have hk1:1<=k:=by
      rcases B5 k with e|e
      . subst e;omega
      . exact e
     exact Wf m hn h2 hul hl e1 e2 e3 h1 hv1 hv2 hu2 hQ N (k-1) (q-1) (r+v1) O O hs O O O
  rw[gO,bQ];simp only[w1,w2,zG,tN,e1,e2,e3,w3,w4,w5,w6];by_cases c:(q:Int)>4294967295
  . rw[iP c];exact down O (by have:=hQ.big;omega)
  . have hqv:q*v2<18446744073709551616:=by
     have:q*v2<=4294967295*4294967295:=pN O O;omega
    have w8:wJ ((q:Int)*(v2:Int))=((q*v2:Nat):Int):=by rw[<-Int.natCast_mul];exact bA hqv
    rw[ao c,iP i2,iP i3,w8,Cr hr hu2,bQ];by_cases c2:((q*v2:Nat):Int)>((r*4294967296+u2:Nat):Int)
    . rw[iP c2];have hlt:r*4294967296+u2<q*v2:=O;have:=hQ.ge q r hqr hlt;exact down O this
    . rw[ao c2];exact⟨q,rfl,hQq,hQ.fin1 q r hqr O O,O⟩
end
def QF.mk' {U V P top v1 v2 u2 lu lv:Nat} (hP:0<P) (hU:U=lu+P*(top*4294967296+u2)) (hlu:lu<P) (hV:V=lv+P*(v1*4294967296+v2)) (hlv:lv<P) (h1:2147483648<=v1) (hv2:v2<4294967296) (hu2:u2<4294967296)
 (hUV:U<V*4294967296):QF (U/V) top v1 v2 u2:=by
 have hV0:0<V:=by
  have:P*1<=P*(v1*4294967296+v2):=zi _ O;omega
 refine⟨Nu hUV,λq r e h=> ?_,λq r e hq h=> ?_,λq r e hq h=> ?_⟩
 ·
  rw[B7 hV0]
  have k1:top*4294967296+u2+1<=q*(v1*4294967296+v2):=by
   rw[<-e,zL,ir,<-Nat.mul_assoc];omega
  have k2:P*(top*4294967296+u2+1)<=P*(q*(v1*4294967296+v2)):=zi _ k1;have k3:P*(q*(v1*4294967296+v2))=q*(P*(v1*4294967296+v2)):=by rw[xw]
  have k4:q*V=q*lv+q*(P*(v1*4294967296+v2)):=by rw[hV,zL]
  rw[zL P,iw]at k2;omega
 ·
  rcases B5 q with h0|h0
  . rw[h0];exact l8 _
  have k1:q*(v1*4294967296+v2)<=top*4294967296+u2:=by
   rw[<-e,zL,ir,<-Nat.mul_assoc];omega
  have k2:P*(q*(v1*4294967296+v2))<=P*(top*4294967296+u2):=zi _ k1;have k3:P*(q*(v1*4294967296+v2))=q*(P*(v1*4294967296+v2)):=by rw[xw]
  have k4:q*V=q*lv+q*(P*(v1*4294967296+v2)):=by rw[hV,zL]
  have k5:q*lv<=4294967296*P:=pN O O;have k6:P*4294967296<=P*(v1*4294967296+v2):=zi _ O
  have k7:(q-1)*V<=U:=by
   have:q*V=(q-1)*V+V:=by rw[<-Nat.succ_mul];congr 1;omega
   have:=zh P 4294967296;omega
  have:=(HI hV0).2 k7;omega
 . rw[HI hV0]
   have k1:q*(v1*4294967296+v2+1)<=top*4294967296+u2:=by
    have a1:q*(v2+1)<=4294967296*4294967296:=pN hq O;have a2:q*(v1*4294967296+v2+1)=q*v1*4294967296+q*(v2+1):=by rw[tn,zL,<-Nat.mul_assoc]
    have a3:top*4294967296=q*v1*4294967296+r*4294967296:=by rw[<-e,ir]
    have a4:4294967296*4294967296<=r*4294967296:=zO _ h;omega
   have k2:P*(q*(v1*4294967296+v2+1))<=P*(top*4294967296+u2):=zi _ k1
   have k3:P*(q*(v1*4294967296+v2+1))=q*(P*(v1*4294967296+v2))+q*P:=by
    rw[xw,zL P,iw,zL]
   have k4:q*V=q*lv+q*(P*(v1*4294967296+v2)):=by rw[hV,zL]
   have k5:q*lv<=q*P:=zi _ O;omega
def Oe {a:Nat} (ha:a<18446744073709551616):qp .u64 (a:Int) 4294967295=((a%4294967296:Nat):Int):=by
 have:=iq ha (show 4294967295<18446744073709551616 by decide)
 rw[show((4294967295:Nat):Int)=4294967295 from rfl]at this
 rw[this,B3 _ 32]
def sb {a:Nat} (ha:a<18446744073709551616):qp .u64 (a:Int) 1=((a%2:Nat):Int):=by
 have:=iq ha (show 1<18446744073709551616 by decide)
 rw[show((1:Nat):Int)=1 from rfl]at this
 rw[this,B3 _ 1]
def NZ {a:Nat}:az .u64 (a:Int) 32=((a/4294967296:Nat):Int):=cV (a:=a) (k:=32) O
def V5 {x lo bor:Nat} (hx:x<4294967296) (hlo:lo<4294967296) (hb:bor<=1): ∃d e:Nat,d<4294967296/\e<=1/\x+4294967296*e=d+lo+bor/\
 wK (qp .u64 (wJ ((wJ ((x:Int)-(lo:Int)))-(bor:Int))) 4294967295)=(d:Int)/\qp .u64 (az .u64 (wJ ((wJ ((x:Int)-(lo:Int)))-(bor:Int))) 32) 1=(e:Int):=by
 have hT:wJ ((wJ ((x:Int)-(lo:Int)))-(bor:Int))=((x:Int)-lo-bor)%18446744073709551616:=by
  rw[dO,dO];omega
 rw[hT];by_cases c:lo+bor<=x
 . rw[show((x:Int)-lo-bor)%18446744073709551616=((x-lo-bor:Nat):Int) by omega,Oe O,NZ,sb O,fA]
   refine⟨x-lo-bor,0,O,O,O,?_,?_⟩
   . congr 1;omega
   . congr 1;omega
 . rw[show((x:Int)-lo-bor)%18446744073709551616=((18446744073709551616-(lo+bor-x):Nat):Int) by omega,Oe O,NZ,sb O,fA]
   refine⟨x+4294967296-lo-bor,1,O,O,O,?_,?_⟩
   . congr 1;omega
   . congr 1;omega
def q59 {l:LI} (h:Lm l) {k y:Nat} (hk:k<l.length) (e:l.getD k 0=(y:Int)):vl (l.take (k+1))=vl (l.take k)+4294967296^k*y:=by
 have h1:=Y6 l k O;have h2:=Y6 l (k+1) O;have h3:=Xd hk;rw[e,tN]at h3;rw[h3,zL,<-Nat.mul_assoc]at h1;rw[gV]at h2;omega
section
variable {m n:Nat} {v:LI} (hv:Lm v) (hn:v.length=n) (hl:n<=1000000)
include hv hn hl
theorem qqx {q U:Nat} (hq:q<4294967296) (t1:LI) (t5:Int): ∀(N i:Nat) (u:LI) (car bor:Nat),n-i<N->i<=n->Lm u->u.length=n+1->car<4294967296->bor<=1->
 vl u+q*vl (v.take i)=U+4294967296^i*(bor+car)->
 ∃(u':LI) (car' bor':Nat),Lm u'/\u'.length=n+1/\car'<4294967296/\bor'<=1/\vl u'+q*vl v=U+4294967296^n*(bor'+car')/\
  iT m N u t1 t5 (q:Int) (car:Int) (bor:Int) v (v.length:Int) (i:Int)=some (.inl (u',t1,t5,(q:Int),(car':Int),(bor':Int),())):=by
 intro N;induction N with
 |zero=>intro i u car bor h;omega
 |succ N ih=>
  intro i u car bor h hi hu hul hc hb hinv;rw[iT,bQ];by_cases c:i<n
  . obtain⟨x,ex,hx,_⟩:=hu.get' i;obtain⟨y,ey,hy,_⟩:=hv.get' i
    have hp:q*y+car<18446744073709551616:=by
     have:q*y<=4294967295*4294967295:=pN O O;omega
    have hqy:q*y<18446744073709551616:=O;have wx:wJ (x:Int)=(x:Int):=bA O;have wy:wJ (y:Int)=(y:Int):=bA O;have wq:wJ ((q:Int)*(y:Int))=((q*y:Nat):Int):=by rw[<-Int.natCast_mul];exact bA hqy
    have wp:wJ (((q*y:Nat):Int)+(car:Int))=((q*y+car:Nat):Int):=by rw[<-Int.natCast_add];exact bA hp
    rw[iP O,iP O,iP O,iP O];simp only[tN,zG,ex,ey,wx,wy,wq,wp,Oe hp,NZ];obtain⟨d,e,hd,he,hde,g1,g2⟩:=V5 (lo:=(q*y+car)%4294967296) hx (l6 _ (by decide)) hb
    have g2':qp .u64 (az .u64 (wJ ((wJ ((x:Int)-(((q*y+car)%4294967296:Nat):Int)))-(bor:Int))) 32) 1=(e:Int):=g2;rw[g1,g2',wQ,aB O];refine ih (i+1) (u.set i (d:Int)) ((q*y+car)/4294967296) e O O (sF hu hd) (by rw[zS];exact hul) (Nu O) he ?_
    have s1:=tD (l:=u) (p:=i) (y:=(d:Int)) O;rw[ex,tN,tN]at s1;have s2:=q59 hv (k:=i) (y:=y) O ey;have s3:=xM (q*y+car) 4294967296;generalize hlo:(q*y+car)%4294967296=lo at*;generalize hca:(q*y+car)/4294967296=ca at*;rw[s2,gV];generalize 4294967296^i=P at*;have k1:P*x+P*(4294967296*e)=P*d+P*lo+P*bor:=by rw[<-Nat.mul_add,hde,zL,zL]
    have k2:P*(4294967296*ca)+P*lo=P*(q*y)+P*car:=by rw[<-Nat.mul_add,s3,zL]
    have k3:q*(vl (v.take i)+P*y)=q*vl (v.take i)+P*(q*y):=by rw[zL,xw]
    have k4:P*4294967296*(e+ca)=P*(4294967296*e)+P*(4294967296*ca):=by rw[zX,zL,zL]
    have k5:P*(bor+car)=P*bor+P*car:=zL ..;rw[k3,k4];rw[k5]at hinv;omega
  . have:i=n:=O;subst this;rw[ao O];rw[sj O]at hinv;exact⟨u,car,bor,hu,hul,hc,hb,hinv,rfl⟩
theorem qpx {U:Nat} (t5 t7:Int): ∀(N i:Nat) (u:LI) (car:Nat),n-i<N->i<=n->Lm u->u.length=n+1->car<=1->
 vl u+4294967296^i*car=U+vl (v.take i)->
 ∃(u':LI) (car':Nat),Lm u'/\u'.length=n+1/\car'<=1/\vl u'+4294967296^n*car'=U+vl v/\
  iS m N u t5 t7 (car:Int) v (v.length:Int) (i:Int)=some (.inl (u',t5,t7,(car':Int),())):=by
 intro N;induction N with
 |zero=>intro i u car h;omega
 |succ N ih=>
  intro i u car h hi hu hul hc hinv;rw[iS,bQ];by_cases c:i<n
  . obtain⟨x,ex,hx,_⟩:=hu.get' i;obtain⟨y,ey,hy,_⟩:=hv.get' i;have wx:wJ (x:Int)=(x:Int):=bA O;have wy:wJ (y:Int)=(y:Int):=bA O;have ws:wJ ((x:Int)+(y:Int))=((x+y:Nat):Int):=by rw[<-Int.natCast_add];exact bA O
    have wp:wJ (((x+y:Nat):Int)+(car:Int))=((x+y+car:Nat):Int):=by rw[<-Int.natCast_add];exact bA O
    rw[iP O,iP O,iP O,iP O];simp only[tN,zG,ex,ey,wx,wy,ws,wp,Oe (show x+y+car<18446744073709551616 by omega),NZ,fA]
    rw[wQ,aB O];refine ih (i+1) (u.set i (((x+y+car)%4294967296%4294967296:Nat):Int)) ((x+y+car)/4294967296) O O (sF hu O) (by rw[zS];exact hul) O ?_
    have s1:=tD (l:=u) (p:=i) (y:=(((x+y+car)%4294967296%4294967296:Nat):Int)) O;rw[ex,tN,tN]at s1;have s2:=q59 hv (k:=i) (y:=y) O ey;have s3:4294967296*((x+y+car)/4294967296)+(x+y+car)%4294967296%4294967296=x+y+car:=O;generalize (x+y+car)%4294967296%4294967296=d at*;generalize (x+y+car)/4294967296=ca at*;rw[s2,gV];generalize 4294967296^i=P at*;have k1:P*(4294967296*ca)+P*d=P*x+P*y+P*car:=by rw[<-Nat.mul_add,s3,zL,zL]
    rw[zX];omega
  . have:i=n:=O;subst this;rw[ao O];rw[sj O]at hinv;exact⟨u,car,hu,hul,hc,hinv,rfl⟩
end
end Go.Vs.F
set_option maxRecDepth 100000
namespace Go.Vs.F
def xd {m:Nat} (hm:2000000<m) {u v:LI} (hu:Lm u) (hv:Lm v) {n:Nat} (hn:v.length=n) (hul:u.length=n+1) (h2:2<=n) (hl:n<=1000000) {v1:Nat} (e1:v.getD (n-1) 0=(v1:Int)) (h1:2147483648<=v1)
 (hUV:vl u<vl v*4294967296): ∃w,AS m u v=some (((vl u/vl v:Nat):Int),w,(),())/\Lm w/\w.length=n+1/\vl w=vl u%vl v:=by
 obtain⟨un,f1,hun,g1⟩:=hu.get' n;obtain⟨um,f2,hum,g2⟩:=hu.get' (n-1);obtain⟨u2,f3,hu2,g3⟩:=hu.get' (n-2);obtain⟨v1',e1',hv1,k1⟩:=hv.get' (n-1);obtain⟨v2,e2,hv2,k2⟩:=hv.get' (n-2);have:v1'=v1:=by rw[e1']at e1;omega
 subst this;have q1:=Y6 u (n-2) O;have q2:=Y6 v (n-2) O;have q3:=Y6 u (n-1) O;have q4:=Y6 v (n-1) O;have t1:=Jc hu (k:=n-2) O;have t2:=Jc hv (k:=n-2) O;have t3:=Jc hu (k:=n-1) O;have z1:vl (u.drop (n+1))=0:=qw O;have z2:vl (v.drop n)=0:=qw O;rw[z1]at g1;rw[show n-1+1=n by omega]at g2 k1
 rw[show n-2+1=n-1 by omega]at g3 k2
 rw[g1]at g2;rw[g2]at g3 q3;rw[z2]at k1;rw[k1]at k2 q4;rw[g3]at q1;rw[k2]at q2;obtain⟨top,htop⟩: ∃top,top=un*4294967296+um:=⟨_,rfl⟩
 have hU:vl u=vl (u.take (n-2))+4294967296^(n-2)*(top*4294967296+u2):=by
  rw[q1];congr 2;omega
 have hV:vl v=vl (v.take (n-2))+4294967296^(n-2)*(v1'*4294967296+v2):=by
  rw[q2];congr 2;omega
 have hU1:vl u=vl (u.take (n-1))+4294967296^(n-1)*top:=by
  rw[q3];congr 2;omega
 have hV1:vl v=vl (v.take (n-1))+4294967296^(n-1)*v1':=by
  rw[q4,gd,zU]
 have hP0:0<4294967296^(n-2):=f9 O;have hQF:=QF.mk' hP0 hU t1 hV t2 h1 hv2 hu2 hUV;have hP1:0<4294967296^(n-1):=f9 O
 have hV0:0<vl v:=by
  have:4294967296^(n-1)*1<=4294967296^(n-1)*v1':=zi _ O;omega
 have hge:vl u/vl v<=top/v1':=qr6 hU1 t3 hV1 O (Nr ..)
 have hle:top/v1'<=4294967297:=by
  have a1:4294967296^(n-1)*top<4294967296^(n-1)*((v1'+1)*4294967296):=by
   have t4:=Jc hv (k:=n-1) O;have:vl v*4294967296<=4294967296^(n-1)*(v1'+1)*4294967296:=zO _ (by rw[zL,iw];omega)
   rw[zX]at this;omega
  have a2:=Iz a1;rw[ir]at a2;have h5:top<4294967298*v1':=O;have:top/v1'<4294967298:=(B7 O).2 h5;omega
 have hmod:=l6 top (show 0<v1' by omega)
 have hdm:=xM top v1';have htl:top<18446744073709551616:=O;obtain⟨q,r0,b1,b2,b3⟩:=Wf m hn h2 hul hl e1' e2 f3 h1 hv1 hv2 hu2 hQF m 2 (top/v1') (top%v1') O O (by rw[zh];exact hdm) O hge hle
 obtain⟨u1,car,bor,c1,c2,c3,c4,c5,c6⟩:=qqx (m:=m) hv hn hl (q:=q) (U:=vl u) b3 v (n:Int) m 0 u 0 0 O O hu hul O O (by simp[vl])
 obtain⟨x,ex,hx,_⟩:=c1.get' n;obtain⟨d,e,hd,he,hde,s1,s2⟩:=V5 hx c3 c4;have w1:wI ((n:Int)-1)=((n-1:Nat):Int):=by rw[wQ,wi O O];omega
 have w3:wJ (v1':Int)=(v1':Int):=bA O;have w4:wJ (un:Int)=(un:Int):=bA O;have w5:wJ (um:Int)=(um:Int):=bA O;have wx:wJ (x:Int)=(x:Int):=bA O;have wt:wJ ((top/v1':Nat):Int)=((top/v1':Nat):Int):=bA O;have i1:(0:Int)<=((n:Nat):Int)/\((n:Nat):Int)<(u.length:Int):=O;have i2:(0:Int)<=((n-1:Nat):Int)/\((n-1:Nat):Int)<(u.length:Int):=O;have i3:(0:Int)<=((n-1:Nat):Int)/\((n-1:Nat):Int)<(n:Int):=O;have i4:(0:Int)<=((n:Nat):Int)/\((n:Nat):Int)<(u1.length:Int):=O;have set1:=tD (l:=u1) (p:=n) (y:=(d:Int)) O;rw[ex,tN,tN]at set1;have l1:Lm (u1.set n (d:Int)):=sF c1 hd;have l2:(u1.set n (d:Int)).length=n+1:=by rw[zS];exact c2
 have hsum:vl (u1.set n (d:Int))+q*vl v=vl u+4294967296^n*(4294967296*e):=by
  have k1:4294967296^n*x+4294967296^n*(4294967296*e)=4294967296^n*d+4294967296^n*car+4294967296^n*bor:=by rw[<-Nat.mul_add,hde,zL,zL]
  rw[zL]at c5;omega
 have hdiv:=xM (vl u) (vl v);have hml:=l6 (vl u) hV0;rw[AS];rw[hn,tN,w1,tN,zG,zG];rw[iP i1,iP i2,iP i3,e1',w3,iP O,iP i3,iP O,f1,f2,w4,w5,Cr hun hum,<-htop,td,tm,wt,r0,bS];dsimp only;rw[show iT m m u v (n:Int) (q:Int) 0 0 v (v.length:Int) 0=_ from c6,bS]
 dsimp only;rw[iP i4,iP i4,tN,zG,ex,wx,aF,s1,s2];have hr:q*vl v=vl v*q:=zh ..;by_cases he0:e=0
 . subst he0
   have hq:q=vl u/vl v:=by
    have:q<=vl u/vl v:=(HI hV0).2 (by simp only[gd,zU]at hsum;omega)
    omega
   rw[iP O,fA,j7 b3];refine⟨_,by rw[hq],l1,l2,?_⟩
   simp only[gd,zU]at hsum;rw[hr,hq]at hsum;omega
 . have he1:e=1:=O;subst he1;have hlt1:=cd l1;rw[l2,gV]at hlt1;rw[iw]at hsum
   have hq:q=vl u/vl v+1:=by
    rcases zq (vl u/vl v) q with h|h
    . omega
    . exfalso;have:q*vl v<=vl u/vl v*vl v:=zO _ h;have:=Nr (vl u) (vl v);omega
   have hq1:1<=q:=by rw[hq];exact Nat.le_add_left 1 _
   have hq2:q-1=vl u/vl v:=by rw[hq,HD]
   obtain⟨u3,ca,a1,a2,a3,a4,a5⟩:=qpx (m:=m) hv hn hl (U:=vl (u1.set n (d:Int))) (n:Int) (q:Int) m 0 (u1.set n (d:Int)) 0 O O l1 l2 O (by simp[vl])
   obtain⟨y,ey,hy,_⟩:=a1.get' n;have i5:(0:Int)<=((n:Nat):Int)/\((n:Nat):Int)<(u3.length:Int):=O;have wq:wJ ((q:Int)-1)=((q-1:Nat):Int):=by rw[show(q:Int)-1=((q-1:Nat):Int) by omega];exact bA O
   have wc:wK (ca:Int)=(ca:Int):=by rw[fA,j7 O]
   have wy:wK ((y:Int)+(ca:Int))=(((y+ca)%4294967296:Nat):Int):=by rw[<-Int.natCast_add];exact fA
   rw[ao O,show iS m m (u1.set n (d:Int)) (n:Int) (q:Int) 0 v (v.length:Int) 0=_ from a5,bS]
   dsimp only;rw[iP i5,iP i5,tN,zG,ey,wc,wy,wq,fA,j7 (show q-1<4294967296 by omega)]
   have hml2:(y+ca)%4294967296<4294967296:=l6 _ (by decide)
   refine⟨_,by rw[hq2],sF a1 hml2,by rw[zS];exact a2,?_⟩
   have set2:=tD (l:=u3) (p:=n) (y:=(((y+ca)%4294967296:Nat):Int)) O;rw[ey,tN,tN]at set2;have hlt2:=cd (sF (p:=n) a1 hml2);rw[zS,a2,gV]at hlt2;have hv4:=cd hv;rw[hn]at hv4;have hdm2:=xM (y+ca) 4294967296
   have k1:4294967296^n*(4294967296*((y+ca)/4294967296))+4294967296^n*((y+ca)%4294967296)=4294967296^n*y+4294967296^n*ca:=by
    rw[<-Nat.mul_add,hdm2,zL]
   have k2:q*vl v=vl v*(vl u/vl v)+vl v:=by rw[hq,zh,zL,iw]
   have hf:(y+ca)/4294967296=0\/(y+ca)/4294967296=1:=O;generalize (y+ca)/4294967296=f at*;generalize (y+ca)%4294967296=g at*;generalize 4294967296^n=P at*;rcases hf with rfl|rfl
   . exfalso;simp only[gd]at k1;omega
   . omega
end Go.Vs.F
set_option maxRecDepth 100000
namespace Go.Vs.F
def Q2 {a b:LI} (ha:Lm a) (hb:Lm b):Lm (a++b):=λx hx=>(zQ.1 hx).elim (ha x) (hb x)
def qms {m:Nat} (hm:2000000<m) {v:LI} (hv:Lm v) {n:Nat} (hn:v.length=n) (h2:2<=n) {v1:Nat} (e1:v.getD (n-1) 0=(v1:Int)) (h1:2147483648<=v1) {k U:Nat} (hk:k+n<=1000000) (t8:Int):
 ∀(j N:Nat) (u q:LI),j<N->j<=k->Lm u->Lm q->u.length=k+n->q.length=k->(∀p,p<j->q.getD p 0=0)->vl (u.drop j)<vl v->vl u+vl v*vl q=U->
  ∃u' q',i7 m N q t8 v u (n:Int) ((j:Int)-1)=some (.inl (q',t8,u',(n:Int),()))/\Lm u'/\Lm q'/\u'.length=k+n/\q'.length=k/\vl u'<vl v/\vl u'+vl v*vl q'=U:=by
 intro j;induction j with
 |zero=>
  intro N u q hN hj hu hq hul hql hz hr hs;obtain⟨N,rfl⟩: ∃M,N=M+1:=⟨N-1,O⟩;rw[i7,bQ,ao O];exact⟨u,q,rfl,hu,hq,hul,hql,by rwa [nW]at hr,hs⟩
 |succ p ih=>
  intro N u q hN hj hu hq hul hql hz hr hs;obtain⟨N,rfl⟩: ∃M,N=M+1:=⟨N-1,O⟩;have hvn:=cd hv;rw[hn]at hvn;have hdu:(u.drop (p+1)).drop n=u.drop (p+(n+1)):=by rw[Pr];congr 1;omega
  have hz0:vl (u.drop (p+(n+1)))=0:=by
   rw[<-hdu];exact q5m (by rw[pI];omega) O
  obtain⟨x,ex,hx,dx⟩:=hu.get' p;have hwl:((u.drop p).take (n+1)).length=n+1:=by rw[zk,pI];omega
  have hw:vl (u.drop p)=vl ((u.drop p).take (n+1)):=by
   have:=Y6 (u.drop p) (n+1) (by rw[pI];omega)
   rw[Pr,hz0,gd,zU]at this;exact this
  have hwlt:vl ((u.drop p).take (n+1))<vl v*4294967296:=by rw[<-hw,dx];omega
  obtain⟨w,d1,d2,d3,d4⟩:=xd hm ((hu.drop p).take (n+1)) hv hn hwl h2 O e1 h1 hwlt;have hV0:0<vl v:=O;have hd:vl ((u.drop p).take (n+1))/vl v<4294967296:=Nu hwlt;generalize hd0:vl ((u.drop p).take (n+1))/vl v=d at*;have hdm:vl v*d+vl w=vl ((u.drop p).take (n+1)):=by rw[<-hd0,d4];exact xM ..
  have hwr:vl w<vl v:=by rw[d4];exact l6 _ hV0
  have w0:wI ((p:Int)+(n:Int))=((p+n:Nat):Int):=by rw[wQ,wi O O];omega
  have w1:wI (((p+n:Nat):Int)+1)=((p+n+1:Nat):Int):=aB O;have ei:((p+1:Nat):Int)-1=(p:Int):=O;rw[i7,ei,bQ,iP O,w0,w1,iP O];simp only[tN,zG];rw[show p+n+1-p=n+1 by omega,iP O,d1,bS]
  dsimp only;rw[iP O,wQ,wi O O];have hu':Lm (u.take p++(w++u.drop (p+(n+1)))):=Q2 (hu.take p) (Q2 d2 (hu.drop _));have htl:(u.take p).length=p:=by rw[zk];omega
  have hul':(u.take p++(w++u.drop (p+(n+1)))).length=k+n:=by rw[zJ,zJ,htl,d3,pI];omega
  have s1:=tD (l:=q) (p:=p) (y:=(d:Int)) O;rw[hz p O,Int.toNat_zero,gd,zU,tN]at s1;have s2:=Y6 u p O;rw[hw,<-hdm]at s2
  have s3:vl (u.take p++(w++u.drop (p+(n+1))))=vl (u.take p)+4294967296^p*vl w:=by
   rw[xH,xH,hz0,gd,zU,htl]
  refine ih N _ (q.set p (d:Int)) O O hu' (sF hq hd) hul' (by rw[zS];exact hql) (λp' hp'=>by rw[bP O];exact hz p' O) ?_ ?_
  . have e:(u.take p++(w++u.drop (p+(n+1)))).drop p=w++u.drop (p+(n+1)):=by
     rw[List.drop_append_of_le_length O,List.drop_of_length_le O,n5]
    rw[e,xH,hz0,gd,zU];exact hwr
  . rw[s3,s1,zL];rw[zL]at s2;have:vl v*(4294967296^p*d)=4294967296^p*(vl v*d):=xw ..;omega
end Go.Vs.F
set_option maxRecDepth 100000
namespace Go.Vs.F
def XB {m:Nat} (hm:5000000<=m) {A B:Nat} (hB:B≠0) (hA:(lim A).length<=400000) (hBl:(lim B).length<=1000000):
 pk m (lim A) (lim B)=some ((lim (A/B),lim (A%B),()),(),(),()):=by
 by_cases hsmall:B<4294967296
 . exact qde O O O hsmall
 by_cases cAB:A<B
 . have hc:dm A B= -1:=by unfold dm;rw[iP cAB]
   rw[pk,Jb O O hBl,bS,bQ];dsimp only;rw[hc,iP O,I6 O,bS,B0 cAB,j7 cAB,Qj]
 . have hLn:(lim B).length<=(lim A).length:=Qd O;have hc: ¬dm A B<0:=by unfold dm;rw[ao cAB];split<;>omega
   obtain⟨n,hn⟩: ∃n,n=(lim B).length:=⟨_,rfl⟩;obtain⟨L,hL⟩: ∃L,L=(lim A).length:=⟨_,rfl⟩
   have h2:2<=n:=by
    rcases zq n 2 with h|h
    . exfalso;have:=cd (Q9 B);rw[qx,<-hn]at this;have h3:4294967296^n<=4294967296^1:=zW O O;rw[Nat.pow_one]at h3;omega
    . exact h
   obtain⟨t,et,ht,dt⟩:=(Q9 B).get' (n-1);have w1:wI ((n:Int)-1)=((n-1:Nat):Int):=by rw[wQ,wi O O];omega
   have hbt:au t<=32:=Qr O;have w2:wI (32-((au t:Nat):Int))=((32-au t:Nat):Int):=by rw[wQ,wi O O];omega
   have hsp:=Y6 (lim B) (n-1) O;rw[qx,dt,show n-1+1=n by omega,qw O,gd,zU]at hsp
   have htk:=Jc (Q9 B) (k:=n-1) O;have hlow:=qtw hB;rw[<-hn]at hlow
   have ht0:t≠0:=by
    intro h0;rw[h0,gd,zU]at hsp;omega
   have hb1:1<=au t:=by rw[X8 ht0];omega
   have hlz:AT m (t:Int)=some (((32-au t:Nat):Int),(),()):=by
    rw[AT,Rm ht,bS];dsimp only;rw[w2]
   generalize hs:32-au t=s at*
   have hs32:s<=31:=O;have hpow:0<2^s:=f9 O
   have htlo:2147483648<=t*2^s:=by
    have h3:=JB ht0
    calc 2147483648=2^(au t-1)*2^s:=by rw[<-Nat.pow_add,show au t-1+s=31 by omega]
     _<=t*2^s:=zO _ h3
   have hthi:(t+1)*2^s<=4294967296:=by
    have:=Zc t
    calc (t+1)*2^s<=2^au t*2^s:=zO _ O
     _=2^(au t+s):=(xt ..).symm
     _=4294967296:=by rw[show au t+s=32 by omega]
   have hPn:4294967296^(n-1)*4294967296=4294967296^n:=by rw[<-Nat.pow_succ,show(n-1).succ=n by omega]
   have hsm:B*2^s<4294967296^n:=by
    have h5:B<4294967296^(n-1)*(t+1):=by rw[zL,iw];omega
    calc B*2^s<4294967296^(n-1)*(t+1)*2^s:=Nat.mul_lt_mul_of_pos_right h5 hpow
     _=4294967296^(n-1)*((t+1)*2^s):=zX ..
     _<=4294967296^(n-1)*4294967296:=zi _ hthi
     _=4294967296^n:=hPn
   have hBs:B<=B*2^s:=Nat.le_mul_of_pos_right _ hpow
   have iu:(lim (B*2^s)).length=n:=by
    have a1:=Xl hsm;have a2:=Qd hBs;omega
   obtain⟨v1,ev,hv1,dv⟩:=(Q9 (B*2^s)).get' (n-1);have hvs:=Y6 (lim (B*2^s)) (n-1) O;rw[qx,dv,show n-1+1=n by omega,qw O,gd,zU]at hvs
   have hvt:=Jc (Q9 (B*2^s)) (k:=n-1) O
   have hv1lo:2147483648<=v1:=by
    have a1:4294967296^(n-1)*(t*2^s)<=B*2^s:=by
     rw[<-Nat.mul_assoc];exact zO _ O
    have a2:4294967296^(n-1)*(t*2^s)<4294967296^(n-1)*(v1+1):=by rw[zL _ v1,iw];omega
    have:=Iz a2;omega
   obtain⟨k,hk⟩: ∃k,k=L+1-n:=⟨_,rfl⟩;have hAl:=cd (Q9 A);rw[qx,<-hL]at hAl;have h31:2^s<=2147483648:=zf (zW O hs32) (by decide)
   have hA31:A*2^s<4294967296^L*2147483648:=xP (zi _ h31) (Nat.mul_lt_mul_of_pos_right hAl O)
   have hlenA:(lim (A*2^s)).length<=L+1:=by
    refine Xl (tL hA31 ?_);rw[gV];exact zi _ O
   have hA0:0<(lim (A*2^s)).length:=by
    refine List.length_pos_iff.2 λh=> ?_
    have h3:=Jt.1 h;rcases Nat.mul_eq_zero.1 h3 with h|h<;>omega
   obtain⟨R,hR⟩: ∃R,R=(lim (A*2^s)).take (List.replicate (L+1) (0:Int)).length++(List.replicate (L+1) (0:Int)).drop (lim (A*2^s)).length:=⟨_,rfl⟩
   have hR1:R=lim (A*2^s)++List.replicate (L+1-(lim (A*2^s)).length) (0:Int):=by
    rw[hR,nX,sj hlenA,List.drop_replicate]
   have hRl:R.length=k+n:=by rw[hR1,zJ,nX];omega
   have hRL:Lm R:=by rw[hR1];exact Q2 (Q9 _) Xe
   have hRv:vl R=A*2^s:=by rw[hR1,xH,Xq,gd,zU,qx]
   have hdrop:vl (R.drop k)<vl (lim (B*2^s)):=by
    rw[qx];have h3:=Y6 R k O;rw[hRv]at h3
    have h4:4294967296^k*(B*2^s)>=4294967296^L*2147483648:=by
     have h5:4294967296^(n-1)*2147483648<=B*2^s:=by
      have:=zi (4294967296^(n-1)) hv1lo;omega
     have h6:=zi (4294967296^k) h5;rw[<-Nat.mul_assoc,<-Nat.pow_add,show k+(n-1)=L by omega]at h6
     exact h6
    refine Iz (a:=4294967296^k) ?_;omega
   obtain⟨u',q',r1,r2,r3,r4,r5,r6,r7⟩:=qms (m:=m) O (Q9 (B*2^s)) iu h2 ev hv1lo (k:=k) (U:=A*2^s) O (s:Int) k m R (List.replicate k 0) O (zF _) hRL Xe hRl (by simp) (λp hp=>by simp[List.getD,hp]) hdrop (by rw[Xq,gd,zU];exact hRv)
   rw[qx]at r6 r7;have hV0:0<B*2^s:=O
   have hq:vl q'=A/B:=by
    have:vl q'=A*2^s/(B*2^s):=by
     rw[<-r7,xr,Nat.mul_add_div hV0,B0 r6,zU]
    rw[this,Nat.mul_div_mul_right _ _ hpow]
   have hr:vl u'=(A%B)*2^s:=by
    have:vl u'=A*2^s%(B*2^s):=by
     rw[<-r7,xr,Nb,j7 r6]
    rw[this,Nat.mul_mod_mul_right]
   have wL:wI ((L:Int)+1)=((L+1:Nat):Int):=aB O;have wk:wI (((k+n:Nat):Int)-(n:Int))=(k:Int):=by rw[wQ,wi O O];omega
   have wk1:wI ((k:Int)-1)=(k:Int)-1:=by rw[wQ,wi O O]
   have hup1:=ra (m:=m) O (Q9 B) O (n:=s) O;have hup2:=ra (m:=m) O (Q9 A) O (n:=s) O;rw[qx]at hup1 hup2;rw[pk,Jb O O hBl,bS,bQ];dsimp only;rw[ao hc,<-hn,<-hL,aF,ao O,w1,iP O,tN,et,hlz,bS];dsimp only;rw[hup1,bS,wL,iP O,hup2,bS,tN];dsimp only;rw[iP ⟨hA0,by rw[nX];omega⟩,<-hR,hRl,iu,wk,iP O,tN,nX,wk1,r1,bS]
   dsimp only
   have htn:vl (u'.take n)=vl u':=by
    have h3:=Y6 u' n O;rw[q5m (l:=u') (k:=n) O O,gd,zU]at h3;exact h3.symm
   have hlu:(u'.take n).length=n:=by rw[zk];omega
   rw[iP O,tN,Qz (r2.take n) O O,bS,htn,hr];dsimp only
   rw[QO O (by
    have:=Y7 (r2.take n);rw[htn,hr]at this;omega) O,bS,Qz r3 O O,bS,hq,Nat.mul_div_cancel _ hpow]
end Go.Vs.F
set_option maxRecDepth 100000
namespace Go.Vs.F
def qli {m:Nat} (hm:5000000<=m) {A B:Nat} (hB:B≠0) (hA:(lim A).length<=400000) (hBl:(lim B).length<=400000):
 wR m false (lim A) false (lim B)=some (((false,lim (A/B),()),(false,lim (A%B),()),0,()),(),(),()):=by
 have h1:(lim B).length≠0:=λh=>hB (Jt.1 (HM h))
 have l1:(lim (A/B)).length<=1000001:=zf (Qd (tQ ..)) O;have l2:(lim (A%B)).length<=1000001:=zf (Qd (tp (l6 _ O))) (by omega:(lim B).length<=1000001)
 have b1:=lY (m:=m) O l1 false;have b2:=lY (m:=m) O l2 false;rw[wR,Qz (Q9 B) O O,qx,bS,aF,ao (show¬(((lim B).length:Int)=0) by omega),Qz (Q9 A) O O,qx,bS]
 dsimp only;rw[XB hm hB hA O,bS];dsimp only;rw[cond_false,show(!(false==false))=false from rfl,b1,bS,b2,bS]
 rw[show(if(false=true)then-((A/B:Nat):Int)else((A/B:Nat):Int))=((A/B:Nat):Int)from ao (by simp),show(if(false=true)then-((A%B:Nat):Int)else((A%B:Nat):Int))=((A%B:Nat):Int)from ao (by simp),Z9,Z9]
end Go.Vs.F
