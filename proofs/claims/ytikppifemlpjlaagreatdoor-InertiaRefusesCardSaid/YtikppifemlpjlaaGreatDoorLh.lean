import Derived.Test.YtikppifemlpjlaaGreatDoorLg
import Derived.Test.YtikppifemlpjlaaGreatDoorLa
import Derived.Test.YtikppifemlpjlaaGreatDoorFn
import Derived.KernelRfl
set_option linter.unusedVariables false
set_option linter.unusedSimpArgs false
set_option maxRecDepth 100000
set_option linter.defProp false
namespace Go.Vs.F
def gapL {l x:LI} {k:Nat} (h:k<l.length):(l++x).getD k 0=l.getD k 0:=by simp[List.getD,List.getElem?_append_left h]
def gapR {l x:LI} {k:Nat} (h:l.length<=k):(l++x).getD k 0=x.getD (k-l.length) 0:=by simp[List.getD,List.getElem?_append_right h]
def qp9 {l x:LI} (h:FnL l) (h':FnL x):FnL (l++x):=by
 intro i hi;rw[zi]at hi;by_cases c:i<l.length
 . rw[gapL c];exact h i c
 . rw[gapR O];exact h' _ O
structure CX (i:Nat) (X Y:LI):Prop where
 yl:Y.length=X.length
 fn:FnL Y
 sz:X.length<=i
 row: ∀k,k<X.length->0<=X.getD k 0/\X.getD k 0<(i:Int)/\(0<k->X.getD (k-1) 0<X.getD k 0)
def CX.nil:CX 0 [] []:=⟨rfl,qit,zH _,λk h=>absurd h (zS1 _)⟩
def CX.skip {i:Nat} {X Y:LI} (h:CX i X Y):CX (i+1) X Y:=⟨h.yl,h.fn,by have:=h.sz;omega,λk hk=>by have:=h.row k hk;exact⟨this.1,O,this.2.2⟩⟩
def CX.snoc {i:Nat} {X Y:LI} (h:CX i X Y) {f:Int} (h1:U64 f) (h2:FinF f):CX (i+1) (X++[(i:Int)]) (Y++[f]):=by
 refine⟨by simp[h.yl],qmu h.fn h1 h2,by have:=h.sz;simp;omega,λk hk=> ?_⟩
 rw[zi]at hk;have e1:([(i:Int)]:LI).length=1:=rfl;by_cases c:k<X.length
 . have:=h.row k c;rw[gapL c];exact⟨this.1,O,λh0=>by rw[gapL O];exact this.2.2 h0⟩
 . have hk':k=X.length:=O;subst hk';rw[gapR (zH _),zD3];refine⟨by show(0:Int)<=i;omega,by show(i:Int)<((i+1:Nat):Int);omega,λh0=> ?_⟩
   rw[gapL O];exact(h.row _ O).2.1
structure GI (R j:Nat) (S I V:LI):Prop where
 st:StartOK j S I
 col: ∀t,t<j-> ∀k,(S.getD t 0).toNat<=k->k<(S.getD (t+1) 0).toNat->0<=I.getD k 0/\I.getD k 0<(R:Int)/\((S.getD t 0).toNat<k->I.getD (k-1) 0<I.getD k 0)
 vl:V.length=I.length
 fn:FnL V
 sz:I.length<=j*R
def GI.nil {R:Nat}:GI R 0 [0] [] []:=⟨⟨rfl,rfl,λj h=>absurd h (zS1 _),rfl⟩,λt h=>absurd h (zS1 _),rfl,qit,zS2 _⟩
def GI.snoc {R j:Nat} {S I V X Y:LI} (h:GI R j S I V) (hX:CX R X Y):GI R (j+1) (S++[((I++X).length:Int)]) (I++X) (V++Y):=by
 have hl:=h.st.len;have hlast:=h.st.last;have h0:=h.st.s0;have s1:=hX.sz;have ea:(I++X).length=I.length+X.length:=zi;have eL: ∀t,t<=j->(S++[((I++X).length:Int)]).getD t 0=S.getD t 0:=λt ht=>gapL O
 have eR:(S++[((I++X).length:Int)]).getD (j+1) 0=((I++X).length:Int):=by rw[gapR O,show j+1-S.length=0 by omega];rfl
 refine⟨⟨by simp[hl],by rw[eL 0 O];exact h0,λt ht=> ?_,eR⟩,λt ht k hk1 hk2=> ?_,by simp[h.vl,hX.yl],qp9 h.fn hX.fn,?_⟩
 . by_cases c:t<j
   . rw[eL t O,eL (t+1) O];exact h.st.mono t c
   . have:t=j:=O;subst this;rw[eL t (zH _),eR,hlast,ea];omega
 . by_cases c:t<j
   . rw[eL t O]at hk1⊢;rw[eL (t+1) O]at hk2;have:=h.st.le (i:=t+1) (j:=j) O (zH _);rw[gapL O];have q:=h.col t c k hk1 hk2;exact⟨q.1,q.2.1,λhs=>by rw[gapL O];exact q.2.2 hs⟩
   . have:t=j:=O;subst this;rw[eL t (zH _)]at hk1⊢;rw[eR]at hk2;rw[hlast]at hk1⊢;rw[gapR O];have q:=hX.row (k-I.length) O;refine⟨q.1,q.2.1,λhs=> ?_⟩
     rw[gapR O,show k-1-I.length=k-I.length-1 by omega]
     exact q.2.2 O
 . have:=h.sz;rw[ea,z03];omega
def GI.mat {R C:Nat} {S I V:LI} (h:GI R C S I V) (hR:R<=100) (hC:C<=100):MatOK R C S I:=by
 have:C*R<=100*100:=zt1 hC hR;have:=h.sz;refine⟨h.st,λj hj=> ?_,O,O,O⟩
 unfold q0y;rw[Qo];intro k h1 h2;obtain⟨q1,q2,q3⟩:=h.col j hj k h1 h2;unfold entOK;by_cases c:(S.getD j 0).toNat<k
 . simp only[q1,q2,c,q3 c,decide_true,zH4,zG1,zU3]
 . simp only[q1,q2,c,decide_true,decide_false,zH4,zf1,zz3]
section
variable {m:Nat} (hm:5000000000<=m) {raw:LI} (hl:raw.length<=9223372036854775807) {R C:Nat} (hR:R<=100) (style:Int)
include hm hl hR
theorem qhs (a0 a1 m0 m1:Int) (a2 a3 a4 S I V:LI) (j:Int) (hI:I.length<=100000) (hV:V.length=I.length): ∀(N i:Nat) (X Y:LI),R-i<N->i<=R->CX i X Y->
 ∃X' Y',CX R X' Y'/\g25L1 m N raw (R:Int) (C:Int) style a0 a1 a2 a3 a4 m0 m1 S (I++X) (V++Y) j (i:Int)=some (.inl (raw,(R:Int),(C:Int),style,(a0,a1,a2,a3,a4,()),(m0,m1,S,I++X',V++Y',()),j,())):=by
 intro N;induction N with
 |zero=>intro i X Y h;omega
 |succ N ih=>
  intro i X Y h hi hX;rw[g25L1,bQ];by_cases c:i<R
  . obtain⟨w,ew,hw⟩:=qih m hl (wI ((wI (100+(wI (j*(R:Int)))))+(i:Int)));rw[iP O,ew,bS,bQ,wQ (n:=(i:Int)+1),wsucc O];have s1:=hX.sz;have s2:=hX.yl;split
    . obtain⟨f,ef,h1,h2⟩:=qnu hm hw style;rw[iP (by rw[zi];show _+1<=_;omega)]
      dsimp only;rw[ef,bS,iP (by rw[zi];show _+1<=_;omega),zo1,zo1]
      exact ih (i+1) _ _ O O (hX.snoc h1 h2)
    . exact ih (i+1) _ _ O O hX.skip
  . have:i=R:=O;subst this;rw[iN' O];exact⟨X,Y,hX,rfl⟩
theorem qhe (hC:C<=100) (a0 a1 m0 m1:Int) (a2 a3 a4:LI): ∀(N j:Nat) (S I V:LI),C-j<N->j<=C->GI R j S I V->
 ∃S' I' V',GI R C S' I' V'/\g25L0 m N raw (R:Int) (C:Int) style a0 a1 a2 a3 a4 m0 m1 S I V (j:Int)=some (.inl ((a0,a1,a2,a3,a4,()),(m0,m1,S',I',V',()),())):=by
 intro N;induction N with
 |zero=>intro j S I V h;omega
 |succ N ih=>
  intro j S I V h hj hG;rw[g25L0,bQ];by_cases c:j<C
  . have s1:=hG.sz;have:j*R<=100*100:=zt1 O hR;obtain⟨X,Y,hX,e⟩:=qhs hm hl hR (C:=C) style a0 a1 m0 m1 a2 a3 a4 S I V (j:Int) O hG.vl m 0 [] [] O O CX.nil;rw[zb1,zb1,nZ]at e;rw[iP O,e,bS];dsimp only;have hS:=hG.st.len;rw[iP (by show _+1<=_;omega),wQ,wsucc O]
    exact ih (j+1) _ _ _ O O (hG.snoc hX)
  . have:j=C:=O;subst this;rw[iN' O];exact⟨S,I,V,hG,rfl⟩
theorem q8v (hC:C<=100): ∃S I V,GI R C S I V/\g25 m raw (R:Int) (C:Int) style=some (((R:Int),(C:Int),S,I,V,()),(),(),(),(),()):=by
 obtain⟨S,I,V,hG,e⟩:=qhe hm hl hR (C:=C) style hC 0 0 (R:Int) (C:Int) [] [] [] m 0 [0] [] [] O O GI.nil;rw[nZ]at e;exact⟨S,I,V,hG,by rw[g25,e,bS]⟩
end
end Go.Vs.F
set_option maxRecDepth 100000
namespace Go.Vs.F
def GI.MV {R C:Nat} {S I V:LI} (h:GI R C S I V) (hR:R<=100) (hC:C<=100):MV R C S I V:=by
 have hM:=h.mat hR hC;refine⟨hM,h.vl,?_⟩;have hz:=hM.sz
 have h1:(decide (0<=(R:Int))&&decide ((R:Int)<=200)&&decide (0<=(C:Int))&&decide ((C:Int)<=200)&&decide (I.length<=10000))=true:=by
  simp only[zM,decide_eq_true_eq];omega
 have h2:strB (R:Int) (C:Int) S I V=true:=by
  unfold strB;have a1:((S.length:Int)=(C:Int)+1):=by have:=hM.st.len;omega
  have a2:=hM.st.s0;have a3:Qe (le2 S) 0 (C:Int).toNat=true:=Qo.2 λk _ hk=>decide_eq_true (hM.st.mono k O)
  have a4:S.getD (C:Int).toNat 0=(I.length:Int):=hM.st.last;have a6:Qe (λj=>q0y (R:Int) S I j) 0 (C:Int).toNat=true:=Qo.2 λk _ hk=>hM.ent k O
  simp only[a1,a2,a3,a4,a6,h.vl,decide_true,zH4]
 have h3:finL V=true:=by
  unfold finL
  exact Qo.2 λk _ hk=>by
   obtain⟨u,f⟩:=h.fn k hk;rw[qlj u];exact decide_eq_true f
 unfold chk;rw[h1,h2,h3];rfl
def findA (I V:LI) (i:Int):Nat->Nat->Option Int
 |0,_=>none
 |d+1,k=>if I.getD k 0=i then some (V.getD k 0)else findA I V i d (k+1)
def elA (S I V:LI) (i j:Nat):Int:=(findA I V (i:Int) ((S.getD (j+1) 0).toNat-(S.getD j 0).toNat) (S.getD j 0).toNat).getD 0
section
variable {R C:Nat} {S I V:LI}
def At_L0 (m:Nat) {i:Int} {j:Nat} (hj:j+1<S.length) (hj2:j<4611686018427387903) {e:Nat} (he:S.getD (j+1) 0=(e:Int)) (hI:e<=I.length) (hv:V.length=I.length) (hb:I.length<=100000) (a0 a1:Int): ∀(n k:Nat),e-k<n->k<=e->
 g19L0 m n i (j:Int) a0 a1 S I V (k:Int)=some (match findA I V i (e-k) k with|some v=> .inl (v,())|none=> .inr (.inl ()))
 |0,k,h,_=>O
 |n+1,k,h,hk0=>by
  have w:wI ((j:Int)+1)=((j+1:Nat):Int):=wsucc O;rw[g19L0,w,iP O,tN,he,bQ];by_cases hk:k<e
  . rw[iP O,iP O,tN,bif_eq,show e-k=e-(k+1)+1 by omega,findA]
    by_cases c:I.getD k 0=i
    . rw[iP c,iP O,iP c]
    . rw[iN' c,show wI ((k:Int)+1)=((k+1:Nat):Int)from wsucc O,iN' c]
      exact At_L0 m hj hj2 he hI hv hb a0 a1 n (k+1) O O
  . rw[iN' O,show e-k=0 by omega,findA]
def At_eq {m:Nat} (hm:3000000<m) (h:MV R C S I V) {i j:Nat} (hj:j<C):g19 m (R:Int) (C:Int) S I V (i:Int) (j:Int)=some (elA S I V i j,(),(),(),()):=by
 have hl:=h.ok.st.len;have hsz:=h.ok.sz;have hcz:=h.ok.cz;have hvl:=h.vl;have a:=h.ok.st.rng (j:=j) O;have b:=h.ok.st.rng (j:=j+1) O;have mo:=h.ok.st.mono j hj;have c1:(0:Int)<=(j:Int)/\(j:Int)<(S.length:Int):=O;have e1:S.getD j 0=(((S.getD j 0).toNat:Nat):Int):=O;have hr:=At_L0 (S:=S) (I:=I) (V:=V) m (i:=(i:Int)) (j:=j) O O (e:=(S.getD (j+1) 0).toNat) O O hvl O (R:Int) (C:Int) m (S.getD j 0).toNat O O
 have hpre:g19 m (R:Int) (C:Int) S I V (i:Int) (j:Int)=(g19L0 m m (i:Int) (j:Int) (R:Int) (C:Int) S I V (((S.getD j 0).toNat:Nat):Int)).bind λy2=>match y2 with
  | .inl z3=>some (z3.1,((),(),(),()))
  | .inr (.inl z4)=>some (0,((),(),(),()))
  | .inr (.inr e)=>e.elim:=by
  rw[g19,q4o O O O,h.chk];simp only[bS,bif_ne,if_true,bQ];rw[iN' O,iN' O,iP c1,tN,<-e1];rfl
 rw[hpre,hr,elA];cases findA I V (i:Int) ((S.getD (j+1) 0).toNat-(S.getD j 0).toNat) (S.getD j 0).toNat<;>rfl
end
end Go.Vs.F
set_option linter.unusedSectionVars false
set_option maxRecDepth 100000
namespace Go.Vs.F
def q4g {I V:LI} {i v:Int}: ∀{d k:Nat},findA I V i d k=some v-> ∃t,k<=t/\t<k+d/\I.getD t 0=i/\v=V.getD t 0
 |0,k,h=>by rw[findA]at h;cases h
 |d+1,k,h=>by
  rw[findA]at h;by_cases c:I.getD k 0=i
  . rw[iP c]at h;injection h with h
    exact⟨k,zH _,O,c,h.symm⟩
  . rw[iN' c]at h;obtain⟨t,h1,h2,h3⟩:=q4g h;exact⟨t,O,O,h3⟩
def qqc:U64 0/\FinF 0:=⟨⟨O,O⟩,by decide⟩
def qfo {R C:Nat} {S I V:LI} (h:GI R C S I V) (i:Nat) {j:Nat} (hj:j<C):U64 (elA S I V i j)/\FinF (elA S I V i j):=by
 unfold elA;have a:=h.st.rng (j:=j) O;have b:=h.st.rng (j:=j+1) O;have mo:=h.st.mono j hj;cases e:findA I V (i:Int) ((S.getD (j+1) 0).toNat-(S.getD j 0).toNat) (S.getD j 0).toNat with
 |none=>exact qqc
 |some v=>
  obtain⟨t,h1,h2,_,h3⟩:=q4g e;subst h3;exact h.fn t (by have:=h.vl;omega)
def syD (S I V:LI) (x:Int) (i j:Nat):Int:=if i=j then valF (elA S I V i i)-valF x else valF (elA S I V (max i j) (min i j))
def qas (S I V:LI) (x:Int) (i j:Nat):syD S I V x i j=syD S I V x j i:=by
 unfold syD;by_cases c:i=j
 . subst c;rfl
 . rw[iN' c,iN' (λh=>c h.symm),Nat.max_comm,Nat.min_comm]
def q9b {n:Nat} {S I V:LI} {x:Int} (h:GI n n S I V) (hx:FinF x) {i j:Nat} (hi:i<n) (hj:j<n):blen (syD S I V x i j).natAbs<=2099:=by
 unfold syD;by_cases c:i=j
 . rw[iP c];exact qmy (qdg (qfo h i hi).2) (qdg hx)
 . rw[iN' c];exact zK (qdg (qfo h _ O).2) (by decide)
section
variable {m:Nat} (hm:5000000000<=m) {n:Nat} {S I V:LI} {x:Int} (hG:GI n n S I V) (hn:n<=100) (hxU:U64 x) (hx:FinF x)
include hm hG hn hxU hx
theorem qnd (M:List (List DyL)) {i:Nat} (hi:i<n): ∀(N j:Nat),n-j<N->j<=n->
 g37L1 m N x (n:Int) (n:Int) S I V M (i:Int) (mr j λj=>dE (syD S I V x i j)) (j:Int)=some (.inl (x,((n:Int),(n:Int),S,I,V,()),M,(i:Int),rowD n (syD S I V x i),())):=by
 intro N;induction N with
 |zero=>intro j h;omega
 |succ N ih=>
  intro j h hj;rw[g37L1,bQ];by_cases c:j<n
  . have put: ∀v,v=syD S I V x i j->(if(mr j λj=>dE (syD S I V x i j)).length+([dE v]:List DyL).length<=1073741824 then
     g37L1 m N x (n:Int) (n:Int) S I V M (i:Int) ((mr j λj=>dE (syD S I V x i j))++[dE v]) (wI ((j:Int)+1))else none)=some (.inl (x,((n:Int),(n:Int),S,I,V,()),M,(i:Int),rowD n (syD S I V x i),())):=by
     intro v hv;subst hv;rw[Q9,iP (by show j+1<=_;omega),Y8 (f:=λj=>dE (syD S I V x i j)),wQ,wsucc O]
     exact ih (j+1) O O
    have e1:(if(j:Int)>(i:Int)then(j:Int)else(i:Int))=((max i j:Nat):Int):=by split<;>omega
    have e2:(if(j:Int)<(i:Int)then(j:Int)else(i:Int))=((min i j:Nat):Int):=by split<;>omega
    obtain⟨u,f⟩:=qfo hG (max i j) (j:=min i j) O;rw[iP O,e1,e2,At_eq O (hG.MV hn hn) O,bS];dsimp only;rw[qo9 O u,bS,bif_eq];by_cases d:i=j
    . subst d;rw[iP rfl,qo9 O hxU,bS,(qf5 O f hx).2,bS];refine put _ ?_;unfold syD;rw[iP rfl,Nat.max_self,Nat.min_self]
    . rw[iN' O,q6v f];refine put _ ?_;unfold syD;rw[iN' d]
  . have:j=n:=O;subst this;rw[iN' O];rfl
theorem qmd: ∀(N i:Nat),n-i<N->i<=n->
 g37L0 m N x (n:Int) (n:Int) S I V (mr i λi=>rowD n (syD S I V x i)) (i:Int)=some (.inl (matD n (syD S I V x),())):=by
 intro N;induction N with
 |zero=>intro j h;omega
 |succ N ih=>
  intro i h hi;rw[g37L0,bQ];by_cases c:i<n
  . have e:=qnd hm hG hn hxU hx (mr i λi=>rowD n (syD S I V x i)) c m 0 O O
    rw[Zf,nZ]at e;rw[iP O,e,bS];dsimp only;rw[Q9,iP (by show 0<1/\i+1<=_;omega),Y8 (f:=λi=>rowD n (syD S I V x i)),wQ,wsucc O]
    exact ih (i+1) O O
  . have:i=n:=O;subst this;rw[iN' O];rfl
theorem q5h:g37 m (n:Int) (n:Int) S I V x=some (matD n (syD S I V x),(),(),()):=by
 have e:=qmd hm hG hn hxU hx m 0 O O;rw[Zf,nZ]at e;rw[g37,e,bS]
end
end Go.Vs.F
set_option maxRecDepth 100000
namespace Go.Vs.F
def q8p {I V:LI} {i:Int}: ∀{d k:Nat},findA I V i (d+1) k=match findA I V i d k with|some v=>some v|none=>if I.getD (k+d) 0=i then some (V.getD (k+d) 0)else none
 |0,k=>rfl
 |d+1,k=>by
  rw[show findA I V i (d+1+1) k=if I.getD k 0=i then some (V.getD k 0)else findA I V i (d+1) (k+1)from rfl,show findA I V i (d+1) k=if I.getD k 0=i then some (V.getD k 0)else findA I V i d (k+1)from rfl]
  by_cases c:I.getD k 0=i
  . rw[iP c,iP c]
  . rw[iN' c,iN' c,q8p (d:=d) (k:=k+1),show k+1+d=k+(d+1) by omega]
def colP (I V:LI) (s:Nat):Nat->Int->Int
 |0,_=>0
 |d+1,a=>if I.getD (s+d) 0=a then valF (V.getD (s+d) 0)else colP I V s d a
def qjd:valF 0=0:=by decide
def qk1 {I V:LI} {a:Int} {s:Nat}: ∀{d:Nat},(∀t t',s<=t->t<t'->t'<s+d->I.getD t 0≠I.getD t' 0)->colP I V s d a=valF ((findA I V a d s).getD 0)
 |0,_=>qjd.symm
 |d+1,h=>by
  rw[colP,q8p];by_cases c:I.getD (s+d) 0=a
  . rw[iP c]
    have:findA I V a d s=none:=by
     cases e:findA I V a d s with
     |none=>rfl
     |some v=>
      obtain⟨t,h1,h2,h3,_⟩:=q4g e;exact absurd (h3.trans c.symm) (h t (s+d) h1 h2 O)
    rw[this];dsimp only;rw[iP c];rfl
  . rw[iN' c,qk1 (d:=d) (λt t' h1 h2 h3=>h t t' h1 h2 O)]
    cases findA I V a d s with
    |some v=>rfl
    |none=>dsimp only;rw[iN' c]
def cM (S I V:LI) (j d a b:Nat):Int:=if min a b<j then valF (elA S I V (max a b) (min a b))else if min a b=j then colP I V (S.getD j 0).toNat d ((max a b:Nat):Int)else 0
def qka {S I V:LI} {j d a b:Nat} (h: ¬(min a b=j/\I.getD ((S.getD j 0).toNat+d) 0=((max a b:Nat):Int))):cM S I V j (d+1) a b=cM S I V j d a b:=by
 unfold cM;by_cases c1:min a b<j
 . rw[iP c1,iP c1]
 . rw[iN' c1,iN' c1];by_cases c2:min a b=j
   . rw[iP c2,iP c2,colP,iN' λe=>h ⟨c2,e⟩]
   . rw[iN' c2,iN' c2]
def qr6 {S I V:LI} {j d a b:Nat} (h1:min a b=j) (h2:I.getD ((S.getD j 0).toNat+d) 0=((max a b:Nat):Int)):cM S I V j (d+1) a b=valF (V.getD ((S.getD j 0).toNat+d) 0):=by
 unfold cM;rw[iN' O,iP h1,colP,iP h2]
def qpi {S I V:LI} {j d r:Nat} (hr:I.getD ((S.getD j 0).toNat+d) 0=(r:Int)) (hj:j<=r) (a b:Nat):
 (if a=j then(λb=>if b=r then valF (V.getD ((S.getD j 0).toNat+d) 0)else(if j=r then(λb=>if b=j then valF (V.getD ((S.getD j 0).toNat+d) 0)else cM S I V j d r b)else cM S I V j d j) b)else(if a=r then(λb=>if b=j then valF (V.getD ((S.getD j 0).toNat+d) 0)else cM S I V j d r b)else cM S I V j d a)) b=cM S I V j (d+1) a b:=by
 by_cases c:min a b=j/\max a b=r
 . rw[qr6 c.1 (by rw[hr,c.2])]
   by_cases c1:a=j
   . rw[iP c1];rw[iP O]
   . rw[iN' c1,iP O];rw[iP O]
 . rw[qka (λh=>c ⟨h.1,by have:=h.2;rw[hr]at this;omega⟩)]
   by_cases c1:a=j
   . rw[iP c1];subst c1;rw[iN' O];by_cases c2:a=r
     . rw[iP c2];rw[iN' O,c2]
     . rw[iN' c2]
   . rw[iN' c1];by_cases c2:a=r
     . rw[iP c2];rw[iN' O,c2]
     . rw[iN' c2]
section
variable {m:Nat} (hm:5000000000<=m) {n:Nat} {S I V:LI} {x:Int} (hG:GI n n S I V) (hn:n<=100) (hxU:U64 x) (hx:FinF x)
include hm hG hn hxU hx
theorem Sh_L2 {j:Nat} (hj:j<n) (t27 t28:Int): ∀(N d:Nat),(S.getD (j+1) 0).toNat-(S.getD j 0).toNat-d<N->(S.getD j 0).toNat+d<=(S.getD (j+1) 0).toNat->
 g35L2 m N x (n:Int) (n:Int) S I V (matD n (cM S I V j d)) (j:Int) (((S.getD j 0).toNat+d:Nat):Int) t27 t28=some (.inl (x,((n:Int),(n:Int),S,I,V,()),matD n (cM S I V j ((S.getD (j+1) 0).toNat-(S.getD j 0).toNat)),t27,t28,())):=by
 have hM:=hG.mat hn hn;have hz:=hM.sz;have hl:=hG.st.len;have hvl:=hG.vl;have a:=hG.st.rng (j:=j) O;have b:=hG.st.rng (j:=j+1) O;have mo:=hG.st.mono j hj;have w:wI ((j:Int)+1)=((j+1:Nat):Int):=wsucc O;have he:S.getD (j+1) 0=(((S.getD (j+1) 0).toNat:Nat):Int):=O;intro N;induction N with
 |zero=>intro d h;omega
 |succ N ih=>
  intro d h hd;rw[g35L2,w,iP O,tN,bQ];by_cases c:(S.getD j 0).toNat+d<(S.getD (j+1) 0).toNat
  . obtain⟨q1,q2⟩:=hM.row hj (k:=(S.getD j 0).toNat+d) O c;obtain⟨u,f⟩:=hG.fn ((S.getD j 0).toNat+d) O;have w2:wI ((((S.getD j 0).toNat+d:Nat):Int)+1)=(((S.getD j 0).toNat+(d+1):Nat):Int):=wsucc O;obtain⟨r,hr⟩: ∃r:Nat,I.getD ((S.getD j 0).toNat+d) 0=(r:Int):=⟨(I.getD ((S.getD j 0).toNat+d) 0).toNat,O⟩;rw[iP O,iP O];simp only[tN,hr,bQ,w2];by_cases c2:j<=r
    . rw[iP O,X8,iP O,iP O,iP O,Of_eq O u,q6v f,bS,iP O,bS];dsimp only;rw[Yk (show r<n by omega),Xl,iP O,q6f,q2n,Yk hj,Xl,iP O,q6f,q2n]
      refine Eq.trans ?_ (ih (d+1) O O);congr 1;unfold matD;refine qy λa ha=> ?_
      unfold rowD;refine qy λb hb=> ?_
      congr 1;exact qpi hr c2 a b
    . rw[iN' O];refine Eq.trans ?_ (ih (d+1) O O);congr 1;unfold matD;refine qy λa ha=> ?_
      unfold rowD;refine qy λb hb=> ?_
      rw[qka (λh=>by have:=h.2;rw[hr]at this;omega)]
  . rw[iN' O,show(S.getD (j+1) 0).toNat-(S.getD j 0).toNat=d by omega]
end
end Go.Vs.F
set_option maxRecDepth 100000
namespace Go.Vs.F
def Jt {n:Nat} {D D':Nat->Nat->Int} (h: ∀a b,a<n->b<n->D a b=D' a b):matD n D=matD n D':=by
 unfold matD;refine qy λa ha=> ?_
 unfold rowD;exact qy λb hb=>by rw[h a b ha hb]
def qoe {n:Nat} {S I V:LI} (hM:MatOK n n S I) {j:Nat} (hj:j<n) (a b:Nat):cM S I V j ((S.getD (j+1) 0).toNat-(S.getD j 0).toNat) a b=cM S I V (j+1) 0 a b:=by
 unfold cM;by_cases c1:min a b<j
 . rw[iP c1,iP O]
 . rw[iN' c1];by_cases c2:min a b=j
   . rw[iP c2,iP O,c2,elA];refine qk1 λt t' h1 h2 h3=> ?_
     have:=hM.asc hj (t'-t-1) t h1 O;rw[show t+(t'-t-1+1)=t' by omega]at this
     omega
   . rw[iN' c2,iN' O];split
     . rfl
     . rfl
def dM (S I V:LI) (x:Int) (i a b:Nat):Int:=if a=b/\a<i then valF (elA S I V a a)-valF x else valF (elA S I V (max a b) (min a b))
section
variable {m:Nat} (hm:5000000000<=m) {n:Nat} {S I V:LI} {x:Int} (hG:GI n n S I V) (hn:n<=100) (hxU:U64 x) (hx:FinF x)
include hm hG hn hxU hx
theorem Sh_L1: ∀(N j:Nat),n-j<N->j<=n->
 g35L1 m N x (n:Int) (n:Int) S I V (matD n (cM S I V j 0)) (n:Int) (j:Int)=some (.inl (x,matD n (cM S I V n 0),())):=by
 have hM:=hG.mat hn hn;have hz:=hM.sz;have hl:=hG.st.len;intro N;induction N with
 |zero=>intro d h;omega
 |succ N ih=>
  intro j h hj;rw[g35L1,bQ];by_cases c:j<n
  . have a:=hG.st.rng (j:=j) O;have b:=hG.st.rng (j:=j+1) O;have mo:=hG.st.mono j c;have e:=Sh_L2 hm hG hn hxU hx c (n:Int) (j:Int) m 0 O O;rw[zL,show(((S.getD j 0).toNat:Nat):Int)=S.getD j 0 by omega,Jt (λa b _ _=>qoe (V:=V) hM c a b)]at e
    rw[iP O,iP O,tN,e,bS];dsimp only;rw[wQ,wsucc O];exact ih (j+1) O O
  . have:j=n:=O;subst this;rw[iN' O]
theorem Sh_L0: ∀(N i:Nat),n-i<N->i<=n->
 g35L0 m N x (n:Int) (n:Int) S I V (mr n λk=>if k<i then rowD n (λ_=>0)else []) (n:Int) (i:Int)=some (.inl (x,((n:Int),(n:Int),S,I,V,()),matD n (λ_ _=>0),())):=by
 intro N;induction N with
 |zero=>intro d h;omega
 |succ N ih=>
  intro i h hi;rw[g35L0,bQ];by_cases c:i<n
  . rw[iP O,iP O,Q9,iP O,tN,tN,qig,Zi,wQ,wsucc O];refine Eq.trans ?_ (ih (i+1) O O);congr 1;refine qy λk hk=> ?_
    by_cases c1:k=i
    . rw[iP c1,iP O]
    . rw[iN' c1];by_cases c2:k<i
      . rw[iP c2,iP O]
      . rw[iN' c2,iN' O]
  . have:i=n:=O;subst this;rw[iN' O];rw[show(mr i λk=>if k<i then rowD i (λ_=>0)else [])=matD i (λ_ _=>0)from qy λk hk=>iP hk]
theorem Sh_L3: ∀(N i:Nat),n-i<N->i<=n->
 g35L3 m N x (matD n (dM S I V x i)) (n:Int) (i:Int)=some (.inl (matD n (syD S I V x),())):=by
 intro N;induction N with
 |zero=>intro d h;omega
 |succ N ih=>
  intro i h hi;rw[g35L3,bQ];by_cases c:i<n
  . obtain⟨u,f⟩:=qfo hG i (j:=i) c;have key:=(qf5 (m:=m) O f hx).1;rw[q6v f]at key;have hv:dM S I V x i i i=valF (elA S I V i i):=by unfold dM;rw[iN' O,Nat.max_self,Nat.min_self]
    rw[iP O,X8,iP O,iP O,tN,Yk c,Xl,iP O,Of_eq O hxU,bS,q0q c,hv];dsimp only;rw[show g66 m (dE (valF (elA S I V i i))).1 (dE (valF (elA S I V i i))).2.1.1 (dE (valF (elA S I V i i))).2.1.2 (dE (valF (elA S I V i i))).2.2 (ofD x).1 (ofD x).2.1 (ofD x).2.2.1 (ofD x).2.2.2.1=_ from key,bS,iP O]
    dsimp only;rw[q6f,q2n,wQ,wsucc O];refine Eq.trans ?_ (ih (i+1) O O);congr 1;refine Jt λa b ha hb=> ?_
    by_cases c1:a=i
    . rw[iP c1];subst c1;by_cases c2:b=a
      . rw[iP c2];subst c2;unfold dM;rw[iP ⟨rfl,O⟩]
      . rw[iN' c2];unfold dM;rw[iN' (λh=>c2 h.1.symm),iN' (λh=>c2 h.1.symm)]
    . rw[iN' c1];unfold dM;by_cases c2:a=b/\a<i
      . rw[iP c2,iP ⟨c2.1,O⟩]
      . rw[iN' c2,iN' (λh=>c2 ⟨h.1,O⟩)]
  . have:i=n:=O;subst this;rw[iN' O];rw[Jt (D':=syD S I V x) λa b ha hb=> ?_]
    unfold dM syD;by_cases c2:a=b
    . rw[iP ⟨c2,ha⟩,iP c2]
    . rw[iN' (λh=>c2 h.1),iN' c2]
theorem q1o:g35 m (n:Int) (n:Int) S I V x=some (matD n (syD S I V x),(),(),()):=by
 have e0:=Sh_L0 hm hG hn hxU hx m 0 O O;rw[show(mr n λk=>if k<0 then rowD n (λ_=>0)else [])=List.replicate n [] by rw[q3x];exact qy λk _=>iN' O,nZ]at e0
 have e1:=Sh_L1 hm hG hn hxU hx m 0 O O;rw[Jt (D:=cM S I V 0 0) (D':=λ_ _=>0) (λa b _ _=>by unfold cM;rw[iN' O];split<;>rfl),nZ]at e1
 have e3:=Sh_L3 hm hG hn hxU hx m 0 O O;rw[Jt (D:=dM S I V x 0) (D':=cM S I V n 0) (λa b _ _=>by unfold cM dM;rw[iN' O,iP O]),nZ]at e3
 rw[g35,iP O,tN,zF1,e0,bS];dsimp only;rw[e1,bS];dsimp only;rw[X8,e3,bS]
end
end Go.Vs.F
set_option maxRecDepth 100000
namespace Go.Vs.F
def chk9 (R C:Int) (S I V:LI) (x:Int) (inf:Bool):Int:=
 if chk R C S I V≠0 then chk R C S I V else if R≠C then 5 else if R>16 then 6 else if kindN x=3\/(inf=false/\ ¬FinF x)then 4 else 0
def Zv {m:Nat} (hm:5000000000<=m) {R C:Int} {S I V:LI} (hS:S.length<=1000000) (hV:V.length<=1000000) {x:Int} (hx:U64 x) (inf:Bool):
 g33 m R C S I V x inf=some (chk9 R C S I V x inf,(),(),(),())/\g36 m R C S I V x inf=some (chk9 R C S I V x inf,(),(),(),()):=by
 obtain⟨q1,q2⟩:=qp3 (m:=m) hx;constructor
 . rw[g33,g59eq O O O O O,bS,bif_ne,bif_ne,bQ,q1,chk9];dsimp only;by_cases c1:chk R C S I V=0
   . rw[iP c1,iN' (show¬(chk R C S I V≠0)from λh=>h c1)]
     by_cases c2:R=C
     . rw[iP c2,iN' (show¬(R≠C)from λh=>h c2)]
       by_cases c3:R>16
       . rw[iP c3,iP c3]
       . rw[iN' c3,iN' c3,bS,bif_eq];by_cases c4:kindN x=3
         . rw[iP c4,iP (.inl c4)]
         . rw[iN' c4];cases inf
           . rw[qk3 hx];by_cases c5:FinF x
             . rw[iN' (by simp[c4,c5])];simp[c5]
             . rw[iP (.inr ⟨rfl,c5⟩)];simp[c5]
           . rw[iN' (by simp[c4])];rfl
     . rw[iN' c2,iP c2]
   . rw[iN' c1,iP c1]
 . rw[g36,q4o O O O,bS,bif_ne,bif_ne,bQ,q5n hx,chk9];dsimp only;by_cases c1:chk R C S I V=0
   . rw[iP c1,iN' (show¬(chk R C S I V≠0)from λh=>h c1)]
     by_cases c2:R=C
     . rw[iP c2,iN' (show¬(R≠C)from λh=>h c2)]
       by_cases c3:R>16
       . rw[iP c3,iP c3]
       . rw[iN' c3,iN' c3,bS];by_cases c5:FinF x
         . have c4:=qa5 c5;rw[iN' (by simp[c4,c5])];simp[c5]
         . cases inf
           . rw[iP (.inr ⟨rfl,c5⟩)];simp[c5]
           . rw[q2];by_cases c4:kindN x=3
             . rw[iP (.inl c4)];simp[c5,c4]
             . rw[iN' (by simp[c4])];simp[c5,c4]
     . rw[iN' c2,iP c2]
   . rw[iN' c1,iP c1]
def CntS (n:Nat) (S I V:LI) (x:Int) (c:Nat):Prop:=(x=infP->c=n)/\(x=infM->c=0)/\(FinF x->IsCnt n (syD S I V x) c)/\c<=n
section
variable {m:Nat} (hm:5000000000<=m) {n:Nat} {S I V:LI} (hG:GI n n S I V) (h5:n<=3) {x:Int} (hx:U64 x)
include hm hG h5 hx
theorem q4s (h3:kindN x≠3):
 ∃c:Nat,CntS n S I V x c/\g24 m (n:Int) (n:Int) S I V x=some (((c:Int),0,()),(),(),())/\g28 m (n:Int) (n:Int) S I V x=some (((c:Int),0,()),(),(),()):=by
 have hMV:=hG.MV O O;have hck:=hMV.chk;have hsl:=hMV.sl;have hsz:=hMV.ok.sz;have hvl:=hMV.vl;obtain⟨k1,k2⟩:=Zv hm (R:=(n:Int)) (C:=(n:Int)) (S:=S) (I:=I) (V:=V) O O hx true
 have z1:chk9 (n:Int) (n:Int) S I V x true=0:=by
  unfold chk9;rw[iN' (show¬(chk (n:Int) (n:Int) S I V≠0)from λh=>h hck),iN' (show¬((n:Int)≠(n:Int))from λh=>h rfl),iN' (show¬((n:Int)>16) by omega),iN' (by simp[h3])]
 rw[z1]at k1 k2;rw[g24,g28,k1,k2,bS,bS];dsimp only;rw[show((0:Int) !=0)=false from rfl,cond_false,cond_false,bif_eq,bif_eq,bif_eq,bif_eq]
 by_cases hF:FinF x
 . have hne:x≠infP/\x≠infM:=by
    constructor<;>(rintro rfl;exact hF (by decide))
   rw[iN' hne.1,iN' hne.2,iN' hne.2,iN' hne.1];obtain⟨j1,j2⟩:=Zv hm (R:=(n:Int)) (C:=(n:Int)) (S:=S) (I:=I) (V:=V) O O hx false
   have z2:chk9 (n:Int) (n:Int) S I V x false=0:=by
    unfold chk9;rw[iN' (show¬(chk (n:Int) (n:Int) S I V≠0)from λh=>h hck),iN' (show¬((n:Int)≠(n:Int))from λh=>h rfl),iN' (show¬((n:Int)>16) by omega),iN' (by simp[h3,hF])]
   rw[z2]at j1;have hlen:=λi j (hi:i<n) (hj:j<n)=>q9b hG hF hi hj
   obtain⟨W,b,d1,d2,d3⟩:=q57 hm h5 (D:=syD S I V x) (λi j hi hj=>zK (hlen i j hi hj) (by decide)) (qas S I V x)
   have le2:=qf4 (L:=List.range n) (b:=b);rw[zK3]at le2;have hbig: ∀i j,i<n->j<n->blen (syD S I V x i j).natAbs<=10000:=λi j hi hj=>zK (hlen i j hi hj) (by decide)
   have hsum:wI (((npos (List.range n) (λi=> -b i):Nat):Int)+((n-(npos (List.range n) b+npos (List.range n) (λi=> -b i)):Nat):Int))=((n-npos (List.range n) b:Nat):Int):=by
    rw[wQ,wi O O];omega
   refine⟨n-npos (List.range n) b,⟨λh=>absurd h hne.1,λh=>absurd h hne.2,λ_=>⟨W,b,d1,rfl⟩,O⟩,?_,?_⟩
   . rw[g20,j1,bS];dsimp only;rw[show((0:Int) !=0)=false from rfl,cond_false,q1o hm hG O hx hF,bS,qkj hm O hbig,bS,d2,bS,bS]
     dsimp only;rw[hsum]
   . rw[q5h hm hG O hx hF,bS];dsimp only;rw[g55,qjk hm O hbig,bS,d3,bS];dsimp only;rw[hsum,bS]
 . rcases qqk hx hF h3 with rfl|rfl
   . refine⟨n,⟨λ_=>rfl,λh=>absurd h (by decide),λh=>absurd h hF,zH _⟩,?_,?_⟩
     . rw[iP rfl]
     . rw[iN' (by decide),iP rfl]
   . refine⟨0,⟨λh=>absurd h (by decide),λ_=>rfl,λh=>absurd h hF,zS2 _⟩,?_,?_⟩
     . rw[iN' (by decide),iP rfl];rfl
     . rw[iP rfl];rfl
end
def qpy (j:Nat):sparselaw39_awake (j+200)=some (true,()):=by kernel_rfl
end Go.Vs.F
set_option maxRecDepth 100000
namespace Go.Vs.F
def negN (n:Nat) (b:Nat->Rat):Nat:=npos (List.range n) (λi=> -b i)
def posN (n:Nat) (b:Nat->Rat):Nat:=npos (List.range n) b
def InT (n:Nat) (b:Nat->Rat):(Int×Int×Int×Unit)×Int×Unit:=((((negN n b:Nat):Int),((n-(posN n b+negN n b):Nat):Int),((posN n b:Nat):Int),()),0,())
section
variable {m:Nat} (hm:5000000000<=m) {n:Nat} {S I V:LI} (hG:GI n n S I V) (h5:n<=3) {x:Int} (hx:U64 x) (hF:FinF x)
include hm hG h5 hx hF
theorem q3e (inf:Bool):g33 m (n:Int) (n:Int) S I V x inf=some (0,(),(),(),())/\g36 m (n:Int) (n:Int) S I V x inf=some (0,(),(),(),()):=by
 have hMV:=hG.MV O O;have hck:=hMV.chk;have hsl:=hMV.sl;have hsz:=hMV.ok.sz;have hvl:=hMV.vl;have h3:=qa5 hF;have k:=Zv hm (R:=(n:Int)) (C:=(n:Int)) (S:=S) (I:=I) (V:=V) O O hx inf
 have z1:chk9 (n:Int) (n:Int) S I V x inf=0:=by
  unfold chk9;rw[iN' (show¬(chk (n:Int) (n:Int) S I V≠0)from λh=>h hck),iN' (show¬((n:Int)≠(n:Int))from λh=>h rfl),iN' (show¬((n:Int)>16) by omega),iN' (by simp[h3,hF])]
 rw[z1]at k;exact k
theorem qmh: ∃W b,Dg (List.range n) (qM (syD S I V x)) W b/\g20 m (n:Int) (n:Int) S I V x=some (InT n b,(),(),())/\g16 m (n:Int) (n:Int) S I V x=some (InT n b,(),(),()):=by
 obtain⟨j1,j2⟩:=q3e hm hG h5 hx hF false;have hlen:=λi j (hi:i<n) (hj:j<n)=>q9b hG hF hi hj
 obtain⟨W,b,d1,d2,d3⟩:=q57 hm h5 (D:=syD S I V x) (λi j hi hj=>zK (hlen i j hi hj) (by decide)) (qas S I V x)
 have hbig: ∀i j,i<n->j<n->blen (syD S I V x i j).natAbs<=10000:=λi j hi hj=>zK (hlen i j hi hj) (by decide)
 refine⟨W,b,d1,?_,?_⟩
 . rw[g20,j1,bS];dsimp only;rw[show((0:Int) !=0)=false from rfl,cond_false,q1o hm hG O hx hF,bS,qkj hm O hbig,bS,d2,bS]
   rfl
 . rw[g16,j2,bS];dsimp only;rw[show((0:Int) !=0)=false from rfl,cond_false,q5h hm hG O hx hF,bS]
   dsimp only;rw[qjk hm O hbig,bS,d3,bS];rfl
end
end Go.Vs.F
