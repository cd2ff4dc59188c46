/-Matrices made from raw numbers are valid. Matrices made from raw numbers:the checks and the look-up. The document's rows of a shifted matrix. The program's rows of a shifted matrix. The program's rows of a shifted matrix are the document's. Counts of symmetric matrices:program and document agree. Keys,middles and the k-th eigenvalue of a symmetric matrix. The k-th eigenvalue by program and document. Counts ascend;one count for every m. Isolating eigenvalues between any floats:program and document make the same slices. Isolate by program and document. Counts of diagonal matrices. Diagonal matrices. The count of a diagonal matrix by keys. The matrix that a law picks. Comparing slices;the diagonal matrix of the laws. Checking slices:program and document find the same index. The sanity check of the laws of chapter 40. The laws SliceIsolates and SliceKth. Narrowing slices:the law SliceNarrows. Checking any slices:the law SliceChecks. Refusals:the law SliceRefuses. -/
import Derived.Test.YtgjpnfjkalepkaaGreatDoorLg
import Derived.Test.YtgjpnfjkalepkaaGreatDoorLa
set_option linter.unusedVariables false
set_option linter.unusedSimpArgs false
set_option maxRecDepth 100000
namespace Go.Vs.F
theorem gapL {l x:LI} {k:Nat} (h:k<l.length):(l++x).getD k 0=l.getD k 0:=by simp[List.getD,List.getElem?_append_left h]
theorem gapR {l x:LI} {k:Nat} (h:l.length<=k):(l++x).getD k 0=x.getD (k-l.length) 0:=by simp[List.getD,List.getElem?_append_right h]
theorem qpi {l x:LI} (h:FnL l) (h':FnL x):FnL (l++x):=by
 intro i hi;rw[List.length_append]at hi;by_cases c:i<l.length
 . rw[gapL c];exact h i c
 . rw[gapR O];exact h' _ O
structure CX (i:Nat) (X Y:LI):Prop where
 yl:Y.length=X.length
 fn:FnL Y
 sz:X.length<=i
 row: ∀k,k<X.length->0<=X.getD k 0/\X.getD k 0<(i:Int)/\(0<k->X.getD (k-1) 0<X.getD k 0)
theorem CX.nil:CX 0 [] []:=⟨rfl,qhi,Nat.le_refl _,fun k h=>absurd h (Nat.not_lt_zero _)⟩
theorem CX.skip {i:Nat} {X Y:LI} (h:CX i X Y):CX (i+1) X Y:=⟨h.yl,h.fn,by have:=h.sz;omega,fun k hk=>by have:=h.row k hk;exact⟨this.1,O,this.2.2⟩⟩
theorem CX.snoc {i:Nat} {X Y:LI} (h:CX i X Y) {f:Int} (h1:U64 f) (h2:FinF f):CX (i+1) (X++[(i:Int)]) (Y++[f]):=by
 refine⟨by simp[h.yl],qkt h.fn h1 h2,by have:=h.sz;simp;omega,fun k hk=> ?_⟩
 rw[List.length_append]at hk;have e1:([(i:Int)]:LI).length=1:=rfl;by_cases c:k<X.length
 . have:=h.row k c;rw[gapL c];exact⟨this.1,O,fun h0=>by rw[gapL O];exact this.2.2 h0⟩
 . have hk':k=X.length:=O;subst hk';rw[gapR (Nat.le_refl _),Nat.sub_self];refine⟨by show(0:Int)<=i;omega,by show(i:Int)<((i+1:Nat):Int);omega,fun h0=> ?_⟩
   rw[gapL O];exact(h.row _ O).2.1
structure GI (R j:Nat) (S I V:LI):Prop where
 st:StartOK j S I
 col: ∀t,t<j-> ∀k,(S.getD t 0).toNat<=k->k<(S.getD (t+1) 0).toNat->0<=I.getD k 0/\I.getD k 0<(R:Int)/\((S.getD t 0).toNat<k->I.getD (k-1) 0<I.getD k 0)
 vl:V.length=I.length
 fn:FnL V
 sz:I.length<=j*R
theorem GI.nil {R:Nat}:GI R 0 [0] [] []:=⟨⟨rfl,rfl,fun j h=>absurd h (Nat.not_lt_zero _),rfl⟩,fun t h=>absurd h (Nat.not_lt_zero _),rfl,qhi,Nat.zero_le _⟩
theorem GI.snoc {R j:Nat} {S I V X Y:LI} (h:GI R j S I V) (hX:CX R X Y):GI R (j+1) (S++[((I++X).length:Int)]) (I++X) (V++Y):=by
 have hl:=h.st.len;have hlast:=h.st.last;have h0:=h.st.s0;have s1:=hX.sz;have ea:(I++X).length=I.length+X.length:=List.length_append;have eL: ∀t,t<=j->(S++[((I++X).length:Int)]).getD t 0=S.getD t 0:=fun t ht=>gapL O
 have eR:(S++[((I++X).length:Int)]).getD (j+1) 0=((I++X).length:Int):=by rw[gapR O,show j+1-S.length=0 by omega];rfl
 refine⟨⟨by simp[hl],by rw[eL 0 O];exact h0,fun t ht=> ?_,eR⟩,fun t ht k hk1 hk2=> ?_,by simp[h.vl,hX.yl],qpi h.fn hX.fn,?_⟩
 . by_cases c:t<j
   . rw[eL t O,eL (t+1) O];exact h.st.mono t c
   . have:t=j:=O;subst this;rw[eL t (Nat.le_refl _),eR,hlast,ea];omega
 . by_cases c:t<j
   . rw[eL t O]at hk1⊢;rw[eL (t+1) O]at hk2;have:=h.st.le (i:=t+1) (j:=j) O (Nat.le_refl _);rw[gapL O];have q:=h.col t c k hk1 hk2;exact⟨q.1,q.2.1,fun hs=>by rw[gapL O];exact q.2.2 hs⟩
   . have:t=j:=O;subst this;rw[eL t (Nat.le_refl _)]at hk1⊢;rw[eR]at hk2;rw[hlast]at hk1⊢;rw[gapR O];have q:=hX.row (k-I.length) O;refine⟨q.1,q.2.1,fun hs=> ?_⟩
     rw[gapR O,show k-1-I.length=k-I.length-1 by omega]
     exact q.2.2 O
 . have:=h.sz;rw[ea,Nat.succ_mul];omega
theorem GI.mat {R C:Nat} {S I V:LI} (h:GI R C S I V) (hR:R<=100) (hC:C<=100):MatOK R C S I:=by
 have:C*R<=100*100:=Nat.mul_le_mul hC hR;have:=h.sz;refine⟨h.st,fun j hj=> ?_,O,O,O⟩
 unfold q09;rw[Qs];intro k h1 h2;obtain⟨q1,q2,q3⟩:=h.col j hj k h1 h2;unfold entOK;by_cases c:(S.getD j 0).toNat<k
 . simp only[q1,q2,c,q3 c,decide_true,Bool.and_self,Bool.not_true,Bool.or_true]
 . simp only[q1,q2,c,decide_true,decide_false,Bool.and_self,Bool.not_false,Bool.true_or]
section
variable {m:Nat} (hm:5000000000<=m) {raw:LI} (hl:raw.length<=9223372036854775807) {R C:Nat} (hR:R<=100) (style:Int)
include hm hl hR
theorem qgn (a0 a1 m0 m1:Int) (a2 a3 a4 S I V:LI) (j:Int) (hI:I.length<=100000) (hV:V.length=I.length): ∀(N i:Nat) (X Y:LI),R-i<N->i<=R->CX i X Y->
 ∃X' Y',CX R X' Y'/\g30L1 m N raw (R:Int) (C:Int) style a0 a1 a2 a3 a4 m0 m1 S (I++X) (V++Y) j (i:Int)=some (.inl (raw,(R:Int),(C:Int),style,(a0,a1,a2,a3,a4,()),(m0,m1,S,I++X',V++Y',()),j,())):=by
 intro N;induction N with
 |zero=>intro i X Y h;omega
 |succ N ih=>
  intro i X Y h hi hX;rw[g30L1,bQ];by_cases c:i<R
  . obtain⟨w,ew,hw⟩:=qnj m hl (wI ((wI (100+(wI (j*(R:Int)))))+(i:Int)));rw[iP O,ew,bS,bQ,wQ (n:=(i:Int)+1),wsucc O];have s1:=hX.sz;have s2:=hX.yl;split
    . obtain⟨f,ef,h1,h2⟩:=qj6 hm hw style;rw[iP (by rw[List.length_append];show _+1<=_;omega)]
      dsimp only;rw[ef,bS,iP (by rw[List.length_append];show _+1<=_;omega),List.append_assoc,List.append_assoc]
      exact ih (i+1) _ _ O O (hX.snoc h1 h2)
    . exact ih (i+1) _ _ O O hX.skip
  . have:i=R:=O;subst this;rw[iN' O];exact⟨X,Y,hX,rfl⟩
theorem qgv (hC:C<=100) (a0 a1 m0 m1:Int) (a2 a3 a4:LI): ∀(N j:Nat) (S I V:LI),C-j<N->j<=C->GI R j S I V->
 ∃S' I' V',GI R C S' I' V'/\g30L0 m N raw (R:Int) (C:Int) style a0 a1 a2 a3 a4 m0 m1 S I V (j:Int)=some (.inl ((a0,a1,a2,a3,a4,()),(m0,m1,S',I',V',()),())):=by
 intro N;induction N with
 |zero=>intro j S I V h;omega
 |succ N ih=>
  intro j S I V h hj hG;rw[g30L0,bQ];by_cases c:j<C
  . have s1:=hG.sz;have:j*R<=100*100:=Nat.mul_le_mul O hR;obtain⟨X,Y,hX,e⟩:=qgn hm hl hR (C:=C) style a0 a1 m0 m1 a2 a3 a4 S I V (j:Int) O hG.vl m 0 [] [] O O CX.nil;rw[List.append_nil,List.append_nil,nZ]at e;rw[iP O,e,bS];dsimp only;have hS:=hG.st.len;rw[iP (by show _+1<=_;omega),wQ,wsucc O]
    exact ih (j+1) _ _ _ O O (hG.snoc hX)
  . have:j=C:=O;subst this;rw[iN' O];exact⟨S,I,V,hG,rfl⟩
theorem qgi (hC:C<=100): ∃S I V,GI R C S I V/\g30 m raw (R:Int) (C:Int) style=some (((R:Int),(C:Int),S,I,V,()),(),(),(),(),()):=by
 obtain⟨S,I,V,hG,e⟩:=qgv hm hl hR (C:=C) style hC 0 0 (R:Int) (C:Int) [] [] [] m 0 [0] [] [] O O GI.nil;rw[nZ]at e;exact⟨S,I,V,hG,by rw[g30,e,bS]⟩
end
end Go.Vs.F
set_option maxRecDepth 100000
namespace Go.Vs.F
theorem GI.MV {R C:Nat} {S I V:LI} (h:GI R C S I V) (hR:R<=100) (hC:C<=100):MV R C S I V:=by
 have hM:=h.mat hR hC;refine⟨hM,h.vl,?_⟩;have hz:=hM.sz
 have h1:(decide (0<=(R:Int))&&decide ((R:Int)<=200)&&decide (0<=(C:Int))&&decide ((C:Int)<=200)&&decide (I.length<=10000))=true:=by
  simp only[Bool.and_eq_true,decide_eq_true_eq];omega
 have h2:strB (R:Int) (C:Int) S I V=true:=by
  unfold strB;have a1:((S.length:Int)=(C:Int)+1):=by have:=hM.st.len;omega
  have a2:=hM.st.s0;have a3:Qg (le2 S) 0 (C:Int).toNat=true:=Qs.2 fun k _ hk=>decide_eq_true (hM.st.mono k O)
  have a4:S.getD (C:Int).toNat 0=(I.length:Int):=hM.st.last;have a6:Qg (fun j=>q09 (R:Int) S I j) 0 (C:Int).toNat=true:=Qs.2 fun k _ hk=>hM.ent k O
  simp only[a1,a2,a3,a4,a6,h.vl,decide_true,Bool.and_self]
 have h3:finL V=true:=by
  unfold finL
  exact Qs.2 fun k _ hk=>by
   obtain⟨u,f⟩:=h.fn k hk;rw[qp9 u];exact decide_eq_true f
 unfold chk;rw[h1,h2,h3];rfl
def findA (I V:LI) (i:Int):Nat->Nat->Option Int
 |0,_=>none
 |d+1,k=>if I.getD k 0=i then some (V.getD k 0)else findA I V i d (k+1)
def elA (S I V:LI) (i j:Nat):Int:=(findA I V (i:Int) ((S.getD (j+1) 0).toNat-(S.getD j 0).toNat) (S.getD j 0).toNat).getD 0
section
variable {R C:Nat} {S I V:LI}
theorem At_L0 (m:Nat) {i:Int} {j:Nat} (hj:j+1<S.length) (hj2:j<4611686018427387903) {e:Nat} (he:S.getD (j+1) 0=(e:Int)) (hI:e<=I.length) (hv:V.length=I.length) (hb:I.length<=100000) (a0 a1:Int): ∀(n k:Nat),e-k<n->k<=e->
 g70L0 m n i (j:Int) a0 a1 S I V (k:Int)=some (match findA I V i (e-k) k with|some v=> .inl (v,())|none=> .inr (.inl ()))
 |0,k,h,_=>O
 |n+1,k,h,hk0=>by
  have w:wI ((j:Int)+1)=((j+1:Nat):Int):=wsucc O;rw[g70L0,w,iP O,tN,he,bQ];by_cases hk:k<e
  . rw[iP O,iP O,tN,bif_eq,show e-k=e-(k+1)+1 by omega,findA]
    by_cases c:I.getD k 0=i
    . rw[iP c,iP O,iP c]
    . rw[iN' c,show wI ((k:Int)+1)=((k+1:Nat):Int)from wsucc O,iN' c]
      exact At_L0 m hj hj2 he hI hv hb a0 a1 n (k+1) O O
  . rw[iN' O,show e-k=0 by omega,findA]
theorem At_eq {m:Nat} (hm:3000000<m) (h:MV R C S I V) {i j:Nat} (hj:j<C):g70 m (R:Int) (C:Int) S I V (i:Int) (j:Int)=some (elA S I V i j,(),(),(),()):=by
 have hl:=h.ok.st.len;have hsz:=h.ok.sz;have hcz:=h.ok.cz;have hvl:=h.vl;have a:=h.ok.st.rng (j:=j) O;have b:=h.ok.st.rng (j:=j+1) O;have mo:=h.ok.st.mono j hj;have c1:(0:Int)<=(j:Int)/\(j:Int)<(S.length:Int):=O;have e1:S.getD j 0=(((S.getD j 0).toNat:Nat):Int):=O;have hr:=At_L0 (S:=S) (I:=I) (V:=V) m (i:=(i:Int)) (j:=j) O O (e:=(S.getD (j+1) 0).toNat) O O hvl O (R:Int) (C:Int) m (S.getD j 0).toNat O O
 have hpre:g70 m (R:Int) (C:Int) S I V (i:Int) (j:Int)=(g70L0 m m (i:Int) (j:Int) (R:Int) (C:Int) S I V (((S.getD j 0).toNat:Nat):Int)).bind fun y2=>match y2 with
  | .inl z3=>some (z3.1,((),(),(),()))
  | .inr (.inl z4)=>some (0,((),(),(),()))
  | .inr (.inr e)=>e.elim:=by
  rw[g70,q4h O O O,h.chk];simp only[bS,bif_ne,if_true,bQ];rw[iN' O,iN' O,iP c1,tN,<-e1];rfl
 rw[hpre,hr,elA];cases findA I V (i:Int) ((S.getD (j+1) 0).toNat-(S.getD j 0).toNat) (S.getD j 0).toNat<;>rfl
end
end Go.Vs.F
set_option linter.unusedSectionVars false
set_option maxRecDepth 100000
namespace Go.Vs.F
theorem q3k {I V:LI} {i v:Int}: ∀{d k:Nat},findA I V i d k=some v-> ∃t,k<=t/\t<k+d/\I.getD t 0=i/\v=V.getD t 0
 |0,k,h=>by rw[findA]at h;cases h
 |d+1,k,h=>by
  rw[findA]at h;by_cases c:I.getD k 0=i
  . rw[iP c]at h;injection h with h
    exact⟨k,Nat.le_refl _,O,c,h.symm⟩
  . rw[iN' c]at h;obtain⟨t,h1,h2,h3⟩:=q3k h;exact⟨t,O,O,h3⟩
theorem qit:U64 0/\FinF 0:=⟨⟨O,O⟩,by decide⟩
theorem qet {R C:Nat} {S I V:LI} (h:GI R C S I V) (i:Nat) {j:Nat} (hj:j<C):U64 (elA S I V i j)/\FinF (elA S I V i j):=by
 unfold elA;have a:=h.st.rng (j:=j) O;have b:=h.st.rng (j:=j+1) O;have mo:=h.st.mono j hj;cases e:findA I V (i:Int) ((S.getD (j+1) 0).toNat-(S.getD j 0).toNat) (S.getD j 0).toNat with
 |none=>exact qit
 |some v=>
  obtain⟨t,h1,h2,_,h3⟩:=q3k e;subst h3;exact h.fn t (by have:=h.vl;omega)
def syD (S I V:LI) (x:Int) (i j:Nat):Int:=if i=j then valF (elA S I V i i)-valF x else valF (elA S I V (max i j) (min i j))
theorem qnp (S I V:LI) (x:Int) (i j:Nat):syD S I V x i j=syD S I V x j i:=by
 unfold syD;by_cases c:i=j
 . subst c;rfl
 . rw[iN' c,iN' (fun h=>c h.symm),Nat.max_comm,Nat.min_comm]
theorem qnt {n:Nat} {S I V:LI} {x:Int} (h:GI n n S I V) (hx:FinF x) {i j:Nat} (hi:i<n) (hj:j<n):blen (syD S I V x i j).natAbs<=2099:=by
 unfold syD;by_cases c:i=j
 . rw[iP c];exact qmd (qct (qet h i hi).2) (qct hx)
 . rw[iN' c];exact Nat.le_trans (qct (qet h _ O).2) (by decide)
section
variable {m:Nat} (hm:5000000000<=m) {n:Nat} {S I V:LI} {x:Int} (hG:GI n n S I V) (hn:n<=100) (hxU:U64 x) (hx:FinF x)
include hm hG hn hxU hx
theorem qlh (M:List (List DyL)) {i:Nat} (hi:i<n): ∀(N j:Nat),n-j<N->j<=n->
 g52L1 m N x (n:Int) (n:Int) S I V M (i:Int) (mr j fun j=>dE (syD S I V x i j)) (j:Int)=some (.inl (x,((n:Int),(n:Int),S,I,V,()),M,(i:Int),rowD n (syD S I V x i),())):=by
 intro N;induction N with
 |zero=>intro j h;omega
 |succ N ih=>
  intro j h hj;rw[g52L1,bQ];by_cases c:j<n
  . have put: ∀v,v=syD S I V x i j->(if(mr j fun j=>dE (syD S I V x i j)).length+([dE v]:List DyL).length<=1073741824 then
     g52L1 m N x (n:Int) (n:Int) S I V M (i:Int) ((mr j fun j=>dE (syD S I V x i j))++[dE v]) (wI ((j:Int)+1))else none)=some (.inl (x,((n:Int),(n:Int),S,I,V,()),M,(i:Int),rowD n (syD S I V x i),())):=by
     intro v hv;subst hv;rw[Q8,iP (by show j+1<=_;omega),Y5 (f:=fun j=>dE (syD S I V x i j)),wQ,wsucc O]
     exact ih (j+1) O O
    have e1:(if(j:Int)>(i:Int)then(j:Int)else(i:Int))=((max i j:Nat):Int):=by split<;>omega
    have e2:(if(j:Int)<(i:Int)then(j:Int)else(i:Int))=((min i j:Nat):Int):=by split<;>omega
    obtain⟨u,f⟩:=qet hG (max i j) (j:=min i j) O;rw[iP O,e1,e2,At_eq O (hG.MV hn hn) O,bS];dsimp only;rw[qnh O u,bS,bif_eq];by_cases d:i=j
    . subst d;rw[iP rfl,qnh O hxU,bS,(qe7 O f hx).2,bS];refine put _ ?_;unfold syD;rw[iP rfl,Nat.max_self,Nat.min_self]
    . rw[iN' O,q6v f];refine put _ ?_;unfold syD;rw[iN' d]
  . have:j=n:=O;subst this;rw[iN' O];rfl
theorem ql0: ∀(N i:Nat),n-i<N->i<=n->
 g52L0 m N x (n:Int) (n:Int) S I V (mr i fun i=>rowD n (syD S I V x i)) (i:Int)=some (.inl (matD n (syD S I V x),())):=by
 intro N;induction N with
 |zero=>intro j h;omega
 |succ N ih=>
  intro i h hi;rw[g52L0,bQ];by_cases c:i<n
  . have e:=qlh hm hG hn hxU hx (mr i fun i=>rowD n (syD S I V x i)) c m 0 O O
    rw[Zg,nZ]at e;rw[iP O,e,bS];dsimp only;rw[Q8,iP (by show 0<1/\i+1<=_;omega),Y5 (f:=fun i=>rowD n (syD S I V x i)),wQ,wsucc O]
    exact ih (i+1) O O
  . have:i=n:=O;subst this;rw[iN' O];rfl
theorem ql8:g52 m (n:Int) (n:Int) S I V x=some (matD n (syD S I V x),(),(),()):=by
 have e:=ql0 hm hG hn hxU hx m 0 O O;rw[Zg,nZ]at e;rw[g52,e,bS]
end
end Go.Vs.F
set_option maxRecDepth 100000
namespace Go.Vs.F
theorem qfw {I V:LI} {i:Int} {d k:Nat}:findA I V i (d+1) k=if I.getD k 0=i then some (V.getD k 0)else findA I V i d (k+1):=rfl
theorem q7q {I V:LI} {i:Int}: ∀{d k:Nat},findA I V i (d+1) k=match findA I V i d k with|some v=>some v|none=>if I.getD (k+d) 0=i then some (V.getD (k+d) 0)else none
 |0,k=>rfl
 |d+1,k=>by
  rw[show findA I V i (d+1+1) k=if I.getD k 0=i then some (V.getD k 0)else findA I V i (d+1) (k+1)from rfl,show findA I V i (d+1) k=if I.getD k 0=i then some (V.getD k 0)else findA I V i d (k+1)from rfl]
  by_cases c:I.getD k 0=i
  . rw[iP c,iP c]
  . rw[iN' c,iN' c,q7q (d:=d) (k:=k+1),show k+1+d=k+(d+1) by omega]
def colP (I V:LI) (s:Nat):Nat->Int->Int
 |0,_=>0
 |d+1,a=>if I.getD (s+d) 0=a then valF (V.getD (s+d) 0)else colP I V s d a
theorem qb4:valF 0=0:=by decide
theorem qke {I V:LI} {a:Int} {s:Nat}: ∀{d:Nat},(∀t t',s<=t->t<t'->t'<s+d->I.getD t 0≠I.getD t' 0)->colP I V s d a=valF ((findA I V a d s).getD 0)
 |0,_=>qb4.symm
 |d+1,h=>by
  rw[colP,q7q];by_cases c:I.getD (s+d) 0=a
  . rw[iP c]
    have:findA I V a d s=none:=by
     cases e:findA I V a d s with
     |none=>rfl
     |some v=>
      obtain⟨t,h1,h2,h3,_⟩:=q3k e;exact absurd (h3.trans c.symm) (h t (s+d) h1 h2 O)
    rw[this];dsimp only;rw[iP c];rfl
  . rw[iN' c,qke (d:=d) (fun t t' h1 h2 h3=>h t t' h1 h2 O)]
    cases findA I V a d s with
    |some v=>rfl
    |none=>dsimp only;rw[iN' c]
def cM (S I V:LI) (j d a b:Nat):Int:=if min a b<j then valF (elA S I V (max a b) (min a b))else if min a b=j then colP I V (S.getD j 0).toNat d ((max a b:Nat):Int)else 0
theorem qju {S I V:LI} {j d a b:Nat} (h: ¬(min a b=j/\I.getD ((S.getD j 0).toNat+d) 0=((max a b:Nat):Int))):cM S I V j (d+1) a b=cM S I V j d a b:=by
 unfold cM;by_cases c1:min a b<j
 . rw[iP c1,iP c1]
 . rw[iN' c1,iN' c1];by_cases c2:min a b=j
   . rw[iP c2,iP c2,colP,iN' fun e=>h ⟨c2,e⟩]
   . rw[iN' c2,iN' c2]
theorem qqu {S I V:LI} {j d a b:Nat} (h1:min a b=j) (h2:I.getD ((S.getD j 0).toNat+d) 0=((max a b:Nat):Int)):cM S I V j (d+1) a b=valF (V.getD ((S.getD j 0).toNat+d) 0):=by
 unfold cM;rw[iN' O,iP h1,colP,iP h2]
theorem qor {S I V:LI} {j d r:Nat} (hr:I.getD ((S.getD j 0).toNat+d) 0=(r:Int)) (hj:j<=r) (a b:Nat):
 (if a=j then(fun b=>if b=r then valF (V.getD ((S.getD j 0).toNat+d) 0)else(if j=r then(fun b=>if b=j then valF (V.getD ((S.getD j 0).toNat+d) 0)else cM S I V j d r b)else cM S I V j d j) b)else(if a=r then(fun b=>if b=j then valF (V.getD ((S.getD j 0).toNat+d) 0)else cM S I V j d r b)else cM S I V j d a)) b=cM S I V j (d+1) a b:=by
 by_cases c:min a b=j/\max a b=r
 . rw[qqu c.1 (by rw[hr,c.2])]
   by_cases c1:a=j
   . rw[iP c1];rw[iP O]
   . rw[iN' c1,iP O];rw[iP O]
 . rw[qju (fun h=>c ⟨h.1,by have:=h.2;rw[hr]at this;omega⟩)]
   by_cases c1:a=j
   . rw[iP c1];subst c1;rw[iN' O];by_cases c2:a=r
     . rw[iP c2];rw[iN' O,c2]
     . rw[iN' c2]
   . rw[iN' c1];by_cases c2:a=r
     . rw[iP c2];rw[iN' O,c2]
     . rw[iN' c2]
section
variable {m:Nat} (hm:5000000000<=m) {n:Nat} {S I V:LI} {x:Int} (hG:GI n n S I V) (hn:n<=100) (hxU:U64 x) (hx:FinF x)
include hm hG hn hxU hx
theorem Sh_L2 {j:Nat} (hj:j<n) (t27 t28:Int): ∀(N d:Nat),(S.getD (j+1) 0).toNat-(S.getD j 0).toNat-d<N->(S.getD j 0).toNat+d<=(S.getD (j+1) 0).toNat->
 g88L2 m N x (n:Int) (n:Int) S I V (matD n (cM S I V j d)) (j:Int) (((S.getD j 0).toNat+d:Nat):Int) t27 t28=some (.inl (x,((n:Int),(n:Int),S,I,V,()),matD n (cM S I V j ((S.getD (j+1) 0).toNat-(S.getD j 0).toNat)),t27,t28,())):=by
 have hM:=hG.mat hn hn;have hz:=hM.sz;have hl:=hG.st.len;have hvl:=hG.vl;have a:=hG.st.rng (j:=j) O;have b:=hG.st.rng (j:=j+1) O;have mo:=hG.st.mono j hj;have w:wI ((j:Int)+1)=((j+1:Nat):Int):=wsucc O;have he:S.getD (j+1) 0=(((S.getD (j+1) 0).toNat:Nat):Int):=O;intro N;induction N with
 |zero=>intro d h;omega
 |succ N ih=>
  intro d h hd;rw[g88L2,w,iP O,tN,bQ];by_cases c:(S.getD j 0).toNat+d<(S.getD (j+1) 0).toNat
  . obtain⟨q1,q2⟩:=hM.row hj (k:=(S.getD j 0).toNat+d) O c;obtain⟨u,f⟩:=hG.fn ((S.getD j 0).toNat+d) O;have w2:wI ((((S.getD j 0).toNat+d:Nat):Int)+1)=(((S.getD j 0).toNat+(d+1):Nat):Int):=wsucc O;obtain⟨r,hr⟩: ∃r:Nat,I.getD ((S.getD j 0).toNat+d) 0=(r:Int):=⟨(I.getD ((S.getD j 0).toNat+d) 0).toNat,O⟩;rw[iP O,iP O];simp only[tN,hr,bQ,w2];by_cases c2:j<=r
    . rw[iP O,Xw,iP O,iP O,iP O,Of_eq O u,q6v f,bS,iP O,bS];dsimp only;rw[Jy (show r<n by omega),Yy,iP O,q6l,q29,Jy hj,Yy,iP O,q6l,q29]
      refine Eq.trans ?_ (ih (d+1) O O);congr 1;unfold matD;refine Qb fun a ha=> ?_
      unfold rowD;refine Qb fun b hb=> ?_
      congr 1;exact qor hr c2 a b
    . rw[iN' O];refine Eq.trans ?_ (ih (d+1) O O);congr 1;unfold matD;refine Qb fun a ha=> ?_
      unfold rowD;refine Qb fun b hb=> ?_
      rw[qju (fun h=>by have:=h.2;rw[hr]at this;omega)]
  . rw[iN' O,show(S.getD (j+1) 0).toNat-(S.getD j 0).toNat=d by omega]
end
end Go.Vs.F
set_option maxRecDepth 100000
namespace Go.Vs.F
theorem J8 {n:Nat} {D D':Nat->Nat->Int} (h: ∀a b,a<n->b<n->D a b=D' a b):matD n D=matD n D':=by
 unfold matD;refine Qb fun a ha=> ?_
 unfold rowD;exact Qb fun b hb=>by rw[h a b ha hb]
theorem qp6 {n:Nat} {S I V:LI} (hM:MatOK n n S I) {j:Nat} (hj:j<n) (a b:Nat):cM S I V j ((S.getD (j+1) 0).toNat-(S.getD j 0).toNat) a b=cM S I V (j+1) 0 a b:=by
 unfold cM;by_cases c1:min a b<j
 . rw[iP c1,iP O]
 . rw[iN' c1];by_cases c2:min a b=j
   . rw[iP c2,iP O,c2,elA];refine qke fun t t' h1 h2 h3=> ?_
     have:=hM.asc hj (t'-t-1) t h1 O;rw[show t+(t'-t-1+1)=t' by omega]at this
     omega
   . rw[iN' c2,iN' O];split
     . rfl
     . rfl
def dM (S I V:LI) (x:Int) (i a b:Nat):Int:=if a=b/\a<i then valF (elA S I V a a)-valF x else valF (elA S I V (max a b) (min a b))
section
variable {m:Nat} (hm:5000000000<=m) {n:Nat} {S I V:LI} {x:Int} (hG:GI n n S I V) (hn:n<=100) (hxU:U64 x) (hx:FinF x)
include hm hG hn hxU hx
theorem Sh_L1: ∀(N j:Nat),n-j<N->j<=n->
 g88L1 m N x (n:Int) (n:Int) S I V (matD n (cM S I V j 0)) (n:Int) (j:Int)=some (.inl (x,matD n (cM S I V n 0),())):=by
 have hM:=hG.mat hn hn;have hz:=hM.sz;have hl:=hG.st.len;intro N;induction N with
 |zero=>intro d h;omega
 |succ N ih=>
  intro j h hj;rw[g88L1,bQ];by_cases c:j<n
  . have a:=hG.st.rng (j:=j) O;have b:=hG.st.rng (j:=j+1) O;have mo:=hG.st.mono j c;have e:=Sh_L2 hm hG hn hxU hx c (n:Int) (j:Int) m 0 O O;rw[Nat.add_zero,show(((S.getD j 0).toNat:Nat):Int)=S.getD j 0 by omega,J8 (fun a b _ _=>qp6 (V:=V) hM c a b)]at e
    rw[iP O,iP O,tN,e,bS];dsimp only;rw[wQ,wsucc O];exact ih (j+1) O O
  . have:j=n:=O;subst this;rw[iN' O]
theorem Sh_L0: ∀(N i:Nat),n-i<N->i<=n->
 g88L0 m N x (n:Int) (n:Int) S I V (mr n fun k=>if k<i then rowD n (fun _=>0)else []) (n:Int) (i:Int)=some (.inl (x,((n:Int),(n:Int),S,I,V,()),matD n (fun _ _=>0),())):=by
 intro N;induction N with
 |zero=>intro d h;omega
 |succ N ih=>
  intro i h hi;rw[g88L0,bQ];by_cases c:i<n
  . rw[iP O,iP O,Q8,iP O,tN,tN,qjg,q03,wQ,wsucc O];refine Eq.trans ?_ (ih (i+1) O O);congr 1;refine Qb fun k hk=> ?_
    by_cases c1:k=i
    . rw[iP c1,iP O]
    . rw[iN' c1];by_cases c2:k<i
      . rw[iP c2,iP O]
      . rw[iN' c2,iN' O]
  . have:i=n:=O;subst this;rw[iN' O];rw[show(mr i fun k=>if k<i then rowD i (fun _=>0)else [])=matD i (fun _ _=>0)from Qb fun k hk=>iP hk]
theorem Sh_L3: ∀(N i:Nat),n-i<N->i<=n->
 g88L3 m N x (matD n (dM S I V x i)) (n:Int) (i:Int)=some (.inl (matD n (syD S I V x),())):=by
 intro N;induction N with
 |zero=>intro d h;omega
 |succ N ih=>
  intro i h hi;rw[g88L3,bQ];by_cases c:i<n
  . obtain⟨u,f⟩:=qet hG i (j:=i) c;have key:=(qe7 (m:=m) O f hx).1;rw[q6v f]at key;have hv:dM S I V x i i i=valF (elA S I V i i):=by unfold dM;rw[iN' O,Nat.max_self,Nat.min_self]
    rw[iP O,Xw,iP O,iP O,tN,Jy c,Yy,iP O,Of_eq O hxU,bS,q33 c,hv];dsimp only;rw[show g123 m (dE (valF (elA S I V i i))).1 (dE (valF (elA S I V i i))).2.1.1 (dE (valF (elA S I V i i))).2.1.2 (dE (valF (elA S I V i i))).2.2 (ofD x).1 (ofD x).2.1 (ofD x).2.2.1 (ofD x).2.2.2.1=_ from key,bS,iP O]
    dsimp only;rw[q6l,q29,wQ,wsucc O];refine Eq.trans ?_ (ih (i+1) O O);congr 1;refine J8 fun a b ha hb=> ?_
    by_cases c1:a=i
    . rw[iP c1];subst c1;by_cases c2:b=a
      . rw[iP c2];subst c2;unfold dM;rw[iP ⟨rfl,O⟩]
      . rw[iN' c2];unfold dM;rw[iN' (fun h=>c2 h.1.symm),iN' (fun h=>c2 h.1.symm)]
    . rw[iN' c1];unfold dM;by_cases c2:a=b/\a<i
      . rw[iP c2,iP ⟨c2.1,O⟩]
      . rw[iN' c2,iN' (fun h=>c2 ⟨h.1,O⟩)]
  . have:i=n:=O;subst this;rw[iN' O];rw[J8 (D':=syD S I V x) fun a b ha hb=> ?_]
    unfold dM syD;by_cases c2:a=b
    . rw[iP ⟨c2,ha⟩,iP c2]
    . rw[iN' (fun h=>c2 h.1),iN' c2]
theorem qg3:g88 m (n:Int) (n:Int) S I V x=some (matD n (syD S I V x),(),(),()):=by
 have e0:=Sh_L0 hm hG hn hxU hx m 0 O O;rw[show(mr n fun k=>if k<0 then rowD n (fun _=>0)else [])=List.replicate n [] by rw[q7k];exact Qb fun k _=>iN' O,nZ]at e0
 have e1:=Sh_L1 hm hG hn hxU hx m 0 O O;rw[J8 (D:=cM S I V 0 0) (D':=fun _ _=>0) (fun a b _ _=>by unfold cM;rw[iN' O];split<;>rfl),nZ]at e1
 have e3:=Sh_L3 hm hG hn hxU hx m 0 O O;rw[J8 (D:=dM S I V x 0) (D':=cM S I V n 0) (fun a b _ _=>by unfold cM dM;rw[iN' O,iP O]),nZ]at e3
 rw[g88,iP O,tN,List.length_replicate,e0,bS];dsimp only;rw[e1,bS];dsimp only;rw[Xw,e3,bS]
end
end Go.Vs.F
set_option maxRecDepth 100000
namespace Go.Vs.F
def chk9 (R C:Int) (S I V:LI) (x:Int) (inf:Bool):Int:=
 if chk R C S I V≠0 then chk R C S I V else if R≠C then 5 else if R>16 then 6 else if kindN x=3\/(inf=false/\ ¬FinF x)then 4 else 0
theorem q5l {m:Nat} (hm:5000000000<=m) {R C:Int} {S I V:LI} (hS:S.length<=1000000) (hV:V.length<=1000000) {x:Int} (hx:U64 x) (inf:Bool):
 g62 m R C S I V x inf=some (chk9 R C S I V x inf,(),(),(),())/\g50 m R C S I V x inf=some (chk9 R C S I V x inf,(),(),(),()):=by
 obtain⟨q1,q2⟩:=q8e (m:=m) hx;constructor
 . rw[g62,g56eq O O O O O,bS,bif_ne,bif_ne,bQ,q1,chk9];dsimp only;by_cases c1:chk R C S I V=0
   . rw[iP c1,iN' (show¬(chk R C S I V≠0)from fun h=>h c1)]
     by_cases c2:R=C
     . rw[iP c2,iN' (show¬(R≠C)from fun h=>h c2)]
       by_cases c3:R>16
       . rw[iP c3,iP c3]
       . rw[iN' c3,iN' c3,bS,bif_eq];by_cases c4:kindN x=3
         . rw[iP c4,iP (.inl c4)]
         . rw[iN' c4];cases inf
           . rw[qhv hx];by_cases c5:FinF x
             . rw[iN' (by simp[c4,c5])];simp[c5]
             . rw[iP (.inr ⟨rfl,c5⟩)];simp[c5]
           . rw[iN' (by simp[c4])];rfl
     . rw[iN' c2,iP c2]
   . rw[iN' c1,iP c1]
 . rw[g50,q4h O O O,bS,bif_ne,bif_ne,bQ,q8c hx,chk9];dsimp only;by_cases c1:chk R C S I V=0
   . rw[iP c1,iN' (show¬(chk R C S I V≠0)from fun h=>h c1)]
     by_cases c2:R=C
     . rw[iP c2,iN' (show¬(R≠C)from fun h=>h c2)]
       by_cases c3:R>16
       . rw[iP c3,iP c3]
       . rw[iN' c3,iN' c3,bS];by_cases c5:FinF x
         . have c4:=qla c5;rw[iN' (by simp[c4,c5])];simp[c5]
         . cases inf
           . rw[iP (.inr ⟨rfl,c5⟩)];simp[c5]
           . rw[q2];by_cases c4:kindN x=3
             . rw[iP (.inl c4)];simp[c5,c4]
             . rw[iN' (by simp[c4])];simp[c5,c4]
     . rw[iN' c2,iP c2]
   . rw[iN' c1,iP c1]
def CntS (n:Nat) (S I V:LI) (x:Int) (c:Nat):Prop:=(x=infP->c=n)/\(x=infM->c=0)/\(FinF x->IsCnt n (syD S I V x) c)/\c<=n
section
variable {m:Nat} (hm:5000000000<=m) {n:Nat} {S I V:LI} (hG:GI n n S I V) (h5:n<=5) {x:Int} (hx:U64 x)
include hm hG h5 hx
theorem Zl (h3:kindN x≠3):
 ∃c:Nat,CntS n S I V x c/\g43 m (n:Int) (n:Int) S I V x=some (((c:Int),0,()),(),(),())/\g25 m (n:Int) (n:Int) S I V x=some (((c:Int),0,()),(),(),()):=by
 have hMV:=hG.MV O O;have hck:=hMV.chk;have hsl:=hMV.sl;have hsz:=hMV.ok.sz;have hvl:=hMV.vl;obtain⟨k1,k2⟩:=q5l hm (R:=(n:Int)) (C:=(n:Int)) (S:=S) (I:=I) (V:=V) O O hx true
 have z1:chk9 (n:Int) (n:Int) S I V x true=0:=by
  unfold chk9;rw[iN' (show¬(chk (n:Int) (n:Int) S I V≠0)from fun h=>h hck),iN' (show¬((n:Int)≠(n:Int))from fun h=>h rfl),iN' (show¬((n:Int)>16) by omega),iN' (by simp[h3])]
 rw[z1]at k1 k2;rw[g43,g25,k1,k2,bS,bS];dsimp only;rw[show((0:Int) !=0)=false from rfl,cond_false,cond_false,bif_eq,bif_eq,bif_eq,bif_eq]
 by_cases hF:FinF x
 . have hne:x≠infP/\x≠infM:=by
    constructor<;>(rintro rfl;exact hF (by decide))
   rw[iN' hne.1,iN' hne.2,iN' hne.2,iN' hne.1];obtain⟨j1,j2⟩:=q5l hm (R:=(n:Int)) (C:=(n:Int)) (S:=S) (I:=I) (V:=V) O O hx false
   have z2:chk9 (n:Int) (n:Int) S I V x false=0:=by
    unfold chk9;rw[iN' (show¬(chk (n:Int) (n:Int) S I V≠0)from fun h=>h hck),iN' (show¬((n:Int)≠(n:Int))from fun h=>h rfl),iN' (show¬((n:Int)>16) by omega),iN' (by simp[h3,hF])]
   rw[z2]at j1;have hlen:=fun i j (hi:i<n) (hj:j<n)=>qnt hG hF hi hj
   obtain⟨W,b,d1,d2,d3⟩:=qar hm h5 (D:=syD S I V x) (fun i j hi hj=>Nat.le_trans (hlen i j hi hj) (by decide)) (qnp S I V x)
   have le2:=q92 (L:=List.range n) (b:=b);rw[List.length_range]at le2;have hbig: ∀i j,i<n->j<n->blen (syD S I V x i j).natAbs<=10000:=fun i j hi hj=>Nat.le_trans (hlen i j hi hj) (by decide)
   have hsum:wI (((npos (List.range n) (fun i=> -b i):Nat):Int)+((n-(npos (List.range n) b+npos (List.range n) (fun i=> -b i)):Nat):Int))=((n-npos (List.range n) b:Nat):Int):=by
    rw[wQ,wi O O];omega
   refine⟨n-npos (List.range n) b,⟨fun h=>absurd h hne.1,fun h=>absurd h hne.2,fun _=>⟨W,b,d1,rfl⟩,O⟩,?_,?_⟩
   . rw[g63,j1,bS];dsimp only;rw[show((0:Int) !=0)=false from rfl,cond_false,qg3 hm hG O hx hF,bS,qp2 hm O hbig,bS,d2,bS,bS]
     dsimp only;rw[hsum]
   . rw[ql8 hm hG O hx hF,bS];dsimp only;rw[g51,qox hm O hbig,bS,d3,bS];dsimp only;rw[hsum,bS]
 . rcases q60 hx hF h3 with rfl|rfl
   . refine⟨n,⟨fun _=>rfl,fun h=>absurd h (by decide),fun h=>absurd h hF,Nat.le_refl _⟩,?_,?_⟩
     . rw[iP rfl]
     . rw[iN' (by decide),iP rfl]
   . refine⟨0,⟨fun h=>absurd h (by decide),fun _=>rfl,fun h=>absurd h hF,Nat.zero_le _⟩,?_,?_⟩
     . rw[iN' (by decide),iP rfl];rfl
     . rw[iP rfl];rfl
end
end Go.Vs.F
set_option maxRecDepth 100000
namespace Go.Vs.F
theorem q1o {m:Nat} (hm:10<m) {f:Int} (h:U64 f):g57 m f=some (keyR f,(),())/\g24 m f=some (keyR f,(),()):=by
 obtain⟨k,h1,h2,h3⟩:=q3d (m:=m) h;have ht:=tops h;have hl:=Y8 f;unfold keyR;constructor
 . rw[g57,h1,bS,bif_eq,g78,qkg hm h,bS,ht.2.1];dsimp only;by_cases c:k=3
   . rw[iP c,iP (h3.1 c)]
   . have hb:nanB f=false:=by
      cases hb:nanB f
      . rfl
      . exact absurd (h3.2 hb) c
     rw[iN' c,hb];simp only[cond_false,bS,bif_ne,wQ];rw[wi (n:=lowF f) O O,wi (n:=0-lowF f) O O];have h1:=h.1;have h2:=h.2;unfold keyF;by_cases d:f=lowF f
     . rw[iP d,iN' (show¬9223372036854775808<=f by omega)];rfl
     . rw[iN' d,iP (show 9223372036854775808<=f by unfold lowF at d;omega),Int.zero_sub];rfl
 . rw[g24,h2,bS,bif_eq,ht.1,ht.2.1];dsimp only;by_cases c:k=3
   . rw[iP c,iP (h3.1 c)]
   . have hb:nanB f=false:=by
      cases hb:nanB f
      . rfl
      . exact absurd (h3.2 hb) c
     rw[iN' c,hb];simp only[bif_ne,wQ];rw[wi (n:=lowF f) O O,wi (n:=0-lowF f) O O];unfold keyF;by_cases d:9223372036854775808<=f
     . rw[iP d,iN' O,iP d,Int.zero_sub];rfl
     . rw[iN' d,iP rfl,iN' d];rfl
theorem qa9 {m:Nat} (hm:10<m) {a b:Int} (ha:U64 a) (hb:U64 b):g42 m a b=some (midR a b,(),(),())/\g55 m a b=some (midR a b,(),(),()):=by
 obtain⟨a1,a2⟩:=q1o hm ha;obtain⟨b1,b2⟩:=q1o hm hb;rw[g42,g55,a1,a2,bS,bS,b1,b2,bS,bS];unfold keyR midR;cases na:nanB a
 . cases nb:nanB b
   . have ka:=q1h na;have kb:=q1h nb;obtain⟨m1,m2⟩:=qas (m:=m) ka kb;have km:inK ((keyF a+keyF b)/2):=by unfold inK at*;omega
     obtain⟨f1,f2⟩:=q1d hm (k:=(keyF a+keyF b)/2) (by unfold inK at km;unfold I64;omega)
     have hr:fromR ((keyF a+keyF b)/2)=(fromK ((keyF a+keyF b)/2),true,()):=iP km;simp only[Bool.false_eq_true,if_false,Bool.not_true,cond_false,m1,m2,bS,f1,f2,hr,and_self]
   . simp
 . simp
theorem qlf {m:Nat} (hm:10<m) {a b:Int} (ha:inK a) (hb:inK b):g42 m (fromK a) (fromK b)=some ((fromK ((a+b)/2),true,()),(),(),())/\g55 m (fromK a) (fromK b)=some ((fromK ((a+b)/2),true,()),(),(),()):=by
 obtain⟨h1,h2⟩:=qa9 hm (Js ha) (Js hb)
 have e:midR (fromK a) (fromK b)=(fromK ((a+b)/2),true,()):=by
  unfold midR;rw[(Xo ha).2,(Xo hb).2,(Xo ha).1,(Xo hb).1];rfl
 rw[e]at h1 h2;exact⟨h1,h2⟩
theorem wrap_one {n:Int} (h1: -18446744073709551615<n) (h2:n<18446744073709551616):(IntKind.wrap .i64 n==1)=decide (n=1):=by
 have e:IntKind.wrap .i64 n=if(n%18446744073709551616>=9223372036854775808)then n%18446744073709551616-18446744073709551616 else n%18446744073709551616:=by
  unfold IntKind.wrap;show(if(true&&decide (n%18446744073709551616>=9223372036854775808))=true then n%18446744073709551616-18446744073709551616 else n%18446744073709551616)=_
  simp
 rw[e,Bool.eq_iff_iff,beq_iff_eq,decide_eq_true_eq];split<;>omega
theorem qee {m:Nat} (hm:10<m) {a b:Int} (ha:inK a) (hb:inK b):g41 m (fromK a) (fromK b)=some (decide (b=a+1),(),(),())/\g54 m (fromK a) (fromK b)=some (decide (b=a+1),(),(),()):=by
 have e: ∀k,inK k->keyR (fromK k)=(k,true,()):=fun k hk=>by unfold keyR;rw[(Xo hk).2,(Xo hk).1];rfl
 obtain⟨h1,h2⟩:=q1o hm (Js ha);obtain⟨h3,h4⟩:=q1o hm (Js hb);unfold inK at ha hb;rw[g41,g54,h1,h2,h3,h4,e a ha,e b hb];simp only[bS,wQ];rw[wi (n:=b-1) O O,wrap_one (n:=b-a) O O];by_cases c:b=a+1
 . rw[decide_eq_true c,show b-1=a by omega,decide_eq_true (show b-a=1 by omega)];simp
 . rw[decide_eq_false c,show(b-1==a)=false by simp;omega,decide_eq_false (show¬b-a=1 by omega)]
   exact⟨rfl,rfl⟩
section
variable {m:Nat} (hm:5000000000<=m) {n:Nat} {S I V:LI} {C:Int->Nat}
 (hC: ∀q,inK q->g43 m (n:Int) (n:Int) S I V (fromK q)=some (((C q:Int),0,()),(),(),())/\g25 m (n:Int) (n:Int) S I V (fromK q)=some (((C q:Int),0,()),(),(),()))
include hm hC
theorem qpr (k:Int) (a b c a' b' c' z:Int): ∀(t N:Nat) (lo hi:Int),t<N->inK lo->inK hi->lo<hi->hi-lo<=2^t->
 ∃l,inK l/\inK (l+1)/\(((C lo:Int)<=k)->((C l:Int)<=k))/\((k<(C hi:Int))->(k<(C (l+1):Int)))/\lo<=l/\l+1<=hi/\
  g16L0 m N k (n:Int) (n:Int) S I V a b c (fromK lo) (fromK hi) z=some (.inl (((n:Int),(n:Int),S,I,V,()),(a,b,c,()),(fromK l,fromK (l+1),z,()),()))/\
  g17L0 m N k (n:Int) (n:Int) S I V a' b' c' lo hi=some (.inl (((n:Int),(n:Int),S,I,V,()),(a',b',c',()),l,l+1,())):=by
 intro t;induction t with
 |zero=>
  intro N lo hi hN h1 h2 h3 h4;obtain⟨N,rfl⟩: ∃N',N=N'+1:=⟨N-1,O⟩;have:hi=lo+1:=by rw[Int.pow_zero]at h4;omega
  subst this;have r1:=h1;have r2:=h2;unfold inK at r1 r2;refine⟨lo,h1,h2,fun h=>h,fun h=>h,Int.le_refl _,Int.le_refl _,?_,?_⟩
  . rw[g16L0,(qee O h1 h2).1,bS,decide_eq_true rfl];rfl
  . rw[g17L0,wQ,wi O O,bQ,iN' O]
 |succ t ih=>
  intro N lo hi hN h1 h2 h3 h4;obtain⟨N,rfl⟩: ∃N',N=N'+1:=⟨N-1,O⟩;have r1:=h1;have r2:=h2;unfold inK at r1 r2;rw[g16L0,g17L0,(qee O h1 h2).1,bS,wQ,wi (n:=lo+1) O O,bQ];by_cases c0:hi=lo+1
  . subst c0;rw[decide_eq_true rfl,iN' O];exact⟨lo,h1,h2,fun h=>h,fun h=>h,Int.le_refl _,Int.le_refl _,rfl,rfl⟩
  . rw[decide_eq_false c0,iP O];obtain⟨m1,m2⟩:=qas (m:=m) r1 r2;have hq:inK ((lo+hi)/2):=by unfold inK;omega
    obtain⟨f1,f2⟩:=q1d (m:=m) O (k:=(lo+hi)/2) (by unfold inK at hq;unfold I64;omega)
    have hr:fromR ((lo+hi)/2)=(fromK ((lo+hi)/2),true,()):=iP hq;obtain⟨c1,c2⟩:=hC _ hq;rw[(qlf O h1 h2).1,m2,bS,bS];dsimp only;rw[f2,hr,c1,bS,bS];dsimp only;rw[c2,bS,bQ,bQ,Bool.not_false,cond_true];dsimp only;have hp:(2:Int)^(t+1)=2^t+2^t:=by rw[Int.pow_succ];omega
    by_cases g:(C ((lo+hi)/2):Int)>k
    . rw[iP g,iP g];obtain⟨l,q1,q2,q3,q4,q5,q6,q7,q8⟩:=ih N lo ((lo+hi)/2) O h1 hq O O;exact⟨l,q1,q2,q3,fun _=>q4 g,q5,O,q7,q8⟩
    . rw[iN' g,iN' g];obtain⟨l,q1,q2,q3,q4,q5,q6,q7,q8⟩:=ih N ((lo+hi)/2) hi O hq h2 O O;exact⟨l,q1,q2,fun _=>q3 O,q4,O,q6,q7,q8⟩
end
end Go.Vs.F
set_option maxRecDepth 100000
namespace Go.Vs.F
theorem q52 {m:Nat} (hm:5000000000<=m) {n:Nat} {S I V:LI} (hG:GI n n S I V) (h5:n<=5):g33 m (n:Int) (n:Int) S I V=some (0,(),())/\g37 m (n:Int) (n:Int) S I V=some (0,(),()):=by
 have hMV:=hG.MV O O;have hck:=hMV.chk;have hsl:=hMV.sl;have hsz:=hMV.ok.sz;have hvl:=hMV.vl;constructor
 . rw[g33,g56eq O O O O O,bS,hck,bQ,iN' O];dsimp only;rw[show((0:Int) !=0)=false from rfl,cond_false,bne_self_eq_false,cond_false]
 . obtain⟨c,_,_,h⟩:=Zl hm hG h5 (x:=0) qit.1 (by decide)
   rw[g37,h,bS]
theorem qpg {m:Nat} (hm:5000000000<=m) {n:Nat} {S I V:LI} (hG:GI n n S I V) (h5:n<=5): ∃C:Int->Nat,∀q,inK q->CntS n S I V (fromK q) (C q)/\
 g43 m (n:Int) (n:Int) S I V (fromK q)=some (((C q:Int),0,()),(),(),())/\g25 m (n:Int) (n:Int) S I V (fromK q)=some (((C q:Int),0,()),(),(),()):=by
 have hA: ∀q,∃c:Nat,inK q->CntS n S I V (fromK q) c/\g43 m (n:Int) (n:Int) S I V (fromK q)=some (((c:Int),0,()),(),(),())/\g25 m (n:Int) (n:Int) S I V (fromK q)=some (((c:Int),0,()),(),(),()):=by
  intro q;by_cases hq:inK q
  . obtain⟨c,g1,g2,g3⟩:=Zl hm hG h5 (Js hq) (qg0 hq);exact⟨c,fun _=>⟨g1,g2,g3⟩⟩
  . exact⟨0,fun h=>absurd h hq⟩
 exact Classical.axiomOfChoice hA
theorem qh7 {m:Nat} (hm:5000000000<=m) {n:Nat} {S I V:LI} (hG:GI n n S I V) (h5:n<=5) (k:Int):
 ∃r,g16 m (n:Int) (n:Int) S I V k=some (r,(),(),())/\g17 m (n:Int) (n:Int) S I V k=some (r,(),(),())/\(¬(0<=k/\k<(n:Int))->r=((0,0,0,()),3,()))/\
  ((0<=k/\k<(n:Int))-> ∃(l:Int) (c1 c2:Nat),inK l/\inK (l+1)/\r=((fromK l,fromK (l+1),(c2:Int)-(c1:Int),()),0,())/\CntS n S I V (fromK l) c1/\CntS n S I V (fromK (l+1)) c2/\(c1:Int)<=k/\k<(c2:Int)):=by
 obtain⟨k1,k2⟩:=q52 hm hG h5;rw[g16,g17,k1,k2,bS,bS,bQ,bQ,bQ,bQ];dsimp only;rw[show((0:Int) !=0)=false from rfl,cond_false,cond_false]
 by_cases c1:k<0
 . rw[iP c1,iP c1];exact⟨_,rfl,rfl,fun _=>rfl,fun h=>O⟩
 . rw[iN' c1,iN' c1];by_cases c2:k>=(n:Int)
   . rw[iP c2,iP c2];exact⟨_,rfl,rfl,fun _=>rfl,fun h=>O⟩
   . rw[iN' c2,iN' c2];obtain⟨C,hC⟩:=qpg hm hG h5;obtain⟨l,q1,q2,q3,q4,q5,q6,q7,q8⟩:=qpr hm (C:=C) (fun q hq=>(hC q hq).2) k 0 0 0 0 0 0 0 66 m (-9218868437227405312) 9218868437227405312 O q91.1 q91.2 O (by decide)
     have K1:=qcw (m:=m) O (f:=18442240474082181120) ⟨O,O⟩;have K2:=qcw (m:=m) O (f:=9218868437227405312) ⟨O,O⟩;have e1:keyR 18442240474082181120=(-9218868437227405312,true,()):=by decide
     have e2:keyR 9218868437227405312=(9218868437227405312,true,()):=by decide
     rw[show fromK (-9218868437227405312)=18442240474082181120 by decide,show fromK 9218868437227405312=9218868437227405312 by decide]at q7
     rw[q7,K1,bS,bS,K2,bS,e1,e2];dsimp only;rw[q8,bS];dsimp only;have i1:=q1;have i2:=q2;unfold inK at i1 i2;obtain⟨f1,f2⟩:=q1d (m:=m) O (k:=l) (by unfold I64;omega)
     obtain⟨f3,f4⟩:=q1d (m:=m) O (k:=l+1) (by unfold I64;omega)
     rw[show fromR l=(fromK l,true,())from iP q1]at f1 f2
     rw[show fromR (l+1)=(fromK (l+1),true,())from iP q2]at f3 f4
     obtain⟨t1,a1,b1⟩:=hC l q1;obtain⟨t2,a2,b2⟩:=hC (l+1) q2;have l1:=t1.2.2.2;have l2:=t2.2.2.2;have w:wI (((C (l+1):Nat):Int)-((C l:Nat):Int))=((C (l+1):Nat):Int)-((C l:Nat):Int):=by rw[wQ,wi O O]
     rw[g36,a1,bS,a2,bS,bS,f2,bS,f4,bS];dsimp only;rw[g20,b2,bS,b1,bS,bS];dsimp only;rw[w];obtain⟨z1,_,_⟩:=hC _ q91.1;obtain⟨z2,_,_⟩:=hC _ q91.2;have y1:C (-9218868437227405312)=0:=z1.2.1 (by decide)
     have y2:C 9218868437227405312=n:=z2.1 (by decide)
     exact⟨_,rfl,rfl,fun h=>absurd ⟨O,O⟩ h,fun _=>⟨l,C l,C (l+1),q1,q2,rfl,t1,t2,q3 O,q4 O⟩⟩
end Go.Vs.F
set_option maxRecDepth 100000
namespace Go.Vs.F
theorem q9v {f:Int} (h:U64 f):FinF f↔lowF f<9218868437227405312:=by unfold FinF fexp lowF;obtain⟨h1,h2⟩:=h;omega
theorem qqf {n:Nat} {S I V:LI} {x y:Int} (h:valF x<=valF y) (v:Nat->Rat):qf (List.range n) (qM (syD S I V y)) v<=qf (List.range n) (qM (syD S I V x)) v:=by
 refine qlg (fun i j _ _ hij=> ?_) (fun i _=> ?_) v
 . unfold syD;rw[iN' hij,iN' hij]
 . unfold syD;rw[iP rfl,iP rfl];omega
theorem q5t {n:Nat} {S I V:LI} {x y:Int} {c1 c2:Nat} (hx:U64 x) (hy:U64 y) (nx:nanB x=false) (ny:nanB y=false) (h:keyF x<=keyF y) (h1:CntS n S I V x c1) (h2:CntS n S I V y c2):c1<=c2:=by
 have kx:kindN x≠3:=by rw[Ne,q2s hx,nx];simp
 have ky:kindN y≠3:=by rw[Ne,q2s hy,ny];simp
 have rx:=q1h nx;have ry:=q1h ny;unfold inK at rx ry;obtain⟨a1,a2,a3,a4⟩:=h1;obtain⟨b1,b2,b3,b4⟩:=h2;by_cases fx:FinF x
 . by_cases fy:FinF y
   . exact cnt_mono (qqf (qn6 hx hy fx fy h)) (a3 fx) (b3 fy)
   . rcases q60 hy fy ky with rfl|rfl
     . rw[b1 rfl];exact a4
     . exfalso;have h3:keyF infM= -9218868437227405312:=by decide
       have h4:=(q9v hx).1 fx;have h5:=Y8 x;unfold keyF at h h3;rw[h3]at h;split at h<;>omega
 . rcases q60 hx fx kx with rfl|rfl
   . by_cases fy:FinF y
     . exfalso;have h3:keyF infP=9218868437227405312:=by decide
       have h4:=(q9v hy).1 fy;have h5:=Y8 y;unfold keyF at h h3;rw[h3]at h;split at h<;>omega
     . rcases q60 hy fy ky with rfl|rfl
       . rw[b1 rfl];exact a4
       . exact absurd h (by decide)
   . rw[a2 rfl];exact Nat.zero_le _
end Go.Vs.F
set_option maxRecDepth 100000
namespace Go.Vs.F
def Vx (x:Int):Prop:=U64 x/\nanB x=false
def mdF (x y:Int):Int:=fromK ((keyF x+keyF y)/2)
theorem md_ok {x y:Int} (hx:Vx x) (hy:Vx y):Vx (mdF x y)/\keyF (mdF x y)=(keyF x+keyF y)/2:=by
 have a:=q1h hx.2;have b:=q1h hy.2;have q:inK ((keyF x+keyF y)/2):=by unfold inK at*;omega
 exact⟨⟨Js q,(Xo q).2⟩,(Xo q).1⟩
theorem mid_V {m:Nat} (hm:10<m) {x y:Int} (hx:Vx x) (hy:Vx y):g42 m x y=some ((mdF x y,true,()),(),(),())/\g55 m x y=some ((mdF x y,true,()),(),(),()):=by
 obtain⟨h1,h2⟩:=qa9 hm hx.1 hy.1
 have e:midR x y=(mdF x y,true,()):=by
  unfold midR;rw[hx.2,hy.2];rfl
 rw[e]at h1 h2;exact⟨h1,h2⟩
theorem adj_V {m:Nat} (hm:10<m) {a b:Int} (ha:Vx a) (hb:Vx b):g41 m a b=some (decide (keyF b=keyF a+1),(),(),())/\g54 m a b=some (decide (keyF b=keyF a+1),(),(),()):=by
 have e: ∀k,Vx k->keyR k=(keyF k,true,()):=fun k hk=>by unfold keyR;rw[hk.2];rfl
 obtain⟨h1,h2⟩:=q1o hm ha.1;obtain⟨h3,h4⟩:=q1o hm hb.1;have ra:=q1h ha.2;have rb:=q1h hb.2;unfold inK at ra rb;rw[g41,g54,h1,h2,h3,h4,e a ha,e b hb];simp only[bS,wQ];rw[wi (n:=keyF b-1) O O,wrap_one (n:=keyF b-keyF a) O O];by_cases c:keyF b=keyF a+1
 . rw[decide_eq_true c,show keyF b-1=keyF a by omega,decide_eq_true (show keyF b-keyF a=1 by omega)];simp
 . rw[decide_eq_false c,show(keyF b-1==keyF a)=false by simp;omega,decide_eq_false (show¬keyF b-keyF a=1 by omega)]
   exact⟨rfl,rfl⟩
abbrev Sl:=Int×Int×Int
def isoP (C:Int->Nat):Nat->Int->Int->List Sl
 |0,_,_=>[]
 |t+1,lo,hi=>if(C hi:Int)-(C lo:Int)=0 then []else if(C hi:Int)-(C lo:Int)=1\/keyF hi=keyF lo+1 then [(lo,(hi,(C hi:Int)-(C lo:Int)))]else isoP C t lo (mdF lo hi)++isoP C t (mdF lo hi) hi
theorem Jm {C:Int->Nat} (mono: ∀a b,Vx a->Vx b->keyF a<=keyF b->C a<=C b): ∀(t:Nat) (lo hi:Int),Vx lo->Vx hi->keyF lo<=keyF hi->(isoP C t lo hi).length+C lo<=C hi
 |0,lo,hi,h1,h2,h=>by have:=mono lo hi h1 h2 h;simpa [isoP]using this
 |t+1,lo,hi,h1,h2,h=>by
  have hm:=mono lo hi h1 h2 h;rw[isoP];by_cases c0:(C hi:Int)-(C lo:Int)=0
  . rw[iP c0];simpa using hm
  . rw[iN' c0];by_cases c1:(C hi:Int)-(C lo:Int)=1\/keyF hi=keyF lo+1
    . rw[iP c1];show 1+C lo<=C hi;omega
    . rw[iN' c1,List.length_append];obtain⟨hq,hk⟩:=md_ok h1 h2;have a:=Jm mono t lo (mdF lo hi) h1 hq O;have b:=Jm mono t (mdF lo hi) hi hq h2 O;omega
section
variable {n:Nat} {S I V:LI} {C:Int->Nat} (mono: ∀a b,Vx a->Vx b->keyF a<=keyF b->C a<=C b) (hn: ∀q,Vx q->C q<=100)
 (hC: ∀m:Nat,5000000000<=m-> ∀q,Vx q->g43 m (n:Int) (n:Int) S I V q=some (((C q:Int),0,()),(),(),())/\g25 m (n:Int) (n:Int) S I V q=some (((C q:Int),0,()),(),(),()))
include mono hn hC
theorem q5e {m:Nat} (hm:5000000000<=m) {lo hi:Int} (h1:Vx lo) (h2:Vx hi):g36 m (n:Int) (n:Int) S I V lo hi=some ((C hi:Int)-(C lo:Int),(),(),(),())/\g20 m (n:Int) (n:Int) S I V lo hi=some ((C hi:Int)-(C lo:Int),(),(),(),()):=by
 obtain⟨a1,a2⟩:=hC m hm lo h1;obtain⟨b1,b2⟩:=hC m hm hi h2;have l1:=hn lo h1;have l2:=hn hi h2;rw[g36,g20,a1,a2,b1,b2];simp only[bS];rw[wQ,wi O O];exact⟨rfl,rfl⟩
theorem qqk: ∀(t m:Nat) (lo hi:Int),5000000000+t<m->Vx lo->Vx hi->keyF lo<keyF hi->keyF hi-keyF lo<=2^t->
 g39 m (n:Int) (n:Int) S I V lo hi=some (isoP C (t+1) lo hi,(),(),(),()):=by
 intro t;induction t with
 |zero=>
  intro m lo hi hm h1 h2 h3 h4;obtain⟨m,rfl⟩: ∃m',m=m'+1:=⟨m-1,O⟩;have:keyF hi=keyF lo+1:=by rw[Int.pow_zero]at h4;omega
  rw[g39,(q5e mono hn hC O h1 h2).2,bS,bif_eq,bif_eq,(adj_V O h1 h2).2,isoP,iP (Or.inr this)];dsimp only;by_cases c0:(C hi:Int)-(C lo:Int)=0
  . rw[iP c0,iP c0]
  . rw[iN' c0,iN' c0];by_cases c1:(C hi:Int)-(C lo:Int)=1
    . rw[iP c1]
    . rw[iN' c1,bS,decide_eq_true this];rfl
 |succ t ih=>
  intro m lo hi hm h1 h2 h3 h4;obtain⟨m,rfl⟩: ∃m',m=m'+1:=⟨m-1,O⟩;rw[g39,(q5e mono hn hC O h1 h2).2,bS,bif_eq,bif_eq,(adj_V O h1 h2).2,isoP];dsimp only;by_cases c0:(C hi:Int)-(C lo:Int)=0
  . rw[iP c0,iP c0]
  . rw[iN' c0,iN' c0];by_cases c1:(C hi:Int)-(C lo:Int)=1
    . rw[iP c1,iP (Or.inl c1)]
    . rw[iN' c1,bS];by_cases c2:keyF hi=keyF lo+1
      . rw[decide_eq_true c2,iP (Or.inr c2)];rfl
      . rw[decide_eq_false c2,iN' (show¬((C hi:Int)-(C lo:Int)=1\/keyF hi=keyF lo+1)from fun h=>h.elim c1 c2)]
        obtain⟨hq,hk⟩:=md_ok h1 h2;have hp:(2:Int)^(t+1)=2^t+2^t:=by rw[Int.pow_succ];omega
        have e1:=ih m lo (mdF lo hi) O h1 hq O O;have e2:=ih m (mdF lo hi) hi O hq h2 O O;have b1:=Jm mono (t+1) lo (mdF lo hi) h1 hq O;have b2:=Jm mono (t+1) (mdF lo hi) hi hq h2 O;have l1:=hn _ hq;have l2:=hn hi h2;dsimp only;rw[cond_false,(mid_V O h1 h2).2,bS];dsimp only;rw[e1,bS,e2,bS];dsimp only;rw[iP O]
theorem qq3: ∀(t m:Nat) (lo hi:Int) (out:List Sl),5000000000+t<m->Vx lo->Vx hi->keyF lo<keyF hi->keyF hi-keyF lo<=2^t->out.length+C hi<=1000000+C lo->
 g35 m (n:Int) (n:Int) S I V lo hi ((C hi:Int)-(C lo:Int)) out=some (out++isoP C (t+1) lo hi,(),(),(),(),(),()):=by
 intro t;induction t with
 |zero=>
  intro m lo hi out hm h1 h2 h3 h4 ho;obtain⟨m,rfl⟩: ∃m',m=m'+1:=⟨m-1,O⟩;have:keyF hi=keyF lo+1:=by rw[Int.pow_zero]at h4;omega
  have l1:=hn _ h1;rw[g35,bif_eq,bif_eq,(adj_V O h1 h2).1,isoP,iP (Or.inr this)];by_cases c0:(C hi:Int)-(C lo:Int)=0
  . rw[iP c0,iP c0,List.append_nil]
  . rw[iN' c0,iN' c0];by_cases c1:(C hi:Int)-(C lo:Int)=1
    . rw[iP c1,iP (by show _+1<=_;omega)]
    . rw[iN' c1,bS,decide_eq_true this];dsimp only;rw[cond_true,iP (by show _+1<=_;omega)]
 |succ t ih=>
  intro m lo hi out hm h1 h2 h3 h4 ho;obtain⟨m,rfl⟩: ∃m',m=m'+1:=⟨m-1,O⟩;have l1:=hn _ h1;rw[g35,bif_eq,bif_eq,(adj_V O h1 h2).1,isoP];by_cases c0:(C hi:Int)-(C lo:Int)=0
  . rw[iP c0,iP c0,List.append_nil]
  . rw[iN' c0,iN' c0];by_cases c1:(C hi:Int)-(C lo:Int)=1
    . rw[iP c1,iP (Or.inl c1),iP (by show _+1<=_;omega)]
    . rw[iN' c1,bS];by_cases c2:keyF hi=keyF lo+1
      . rw[decide_eq_true c2,iP (Or.inr c2)];dsimp only;rw[cond_true,iP (by show _+1<=_;omega)]
      . rw[decide_eq_false c2,iN' (show¬((C hi:Int)-(C lo:Int)=1\/keyF hi=keyF lo+1)from fun h=>h.elim c1 c2)]
        obtain⟨hq,hk⟩:=md_ok h1 h2;have hp:(2:Int)^(t+1)=2^t+2^t:=by rw[Int.pow_succ];omega
        have mo:=mono (mdF lo hi) hi hq h2 O;have b1:=Jm mono (t+1) lo (mdF lo hi) h1 hq O;have l2:=hn hi h2;have l3:=hn _ hq;have e1:=ih m lo (mdF lo hi) out O h1 hq O O O;have e2:=ih m (mdF lo hi) hi (out++isoP C (t+1) lo (mdF lo hi)) O hq h2 O O (by rw[List.length_append];omega)
        dsimp only;rw[cond_false,(mid_V O h1 h2).1,bS];dsimp only;rw[(q5e mono hn hC O h1 hq).1,bS];dsimp only;rw[e1,bS,wQ,wi O O,show(C hi:Int)-(C lo:Int)-((C (mdF lo hi):Int)-(C lo:Int))=(C hi:Int)-(C (mdF lo hi):Int) by omega]
        dsimp only;rw[e2,bS,List.append_assoc]
theorem iso9: ∀(t m:Nat) (lo hi:Int),5000000000+t<m->Vx lo->Vx hi->keyF lo<keyF hi->keyF hi-keyF lo<=2^t->
 g35b m (n:Int) (n:Int) S I V lo hi ((C hi:Int)-(C lo:Int))=some (isoP C (t+1) lo hi,(),(),(),(),(),()):=by
 intro t;induction t with
 |zero=>
  intro m lo hi hm h1 h2 h3 h4;obtain⟨m,rfl⟩: ∃m',m=m'+1:=⟨m-1,O⟩;have:keyF hi=keyF lo+1:=by rw[Int.pow_zero]at h4;omega
  have l1:=hn _ h1;rw[g35b,bif_eq,bif_eq,(adj_V O h1 h2).1,isoP,iP (Or.inr this)];by_cases c0:(C hi:Int)-(C lo:Int)=0
  . rw[iP c0,iP c0]
  . rw[iN' c0,iN' c0];by_cases c1:(C hi:Int)-(C lo:Int)=1
    . rw[iP c1,iP (by show 1<=_;omega)]
    . rw[iN' c1,bS,decide_eq_true this];dsimp only;rw[cond_true,iP (by show 1<=_;omega)]
 |succ t ih=>
  intro m lo hi hm h1 h2 h3 h4;obtain⟨m,rfl⟩: ∃m',m=m'+1:=⟨m-1,O⟩;have l1:=hn _ h1;rw[g35b,bif_eq,bif_eq,(adj_V O h1 h2).1,isoP];by_cases c0:(C hi:Int)-(C lo:Int)=0
  . rw[iP c0,iP c0]
  . rw[iN' c0,iN' c0];by_cases c1:(C hi:Int)-(C lo:Int)=1
    . rw[iP c1,iP (Or.inl c1),iP (by show 1<=_;omega)]
    . rw[iN' c1,bS];by_cases c2:keyF hi=keyF lo+1
      . rw[decide_eq_true c2,iP (Or.inr c2)];dsimp only;rw[cond_true,iP (by show 1<=_;omega)]
      . rw[decide_eq_false c2,iN' (show¬((C hi:Int)-(C lo:Int)=1\/keyF hi=keyF lo+1)from fun h=>h.elim c1 c2)]
        obtain⟨hq,hk⟩:=md_ok h1 h2;have hp:(2:Int)^(t+1)=2^t+2^t:=by rw[Int.pow_succ];omega
        have mo:=mono (mdF lo hi) hi hq h2 O;have b1:=Jm mono (t+1) lo (mdF lo hi) h1 hq O;have l2:=hn hi h2;have l3:=hn _ hq;have e1:=ih m lo (mdF lo hi) O h1 hq O O;have e2:=qq3 mono hn hC t m (mdF lo hi) hi (isoP C (t+1) lo (mdF lo hi)) O hq h2 O O O;dsimp only;rw[cond_false,(mid_V O h1 h2).1,bS];dsimp only;rw[(q5e mono hn hC O h1 hq).1,bS];dsimp only;rw[e1,bS,wQ,wi O O,show(C hi:Int)-(C lo:Int)-((C (mdF lo hi):Int)-(C lo:Int))=(C hi:Int)-(C (mdF lo hi):Int) by omega]
        dsimp only;rw[e2,bS]
end
end Go.Vs.F
set_option maxRecDepth 100000
namespace Go.Vs.F
theorem q5b {x:Int} (h:Vx x):kindN x≠3:=by rw[Ne,q2s h.1,h.2];simp
theorem qlq {n:Nat} {S I V:LI} (hG:GI n n S I V) (h5:n<=5): ∃C:Int->Nat,(∀a b,Vx a->Vx b->keyF a<=keyF b->C a<=C b)/\(∀q,Vx q->CntS n S I V q (C q))/\ ∀m:Nat,5000000000<=m-> ∀q,Vx q->
 g43 m (n:Int) (n:Int) S I V q=some (((C q:Int),0,()),(),(),())/\g25 m (n:Int) (n:Int) S I V q=some (((C q:Int),0,()),(),(),()):=by
 have hA: ∀q,∃c:Nat,Vx q->CntS n S I V q c:=by
  intro q;by_cases hq:Vx q
  . obtain⟨c,g1,_,_⟩:=Zl (m:=5000000000) (Nat.le_refl _) hG h5 hq.1 (q5b hq);exact⟨c,fun _=>g1⟩
  . exact⟨0,fun h=>absurd h hq⟩
 obtain⟨C,hC⟩:=Classical.axiomOfChoice hA;refine⟨C,fun a b ha hb hab=>q5t ha.1 hb.1 ha.2 hb.2 hab (hC a ha) (hC b hb),hC,fun m hm q hq=> ?_⟩
 obtain⟨c,g1,g2,g3⟩:=Zl hm hG h5 hq.1 (q5b hq);have e1:=q5t hq.1 hq.1 hq.2 hq.2 (Int.le_refl _) g1 (hC q hq);have e2:=q5t hq.1 hq.1 hq.2 hq.2 (Int.le_refl _) (hC q hq) g1;have:c=C q:=Nat.le_antisymm e1 e2;subst this;exact⟨g2,g3⟩
theorem qid {m:Nat} (hm:10<m) {x y:Int} (hx:U64 x) (hy:U64 y): ∃b,g34 m x y=some (b,(),(),())/\g38 m x y=some (b,(),(),())/\(b=true↔Vx x/\Vx y/\keyF x<keyF y):=by
 obtain⟨a1,a2⟩:=q1o hm hx;obtain⟨b1,b2⟩:=q1o hm hy;rw[g34,g38,a1,a2,b1,b2];simp only[bS];unfold keyR Vx;cases nx:nanB x
 . cases ny:nanB y
   . exact⟨_,rfl,rfl,by simp[hx,hy]⟩
   . exact⟨_,rfl,rfl,by simp⟩
 . cases ny:nanB y
   . exact⟨_,rfl,rfl,by simp⟩
   . exact⟨_,rfl,rfl,by simp⟩
theorem q2n {m:Nat} (hm:5000000100<=m) {n:Nat} {S I V:LI} (hG:GI n n S I V) (h5:n<=5) {C:Int->Nat} (mono: ∀a b,Vx a->Vx b->keyF a<=keyF b->C a<=C b) (hn: ∀q,Vx q->CntS n S I V q (C q))
 (hC: ∀m:Nat,5000000000<=m-> ∀q,Vx q->g43 m (n:Int) (n:Int) S I V q=some (((C q:Int),0,()),(),(),())/\g25 m (n:Int) (n:Int) S I V q=some (((C q:Int),0,()),(),(),())) {x y:Int} (hx:U64 x) (hy:U64 y):
 ∃r,g12 m (n:Int) (n:Int) S I V x y=some (r,(),(),(),())/\g13 m (n:Int) (n:Int) S I V x y=some (r,(),(),(),())/\
  (Vx x/\Vx y/\keyF x<keyF y->r=(isoP C 66 x y,0,()))/\(¬(Vx x/\Vx y/\keyF x<keyF y)->r=([],400,())):=by
 obtain⟨k1,k2⟩:=q52 (m:=m) O hG h5;obtain⟨b,o1,o2,o3⟩:=qid (m:=m) O hx hy;have hb: ∀q,Vx q->C q<=100:=fun q hq=>by have:=(hn q hq).2.2.2;omega
 rw[g12,g13,k1,k2,bS,bS,o1,o2];dsimp only;rw[show((0:Int) !=0)=false from rfl,cond_false,cond_false,bS,bS]
 dsimp only;cases b
 . exact⟨_,rfl,rfl,fun h=>by simpa using o3.2 h,fun _=>rfl⟩
 . obtain⟨v1,v2,v3⟩:=o3.1 rfl;have r1:=q1h v1.2;have r2:=q1h v2.2;unfold inK at r1 r2;have hp:(2:Int)^65=36893488147419103232:=by decide
   rw[Bool.not_true,cond_false,cond_false,(q5e mono hb hC O v1 v2).1,bS];dsimp only;rw[iso9 mono hb hC 65 m x y O v1 v2 v3 O,qqk mono hb hC 65 m x y O v1 v2 v3 O];exact⟨_,rfl,rfl,fun _=>rfl,fun h=>absurd ⟨v1,v2,v3⟩ h⟩
def idV (i j:Nat):Rat:=if i=j then 1 else 0
theorem qh5 {L:List Nat} (hn:L.Nodup) {y:Nat->Rat} {j:Nat} (hj:j∈L):lin L idV y j=y j:=by
 unfold lin;rw[qf1 hn hj (fun i _ hi=>by unfold idV;rw[iN' hi];grind)]
 unfold idV;rw[iP rfl];grind
theorem qou {L:List Nat} (hn:L.Nodup) {A:Nat->Nat->Rat} (h: ∀i∈L,∀j∈L,i≠j->A i j=0):Dg L A idV (fun i=>A i i):=by
 refine⟨fun y=> ?_,fun y hy i hi=>by rw[<-hy i hi,qh5 hn hi]⟩
 unfold qf;refine qh fun i hi=> ?_
 rw[qf1 hn hi (fun j hj hji=>by rw[h i hi j hj (fun e=>hji e.symm)];grind),qh5 hn hi]
 grind
theorem qkv {n:Nat} {D:Nat->Nat->Int} {c:Nat} (h: ∀i j,i<n->j<n->i≠j->D i j=0) (h1:IsCnt n D c):c=n-npos (List.range n) (fun i=>(D i i:Rat)):=
 qgc h1 ⟨idV,fun i=>(D i i:Rat),qou List.nodup_range (A:=qM D) (fun i hi j hj hij=>by show(D i j:Rat)=0;rw[h i j (List.mem_range.1 hi) (List.mem_range.1 hj) hij];rfl),rfl⟩
def idL (n:Nat):LI:=mr n fun i=>(i:Int)
theorem Zy {n i:Nat} (h:i<n):(idL n).getD i 0=(i:Int):=Qo h
theorem qpa {l:LI} (h:FnL l):GI l.length l.length (idL (l.length+1)) (idL l.length) l:=by
 have e1:(idL (l.length+1)).length=l.length+1:=Q8;have e2:(idL l.length).length=l.length:=Q8;refine⟨⟨e1,Zy O,fun j hj=> ?_,by rw[Zy O,e2]⟩,fun t ht k h1 h2=> ?_,e2.symm,h,?_⟩
 . rw[Zy O,Zy O];omega
 . rw[Zy (n:=l.length+1) (i:=t) O]at h1⊢;rw[Zy (n:=l.length+1) (i:=t+1) O]at h2;have:k=t:=O;subst this;rw[Zy ht];exact⟨O,O,fun h=>O⟩
 . rw[e2];rcases Nat.eq_zero_or_pos l.length with h0|h0
   . rw[h0];omega
   . exact Nat.le_mul_of_pos_right _ h0
theorem qjl {l:LI} {i j:Nat} (hj:j<l.length):elA (idL (l.length+1)) (idL l.length) l i j=if i=j then l.getD j 0 else 0:=by
 unfold elA;rw[Zy O,Zy O];rw[show((j+1:Nat):Int).toNat-((j:Nat):Int).toNat=1 by omega,tN,qfw,Zy hj]
 by_cases c:i=j
 . subst c;rw[iP rfl,iP rfl];rfl
 . rw[iN' O,iN' c];rfl
def dcnt (l:LI) (x:Int):Nat:=((List.range l.length).filter fun i=>decide (keyF (l.getD i 0)<=keyF x)).length
theorem qaf {L:List Nat} {p q:Nat->Bool} (h: ∀i∈L,q i= !p i):L.length-(L.filter q).length=(L.filter p).length:=by
 induction L with
 |nil=>rfl
 |cons a L ih=>
  have h1:=ih fun i hi=>h i (mT hi)
  have h2:=h a mS;have h3:=List.length_filter_le q L;have h4:=List.length_filter_le p L;rw[List.filter_cons,List.filter_cons,h2];cases p a
  . simp only[Bool.not_false,if_true,List.length_cons];simp;omega
  . simp only[Bool.not_true,List.length_cons,if_true];simp;omega
theorem qcn {x y:Int} (hx:U64 x) (hy:U64 y) (fx:FinF x) (fy:FinF y):valF x<=valF y↔keyF x<=keyF y:=by
 constructor
 . intro h;rcases Int.lt_or_le (keyF y) (keyF x)with c|c
   . have:=qn8 hy hx fy fx c;omega
   . exact c
 . exact qn6 hx hy fx fy
theorem qm8 {l:LI} (h:FnL l) {x:Int} (hx:U64 x) (fx:FinF x) {c:Nat} (hc:CntS l.length (idL (l.length+1)) (idL l.length) l x c):c=dcnt l x:=by
 have e:=qkv (fun i j hi hj hij=> ?_) (hc.2.2.1 fx)
 . rw[e,dcnt,npos,<-qaf (L:=List.range l.length) (p:=fun i=>decide (keyF (l.getD i 0)<=keyF x)) (q:=fun i=>decide (0<((syD (idL (l.length+1)) (idL l.length) l x i i:Int):Rat))) (fun i hi=> ?_),List.length_range]
   have hi':=List.mem_range.1 hi;obtain⟨u,f⟩:=h i hi';have k:=qcn u hx f fx;unfold syD;rw[iP rfl,qjl hi',iP rfl]
   have z:(0:Rat)<((valF (l.getD i 0)-valF x:Int):Rat)↔0<valF (l.getD i 0)-valF x:=by
    rw[show(0:Rat)=((0:Int):Rat)from rfl];exact Rat.intCast_lt_intCast
   by_cases g:keyF (l.getD i 0)<=keyF x
   . rw[decide_eq_true g,decide_eq_false (fun w=>by have:=z.1 w;have:=k.2 g;omega)];rfl
   . rw[decide_eq_false g,decide_eq_true (z.2 (by have: ¬valF (l.getD i 0)<=valF x:=fun w=>g (k.1 w);omega))];rfl
 . unfold syD;rw[iN' hij,qjl O,iN' O];exact qb4
theorem qho (m:Nat) (a:List Sl) (hb:a.length<=1000000): ∀(n k:Nat),a.length-k<n->k<=a.length->g14L0 m n a a (k:Int)=some (.inr (.inl ()))
 |0,k,h,_=>O
 |n+1,k,h,hk=>by
  rw[g14L0,bQ];by_cases c:k<a.length
  . rw[iP O,iP O,iP O];simp only[beq_self_eq_true,Bool.and_self,Bool.not_true,cond_false];rw[wQ,wsucc O];exact qho m a hb n (k+1) O O
  . rw[iN' O]
theorem qjr {m:Nat} {a:List Sl} (h:a.length<m) (hb:a.length<=1000000):g14 m a a=some (true,(),(),()):=by
 have e:=qho m a hb m 0 O O;rw[nZ]at e;rw[g14,bne_self_eq_false,cond_false,e,bS]
theorem qer {n:Nat}:idL n++[(n:Int)]=idL (n+1):=Y5 (f:=fun i:Nat=>(i:Int))
theorem q6b (m:Nat) (l:LI) (hl:l.length<=1000000) (a0 a1:Int) (a2 a3 a4:LI) (b0 b1:Int): ∀(n k:Nat),l.length-k<n->k<=l.length->
 sparselaw40_diagonal_L0 m n l a0 a1 a2 a3 a4 b0 b1 (idL (k+1)) (idL k) l (k:Int)=some (.inl ((a0,a1,a2,a3,a4,()),(b0,b1,idL (l.length+1),idL l.length,l,()),()))
 |0,k,h,_=>O
 |n+1,k,h,hk=>by
  rw[sparselaw40_diagonal_L0,bQ];have e1:(idL (k+1)).length=k+1:=Q8;have e2:(idL k).length=k:=Q8;by_cases c:k<l.length
  . rw[iP O,iP (by rw[e2];show k+1<=_;omega),wQ,wsucc O,iP (by rw[e1];show k+1+1<=_;omega),qer,qer]
    exact q6b m l hl a0 a1 a2 a3 a4 b0 b1 n (k+1) O O
  . have:k=l.length:=O;subst this;rw[iN' O]
theorem qdj {m:Nat} {l:LI} (h:l.length<m) (hl:l.length<=1000000):sparselaw40_diagonal m l=some (((l.length:Int),(l.length:Int),idL (l.length+1),idL l.length,l,()),(),()):=by
 have e:=q6b m l hl 0 0 [] [] [] (l.length:Int) (l.length:Int) m 0 O O;rw[nZ,show idL (0+1)=[0]from rfl,show idL 0=[]from rfl]at e
 rw[sparselaw40_diagonal,e,bS]
end Go.Vs.F
set_option maxRecDepth 100000
namespace Go.Vs.F
structure Cnts (n:Nat) (S I V:LI) (C:Int->Nat):Prop where
 mono: ∀a b,Vx a->Vx b->keyF a<=keyF b->C a<=C b
 cnt: ∀q,Vx q->CntS n S I V q (C q)
 at2: ∀m:Nat,5000000000<=m-> ∀q,Vx q->g43 m (n:Int) (n:Int) S I V q=some (((C q:Int),0,()),(),(),())/\g25 m (n:Int) (n:Int) S I V q=some (((C q:Int),0,()),(),(),())
theorem Cnts.ex {n:Nat} {S I V:LI} (hG:GI n n S I V) (h5:n<=5): ∃C,Cnts n S I V C:=by
 obtain⟨C,a,b,c⟩:=qlq hG h5;exact⟨C,a,b,c⟩
theorem Cnts.bd {n:Nat} {S I V:LI} {C:Int->Nat} (h:Cnts n S I V C) (h5:n<=5): ∀q,Vx q->C q<=100:=fun q hq=>by have:=(h.cnt q hq).2.2.2;omega
theorem qf6 {m:Nat} {f:Int} (h:U64 f):g90 m f=some (keyF f,(),()):=by
 have ht:=tops h;have hl:=Y8 f;rw[g90,q21 h,bS,ht.2.1];dsimp only;unfold keyF fneg;by_cases d:9223372036854775808<=f
 . rw[decide_eq_true d,cond_true,iP d,wQ,wQ,wi (n:=lowF f) O O,wi O O,Int.zero_sub]
 . rw[decide_eq_false d,cond_false,iN' d,wQ,wi O O]
theorem qmg {m:Nat} (hm:10<m) {a b:Int} (ha:Vx a) (hb:Vx b):g89 m [a,b]=some (false,(),()):=by
 obtain⟨j,rfl⟩: ∃j,m=j+3:=⟨m-3,O⟩;have k1:=q5b ha;have k2:=q5b hb;have l2:(([a,b]:LI).length:Int)=2:=rfl;rw[g89,l2,g89L0,bQ,iP O,l2,iP O];rw[show([a,b]:LI).getD (0:Int).toNat 0=a from rfl,(q8e ha.1).1,bS,bif_eq,iN' k1,show wI (0+1)=1 from by decide]
 rw[g89L0,bQ,iP O,l2,iP O];rw[show([a,b]:LI).getD (1:Int).toNat 0=b from rfl,(q8e hb.1).1,bS,bif_eq,iN' k2,show wI (1+1)=2 from by decide]
 rw[g89L0,bQ,iN' O,bS]
def cmpK (x y:Int):Int:=if x<y then-1 else if x>y then 1 else 0
theorem pFCmp {m:Nat} (hm:10<m) {a b:Int} (ha:Vx a) (hb:Vx b):g64 m a b=some ((cmpK (keyF a) (keyF b),true,()),(),(),()):=by
 rw[g64,qmg hm ha hb,bS,cond_false,qf6 ha.1,qf6 hb.1,bS,bS,bQ,bQ];dsimp only;unfold cmpK;split
 . rfl
 . split<;>rfl
def slA (l:List Sl) (k:Nat):Sl:=l.getD k (0,(0,0))
def OrdS (x y:Int):Prop:=Vx x/\Vx y/\keyF x<keyF y
def WrS (C:Int->Nat) (l:List Sl) (k:Nat):Prop:= ¬OrdS (slA l k).1 (slA l k).2.1\/(0<k/\keyF (slA l k).1<keyF (slA l (k-1)).2.1)\/(slA l k).2.2≠(C (slA l k).2.1:Int)-(C (slA l k).1:Int)
def UL2 (l:List Sl):Prop:= ∀k,k<l.length->U64 (slA l k).1/\U64 (slA l k).2.1
section
variable {n:Nat} {S I V:LI} {C:Int->Nat} (hC:Cnts n S I V C) (h5:n<=5) {m:Nat} (hm:5000000100<=m)
include hC h5 hm
theorem ql7 {lo hi c:Int} (hx:U64 lo) (hy:U64 hi) {b:List Sl} (hb:b.length<=1000000) (hv:0<b.length->Vx (slA b (b.length-1)).2.1):
 ∃w,g46 m (n:Int) (n:Int) S I V lo hi c b=some (w,(),(),(),())/\(w=true↔ ¬OrdS lo hi\/(0<b.length/\keyF lo<keyF (slA b (b.length-1)).2.1)\/c≠(C hi:Int)-(C lo:Int)):=by
 obtain⟨o,o1,-,o3⟩:=qid (m:=m) O hx hy;rw[g46,o1,bS];dsimp only;cases o
 . rw[Bool.not_false,cond_true];exact⟨true,rfl,fun _=>Or.inl fun h=>by simpa using o3.2 h,fun _=>rfl⟩
 . obtain⟨v1,v2,v3⟩:=o3.1 rfl;have hO:OrdS lo hi:=⟨v1,v2,v3⟩;rw[Bool.not_true,cond_false,bQ,(q5e hC.mono (hC.bd h5) hC.at2 O v1 v2).1];by_cases c0:0<b.length
   . have w1:wI ((b.length:Int)-1)=((b.length-1:Nat):Int):=by rw[wQ,wi O O];omega
     rw[iP O,w1,iP O,tN];have:=pFCmp (m:=m) O v1 (hv c0);unfold slA at this;rw[this,bS,bQ];dsimp only;by_cases c1:keyF lo<keyF (slA b (b.length-1)).2.1
     . have c1':=c1;unfold slA at c1';rw[iP (by unfold cmpK;rw[iP c1'];omega)]
       exact⟨true,rfl,fun _=>Or.inr (Or.inl ⟨c0,c1⟩),fun _=>rfl⟩
     . have c1':=c1;unfold slA at c1';rw[iN' (by unfold cmpK;rw[iN' c1'];split<;>omega),bS]
       refine⟨_,rfl,?_⟩;rw[bne_iff_ne];exact⟨fun h=>Or.inr (Or.inr h),fun h=>h.elim (fun h=>absurd hO h) fun h=>h.elim (fun h=>absurd h.2 c1) id⟩
   . rw[iN' O,bS];refine⟨_,rfl,?_⟩;rw[bne_iff_ne];exact⟨fun h=>Or.inr (Or.inr h),fun h=>h.elim (fun h=>absurd hO h) fun h=>h.elim (fun h=>absurd h.1 c0) id⟩
theorem q99 {l:List Sl} (hl:l.length<=1000000) (hu:UL2 l): ∀(N k:Nat),l.length-k<N->k<=l.length->(∀j,j<k-> ¬WrS C l j)->
 ∃o,g21L0 m N l (n:Int) (n:Int) S I V l (l.length:Int) (k:Int)=some o/\g22L0 m N l (n:Int) (n:Int) S I V (k:Int)=some o/\
  ((∃r:Int,o= .inl (r,0,()))\/o= .inr (.inl ()))/\((∀j,j<l.length-> ¬WrS C l j)->o= .inr (.inl ())):=by
 intro N;induction N with
 |zero=>intro k h;omega
 |succ N ih=>
  intro k hN hk hw;rw[g21L0,bQ];by_cases c:k<l.length
  . have hk2:(0:Int)<=(k:Int)/\(k:Int)<(l.length:Int):=O;obtain⟨u1,u2⟩:=hu k c;have tl:(l.take k).length=k:=by rw[List.length_take];omega
    have tg:0<k->slA (l.take k) (k-1)=slA l (k-1):=fun h=>by unfold slA;simp[List.getD,List.getElem?_take,show k-1<k by omega]
    have pv:0<k->Vx (slA l (k-1)).2.1:=fun h=>by
     have:=hw (k-1) O;unfold WrS at this;exact(Classical.not_not.1 fun g=>this (Or.inl g)).2.1
    obtain⟨w,e1,e2⟩:=ql7 hC h5 hm (c:=(slA l k).2.2) u1 u2 (b:=l.take k) O (by rw[tl];intro h;rw[tg h];exact pv h)
    have e3:w=true↔WrS C l k:=by
     rw[e2,tl];unfold WrS;by_cases h:0<k
     . rw[tg h]
     . simp[h]
    have w1:wI ((k:Int)+1)=((k+1:Nat):Int):=by rw[wQ,wsucc O]
    have rs:(WrS C l k->g22L0 m (N+1) l (n:Int) (n:Int) S I V (k:Int)=some (.inl ((k:Int),0,())))/\(¬WrS C l k->g22L0 m (N+1) l (n:Int) (n:Int) S I V (k:Int)=g22L0 m N l (n:Int) (n:Int) S I V ((k+1:Nat):Int)):=by
     obtain⟨o,-,o2,o3⟩:=qid (m:=m) O u1 u2;unfold slA at o2;rw[g22L0,bQ];simp only[iP hk2,iP hk2.2,tN,o2,bS,w1];cases o
     . rw[Bool.not_false,cond_true];exact⟨fun _=>rfl,fun h=>absurd (Or.inl fun g=>by simpa using o3.2 g) h⟩
     . obtain⟨v1,v2,v3⟩:=o3.1 rfl;have hO:OrdS (slA l k).1 (slA l k).2.1:=⟨v1,v2,v3⟩;have ct:=(q5e hC.mono (hC.bd h5) hC.at2 (m:=m) O v1 v2).2;unfold slA at ct;rw[Bool.not_true,cond_false,ct,bS,bQ];dsimp only;by_cases c1:(slA l k).2.2=(C (slA l k).2.1:Int)-(C (slA l k).1:Int)
       . have c1':=c1;unfold slA at c1';rw[c1',bne_self_eq_false,cond_false];by_cases c2:0<k
         . have wp:wI ((k:Int)-1)=((k-1:Nat):Int):=by rw[wQ,wi O O];omega
           have K1:=(q1o (m:=m) O (pv c2).1).2;have K2:=(q1o (m:=m) O u1).2;have r1:keyR (slA l (k-1)).2.1=(keyF (slA l (k-1)).2.1,true,()):=by unfold keyR;rw[(pv c2).2];rfl
           have r2:keyR (slA l k).1=(keyF (slA l k).1,true,()):=by unfold keyR;rw[v1.2];rfl
           rw[r1]at K1;rw[r2]at K2;unfold slA at K1 K2;rw[iP O,wp,iP O,tN,K1,bS,K2,bS,bQ];dsimp only;by_cases c3:keyF (slA l k).1<keyF (slA l (k-1)).2.1
           . have c3':=c3;unfold slA at c3';rw[iP c3'];exact⟨fun _=>rfl,fun h=>absurd (Or.inr (Or.inl ⟨c2,c3⟩)) h⟩
           . have c3':=c3;unfold slA at c3';rw[iN' c3'];exact⟨fun h=>h.elim (fun h=>absurd hO h) fun h=>h.elim (fun h=>absurd h.2 c3) fun h=>absurd c1 h,fun _=>rfl⟩
         . rw[iN' O];exact⟨fun h=>h.elim (fun h=>absurd hO h) fun h=>h.elim (fun h=>absurd h.1 c2) fun h=>absurd c1 h,fun _=>rfl⟩
       . have c1':=c1;unfold slA at c1';rw[bne_iff_ne.2 c1',cond_true];exact⟨fun _=>rfl,fun h=>absurd (Or.inr (Or.inr c1)) h⟩
    unfold slA at e1;rw[iP hk2.2,iP hk2,iP O,tN,e1,bS,w1];dsimp only;cases w
    . have hW: ¬WrS C l k:=fun h=>by simpa using e3.2 h
      obtain⟨o,g1,g2,g3,g4⟩:=ih (k+1) O O (fun j hj=>by
       rcases Nat.lt_or_eq_of_le (Nat.le_of_lt_succ hj)with h|h
       . exact hw j h
       . rw[h];exact hW)
      rw[cond_false,g1];exact⟨o,rfl,by rw[rs.2 hW];exact g2,g3,g4⟩
    . have hW:WrS C l k:=e3.1 rfl;rw[cond_true];exact⟨_,rfl,rs.1 hW,Or.inl ⟨_,rfl⟩,fun h=>absurd hW (h k c)⟩
  . have:k=l.length:=O;subst this;rw[g22L0,bQ,iN' O,iN' O];exact⟨_,rfl,rfl,Or.inr rfl,fun _=>rfl⟩
theorem qde (hG:GI n n S I V) {l:List Sl} (hl:l.length<=1000000) (hu:UL2 l):
 ∃r:Int,g21 m (n:Int) (n:Int) S I V l=some ((r,0,()),(),(),())/\g22 m (n:Int) (n:Int) S I V l=some ((r,0,()),(),(),())/\((∀j,j<l.length-> ¬WrS C l j)->r= -1):=by
 obtain⟨k1,k2⟩:=q52 (m:=m) O hG h5;obtain⟨o,e1,e2,e3,e4⟩:=q99 hC h5 hm hl hu m 0 O O (fun j h=>absurd h (Nat.not_lt_zero _))
 rw[nZ]at e1 e2;rw[g21,g22,k1,k2,bS,bS];dsimp only;rw[show((0:Int) !=0)=false from rfl,cond_false,cond_false,e1,e2,bS]
 rcases e3 with⟨r,rfl⟩|rfl
 . exact⟨r,rfl,rfl,fun h=>by have:=e4 h;simp at this⟩
 . exact⟨-1,rfl,rfl,fun _=>rfl⟩
end
end Go.Vs.F
set_option maxRecDepth 100000
namespace Go.Vs.F
theorem qfm:keyF infP=9218868437227405312/\keyF infM= -9218868437227405312:=by decide
theorem qi8 {f:Int} (h:U64 f) (hf:FinF f): -9218868437227405312<keyF f/\keyF f<9218868437227405312:=by
 have h1:=(q9v h).1 hf;have h2:=Y8 f;unfold keyF;split<;>omega
theorem filter_all {L:List Nat} {p:Nat->Bool} (h: ∀i∈L,p i=true):(L.filter p).length=L.length:=by rw[List.filter_eq_self.2 h]
theorem filter_none {L:List Nat} {p:Nat->Bool} (h: ∀i∈L,p i=false):(L.filter p).length=0:=by
 rw[List.length_eq_zero_iff,List.filter_eq_nil_iff];intro a ha;rw[h a ha];simp
theorem q9g {l:LI} (h:FnL l) {x:Int} (hx:Vx x) {c:Nat} (hc:CntS l.length (idL (l.length+1)) (idL l.length) l x c):c=dcnt l x:=by
 by_cases fx:FinF x
 . exact qm8 h hx.1 fx hc
 . rcases q60 hx.1 fx (q5b hx)with rfl|rfl
   . rw[hc.1 rfl,dcnt,filter_all,List.length_range];intro i hi;obtain⟨u,f⟩:=h i (List.mem_range.1 hi);rw[qfm.1];exact decide_eq_true (by have:=qi8 u f;omega)
   . rw[hc.2.1 rfl,dcnt,filter_none];intro i hi;obtain⟨u,f⟩:=h i (List.mem_range.1 hi);rw[qfm.2];exact decide_eq_false (by have:=qi8 u f;omega)
theorem q3j {C D:Int->Nat} (h: ∀q,Vx q->C q=D q): ∀(t:Nat) (lo hi:Int),Vx lo->Vx hi->isoP C t lo hi=isoP D t lo hi
 |0,_,_,_,_=>rfl
 |t+1,lo,hi,h1,h2=>by
  have hq:=(md_ok h1 h2).1;rw[isoP,isoP,h lo h1,h hi h2,q3j h t lo _ h1 hq,q3j h t _ hi hq h2]
def twoL:LI:=[4607182418800017408,4611686018427387904]
theorem q8s:FnL twoL:=by
 have h: ∀i,i<2->U64 (twoL.getD i 0)/\FinF (twoL.getD i 0):=by
  intro i hi;rcases(by omega:i=0\/i=1)with rfl|rfl
  . exact⟨⟨by decide,by decide⟩,by decide⟩
  . exact⟨⟨by decide,by decide⟩,by decide⟩
 exact h
abbrev twoR:List Sl:=[(4607173622706995200,(4611681620380876800,1)),(4611681620380876800,(4616189618054758400,1))]
theorem qpn:isoP (dcnt twoL) 66 0 4616189618054758400=twoR:=by decide+kernel
theorem fi2 (j:Nat):g40 (j+200) 2 0=some (4611686018427387904,(),(),()):=by kernel_rfl
theorem fi4 (j:Nat):g40 (j+200) 4 0=some (4616189618054758400,(),(),()):=by kernel_rfl
theorem fi_eq {m:Nat} (hm:200<=m):g40 m 2 0=some (4611686018427387904,(),(),())/\g40 m 4 0=some (4616189618054758400,(),(),()):=by
 obtain⟨j,rfl⟩: ∃j,m=j+200:=⟨m-200,O⟩;exact⟨fi2 j,fi4 j⟩
theorem q7m {x:Int} (h:(decide (0<=x)&&decide (x<18446744073709551616)&& !nanB x)=true):Vx x:=by
 simp only[Bool.and_eq_true,decide_eq_true_eq,Bool.not_eq_true']at h;exact⟨⟨h.1.1,h.1.2⟩,h.2⟩
theorem qr5 {m:Nat} (hm:5000000100<=m):sparselaw40_awake m=some (true,()):=by
 obtain⟨f2,f4⟩:=fi_eq (m:=m) O;have hG:=qpa q8s;obtain⟨C,hC⟩:=Cnts.ex hG (by decide)
 have hD: ∀q,Vx q->C q=dcnt twoL q:=fun q hq=>q9g q8s hq (hC.cnt q hq)
 have v1:Vx 4607173622706995200:=q7m (by decide)
 have v2:Vx 4611681620380876800:=q7m (by decide)
 have v3:Vx 4616189618054758400:=q7m (by decide)
 have v0:Vx 0:=q7m (by decide)
 obtain⟨r,i1,-,i2,-⟩:=q2n hm hG (by decide) hC.mono hC.cnt hC.at2 v0.1 v3.1
 have i3:=i2 ⟨v0,v3,by decide⟩
 rw[q3j hD 66 _ _ v0 v3,qpn]at i3;subst i3;obtain⟨s,k1,-,-,k2⟩:=qh7 (m:=m) O hG (by decide) 0
 obtain⟨l,c1,c2,q1,q2,rfl,q3,q4,q5,q6⟩:=k2 ⟨by decide,by decide⟩
 have w1:Vx (fromK l):=⟨Js q1,(Xo q1).2⟩;have w2:Vx (fromK (l+1)):=⟨Js q2,(Xo q2).2⟩;have d1:=q9g q8s w1 q3;have d2:=q9g q8s w2 q4
 have dc: ∀k,inK k->dcnt twoL (fromK k)=(if 4607182418800017408<=k then 1 else 0)+(if 4611686018427387904<=k then 1 else 0):=by
  intro k hk;unfold dcnt;rw[(Xo hk).1,show List.range twoL.length=[0,1]from rfl,List.filter_cons,List.filter_cons,List.filter_nil,show keyF (twoL.getD 0 0)=4607182418800017408 by decide,show keyF (twoL.getD 1 0)=4611686018427387904 by decide]
  by_cases a:4607182418800017408<=k<;>by_cases b:4611686018427387904<=k<;>simp[a,b]
 rw[dc _ q1]at d1;rw[dc _ q2]at d2
 have hl:l+1=4607182418800017408:=by
  have a: ¬4607182418800017408<=l:=fun h=>by rw[iP h]at d1;omega
  have b:4607182418800017408<=l+1:=by
   rcases Int.lt_or_le (l+1) 4607182418800017408 with h|h
   . rw[iN' O,iN' O]at d2;omega
   . exact h
  omega
 have hw: ∀j,j<twoR.length-> ¬WrS C twoR j:=by
  intro j hj h;have e1:(C 4611681620380876800:Int)-(C 4607173622706995200:Int)=1:=by rw[hD _ v1,hD _ v2];decide
  have e2:(C 4616189618054758400:Int)-(C 4611681620380876800:Int)=1:=by rw[hD _ v2,hD _ v3];decide
  rcases(by have:twoR.length=2:=rfl;omega:j=0\/j=1)with rfl|rfl
  . rcases h with h|h|h
    . exact h ⟨v1,v2,by decide⟩
    . exact absurd h.1 (by decide)
    . exact h e1.symm
  . rcases h with h|h|h
    . exact h ⟨v2,v3,by decide⟩
    . exact absurd h.2 (by decide)
    . exact h e2.symm
 obtain⟨z,g1,-,g2⟩:=qde hC (by decide) hm hG (l:=twoR) (by decide) (fun j hj=>by
  rcases(by have:twoR.length=2:=rfl;omega:j=0\/j=1)with rfl|rfl
  . exact⟨v1.1,v2.1⟩
  . exact⟨v2.1,v3.1⟩)
 have g3:=g2 hw;subst g3;rw[sparselaw40_awake,f2,bS,qdj (l:=[4607182418800017408,4611686018427387904]) (by show 2<m;omega) (by decide),bS,f4,bS]
 dsimp only;have i1':g12 m (([4607182418800017408,4611686018427387904]:LI).length:Int) (([4607182418800017408,4611686018427387904]:LI).length:Int) (idL (([4607182418800017408,4611686018427387904]:LI).length+1)) (idL ([4607182418800017408,4611686018427387904]:LI).length) [4607182418800017408,4611686018427387904] 0 4616189618054758400=some ((twoR,0,()),(),(),(),()):=i1;have k1':g16 m (([4607182418800017408,4611686018427387904]:LI).length:Int) (([4607182418800017408,4611686018427387904]:LI).length:Int) (idL (([4607182418800017408,4611686018427387904]:LI).length+1)) (idL ([4607182418800017408,4611686018427387904]:LI).length) [4607182418800017408,4611686018427387904] 0=some (((fromK l,fromK (l+1),(c2:Int)-(c1:Int),()),0,()),(),(),()):=k1;have g1':g21 m (([4607182418800017408,4611686018427387904]:LI).length:Int) (([4607182418800017408,4611686018427387904]:LI).length:Int) (idL (([4607182418800017408,4611686018427387904]:LI).length+1)) (idL ([4607182418800017408,4611686018427387904]:LI).length) [4607182418800017408,4611686018427387904] twoR=some ((-1,0,()),(),(),()):=g1;rw[i1',bS,k1',bS];dsimp only;rw[g1',bS,hl];rfl
end Go.Vs.F
set_option maxRecDepth 100000
namespace Go.Vs.F
end Go.Vs.F
set_option maxRecDepth 100000
namespace Go.Vs.F
section
variable {n:Nat} {S I V:LI} {C:Int->Nat} (hC:Cnts n S I V C) (h5:n<=5) {m:Nat} (hm:5000000100<=m)
include hC h5 hm
theorem qrc {c:Int} (hc:1<=c) (z0 z1 z2:Int) {T:Nat} (hT:T<=64): ∀(N t:Nat) (lo hi:Int),T-t<N->t<=T->Vx lo->Vx hi-> ∃lo' hi',
 (g28L0 m N (n:Int) (n:Int) S I V lo hi c z0 z1 z2 (T:Int) (t:Int)=some (.inl ((lo',hi',c,()),(z0,z1,z2,()),()))\/g28L0 m N (n:Int) (n:Int) S I V lo hi c z0 z1 z2 (T:Int) (t:Int)=some (.inr (.inl ((lo',hi',c,()),0,()))))/\
 g29L0 m N (T:Int) (n:Int) (n:Int) S I V lo hi c z0 z1 z2 (t:Int)=some (.inl ((lo',hi',c,()),(z0,z1,z2,()),())):=by
 intro N;induction N with
 |zero=>intro t lo hi h;omega
 |succ N ih=>
  intro t lo hi h ht h1 h2;rw[g28L0,g29L0,bQ,bQ];by_cases c0:t<T
  . obtain⟨a1,a2⟩:=adj_V (m:=m) O h1 h2;obtain⟨hq,-⟩:=md_ok h1 h2;obtain⟨m1,m2⟩:=mid_V (m:=m) O h1 h2;obtain⟨k1,k2⟩:=q5e hC.mono (hC.bd h5) hC.at2 (m:=m) O h1 hq;rw[iP O,iP O,a1,a2,bS,bS,wQ,wsucc O];dsimp only;by_cases c1:keyF hi=keyF lo+1
    . rw[decide_eq_true c1,Bool.not_true,cond_true,cond_false];exact⟨lo,hi,Or.inl rfl,rfl⟩
    . rw[decide_eq_false c1,Bool.not_false,cond_true,cond_false,m1,m2,bS,bS];dsimp only;rw[k1,k2,bS,bS];dsimp only;generalize (C (mdF lo hi):Int)-(C lo:Int)=d;rw[bif_eq,bif_eq,bif_ne,bif_ne,bif_eq];by_cases c2:d=0
      . have: ¬d=c:=O;simp only[iN' this,iP c2];exact ih (t+1) _ _ O O hq h2
      . by_cases c3:d=c
        . simp only[iP c3,iN' c2];exact ih (t+1) _ _ O O h1 hq
        . simp only[iN' c3,iN' c2];exact⟨lo,hi,Or.inr rfl,rfl⟩
  . rw[iN' O,iN' O];exact⟨lo,hi,Or.inl rfl,rfl⟩
theorem qrd (hG:GI n n S I V) {lo hi:Int} (hx:U64 lo) (hy:U64 hi) (c st:Int):
 ∃r,g28 m (n:Int) (n:Int) S I V lo hi c st=some (r,(),(),(),())/\g29 m (n:Int) (n:Int) S I V lo hi c st=some (r,(),(),(),()):=by
 obtain⟨k1,k2⟩:=q52 (m:=m) O hG h5;obtain⟨b,o1,o2,o3⟩:=qid (m:=m) O hx hy;rw[g28,g29,k1,k2,bS,bS,o1,o2];dsimp only;rw[show((0:Int) !=0)=false from rfl,cond_false,cond_false,bS,bS]
 dsimp only;cases b
 . exact⟨_,rfl,rfl⟩
 . obtain⟨v1,v2,v3⟩:=o3.1 rfl;rw[Bool.not_true,cond_false,cond_false];simp only[bQ];by_cases c1:st<0
   . rw[iP c1,iP c1];exact⟨_,rfl,rfl⟩
   . rw[iN' c1,iN' c1];by_cases c2:st>64
     . rw[iP c2,iP c2];exact⟨_,rfl,rfl⟩
     . rw[iN' c2,iN' c2];by_cases c3:c<1
       . rw[iP c3,iP c3];exact⟨_,rfl,rfl⟩
       . obtain⟨k1,k2⟩:=q5e hC.mono (hC.bd h5) hC.at2 (m:=m) O v1 v2;rw[iN' c3,iN' c3,k1,k2,bS,bS];dsimp only;by_cases c4:c=(C hi:Int)-(C lo:Int)
         . rw[<-c4,bne_self_eq_false,cond_false,cond_false,cond_false];obtain⟨T,rfl⟩: ∃T:Nat,st=(T:Int):=⟨st.toNat,O⟩;obtain⟨lo',hi',g1,g2⟩:=qrc hC h5 hm (c:=c) O 0 0 0 (T:=T) O m 0 lo hi O O v1 v2;rw[nZ]at g1 g2;rw[g2,bS];rcases g1 with g1|g1
           . rw[g1,bS];exact⟨_,rfl,rfl⟩
           . rw[g1,bS];exact⟨_,rfl,rfl⟩
         . rw[bne_iff_ne.2 c4,cond_true,cond_true];exact⟨_,rfl,rfl⟩
end
end Go.Vs.F
set_option maxRecDepth 100000
namespace Go.Vs.F
theorem UL2.nil:UL2 []:=fun k h=>absurd h (Nat.not_lt_zero _)
section
variable {n:Nat} {S I V:LI} {C:Int->Nat} (hC:Cnts n S I V C) (h5:n<=5) {m:Nat} (hm:5000000100<=m)
include hC h5 hm
end
end Go.Vs.F
set_option maxRecDepth 100000
namespace Go.Vs.F
def ck40 (R C:Int) (S I V:LI):Int:=if chk R C S I V≠0 then chk R C S I V else if R≠C then 5 else if R>16 then 6 else 0
def Mx40 (R C:Int) (S I V:LI):Prop:=ck40 R C S I V≠0\/ ∃n:Nat,n<=5/\R=(n:Int)/\C=(n:Int)/\GI n n S I V
section
variable {m:Nat} (hm:5000000100<=m) {R C:Int} {S I V:LI} (hS:S.length<=1000000) (hV:V.length<=1000000)
include hm hS hV
theorem qsd:g33 m R C S I V=some (ck40 R C S I V,(),())/\(ck40 R C S I V≠0->g37 m R C S I V=some (ck40 R C S I V,(),())):=by
 constructor
 . rw[g33,g56eq O O O O O,bS,bif_ne,bif_ne,bQ,ck40];dsimp only;by_cases c1:chk R C S I V=0
   . rw[iP c1,iN' (show¬(chk R C S I V≠0)from fun h=>h c1)]
     by_cases c2:R=C
     . rw[iP c2,iN' (show¬(R≠C)from fun h=>h c2)]
       by_cases c3:R>16
       . rw[iP c3,iP c3]
       . rw[iN' c3,iN' c3]
     . rw[iN' c2,iP c2]
   . rw[iN' c1,iP c1]
 . intro hne;have h9:=(q5l (m:=m) O (R:=R) (C:=C) (I:=I) hS hV (x:=0) qit.1 true).2
   have e:chk9 R C S I V 0 true=ck40 R C S I V:=by
    unfold chk9 ck40
    have: ¬(kindN 0=3\/(true=false/\ ¬FinF 0)):=by
     rintro (h|h)
     . exact absurd h (by decide)
     . exact absurd h.1 (by decide)
    rw[iN' this]
   rw[e]at h9;rw[g37,g25,h9,bS];dsimp only;rw[bne_iff_ne.2 hne,cond_true,bS]
theorem J4_ok (h:Mx40 R C S I V) {x y:Int} (hx:U64 x) (hy:U64 y):sparselaw40_SliceRefuses_J4 m R C S I V x y=some (.inl (true,())):=by
 have aw:=qr5 hm;rcases h with h|⟨n,hn,rfl,rfl,hG⟩
 . obtain⟨k1,k2⟩:=qsd (R:=R) (C:=C) (I:=I) hm hS hV;have k2:=k2 h;have hb:(ck40 R C S I V !=0)=true:=bne_iff_ne.2 h;rw[sparselaw40_SliceRefuses_J4,g12,g13,g28,g29,g16,g17,g21,g22,k1,k2];simp only[bS,hb,cond_true,beq_self_eq_true,Bool.and_self];rw[qjr (a:=[]) (by show 0<m;omega) (Nat.zero_le _),aw]
   simp only[bS,cond_true]
 . obtain⟨D,hC⟩:=Cnts.ex hG hn;obtain⟨r,i1,i2,i3,i4⟩:=q2n hm hG hn hC.mono hC.cnt hC.at2 hx hy;obtain⟨s,n1,n2⟩:=qrd hC hn hm hG hx hy 1 3;obtain⟨t,k1,k2,-,-⟩:=qh7 (m:=m) O hG hn (-1);obtain⟨u,c1,c2,-⟩:=qde hC hn hm hG (l:=[]) (Nat.zero_le _) UL2.nil
   have hs:r.1.length<=100:=by
    by_cases c:Vx x/\Vx y/\keyF x<keyF y
    . rw[i3 c];have:=Jm hC.mono 66 x y c.1 c.2.1 (Int.le_of_lt c.2.2);have:=hC.bd hn y c.2.1;show(isoP D 66 x y).length<=100;omega
    . rw[i4 c];exact Nat.zero_le _
   rw[sparselaw40_SliceRefuses_J4,i1,i2,n1,n2,k1,k2,c1,c2];simp only[bS,beq_self_eq_true,Bool.and_self,cond_true];rw[qjr (a:=r.1) O O,aw];simp only[bS,cond_true]
theorem J3_ok (h:Mx40 R C S I V) (sp:Int) {x y:Int} (hx:U64 x) (hy:U64 y):sparselaw40_SliceRefuses_J3 m sp R C S I V x y=some (.inl (true,())):=by
 have j:=J4_ok hm hS hV h hx hy;rw[sparselaw40_SliceRefuses_J3,q8c hx,q8c hy,j,qr5 hm,bS,bQ];rw[bif_eq];simp only[bS,bQ,if_true];split
 . split
   . split<;>rfl
   . rfl
 . rfl
theorem J2_ok (h:Mx40 R C S I V) (sp:Int) {x y:Int} (hx:U64 x) (hy:U64 y):sparselaw40_SliceRefuses_J2 m sp R C S I V x y=some (.inl (true,())):=by
 have j:=fun z hz=>J3_ok hm hS hV h sp (x:=x) (y:=z) hx hz
 have K:=(q1o (m:=m) O hx).2;rw[sparselaw40_SliceRefuses_J2,K,bS];unfold keyR;cases nx:nanB x
 . have hk:=q1h nx;obtain⟨-,f2⟩:=q1d (m:=m) O (k:=keyF x) (by unfold inK at hk;unfold I64;omega)
   rw[show fromR (keyF x)=(fromK (keyF x),true,())from iP hk]at f2
   rw[iN' (by decide)]
   dsimp only;rw[cond_true,f2,bif_eq,bS];split
   . rw[j _ (Js hk)];rfl
   . rw[j _ hy];rfl
 . rw[iP rfl];dsimp only;rw[cond_false,j _ hy];rfl
theorem J1_ok (h:Mx40 R C S I V) (sp:Int) {x y:Int} (hx:U64 x) (hy:U64 y):sparselaw40_SliceRefuses_J1 m x y sp R C S I V=some (.inl (true,())):=by
 rw[sparselaw40_SliceRefuses_J1,bQ];split
 . obtain⟨f,e1,u1,-⟩:=qj6 (m:=m) O hx 0;obtain⟨g,e2,u2,-⟩:=qj6 (m:=m) O hy 0;rw[e1,bS,e2,bS,J2_ok hm hS hV h sp u1 u2];rfl
 . rw[J2_ok hm hS hV h sp hx hy];rfl
end
theorem J0_ok {m:Nat} (hm:5000000100<=m) {R C:Int} {S I V:LI} (hS:S.length<=1000000) (hV:V.length<=1000000) (h:Mx40 R C S I V) (hq:0<V.length->Mx40 R C S I (V.set 0 9221120237041090560)) (sp:Int) {x y:Int} (hx:U64 x) (hy:U64 y):
 sparselaw40_SliceRefuses_J0 m x y sp R C S I V=some (.inl (true,())):=by
 rw[sparselaw40_SliceRefuses_J0,bQ];by_cases c:0<V.length
 . rw[iP O,bif_eq];split
   . rw[iP ⟨O,O⟩,J1_ok hm hS (by rw[List.length_set];exact hV) (hq c) sp hx hy];rfl
   . rw[J1_ok hm hS hV h sp hx hy];rfl
 . rw[iN' O,J1_ok hm hS hV h sp hx hy];rfl
theorem qsg:ck40 17 17 (List.replicate 18 0) [] []≠0:=by decide+kernel
theorem qsf {R C:Nat} {S I V:LI} (hG:GI R C S I V) (hR:R<=2) (hC:C<=2) (h0:0<V.length):ck40 (R:Int) (C:Int) S I (V.set 0 9221120237041090560)≠0:=by
 have hf:finL (V.set 0 9221120237041090560)=false:=by
  cases hb:finL (V.set 0 9221120237041090560)
  . rfl
  . unfold finL at hb;rw[Qs]at hb;have:=hb 0 (Nat.zero_le _) (by rw[List.length_set];exact h0)
    rw[List.getD_eq_getElem?_getD,List.getElem?_set_self h0,Option.getD_some]at this;exact absurd this (by decide)
 have h:chk (R:Int) (C:Int) S I (V.set 0 9221120237041090560)≠0:=by
  unfold chk;rw[hf];split
  . decide
  . split
    . decide
    . decide
 rw[ck40,iP h];exact h
theorem qs6 (raw:LI) (r c x y sp:Int) (hl:raw.length<=9223372036854775807) (hx:U64 x) (hy:U64 y): ∃m,sparselaw40_SliceRefuses m raw r c x y sp=some (true,(),(),(),(),(),(),()):=by
 obtain⟨m,hm⟩: ∃m:Nat,5000000100<=m:=⟨_,Nat.le_refl _⟩;refine⟨m,?_⟩;obtain⟨a,ha,ea⟩:=qb5 m r (k:=3) (by decide) (by decide)
 obtain⟨b,hb,eb⟩:=qb5 m c (k:=3) (by decide) (by decide)
 rw[show((3:Nat):Int)=3 from rfl]at ea eb
 obtain⟨S,I,V,hG,e⟩:=qgi (m:=m) O hl (R:=a) (C:=b) O 0 O;rw[sparselaw40_SliceRefuses,ea,bS,eb,bS];dsimp only;rw[e,bS,bif_eq];dsimp only;have hM:=hG.MV O O;have hsl:=hM.sl;have hsz:=hM.ok.sz;have hvl:=hM.vl;split
 . rw[J0_ok hm (by simp) (by simp) (.inl qsg) (fun h=>absurd h (Nat.lt_irrefl _)) sp hx hy];rfl
 . have h:Mx40 (a:Int) (b:Int) S I V:=by
    by_cases hab:a=b
    . subst hab;exact .inr ⟨a,O,rfl,rfl,hG⟩
    . refine .inl ?_;unfold ck40;rw[hM.chk,iN' (by decide),iP (show(a:Int)≠(b:Int) by omega)]
      decide
   rw[J0_ok hm O O h (fun h0=> .inl (qsf hG O O h0)) sp hx hy];rfl
end Go.Vs.F
