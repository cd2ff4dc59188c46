/-Matrices made from raw numbers are valid. Matrices made from raw numbers:the checks and the look-up. The document's rows of a shifted matrix. The program's rows of a shifted matrix. The program's rows of a shifted matrix are the document's. Counts of symmetric matrices:program and document agree. Keys,middles and the k-th eigenvalue of a symmetric matrix. The k-th eigenvalue by program and document. Counts ascend;one count for every m. Isolating eigenvalues between any floats:program and document make the same slices. Isolate by program and document. Counts of diagonal matrices. Diagonal matrices. The count of a diagonal matrix by keys. The example of the chapter. Inertia:program and document agree;the matrix that a law picks. The shifted matrix as a block:program and document agree. The law InertiaMonotone. The inertia of a matrix whose diagonal form is known;of two blocks. The law InertiaBlocks. The law InertiaBlocks:the loops. -/
import Derived.Test.YtikppifemlpjlaaGreatDoorLg
import Derived.Test.YtikppifemlpjlaaGreatDoorLa
import Derived.Test.YtikppifemlpjlaaGreatDoorFn
import Derived.KernelRfl
set_option linter.unusedVariables false
set_option linter.unusedSimpArgs false
set_option maxRecDepth 100000
namespace Go.Vs.F
theorem gapL {l x:LI} {k:Nat} (h:k<l.length):(l++x).getD k 0=l.getD k 0:=by simp[List.getD,List.getElem?_append_left h]
theorem gapR {l x:LI} {k:Nat} (h:l.length<=k):(l++x).getD k 0=x.getD (k-l.length) 0:=by simp[List.getD,List.getElem?_append_right h]
theorem qop {l x:LI} (h:FnL l) (h':FnL x):FnL (l++x):=by
 intro i hi;rw[List.length_append]at hi;by_cases c:i<l.length
 . rw[gapL c];exact h i c
 . rw[gapR O];exact h' _ O
structure CX (i:Nat) (X Y:LI):Prop where
 yl:Y.length=X.length
 fn:FnL Y
 sz:X.length<=i
 row: ∀k,k<X.length->0<=X.getD k 0/\X.getD k 0<(i:Int)/\(0<k->X.getD (k-1) 0<X.getD k 0)
theorem CX.nil:CX 0 [] []:=⟨rfl,qjf,Nat.le_refl _,fun k h=>absurd h (Nat.not_lt_zero _)⟩
theorem CX.skip {i:Nat} {X Y:LI} (h:CX i X Y):CX (i+1) X Y:=⟨h.yl,h.fn,by have:=h.sz;omega,fun k hk=>by have:=h.row k hk;exact⟨this.1,O,this.2.2⟩⟩
theorem CX.snoc {i:Nat} {X Y:LI} (h:CX i X Y) {f:Int} (h1:U64 f) (h2:FinF f):CX (i+1) (X++[(i:Int)]) (Y++[f]):=by
 refine⟨by simp[h.yl],ql2 h.fn h1 h2,by have:=h.sz;simp;omega,fun k hk=> ?_⟩
 rw[List.length_append]at hk;have e1:([(i:Int)]:LI).length=1:=rfl;by_cases c:k<X.length
 . have:=h.row k c;rw[gapL c];exact⟨this.1,O,fun h0=>by rw[gapL O];exact this.2.2 h0⟩
 . have hk':k=X.length:=O;subst hk';rw[gapR (Nat.le_refl _),Nat.sub_self];refine⟨by show(0:Int)<=i;omega,by show(i:Int)<((i+1:Nat):Int);omega,fun h0=> ?_⟩
   rw[gapL O];exact(h.row _ O).2.1
structure GI (R j:Nat) (S I V:LI):Prop where
 st:StartOK j S I
 col: ∀t,t<j-> ∀k,(S.getD t 0).toNat<=k->k<(S.getD (t+1) 0).toNat->0<=I.getD k 0/\I.getD k 0<(R:Int)/\((S.getD t 0).toNat<k->I.getD (k-1) 0<I.getD k 0)
 vl:V.length=I.length
 fn:FnL V
 sz:I.length<=j*R
theorem GI.nil {R:Nat}:GI R 0 [0] [] []:=⟨⟨rfl,rfl,fun j h=>absurd h (Nat.not_lt_zero _),rfl⟩,fun t h=>absurd h (Nat.not_lt_zero _),rfl,qjf,Nat.zero_le _⟩
theorem GI.snoc {R j:Nat} {S I V X Y:LI} (h:GI R j S I V) (hX:CX R X Y):GI R (j+1) (S++[((I++X).length:Int)]) (I++X) (V++Y):=by
 have hl:=h.st.len;have hlast:=h.st.last;have h0:=h.st.s0;have s1:=hX.sz;have ea:(I++X).length=I.length+X.length:=List.length_append;have eL: ∀t,t<=j->(S++[((I++X).length:Int)]).getD t 0=S.getD t 0:=fun t ht=>gapL O
 have eR:(S++[((I++X).length:Int)]).getD (j+1) 0=((I++X).length:Int):=by rw[gapR O,show j+1-S.length=0 by omega];rfl
 refine⟨⟨by simp[hl],by rw[eL 0 O];exact h0,fun t ht=> ?_,eR⟩,fun t ht k hk1 hk2=> ?_,by simp[h.vl,hX.yl],qop h.fn hX.fn,?_⟩
 . by_cases c:t<j
   . rw[eL t O,eL (t+1) O];exact h.st.mono t c
   . have:t=j:=O;subst this;rw[eL t (Nat.le_refl _),eR,hlast,ea];omega
 . by_cases c:t<j
   . rw[eL t O]at hk1⊢;rw[eL (t+1) O]at hk2;have:=h.st.le (i:=t+1) (j:=j) O (Nat.le_refl _);rw[gapL O];have q:=h.col t c k hk1 hk2;exact⟨q.1,q.2.1,fun hs=>by rw[gapL O];exact q.2.2 hs⟩
   . have:t=j:=O;subst this;rw[eL t (Nat.le_refl _)]at hk1⊢;rw[eR]at hk2;rw[hlast]at hk1⊢;rw[gapR O];have q:=hX.row (k-I.length) O;refine⟨q.1,q.2.1,fun hs=> ?_⟩
     rw[gapR O,show k-1-I.length=k-I.length-1 by omega]
     exact q.2.2 O
 . have:=h.sz;rw[ea,Nat.succ_mul];omega
theorem GI.mat {R C:Nat} {S I V:LI} (h:GI R C S I V) (hR:R<=100) (hC:C<=100):MatOK R C S I:=by
 have:C*R<=100*100:=Nat.mul_le_mul hC hR;have:=h.sz;refine⟨h.st,fun j hj=> ?_,O,O,O⟩
 unfold q0b;rw[Qr];intro k h1 h2;obtain⟨q1,q2,q3⟩:=h.col j hj k h1 h2;unfold entOK;by_cases c:(S.getD j 0).toNat<k
 . simp only[q1,q2,c,q3 c,decide_true,Bool.and_self,Bool.not_true,Bool.or_true]
 . simp only[q1,q2,c,decide_true,decide_false,Bool.and_self,Bool.not_false,Bool.true_or]
section
variable {m:Nat} (hm:5000000000<=m) {raw:LI} (hl:raw.length<=9223372036854775807) {R C:Nat} (hR:R<=100) (style:Int)
include hm hl hR
theorem qg6 (a0 a1 m0 m1:Int) (a2 a3 a4 S I V:LI) (j:Int) (hI:I.length<=100000) (hV:V.length=I.length): ∀(N i:Nat) (X Y:LI),R-i<N->i<=R->CX i X Y->
 ∃X' Y',CX R X' Y'/\g25L1 m N raw (R:Int) (C:Int) style a0 a1 a2 a3 a4 m0 m1 S (I++X) (V++Y) j (i:Int)=some (.inl (raw,(R:Int),(C:Int),style,(a0,a1,a2,a3,a4,()),(m0,m1,S,I++X',V++Y',()),j,())):=by
 intro N;induction N with
 |zero=>intro i X Y h;omega
 |succ N ih=>
  intro i X Y h hi hX;rw[g25L1,bQ];by_cases c:i<R
  . obtain⟨w,ew,hw⟩:=qn5 m hl (wI ((wI (100+(wI (j*(R:Int)))))+(i:Int)));rw[iP O,ew,bS,bQ,wQ (n:=(i:Int)+1),wsucc O];have s1:=hX.sz;have s2:=hX.yl;split
    . obtain⟨f,ef,h1,h2⟩:=qm0 hm hw style;rw[iP (by rw[List.length_append];show _+1<=_;omega)]
      dsimp only;rw[ef,bS,iP (by rw[List.length_append];show _+1<=_;omega),List.append_assoc,List.append_assoc]
      exact ih (i+1) _ _ O O (hX.snoc h1 h2)
    . exact ih (i+1) _ _ O O hX.skip
  . have:i=R:=O;subst this;rw[iN' O];exact⟨X,Y,hX,rfl⟩
theorem qga (hC:C<=100) (a0 a1 m0 m1:Int) (a2 a3 a4:LI): ∀(N j:Nat) (S I V:LI),C-j<N->j<=C->GI R j S I V->
 ∃S' I' V',GI R C S' I' V'/\g25L0 m N raw (R:Int) (C:Int) style a0 a1 a2 a3 a4 m0 m1 S I V (j:Int)=some (.inl ((a0,a1,a2,a3,a4,()),(m0,m1,S',I',V',()),())):=by
 intro N;induction N with
 |zero=>intro j S I V h;omega
 |succ N ih=>
  intro j S I V h hj hG;rw[g25L0,bQ];by_cases c:j<C
  . have s1:=hG.sz;have:j*R<=100*100:=Nat.mul_le_mul O hR;obtain⟨X,Y,hX,e⟩:=qg6 hm hl hR (C:=C) style a0 a1 m0 m1 a2 a3 a4 S I V (j:Int) O hG.vl m 0 [] [] O O CX.nil;rw[List.append_nil,List.append_nil,nZ]at e;rw[iP O,e,bS];dsimp only;have hS:=hG.st.len;rw[iP (by show _+1<=_;omega),wQ,wsucc O]
    exact ih (j+1) _ _ _ O O (hG.snoc hX)
  . have:j=C:=O;subst this;rw[iN' O];exact⟨S,I,V,hG,rfl⟩
theorem qg3 (hC:C<=100): ∃S I V,GI R C S I V/\g25 m raw (R:Int) (C:Int) style=some (((R:Int),(C:Int),S,I,V,()),(),(),(),(),()):=by
 obtain⟨S,I,V,hG,e⟩:=qga hm hl hR (C:=C) style hC 0 0 (R:Int) (C:Int) [] [] [] m 0 [0] [] [] O O GI.nil;rw[nZ]at e;exact⟨S,I,V,hG,by rw[g25,e,bS]⟩
end
end Go.Vs.F
set_option maxRecDepth 100000
namespace Go.Vs.F
theorem GI.MV {R C:Nat} {S I V:LI} (h:GI R C S I V) (hR:R<=100) (hC:C<=100):MV R C S I V:=by
 have hM:=h.mat hR hC;refine⟨hM,h.vl,?_⟩;have hz:=hM.sz
 have h1:(decide (0<=(R:Int))&&decide ((R:Int)<=200)&&decide (0<=(C:Int))&&decide ((C:Int)<=200)&&decide (I.length<=10000))=true:=by
  simp only[Bool.and_eq_true,decide_eq_true_eq];omega
 have h2:strB (R:Int) (C:Int) S I V=true:=by
  unfold strB;have a1:((S.length:Int)=(C:Int)+1):=by have:=hM.st.len;omega
  have a2:=hM.st.s0;have a3:Qe (le2 S) 0 (C:Int).toNat=true:=Qr.2 fun k _ hk=>decide_eq_true (hM.st.mono k O)
  have a4:S.getD (C:Int).toNat 0=(I.length:Int):=hM.st.last;have a6:Qe (fun j=>q0b (R:Int) S I j) 0 (C:Int).toNat=true:=Qr.2 fun k _ hk=>hM.ent k O
  simp only[a1,a2,a3,a4,a6,h.vl,decide_true,Bool.and_self]
 have h3:finL V=true:=by
  unfold finL
  exact Qr.2 fun k _ hk=>by
   obtain⟨u,f⟩:=h.fn k hk;rw[qmp u];exact decide_eq_true f
 unfold chk;rw[h1,h2,h3];rfl
def findA (I V:LI) (i:Int):Nat->Nat->Option Int
 |0,_=>none
 |d+1,k=>if I.getD k 0=i then some (V.getD k 0)else findA I V i d (k+1)
def elA (S I V:LI) (i j:Nat):Int:=(findA I V (i:Int) ((S.getD (j+1) 0).toNat-(S.getD j 0).toNat) (S.getD j 0).toNat).getD 0
section
variable {R C:Nat} {S I V:LI}
theorem At_L0 (m:Nat) {i:Int} {j:Nat} (hj:j+1<S.length) (hj2:j<4611686018427387903) {e:Nat} (he:S.getD (j+1) 0=(e:Int)) (hI:e<=I.length) (hv:V.length=I.length) (hb:I.length<=100000) (a0 a1:Int): ∀(n k:Nat),e-k<n->k<=e->
 g19L0 m n i (j:Int) a0 a1 S I V (k:Int)=some (match findA I V i (e-k) k with|some v=> .inl (v,())|none=> .inr (.inl ()))
 |0,k,h,_=>O
 |n+1,k,h,hk0=>by
  have w:wI ((j:Int)+1)=((j+1:Nat):Int):=wsucc O;rw[g19L0,w,iP O,tN,he,bQ];by_cases hk:k<e
  . rw[iP O,iP O,tN,bif_eq,show e-k=e-(k+1)+1 by omega,findA]
    by_cases c:I.getD k 0=i
    . rw[iP c,iP O,iP c]
    . rw[iN' c,show wI ((k:Int)+1)=((k+1:Nat):Int)from wsucc O,iN' c]
      exact At_L0 m hj hj2 he hI hv hb a0 a1 n (k+1) O O
  . rw[iN' O,show e-k=0 by omega,findA]
theorem At_eq {m:Nat} (hm:3000000<m) (h:MV R C S I V) {i j:Nat} (hj:j<C):g19 m (R:Int) (C:Int) S I V (i:Int) (j:Int)=some (elA S I V i j,(),(),(),()):=by
 have hl:=h.ok.st.len;have hsz:=h.ok.sz;have hcz:=h.ok.cz;have hvl:=h.vl;have a:=h.ok.st.rng (j:=j) O;have b:=h.ok.st.rng (j:=j+1) O;have mo:=h.ok.st.mono j hj;have c1:(0:Int)<=(j:Int)/\(j:Int)<(S.length:Int):=O;have e1:S.getD j 0=(((S.getD j 0).toNat:Nat):Int):=O;have hr:=At_L0 (S:=S) (I:=I) (V:=V) m (i:=(i:Int)) (j:=j) O O (e:=(S.getD (j+1) 0).toNat) O O hvl O (R:Int) (C:Int) m (S.getD j 0).toNat O O
 have hpre:g19 m (R:Int) (C:Int) S I V (i:Int) (j:Int)=(g19L0 m m (i:Int) (j:Int) (R:Int) (C:Int) S I V (((S.getD j 0).toNat:Nat):Int)).bind fun y2=>match y2 with
  | .inl z3=>some (z3.1,((),(),(),()))
  | .inr (.inl z4)=>some (0,((),(),(),()))
  | .inr (.inr e)=>e.elim:=by
  rw[g19,q45 O O O,h.chk];simp only[bS,bif_ne,if_true,bQ];rw[iN' O,iN' O,iP c1,tN,<-e1];rfl
 rw[hpre,hr,elA];cases findA I V (i:Int) ((S.getD (j+1) 0).toNat-(S.getD j 0).toNat) (S.getD j 0).toNat<;>rfl
end
end Go.Vs.F
set_option linter.unusedSectionVars false
set_option maxRecDepth 100000
namespace Go.Vs.F
theorem q3q {I V:LI} {i v:Int}: ∀{d k:Nat},findA I V i d k=some v-> ∃t,k<=t/\t<k+d/\I.getD t 0=i/\v=V.getD t 0
 |0,k,h=>by rw[findA]at h;cases h
 |d+1,k,h=>by
  rw[findA]at h;by_cases c:I.getD k 0=i
  . rw[iP c]at h;injection h with h
    exact⟨k,Nat.le_refl _,O,c,h.symm⟩
  . rw[iN' c]at h;obtain⟨t,h1,h2,h3⟩:=q3q h;exact⟨t,O,O,h3⟩
theorem qou:U64 0/\FinF 0:=⟨⟨O,O⟩,by decide⟩
theorem qbc {R C:Nat} {S I V:LI} (h:GI R C S I V) (i:Nat) {j:Nat} (hj:j<C):U64 (elA S I V i j)/\FinF (elA S I V i j):=by
 unfold elA;have a:=h.st.rng (j:=j) O;have b:=h.st.rng (j:=j+1) O;have mo:=h.st.mono j hj;cases e:findA I V (i:Int) ((S.getD (j+1) 0).toNat-(S.getD j 0).toNat) (S.getD j 0).toNat with
 |none=>exact qou
 |some v=>
  obtain⟨t,h1,h2,_,h3⟩:=q3q e;subst h3;exact h.fn t (by have:=h.vl;omega)
def syD (S I V:LI) (x:Int) (i j:Nat):Int:=if i=j then valF (elA S I V i i)-valF x else valF (elA S I V (max i j) (min i j))
theorem qin (S I V:LI) (x:Int) (i j:Nat):syD S I V x i j=syD S I V x j i:=by
 unfold syD;by_cases c:i=j
 . subst c;rfl
 . rw[iN' c,iN' (fun h=>c h.symm),Nat.max_comm,Nat.min_comm]
theorem qc7 {n:Nat} {S I V:LI} {x:Int} (h:GI n n S I V) (hx:FinF x) {i j:Nat} (hi:i<n) (hj:j<n):blen (syD S I V x i j).natAbs<=2099:=by
 unfold syD;by_cases c:i=j
 . rw[iP c];exact qkw (qdm (qbc h i hi).2) (qdm hx)
 . rw[iN' c];exact Nat.le_trans (qdm (qbc h _ O).2) (by decide)
section
variable {m:Nat} (hm:5000000000<=m) {n:Nat} {S I V:LI} {x:Int} (hG:GI n n S I V) (hn:n<=100) (hxU:U64 x) (hx:FinF x)
include hm hG hn hxU hx
theorem qkl (M:List (List DyL)) {i:Nat} (hi:i<n): ∀(N j:Nat),n-j<N->j<=n->
 g37L1 m N x (n:Int) (n:Int) S I V M (i:Int) (mr j fun j=>dE (syD S I V x i j)) (j:Int)=some (.inl (x,((n:Int),(n:Int),S,I,V,()),M,(i:Int),rowD n (syD S I V x i),())):=by
 intro N;induction N with
 |zero=>intro j h;omega
 |succ N ih=>
  intro j h hj;rw[g37L1,bQ];by_cases c:j<n
  . have put: ∀v,v=syD S I V x i j->(if(mr j fun j=>dE (syD S I V x i j)).length+([dE v]:List DyL).length<=1073741824 then
     g37L1 m N x (n:Int) (n:Int) S I V M (i:Int) ((mr j fun j=>dE (syD S I V x i j))++[dE v]) (wI ((j:Int)+1))else none)=some (.inl (x,((n:Int),(n:Int),S,I,V,()),M,(i:Int),rowD n (syD S I V x i),())):=by
     intro v hv;subst hv;rw[Q8,iP (by show j+1<=_;omega),Y9 (f:=fun j=>dE (syD S I V x i j)),wQ,wsucc O]
     exact ih (j+1) O O
    have e1:(if(j:Int)>(i:Int)then(j:Int)else(i:Int))=((max i j:Nat):Int):=by split<;>omega
    have e2:(if(j:Int)<(i:Int)then(j:Int)else(i:Int))=((min i j:Nat):Int):=by split<;>omega
    obtain⟨u,f⟩:=qbc hG (max i j) (j:=min i j) O;rw[iP O,e1,e2,At_eq O (hG.MV hn hn) O,bS];dsimp only;rw[qm9 O u,bS,bif_eq];by_cases d:i=j
    . subst d;rw[iP rfl,qm9 O hxU,bS,(qdu O f hx).2,bS];refine put _ ?_;unfold syD;rw[iP rfl,Nat.max_self,Nat.min_self]
    . rw[iN' O,q4u f];refine put _ ?_;unfold syD;rw[iN' d]
  . have:j=n:=O;subst this;rw[iN' O];rfl
theorem qk6: ∀(N i:Nat),n-i<N->i<=n->
 g37L0 m N x (n:Int) (n:Int) S I V (mr i fun i=>rowD n (syD S I V x i)) (i:Int)=some (.inl (matD n (syD S I V x),())):=by
 intro N;induction N with
 |zero=>intro j h;omega
 |succ N ih=>
  intro i h hi;rw[g37L0,bQ];by_cases c:i<n
  . have e:=qkl hm hG hn hxU hx (mr i fun i=>rowD n (syD S I V x i)) c m 0 O O
    rw[Ze,nZ]at e;rw[iP O,e,bS];dsimp only;rw[Q8,iP (by show 0<1/\i+1<=_;omega),Y9 (f:=fun i=>rowD n (syD S I V x i)),wQ,wsucc O]
    exact ih (i+1) O O
  . have:i=n:=O;subst this;rw[iN' O];rfl
theorem q8a:g37 m (n:Int) (n:Int) S I V x=some (matD n (syD S I V x),(),(),()):=by
 have e:=qk6 hm hG hn hxU hx m 0 O O;rw[Ze,nZ]at e;rw[g37,e,bS]
end
end Go.Vs.F
set_option maxRecDepth 100000
namespace Go.Vs.F
theorem q7f {I V:LI} {i:Int}: ∀{d k:Nat},findA I V i (d+1) k=match findA I V i d k with|some v=>some v|none=>if I.getD (k+d) 0=i then some (V.getD (k+d) 0)else none
 |0,k=>rfl
 |d+1,k=>by
  rw[show findA I V i (d+1+1) k=if I.getD k 0=i then some (V.getD k 0)else findA I V i (d+1) (k+1)from rfl,show findA I V i (d+1) k=if I.getD k 0=i then some (V.getD k 0)else findA I V i d (k+1)from rfl]
  by_cases c:I.getD k 0=i
  . rw[iP c,iP c]
  . rw[iN' c,iN' c,q7f (d:=d) (k:=k+1),show k+1+d=k+(d+1) by omega]
def colP (I V:LI) (s:Nat):Nat->Int->Int
 |0,_=>0
 |d+1,a=>if I.getD (s+d) 0=a then valF (V.getD (s+d) 0)else colP I V s d a
theorem qhl:valF 0=0:=by decide
theorem qis {I V:LI} {a:Int} {s:Nat}: ∀{d:Nat},(∀t t',s<=t->t<t'->t'<s+d->I.getD t 0≠I.getD t' 0)->colP I V s d a=valF ((findA I V a d s).getD 0)
 |0,_=>qhl.symm
 |d+1,h=>by
  rw[colP,q7f];by_cases c:I.getD (s+d) 0=a
  . rw[iP c]
    have:findA I V a d s=none:=by
     cases e:findA I V a d s with
     |none=>rfl
     |some v=>
      obtain⟨t,h1,h2,h3,_⟩:=q3q e;exact absurd (h3.trans c.symm) (h t (s+d) h1 h2 O)
    rw[this];dsimp only;rw[iP c];rfl
  . rw[iN' c,qis (d:=d) (fun t t' h1 h2 h3=>h t t' h1 h2 O)]
    cases findA I V a d s with
    |some v=>rfl
    |none=>dsimp only;rw[iN' c]
def cM (S I V:LI) (j d a b:Nat):Int:=if min a b<j then valF (elA S I V (max a b) (min a b))else if min a b=j then colP I V (S.getD j 0).toNat d ((max a b:Nat):Int)else 0
theorem qi6 {S I V:LI} {j d a b:Nat} (h: ¬(min a b=j/\I.getD ((S.getD j 0).toNat+d) 0=((max a b:Nat):Int))):cM S I V j (d+1) a b=cM S I V j d a b:=by
 unfold cM;by_cases c1:min a b<j
 . rw[iP c1,iP c1]
 . rw[iN' c1,iN' c1];by_cases c2:min a b=j
   . rw[iP c2,iP c2,colP,iN' fun e=>h ⟨c2,e⟩]
   . rw[iN' c2,iN' c2]
theorem qpj {S I V:LI} {j d a b:Nat} (h1:min a b=j) (h2:I.getD ((S.getD j 0).toNat+d) 0=((max a b:Nat):Int)):cM S I V j (d+1) a b=valF (V.getD ((S.getD j 0).toNat+d) 0):=by
 unfold cM;rw[iN' O,iP h1,colP,iP h2]
theorem qow {S I V:LI} {j d r:Nat} (hr:I.getD ((S.getD j 0).toNat+d) 0=(r:Int)) (hj:j<=r) (a b:Nat):
 (if a=j then(fun b=>if b=r then valF (V.getD ((S.getD j 0).toNat+d) 0)else(if j=r then(fun b=>if b=j then valF (V.getD ((S.getD j 0).toNat+d) 0)else cM S I V j d r b)else cM S I V j d j) b)else(if a=r then(fun b=>if b=j then valF (V.getD ((S.getD j 0).toNat+d) 0)else cM S I V j d r b)else cM S I V j d a)) b=cM S I V j (d+1) a b:=by
 by_cases c:min a b=j/\max a b=r
 . rw[qpj c.1 (by rw[hr,c.2])]
   by_cases c1:a=j
   . rw[iP c1];rw[iP O]
   . rw[iN' c1,iP O];rw[iP O]
 . rw[qi6 (fun h=>c ⟨h.1,by have:=h.2;rw[hr]at this;omega⟩)]
   by_cases c1:a=j
   . rw[iP c1];subst c1;rw[iN' O];by_cases c2:a=r
     . rw[iP c2];rw[iN' O,c2]
     . rw[iN' c2]
   . rw[iN' c1];by_cases c2:a=r
     . rw[iP c2];rw[iN' O,c2]
     . rw[iN' c2]
section
variable {m:Nat} (hm:5000000000<=m) {n:Nat} {S I V:LI} {x:Int} (hG:GI n n S I V) (hn:n<=100) (hxU:U64 x) (hx:FinF x)
include hm hG hn hxU hx
theorem Sh_L2 {j:Nat} (hj:j<n) (t27 t28:Int): ∀(N d:Nat),(S.getD (j+1) 0).toNat-(S.getD j 0).toNat-d<N->(S.getD j 0).toNat+d<=(S.getD (j+1) 0).toNat->
 g35L2 m N x (n:Int) (n:Int) S I V (matD n (cM S I V j d)) (j:Int) (((S.getD j 0).toNat+d:Nat):Int) t27 t28=some (.inl (x,((n:Int),(n:Int),S,I,V,()),matD n (cM S I V j ((S.getD (j+1) 0).toNat-(S.getD j 0).toNat)),t27,t28,())):=by
 have hM:=hG.mat hn hn;have hz:=hM.sz;have hl:=hG.st.len;have hvl:=hG.vl;have a:=hG.st.rng (j:=j) O;have b:=hG.st.rng (j:=j+1) O;have mo:=hG.st.mono j hj;have w:wI ((j:Int)+1)=((j+1:Nat):Int):=wsucc O;have he:S.getD (j+1) 0=(((S.getD (j+1) 0).toNat:Nat):Int):=O;intro N;induction N with
 |zero=>intro d h;omega
 |succ N ih=>
  intro d h hd;rw[g35L2,w,iP O,tN,bQ];by_cases c:(S.getD j 0).toNat+d<(S.getD (j+1) 0).toNat
  . obtain⟨q1,q2⟩:=hM.row hj (k:=(S.getD j 0).toNat+d) O c;obtain⟨u,f⟩:=hG.fn ((S.getD j 0).toNat+d) O;have w2:wI ((((S.getD j 0).toNat+d:Nat):Int)+1)=(((S.getD j 0).toNat+(d+1):Nat):Int):=wsucc O;obtain⟨r,hr⟩: ∃r:Nat,I.getD ((S.getD j 0).toNat+d) 0=(r:Int):=⟨(I.getD ((S.getD j 0).toNat+d) 0).toNat,O⟩;rw[iP O,iP O];simp only[tN,hr,bQ,w2];by_cases c2:j<=r
    . rw[iP O,Xi,iP O,iP O,iP O,Of_eq O u,q4u f,bS,iP O,bS];dsimp only;rw[Z4 (show r<n by omega),Y2,iP O,q5o,q1p,Z4 hj,Y2,iP O,q5o,q1p]
      refine Eq.trans ?_ (ih (d+1) O O);congr 1;unfold matD;refine Q7 fun a ha=> ?_
      unfold rowD;refine Q7 fun b hb=> ?_
      congr 1;exact qow hr c2 a b
    . rw[iN' O];refine Eq.trans ?_ (ih (d+1) O O);congr 1;unfold matD;refine Q7 fun a ha=> ?_
      unfold rowD;refine Q7 fun b hb=> ?_
      rw[qi6 (fun h=>by have:=h.2;rw[hr]at this;omega)]
  . rw[iN' O,show(S.getD (j+1) 0).toNat-(S.getD j 0).toNat=d by omega]
end
end Go.Vs.F
set_option maxRecDepth 100000
namespace Go.Vs.F
theorem Je {n:Nat} {D D':Nat->Nat->Int} (h: ∀a b,a<n->b<n->D a b=D' a b):matD n D=matD n D':=by
 unfold matD;refine Q7 fun a ha=> ?_
 unfold rowD;exact Q7 fun b hb=>by rw[h a b ha hb]
theorem qoi {n:Nat} {S I V:LI} (hM:MatOK n n S I) {j:Nat} (hj:j<n) (a b:Nat):cM S I V j ((S.getD (j+1) 0).toNat-(S.getD j 0).toNat) a b=cM S I V (j+1) 0 a b:=by
 unfold cM;by_cases c1:min a b<j
 . rw[iP c1,iP O]
 . rw[iN' c1];by_cases c2:min a b=j
   . rw[iP c2,iP O,c2,elA];refine qis fun t t' h1 h2 h3=> ?_
     have:=hM.asc hj (t'-t-1) t h1 O;rw[show t+(t'-t-1+1)=t' by omega]at this
     omega
   . rw[iN' c2,iN' O];split
     . rfl
     . rfl
def dM (S I V:LI) (x:Int) (i a b:Nat):Int:=if a=b/\a<i then valF (elA S I V a a)-valF x else valF (elA S I V (max a b) (min a b))
section
variable {m:Nat} (hm:5000000000<=m) {n:Nat} {S I V:LI} {x:Int} (hG:GI n n S I V) (hn:n<=100) (hxU:U64 x) (hx:FinF x)
include hm hG hn hxU hx
theorem Sh_L1: ∀(N j:Nat),n-j<N->j<=n->
 g35L1 m N x (n:Int) (n:Int) S I V (matD n (cM S I V j 0)) (n:Int) (j:Int)=some (.inl (x,matD n (cM S I V n 0),())):=by
 have hM:=hG.mat hn hn;have hz:=hM.sz;have hl:=hG.st.len;intro N;induction N with
 |zero=>intro d h;omega
 |succ N ih=>
  intro j h hj;rw[g35L1,bQ];by_cases c:j<n
  . have a:=hG.st.rng (j:=j) O;have b:=hG.st.rng (j:=j+1) O;have mo:=hG.st.mono j c;have e:=Sh_L2 hm hG hn hxU hx c (n:Int) (j:Int) m 0 O O;rw[Nat.add_zero,show(((S.getD j 0).toNat:Nat):Int)=S.getD j 0 by omega,Je (fun a b _ _=>qoi (V:=V) hM c a b)]at e
    rw[iP O,iP O,tN,e,bS];dsimp only;rw[wQ,wsucc O];exact ih (j+1) O O
  . have:j=n:=O;subst this;rw[iN' O]
theorem Sh_L0: ∀(N i:Nat),n-i<N->i<=n->
 g35L0 m N x (n:Int) (n:Int) S I V (mr n fun k=>if k<i then rowD n (fun _=>0)else []) (n:Int) (i:Int)=some (.inl (x,((n:Int),(n:Int),S,I,V,()),matD n (fun _ _=>0),())):=by
 intro N;induction N with
 |zero=>intro d h;omega
 |succ N ih=>
  intro i h hi;rw[g35L0,bQ];by_cases c:i<n
  . rw[iP O,iP O,Q8,iP O,tN,tN,qj2,J7,wQ,wsucc O];refine Eq.trans ?_ (ih (i+1) O O);congr 1;refine Q7 fun k hk=> ?_
    by_cases c1:k=i
    . rw[iP c1,iP O]
    . rw[iN' c1];by_cases c2:k<i
      . rw[iP c2,iP O]
      . rw[iN' c2,iN' O]
  . have:i=n:=O;subst this;rw[iN' O];rw[show(mr i fun k=>if k<i then rowD i (fun _=>0)else [])=matD i (fun _ _=>0)from Q7 fun k hk=>iP hk]
theorem Sh_L3: ∀(N i:Nat),n-i<N->i<=n->
 g35L3 m N x (matD n (dM S I V x i)) (n:Int) (i:Int)=some (.inl (matD n (syD S I V x),())):=by
 intro N;induction N with
 |zero=>intro d h;omega
 |succ N ih=>
  intro i h hi;rw[g35L3,bQ];by_cases c:i<n
  . obtain⟨u,f⟩:=qbc hG i (j:=i) c;have key:=(qdu (m:=m) O f hx).1;rw[q4u f]at key;have hv:dM S I V x i i i=valF (elA S I V i i):=by unfold dM;rw[iN' O,Nat.max_self,Nat.min_self]
    rw[iP O,Xi,iP O,iP O,tN,Z4 c,Y2,iP O,Of_eq O hxU,bS,Ju c,hv];dsimp only;rw[show g66 m (dE (valF (elA S I V i i))).1 (dE (valF (elA S I V i i))).2.1.1 (dE (valF (elA S I V i i))).2.1.2 (dE (valF (elA S I V i i))).2.2 (ofD x).1 (ofD x).2.1 (ofD x).2.2.1 (ofD x).2.2.2.1=_ from key,bS,iP O]
    dsimp only;rw[q5o,q1p,wQ,wsucc O];refine Eq.trans ?_ (ih (i+1) O O);congr 1;refine Je fun a b ha hb=> ?_
    by_cases c1:a=i
    . rw[iP c1];subst c1;by_cases c2:b=a
      . rw[iP c2];subst c2;unfold dM;rw[iP ⟨rfl,O⟩]
      . rw[iN' c2];unfold dM;rw[iN' (fun h=>c2 h.1.symm),iN' (fun h=>c2 h.1.symm)]
    . rw[iN' c1];unfold dM;by_cases c2:a=b/\a<i
      . rw[iP c2,iP ⟨c2.1,O⟩]
      . rw[iN' c2,iN' (fun h=>c2 ⟨h.1,O⟩)]
  . have:i=n:=O;subst this;rw[iN' O];rw[Je (D':=syD S I V x) fun a b ha hb=> ?_]
    unfold dM syD;by_cases c2:a=b
    . rw[iP ⟨c2,ha⟩,iP c2]
    . rw[iN' (fun h=>c2 h.1),iN' c2]
theorem q3w:g35 m (n:Int) (n:Int) S I V x=some (matD n (syD S I V x),(),(),()):=by
 have e0:=Sh_L0 hm hG hn hxU hx m 0 O O;rw[show(mr n fun k=>if k<0 then rowD n (fun _=>0)else [])=List.replicate n [] by rw[q61];exact Q7 fun k _=>iN' O,nZ]at e0
 have e1:=Sh_L1 hm hG hn hxU hx m 0 O O;rw[Je (D:=cM S I V 0 0) (D':=fun _ _=>0) (fun a b _ _=>by unfold cM;rw[iN' O];split<;>rfl),nZ]at e1
 have e3:=Sh_L3 hm hG hn hxU hx m 0 O O;rw[Je (D:=dM S I V x 0) (D':=cM S I V n 0) (fun a b _ _=>by unfold cM dM;rw[iN' O,iP O]),nZ]at e3
 rw[g35,iP O,tN,List.length_replicate,e0,bS];dsimp only;rw[e1,bS];dsimp only;rw[Xi,e3,bS]
end
end Go.Vs.F
set_option maxRecDepth 100000
namespace Go.Vs.F
def chk9 (R C:Int) (S I V:LI) (x:Int) (inf:Bool):Int:=
 if chk R C S I V≠0 then chk R C S I V else if R≠C then 5 else if R>16 then 6 else if kindN x=3\/(inf=false/\ ¬FinF x)then 4 else 0
theorem q1x {m:Nat} (hm:5000000000<=m) {R C:Int} {S I V:LI} (hS:S.length<=1000000) (hV:V.length<=1000000) {x:Int} (hx:U64 x) (inf:Bool):
 g33 m R C S I V x inf=some (chk9 R C S I V x inf,(),(),(),())/\g36 m R C S I V x inf=some (chk9 R C S I V x inf,(),(),(),()):=by
 obtain⟨q1,q2⟩:=qn2 (m:=m) hx;constructor
 . rw[g33,g59eq O O O O O,bS,bif_ne,bif_ne,bQ,q1,chk9];dsimp only;by_cases c1:chk R C S I V=0
   . rw[iP c1,iN' (show¬(chk R C S I V≠0)from fun h=>h c1)]
     by_cases c2:R=C
     . rw[iP c2,iN' (show¬(R≠C)from fun h=>h c2)]
       by_cases c3:R>16
       . rw[iP c3,iP c3]
       . rw[iN' c3,iN' c3,bS,bif_eq];by_cases c4:kindN x=3
         . rw[iP c4,iP (.inl c4)]
         . rw[iN' c4];cases inf
           . rw[qgq hx];by_cases c5:FinF x
             . rw[iN' (by simp[c4,c5])];simp[c5]
             . rw[iP (.inr ⟨rfl,c5⟩)];simp[c5]
           . rw[iN' (by simp[c4])];rfl
     . rw[iN' c2,iP c2]
   . rw[iN' c1,iP c1]
 . rw[g36,q45 O O O,bS,bif_ne,bif_ne,bQ,q9h hx,chk9];dsimp only;by_cases c1:chk R C S I V=0
   . rw[iP c1,iN' (show¬(chk R C S I V≠0)from fun h=>h c1)]
     by_cases c2:R=C
     . rw[iP c2,iN' (show¬(R≠C)from fun h=>h c2)]
       by_cases c3:R>16
       . rw[iP c3,iP c3]
       . rw[iN' c3,iN' c3,bS];by_cases c5:FinF x
         . have c4:=q9g c5;rw[iN' (by simp[c4,c5])];simp[c5]
         . cases inf
           . rw[iP (.inr ⟨rfl,c5⟩)];simp[c5]
           . rw[q2];by_cases c4:kindN x=3
             . rw[iP (.inl c4)];simp[c5,c4]
             . rw[iN' (by simp[c4])];simp[c5,c4]
     . rw[iN' c2,iP c2]
   . rw[iN' c1,iP c1]
section
variable {m:Nat} (hm:5000000000<=m) {n:Nat} {S I V:LI} (hG:GI n n S I V) (h5:n<=5) {x:Int} (hx:U64 x)
include hm hG h5 hx
end
end Go.Vs.F
set_option maxRecDepth 100000
namespace Go.Vs.F
section
variable {m:Nat} (hm:5000000000<=m) {n:Nat} {S I V:LI} {C:Int->Nat}
 (hC: ∀q,inK q->g24 m (n:Int) (n:Int) S I V (fromK q)=some (((C q:Int),0,()),(),(),())/\g28 m (n:Int) (n:Int) S I V (fromK q)=some (((C q:Int),0,()),(),(),()))
include hm hC
end
end Go.Vs.F
set_option maxRecDepth 100000
namespace Go.Vs.F
end Go.Vs.F
set_option maxRecDepth 100000
namespace Go.Vs.F
end Go.Vs.F
set_option maxRecDepth 100000
namespace Go.Vs.F
def Vx (x:Int):Prop:=U64 x/\nanB x=false
section
variable {n:Nat} {S I V:LI} {C:Int->Nat} (mono: ∀a b,Vx a->Vx b->keyF a<=keyF b->C a<=C b) (hn: ∀q,Vx q->C q<=100)
 (hC: ∀m:Nat,5000000000<=m-> ∀q,Vx q->g24 m (n:Int) (n:Int) S I V q=some (((C q:Int),0,()),(),(),())/\g28 m (n:Int) (n:Int) S I V q=some (((C q:Int),0,()),(),(),()))
include mono hn hC
end
end Go.Vs.F
set_option maxRecDepth 100000
namespace Go.Vs.F
theorem qmr (j:Nat):sparselaw39_awake (j+200)=some (true,()):=by kernel_rfl
end Go.Vs.F
set_option maxRecDepth 100000
namespace Go.Vs.F
theorem qns {m:Nat} (hm:200<=m):sparselaw39_awake m=some (true,()):=by
 obtain⟨j,rfl⟩: ∃j,m=j+200:=⟨m-200,O⟩;exact qmr j
def negN (n:Nat) (b:Nat->Rat):Nat:=npos (List.range n) (fun i=> -b i)
def posN (n:Nat) (b:Nat->Rat):Nat:=npos (List.range n) b
theorem np_le (n:Nat) (b:Nat->Rat):posN n b+negN n b<=n:=by
 have:=q8q (L:=List.range n) (b:=b);rw[List.length_range]at this;exact this
def InT (n:Nat) (b:Nat->Rat):(Int×Int×Int×Unit)×Int×Unit:=((((negN n b:Nat):Int),((n-(posN n b+negN n b):Nat):Int),((posN n b:Nat):Int),()),0,())
section
variable {m:Nat} (hm:5000000000<=m) {n:Nat} {S I V:LI} (hG:GI n n S I V) (h5:n<=5) {x:Int} (hx:U64 x) (hF:FinF x)
include hm hG h5 hx hF
theorem qdy (inf:Bool):g33 m (n:Int) (n:Int) S I V x inf=some (0,(),(),(),())/\g36 m (n:Int) (n:Int) S I V x inf=some (0,(),(),(),()):=by
 have hMV:=hG.MV O O;have hck:=hMV.chk;have hsl:=hMV.sl;have hsz:=hMV.ok.sz;have hvl:=hMV.vl;have h3:=q9g hF;have k:=q1x hm (R:=(n:Int)) (C:=(n:Int)) (S:=S) (I:=I) (V:=V) O O hx inf
 have z1:chk9 (n:Int) (n:Int) S I V x inf=0:=by
  unfold chk9;rw[iN' (show¬(chk (n:Int) (n:Int) S I V≠0)from fun h=>h hck),iN' (show¬((n:Int)≠(n:Int))from fun h=>h rfl),iN' (show¬((n:Int)>16) by omega),iN' (by simp[h3,hF])]
 rw[z1]at k;exact k
theorem qla: ∃W b,Dg (List.range n) (qM (syD S I V x)) W b/\g20 m (n:Int) (n:Int) S I V x=some (InT n b,(),(),())/\g16 m (n:Int) (n:Int) S I V x=some (InT n b,(),(),()):=by
 obtain⟨j1,j2⟩:=qdy hm hG h5 hx hF false;have hlen:=fun i j (hi:i<n) (hj:j<n)=>qc7 hG hF hi hj
 obtain⟨W,b,d1,d2,d3⟩:=q4a hm h5 (D:=syD S I V x) (fun i j hi hj=>Nat.le_trans (hlen i j hi hj) (by decide)) (qin S I V x)
 have hbig: ∀i j,i<n->j<n->blen (syD S I V x i j).natAbs<=10000:=fun i j hi hj=>Nat.le_trans (hlen i j hi hj) (by decide)
 refine⟨W,b,d1,?_,?_⟩
 . rw[g20,j1,bS];dsimp only;rw[show((0:Int) !=0)=false from rfl,cond_false,q3w hm hG O hx hF,bS,qgn hm O hbig,bS,d2,bS]
   rfl
 . rw[g16,j2,bS];dsimp only;rw[show((0:Int) !=0)=false from rfl,cond_false,q8a hm hG O hx hF,bS]
   dsimp only;rw[qhw hm O hbig,bS,d3,bS];rfl
end
end Go.Vs.F
set_option maxRecDepth 100000
namespace Go.Vs.F
def blk (n:Nat) (D:Nat->Nat->Int):List DyL:=mr (n*n) fun t=>dE (D (t%n) (t/n))
section
variable {m:Nat} (hm:5000000000<=m) {n:Nat} (hn:n<=100) {D:Nat->Nat->Int} (a2 a3 a4:LI)
include hm hn
end
section
variable {m:Nat} (hm:5000000000<=m) {n:Nat} {S I V:LI} (hG:GI n n S I V) (h5:n<=5) {x:Int} (hx:U64 x) (hF:FinF x)
include hm hG h5 hx hF
end
end Go.Vs.F
set_option maxRecDepth 100000
namespace Go.Vs.F
section
variable {m:Nat} (hm:5000000000<=m) {n:Nat} {S I V:LI} (hG:GI n n S I V) (h5:n<=4) {s t:Int} (hs:U64 s) (fs:FinF s) (ht:U64 t) (ft:FinF t) (hk:keyF s<=keyF t)
include hm hG h5 hs fs ht ft hk
end
end Go.Vs.F
set_option maxRecDepth 100000
namespace Go.Vs.F
section
variable {m:Nat} (hm:5000000000<=m) {n:Nat} {S I V:LI} (hG:GI n n S I V) (h5:n<=16) {x:Int} (hx:U64 x) (hF:FinF x)
include hm hG h5 hx hF
theorem qrf {W:Nat->Nat->Rat} {b:Nat->Rat} (hd:Dg (List.range n) (qM (syD S I V x)) W b):g20 m (n:Int) (n:Int) S I V x=some (InT n b,(),(),()):=by
 have hMV:=hG.MV O O;have hck:=hMV.chk;have hsl:=hMV.sl;have hsz:=hMV.ok.sz;have hvl:=hMV.vl;have h3:=q9g hF;have k:=(q1x hm (R:=(n:Int)) (C:=(n:Int)) (S:=S) (I:=I) (V:=V) O O hx false).1
 have z1:chk9 (n:Int) (n:Int) S I V x false=0:=by
  unfold chk9;rw[iN' (show¬(chk (n:Int) (n:Int) S I V≠0)from fun h=>h hck),iN' (show¬((n:Int)≠(n:Int))from fun h=>h rfl),iN' (show¬((n:Int)>16) by omega),iN' (by simp[h3,hF])]
 rw[z1]at k;have hlen:=fun i j (hi:i<n) (hj:j<n)=>qc7 hG hF hi hj
 have hbig: ∀i j,i<n->j<n->blen (syD S I V x i j).natAbs<=10000:=fun i j hi hj=>Nat.le_trans (hlen i j hi hj) (by decide)
 have hl: ∀i j,i<n->j<n->zlen (qD n (syD S I V x) i j)<=66:=fun i j hi hj=>qpu (Nat.le_trans (hlen i j hi hj) (by decide:2099<=2111))
 have hsq: ∀i j,i<n->j<n->qD n (syD S I V x) i j=qD n (syD S I V x) j i:=fun i j _ _=>by unfold qD;rw[qin S I V x i j]
 generalize hD:syD S I V x=D at*
 have hc:(0:Rat)<((2^kM n D:Int):Rat):=by
  have:=Zn (kM n D);have:=Rat.intCast_lt_intCast.2 this;exact this
 have hci:(0:Rat)<((2^kM n D:Int):Rat)⁻¹:=Rat.inv_pos.2 hc
 have hq:Dg (List.range n) (qM (qD n D)) W (fun i=>((2^kM n D:Int):Rat)⁻¹*b i):=(hd.scale _).congr fun i hi j hj=>by
  show((2^kM n D:Int):Rat)⁻¹*(D i j:Rat)=(qD n D i j:Rat)
  rw[qpn (D:=D) (List.mem_range.1 hi) (List.mem_range.1 hj),Rat.intCast_mul,Rat.mul_comm,Rat.mul_assoc,Rat.mul_inv_cancel _ (Rat.ne_of_gt hc),Rat.mul_one]
 have d3:=qfi (m:=m) O (n:=n) O (M:=qD n D) (e:=66) O hl hsq hq;rw[q3l hci,q1c hci]at d3;rw[g20,k,bS];dsimp only;rw[show((0:Int) !=0)=false from rfl,cond_false,q3w hm hG O hx hF,hD,bS,qgn hm O hbig,bS,d3,bS]
 rfl
end
theorem qr2 {a b:Nat} {f:Nat->Rat}:sm (List.range (a+b)) f=sm (List.range a) f+sm (List.range b) (fun i=>f (a+i)):=by
 rw[List.range_add,qp7,qpg]
def blkA (n:Nat) (A B:Nat->Nat->Rat) (i j:Nat):Rat:=if i<n then(if j<n then A i j else 0)else(if j<n then 0 else B (i-n) (j-n))
def blkb (n:Nat) (b c:Nat->Rat) (i:Nat):Rat:=if i<n then b i else c (i-n)
section
variable {n:Nat} {A B:Nat->Nat->Rat} {i j:Nat}
theorem qrc (hi:i<n) (hj:j<n):blkA n A B i j=A i j:=by unfold blkA;rw[iP hi,iP hj]
theorem qre (hi:i<n):blkA n A B i (n+j)=0:=by unfold blkA;rw[iP hi,iN' O]
theorem qrd (hj:j<n):blkA n A B (n+i) j=0:=by unfold blkA;rw[iN' O,iP hj]
theorem qrb:blkA n A B (n+i) (n+j)=B i j:=by unfold blkA;rw[iN' O,iN' O];congr 1<;>omega
end
theorem Dg.blocks {a b:Nat} {A B V W:Nat->Nat->Rat} {c d:Nat->Rat} (h1:Dg (List.range a) A V c) (h2:Dg (List.range b) B W d):Dg (List.range (a+b)) (blkA a A B) (blkA a V W) (blkb a c d):=by
 have l1: ∀(y:Nat->Rat) j,j<a->lin (List.range (a+b)) (blkA a V W) y j=lin (List.range a) V y j:=by
  intro y j hj;unfold lin;rw[qr2,Qm (L:=List.range b) (fun i _=>by rw[qrd hj];grind),Rat.add_zero]
  exact qi fun i hi=>by rw[qrc (List.mem_range.1 hi) hj]
 have l2: ∀(y:Nat->Rat) j,lin (List.range (a+b)) (blkA a V W) y (a+j)=lin (List.range b) W (fun i=>y (a+i)) j:=by
  intro y j;unfold lin;rw[qr2,Qm (L:=List.range a) (fun i hi=>by rw[qre (List.mem_range.1 hi)];grind),Rat.zero_add]
  exact qi fun i hi=>by rw[qrb]
 refine⟨fun y=> ?_,fun y hy i hi=> ?_⟩
 . have e1:=h1.form y;have e2:=h2.form (fun i=>y (a+i))
   rw[qr2];rw[show sm (List.range a) (fun i=>blkb a c d i*(y i*y i))=sm (List.range a) (fun i=>c i*(y i*y i))from qi fun i hi=>by unfold blkb;rw[iP (List.mem_range.1 hi)]]
   rw[show sm (List.range b) (fun i=>blkb a c d (a+i)*(y (a+i)*y (a+i)))=sm (List.range b) (fun i=>d i*(y (a+i)*y (a+i)))from qi fun i hi=>by unfold blkb;rw[iN' O,Nat.add_sub_cancel_left]]
   rw[<-e1,<-e2];generalize hz:lin (List.range (a+b)) (blkA a V W) y=z;have z1: ∀j,j<a->z j=lin (List.range a) V y j:=fun j hj=>by rw[<-hz];exact l1 y j hj
   have z2: ∀j,z (a+j)=lin (List.range b) W (fun i=>y (a+i)) j:=fun j=>by rw[<-hz];exact l2 y j
   unfold qf;rw[qr2];congr 1
   . refine qi fun i hi=> ?_
     have hi:=List.mem_range.1 hi;rw[qr2,Qm (L:=List.range b) (fun j _=>by rw[qre hi];grind),Rat.add_zero]
     exact qi fun j hj=>by rw[qrc hi (List.mem_range.1 hj),z1 i hi,z1 j (List.mem_range.1 hj)]
   . refine qi fun i hi=> ?_
     rw[qr2,Qm (L:=List.range a) (fun j hj=>by rw[qrd (List.mem_range.1 hj)];grind),Rat.zero_add]
     exact qi fun j hj=>by rw[qrb,z2 i,z2 j]
 . have y1:=h1.ind y fun j hj=>by rw[<-l1 y j (List.mem_range.1 hj)];exact hy j (List.mem_range.2 (by have:=List.mem_range.1 hj;omega))
   have y2:=h2.ind (fun i=>y (a+i)) fun j hj=>by rw[<-l2 y j];exact hy (a+j) (List.mem_range.2 (by have:=List.mem_range.1 hj;omega))
   by_cases c:i<a
   . exact y1 i (List.mem_range.2 c)
   . have:=y2 (i-a) (List.mem_range.2 (by have:=List.mem_range.1 hi;omega))
     rw[show a+(i-a)=i by omega]at this
     exact this
theorem qr4 {a b:Nat} {c d:Nat->Rat}:npos (List.range (a+b)) (blkb a c d)=npos (List.range a) c+npos (List.range b) d:=by
 unfold npos;rw[List.range_add,List.filter_append,List.length_append,List.filter_map,List.length_map];congr 1
 . rw[List.filter_congr fun i hi=> ?_]
   unfold blkb;rw[iP (List.mem_range.1 hi)]
 . rw[List.filter_congr fun i hi=> ?_]
   show decide (0<blkb a c d (a+i))=_
   unfold blkb;rw[iN' O,Nat.add_sub_cancel_left]
theorem qra {a:Nat} {c d:Nat->Rat}:(fun i=> -blkb a c d i)=blkb a (fun i=> -c i) (fun i=> -d i):=by
 funext i;unfold blkb;split<;>rfl
theorem qr9 {a b:Nat} {c d:Nat->Rat}:posN (a+b) (blkb a c d)=posN a c+posN b d/\negN (a+b) (blkb a c d)=negN a c+negN b d:=by
 unfold posN negN;rw[qra];exact⟨qr4,qr4⟩
end Go.Vs.F
set_option maxRecDepth 100000
namespace Go.Vs.F
theorem qr6 {I V X Y:LI} {i:Int} (hv:V.length=I.length): ∀{d k:Nat},k+d<=I.length->findA (I++X) (V++Y) i d k=findA I V i d k
 |0,k,_=>rfl
 |d+1,k,h=>by
  rw[findA,findA,gapL O,gapL O,qr6 hv O]
theorem qr3 {I V X Y:LI} {i:Int} (hv:V.length=I.length): ∀{d k:Nat},findA (I++X) (V++Y) i d (I.length+k)=findA X Y i d k
 |0,k=>rfl
 |d+1,k=>by
  rw[findA,findA,gapR O,gapR O,hv,show I.length+k-I.length=k by omega,Nat.add_assoc,qr3 hv]
def mvX (I:LI) (r s d:Nat):LI:=mr d fun t=>I.getD (s+t) 0+(r:Int)
def mvY (V:LI) (s d:Nat):LI:=mr d fun t=>V.getD (s+t) 0
theorem qr8 {I V:LI} {r s d:Nat} {i:Nat}: ∀{e k:Nat},k+e<=d->findA (mvX I r s d) (mvY V s d) ((r+i:Nat):Int) e k=findA I V (i:Int) e (s+k)
 |0,k,_=>rfl
 |e+1,k,h=>by
  have h1:(mvX I r s d).getD k 0=I.getD (s+k) 0+(r:Int):=Qo O;have h2:(mvY V s d).getD k 0=V.getD (s+k) 0:=Qo O;rw[findA,findA,h1,h2,qr8 O,show s+(k+1)=s+k+1 by omega]
  by_cases c:I.getD (s+k) 0=(i:Int)
  . rw[iP O,iP c]
  . rw[iN' O,iN' c]
theorem qr5 {I V:LI} {i:Int} {d k:Nat} (h: ∀t,k<=t->t<k+d->I.getD t 0≠i):findA I V i d k=none:=by
 cases e:findA I V i d k with
 |none=>rfl
 |some v=>obtain⟨t,h1,h2,h3,_⟩:=q3q e;exact absurd h3 (h t h1 h2)
theorem GI.wide {R R' j:Nat} {S I V:LI} (h:GI R j S I V) (hR:R<=R'):GI R' j S I V:=by
 refine⟨h.st,fun t ht k h1 h2=> ?_,h.vl,h.fn,Nat.le_trans h.sz (Nat.mul_le_mul_left _ hR)⟩
 have q:=h.col t ht k h1 h2;exact⟨q.1,O,q.2.2⟩
def elB (Sa Ia Va Sb Ib Vb:LI) (n i j:Nat):Int:=if j<n then elA Sa Ia Va i j else if i<n then 0 else elA Sb Ib Vb (i-n) (j-n)
structure BkS (p q t:Nat) (Sa Ia Va Sb Ib Vb S I V:LI):Prop where
 gi:GI (p+q) (p+t) S I V
 el: ∀i j,j<p+t->elA S I V i j=elB Sa Ia Va Sb Ib Vb p i j
section
variable {p q:Nat} {Sa Ia Va Sb Ib Vb:LI} (ha:GI p p Sa Ia Va) (hb:GI q q Sb Ib Vb)
include ha hb
theorem BkS.nil:BkS p q 0 Sa Ia Va Sb Ib Vb Sa Ia Va:=⟨ha.wide O,fun i j hj=>by unfold elB;rw[iP O]⟩
theorem mv_CX {j:Nat} (hj:j<q):CX (p+q) (mvX Ib p (Sb.getD j 0).toNat ((Sb.getD (j+1) 0).toNat-(Sb.getD j 0).toNat)) (mvY Vb (Sb.getD j 0).toNat ((Sb.getD (j+1) 0).toNat-(Sb.getD j 0).toNat)):=by
 generalize hd:(Sb.getD (j+1) 0).toNat-(Sb.getD j 0).toNat=d
 generalize hs:(Sb.getD j 0).toNat=s
 have a:=hb.st.rng (j:=j) O;have b:=hb.st.rng (j:=j+1) O;have hvl:=hb.vl;have col:=hb.col j hj;rw[hs]at col
 have asc: ∀t,t<d->(t:Int)<=Ib.getD (s+t) 0:=by
  intro t;induction t with
  |zero=>intro h;have:=(col s O O).1;rw[Nat.add_zero];exact this
  |succ t ih=>
   intro h;have h1:=ih O;have h2:=(col (s+(t+1)) O O).2.2 O;rw[show s+(t+1)-1=s+t by omega]at h2
   omega
 refine⟨by unfold mvX mvY;rw[Q8,Q8],fun t ht=> ?_,?_,fun k hk=> ?_⟩
 . unfold mvY at ht⊢;rw[Q8]at ht;rw[Qo ht];exact hb.fn _ O
 . unfold mvX;rw[Q8];rcases Nat.eq_zero_or_pos d with h|h
   . omega
   . have h1:=asc (d-1) O;have h2:=(col (s+(d-1)) O O).2.1;omega
 . unfold mvX at hk⊢;rw[Q8]at hk;have g:=col (s+k) O O;rw[Qo hk];refine⟨O,O,fun h0=> ?_⟩
   rw[Qo O];have:=g.2.2 O;rw[show s+k-1=s+(k-1) by omega]at this
   omega
theorem BkS.step {t:Nat} (ht:t<q) {S I V:LI} (h:BkS p q t Sa Ia Va Sb Ib Vb S I V):
 BkS p q (t+1) Sa Ia Va Sb Ib Vb (S++[((I++mvX Ib p (Sb.getD t 0).toNat ((Sb.getD (t+1) 0).toNat-(Sb.getD t 0).toNat)).length:Int)]) (I++mvX Ib p (Sb.getD t 0).toNat ((Sb.getD (t+1) 0).toNat-(Sb.getD t 0).toNat)) (V++mvY Vb (Sb.getD t 0).toNat ((Sb.getD (t+1) 0).toNat-(Sb.getD t 0).toNat)):=by
 have hX:=mv_CX ha hb ht;refine⟨h.gi.snoc hX,fun i j hj=> ?_⟩
 have hl:=h.gi.st.len;have hlast:=h.gi.st.last;have hvl:=h.gi.vl;have mo:=hb.st.mono t ht;have r1:=hb.st.rng (j:=t) O;have r2:=hb.st.rng (j:=t+1) O;have hXl:(mvX Ib p (Sb.getD t 0).toNat ((Sb.getD (t+1) 0).toNat-(Sb.getD t 0).toNat)).length=(Sb.getD (t+1) 0).toNat-(Sb.getD t 0).toNat:=Q8;generalize hXX:mvX Ib p (Sb.getD t 0).toNat ((Sb.getD (t+1) 0).toNat-(Sb.getD t 0).toNat)=X at*;generalize hYY:mvY Vb (Sb.getD t 0).toNat ((Sb.getD (t+1) 0).toNat-(Sb.getD t 0).toNat)=Y at*;by_cases c:j<p+t
 . rw[<-h.el i j c];unfold elA;have a:=h.gi.st.rng (j:=j+1) O;have b:=h.gi.st.mono j c;rw[gapL O,gapL O,qr6 hvl O]
 . have hj:j=p+t:=O;subst hj;unfold elA;have e1:(S++[((I++X).length:Int)]).getD (p+t+1) 0=((I++X).length:Int):=by rw[gapR O,show p+t+1-S.length=0 by omega];rfl
   rw[e1,gapL O,hlast,List.length_append,hXl];rw[show(((I.length+((Sb.getD (t+1) 0).toNat-(Sb.getD t 0).toNat):Nat):Int)).toNat-(((I.length:Nat):Int)).toNat=(Sb.getD (t+1) 0).toNat-(Sb.getD t 0).toNat by omega,tN]
   rw[show findA (I++X) (V++Y) (i:Int) ((Sb.getD (t+1) 0).toNat-(Sb.getD t 0).toNat) I.length=findA X Y (i:Int) ((Sb.getD (t+1) 0).toNat-(Sb.getD t 0).toNat) 0 from qr3 (k:=0) hvl]
   unfold elB;rw[iN' O,show p+t-p=t by omega]
   by_cases c2:i<p
   . rw[iP c2,qr5]
     . rfl
     . intro k _ hk;rw[<-hXX];unfold mvX;rw[Qo O];have:=(hb.col t ht ((Sb.getD t 0).toNat+k) O O).1;omega
   . rw[iN' c2,<-hXX,<-hYY];have:=qr8 (I:=Ib) (V:=Vb) (r:=p) (s:=(Sb.getD t 0).toNat) (d:=(Sb.getD (t+1) 0).toNat-(Sb.getD t 0).toNat) (i:=i-p) (e:=(Sb.getD (t+1) 0).toNat-(Sb.getD t 0).toNat) (k:=0) O;rw[show p+(i-p)=i by omega]at this
     rw[this];rfl
theorem BkS.syD {S I V:LI} (h:BkS p q q Sa Ia Va Sb Ib Vb S I V) (x:Int) {i j:Nat} (hi:i<p+q) (hj:j<p+q):
 qM (syD S I V x) i j=blkA p (qM (syD Sa Ia Va x)) (qM (syD Sb Ib Vb x)) i j:=by
 have zero: ∀i j,p<=i->j<p->elB Sa Ia Va Sb Ib Vb p i j=0:=by
  intro i j hi hj;unfold elB;rw[iP hj];unfold elA;have mo:=ha.st.mono j hj;have r1:=ha.st.rng (j:=j) O;rw[qr5]
  . rfl
  . intro k h1 h2;have:=(ha.col j hj k h1 O).2.1;omega
 have lo: ∀i j,i<p->j<p->elB Sa Ia Va Sb Ib Vb p i j=elA Sa Ia Va i j:=fun i j hi hj=>by unfold elB;rw[iP hj]
 have hi2: ∀i j,p<=i->p<=j->elB Sa Ia Va Sb Ib Vb p i j=elA Sb Ib Vb (i-p) (j-p):=fun i j hi hj=>by unfold elB;rw[iN' O,iN' O]
 unfold qM;unfold blkA;have key: ∀v w:Int,v=w->(v:Rat)=(w:Rat):=fun v w e=>by rw[e]
 by_cases c:i=j
 . subst c;rw[show Go.Vs.F.syD S I V x i i=valF (elA S I V i i)-valF x from iP rfl,h.el i i hi]
   by_cases c1:i<p
   . rw[iP c1,iP c1,lo i i c1 c1];exact key _ _ (iP rfl).symm
   . rw[iN' c1,iN' c1,hi2 i i O O];exact key _ _ (iP rfl).symm
 . rw[show Go.Vs.F.syD S I V x i j=valF (elA S I V (max i j) (min i j))from iN' c,h.el _ _ O]
   by_cases c1:i<p
   . by_cases c2:j<p
     . rw[iP c1,iP c2,lo _ _ O O];exact key _ _ (iN' c).symm
     . rw[iP c1,iN' c2,zero _ _ O O,qhl];rfl
   . by_cases c2:j<p
     . rw[iN' c1,iP c2,zero _ _ O O,qhl];rfl
     . rw[iN' c1,iN' c2,hi2 _ _ O O];refine key _ _ ?_;rw[show Go.Vs.F.syD Sb Ib Vb x (i-p) (j-p)=valF (elA Sb Ib Vb (max (i-p) (j-p)) (min (i-p) (j-p)))from iN' O]
       rw[show max i j-p=max (i-p) (j-p) by omega,show min i j-p=min (i-p) (j-p) by omega]
end
end Go.Vs.F
set_option maxRecDepth 100000
namespace Go.Vs.F
theorem qr7 {l:LI} {k:Nat} (h:k<l.length):l.take k++[l.getD k 0]=l.take (k+1):=by
 rw[<-List.take_append_getElem h];simp[List.getD,h]
section
variable {m:Nat} (hm:5000000000<=m) {p q:Nat} {Sa Ia Va Sb Ib Vb:LI} (hp:p<=4) (hq:q<=4) (ha:GI p p Sa Ia Va) (hb:GI q q Sb Ib Vb)
include hm hp hq ha hb
theorem Bl_L0 (st x c0 c1:Int): ∀(N t:Nat),p-t<N->t<=p->
 sparselaw39_InertiaBlocks_L0 m N st x (p:Int) (p:Int) Sa Ia Va (q:Int) (q:Int) Sb Ib Vb c0 c1 (Sa.take (t+1)) (Ia.take (Sa.getD t 0).toNat) (Va.take (Sa.getD t 0).toNat) (t:Int)=
  some (.inl (st,x,((p:Int),(p:Int),Sa,Ia,Va,()),((q:Int),(q:Int),Sb,Ib,Vb,()),(c0,c1,Sa,Ia,Va,()),())):=by
 have hl:=ha.st.len;have hz:=ha.sz;have hvl:=ha.vl;have hpp:p*p<=4*4:=Nat.mul_le_mul hp hp;intro N;induction N with
 |zero=>intro t h;omega
 |succ N ih=>
  intro t h ht;rw[sparselaw39_InertiaBlocks_L0,bQ];by_cases c:t<p
  . have a:=ha.st.rng (j:=t) O;have b:=ha.st.rng (j:=t+1) O;have mo:=ha.st.mono t c;have w:wI ((t:Int)+1)=((t+1:Nat):Int):=wsucc O
    have e1:Ia.take (Sa.getD t 0).toNat++(Ia.drop (Sa.getD t 0).toNat).take ((Sa.getD (t+1) 0).toNat-(Sa.getD t 0).toNat)=Ia.take (Sa.getD (t+1) 0).toNat:=by
     rw[<-List.take_add];congr 1;omega
    have e2:Va.take (Sa.getD t 0).toNat++(Va.drop (Sa.getD t 0).toNat).take ((Sa.getD (t+1) 0).toNat-(Sa.getD t 0).toNat)=Va.take (Sa.getD (t+1) 0).toNat:=by
     rw[<-List.take_add];congr 1;omega
    have l1:(Ia.take (Sa.getD (t+1) 0).toNat).length=(Sa.getD (t+1) 0).toNat:=by rw[List.length_take];omega
    have g1:((Ia.drop (Sa.getD t 0).toNat).take ((Sa.getD (t+1) 0).toNat-(Sa.getD t 0).toNat)).length<=16:=by rw[List.length_take,List.length_drop];omega
    have g2:((Va.drop (Sa.getD t 0).toNat).take ((Sa.getD (t+1) 0).toNat-(Sa.getD t 0).toNat)).length<=16:=by rw[List.length_take,List.length_drop];omega
    have g3:(Ia.take (Sa.getD t 0).toNat).length<=16:=by rw[List.length_take];omega
    have g4:(Va.take (Sa.getD t 0).toNat).length<=16:=by rw[List.length_take];omega
    have g5:(Sa.take (t+1)).length<=16:=by rw[List.length_take];omega
    simp only[w,tN,Nat.zero_add]
    rw[iP O,iP O,iP O,iP O,iP O,iP O,iP O,iP O,iP O,e1,e2,l1,
     iP (by show _+1<=_;omega),show(((Sa.getD (t+1) 0).toNat:Nat):Int)=Sa.getD (t+1) 0 by omega,qr7 O]
    exact ih (t+1) O O
  . have:t=p:=O;subst this;rw[iN' O,ha.st.last,tN,List.take_of_length_le O,List.take_of_length_le O,List.take_of_length_le O]
theorem Bl_L2 (st x c0 c1:Int) (S I V:LI) (hI:I.length<=1000) (hV:V.length<=1000) {t:Nat} (ht:t<q): ∀(N e:Nat),(Sb.getD (t+1) 0).toNat-(Sb.getD t 0).toNat-e<N->(Sb.getD t 0).toNat+e<=(Sb.getD (t+1) 0).toNat->
 sparselaw39_InertiaBlocks_L2 m N st x (p:Int) (p:Int) Sa Ia Va (q:Int) (q:Int) Sb Ib Vb c0 c1 S (I++mvX Ib p (Sb.getD t 0).toNat e) (V++mvY Vb (Sb.getD t 0).toNat e) (t:Int) (((Sb.getD t 0).toNat+e:Nat):Int)=
  some (.inl (st,x,((p:Int),(p:Int),Sa,Ia,Va,()),((q:Int),(q:Int),Sb,Ib,Vb,()),(c0,c1,S,I++mvX Ib p (Sb.getD t 0).toNat ((Sb.getD (t+1) 0).toNat-(Sb.getD t 0).toNat),V++mvY Vb (Sb.getD t 0).toNat ((Sb.getD (t+1) 0).toNat-(Sb.getD t 0).toNat),()),(t:Int),())):=by
 have hl:=hb.st.len;have hz:=hb.sz;have hvl:=hb.vl;have hqq:q*q<=4*4:=Nat.mul_le_mul hq hq;have a:=hb.st.rng (j:=t) O;have b:=hb.st.rng (j:=t+1) O;have w:wI ((t:Int)+1)=((t+1:Nat):Int):=wsucc O;intro N;induction N with
 |zero=>intro t h;omega
 |succ N ih=>
  intro e h he;rw[sparselaw39_InertiaBlocks_L2,w,iP O,bQ];simp only[tN,Nat.zero_add];by_cases c:(Sb.getD t 0).toNat+e<(Sb.getD (t+1) 0).toNat
  . have g:=hb.col t ht ((Sb.getD t 0).toNat+e) O c;have m1:(mvX Ib p (Sb.getD t 0).toNat e).length=e:=Q8;have m2:(mvY Vb (Sb.getD t 0).toNat e).length=e:=Q8
    have w2:wI ((p:Int)+Ib.getD ((Sb.getD t 0).toNat+e) 0)=Ib.getD ((Sb.getD t 0).toNat+e) 0+(p:Int):=by
     rw[wQ,wi O O];omega
    have e1:mvX Ib p (Sb.getD t 0).toNat e++[Ib.getD ((Sb.getD t 0).toNat+e) 0+(p:Int)]=mvX Ib p (Sb.getD t 0).toNat (e+1):=Y9 (f:=fun u=>Ib.getD ((Sb.getD t 0).toNat+u) 0+(p:Int))
    have e2:mvY Vb (Sb.getD t 0).toNat e++[Vb.getD ((Sb.getD t 0).toNat+e) 0]=mvY Vb (Sb.getD t 0).toNat (e+1):=Y9 (f:=fun u=>Vb.getD ((Sb.getD t 0).toNat+u) 0)
    rw[iP O,iP O,iP (by rw[List.length_append,m1];show _+1<=_;omega),iP O,iP (by rw[List.length_append,m2];show _+1<=_;omega),w2,List.append_assoc,List.append_assoc,e1,e2,wQ,wsucc O]
    exact ih (e+1) O O
  . rw[iN' O,show(Sb.getD (t+1) 0).toNat-(Sb.getD t 0).toNat=e by omega]
theorem Bl_L1 (st x c0 c1:Int): ∀(N t:Nat) (S I V:LI),q-t<N->t<=q->BkS p q t Sa Ia Va Sb Ib Vb S I V->
 ∃S' I' V',BkS p q q Sa Ia Va Sb Ib Vb S' I' V'/\sparselaw39_InertiaBlocks_L1 m N st x (p:Int) (p:Int) Sa Ia Va (q:Int) (q:Int) Sb Ib Vb c0 c1 S I V (t:Int)=
  some (.inl (st,x,((p:Int),(p:Int),Sa,Ia,Va,()),((q:Int),(q:Int),Sb,Ib,Vb,()),(c0,c1,S',I',V',()),())):=by
 have hl:=hb.st.len;have hz:=hb.sz;have hqq:q*q<=4*4:=Nat.mul_le_mul hq hq;intro N;induction N with
 |zero=>intro t S I V h;omega
 |succ N ih=>
  intro t S I V h ht hS;rw[sparselaw39_InertiaBlocks_L1,bQ];by_cases c:t<q
  . have a:=hb.st.rng (j:=t) O;have b:=hb.st.rng (j:=t+1) O;have mo:=hb.st.mono t c;have s1:=hS.gi.sz;have s2:=hS.gi.vl;have s3:=hS.gi.st.len;have:(p+t)*(p+q)<=8*8:=Nat.mul_le_mul O O;have e:=Bl_L2 hm hp hq ha hb st x c0 c1 S I V O O c m 0 O O;rw[show mvX Ib p (Sb.getD t 0).toNat 0=[]from rfl,show mvY Vb (Sb.getD t 0).toNat 0=[]from rfl,List.append_nil,List.append_nil,Nat.add_zero,show(((Sb.getD t 0).toNat:Nat):Int)=Sb.getD t 0 by omega]at e
    rw[iP O,iP O,Nat.zero_add,tN,e,bS];dsimp only;rw[iP (by show _+1<=_;omega),wQ,wsucc O]
    exact ih (t+1) _ _ _ O O (hS.step ha hb c)
  . have:t=q:=O;subst this;rw[iN' O];exact⟨S,I,V,hS,rfl⟩
end
theorem qr1 (raw more:LI) (n k style x:Int) (hl:raw.length<=9223372036854775807) (hl2:more.length<=9223372036854775807) (hx:U64 x): ∃m,sparselaw39_InertiaBlocks m raw more n k style x=some (true,(),(),(),(),(),(),()):=by
 obtain⟨m,hm⟩: ∃m:Nat,5000000100<=m:=⟨_,Nat.le_refl _⟩;refine⟨m,?_⟩;obtain⟨r,hr,er⟩:=qdx m style (k:=3) (by decide) (by decide)
 obtain⟨p,hp,ep⟩:=qdx m n (k:=4) (by decide) (by decide)
 obtain⟨q,hq,eq⟩:=qdx m k (k:=4) (by decide) (by decide)
 obtain⟨Sa,Ia,Va,ha,ea⟩:=qg3 (m:=m) O hl (R:=p) (C:=p) O (r:Int) O;obtain⟨Sb,Ib,Vb,hb,eb⟩:=qg3 (m:=m) O hl2 (R:=q) (C:=q) O (r:Int) O;obtain⟨f,ef,uf,ff⟩:=qm0 (m:=m) O hx (r:Int);have w:wI ((p:Int)+(q:Int))=((p+q:Nat):Int):=by rw[wQ,wi O O];omega
 have sl:=ha.st.len;have l0:=Bl_L0 (m:=m) O O O ha hb (r:Int) x ((p+q:Nat):Int) ((p+q:Nat):Int) m 0 O O
 rw[ha.st.s0,show Sa.take (0+1)=[0]from(by
  rw[<-qr7 (by omega:0<Sa.length),ha.st.s0];rfl),show Ia.take (0:Int).toNat=[]from rfl,show Va.take (0:Int).toNat=[]from rfl,nZ]at l0
 obtain⟨S,I,V,hS,l1⟩:=Bl_L1 (m:=m) O O O ha hb (r:Int) x ((p+q:Nat):Int) ((p+q:Nat):Int) m 0 Sa Ia Va O O (BkS.nil ha hb);rw[nZ]at l1;obtain⟨W1,b1,d1,o1,-⟩:=qla (m:=m) O ha O uf ff;obtain⟨W2,b2,d2,o2,-⟩:=qla (m:=m) O hb O uf ff;have d3:Dg (List.range (p+q)) (qM (syD S I V f)) (blkA p W1 W2) (blkb p b1 b2):=(d1.blocks d2).congr fun i hi j hj=>(hS.syD ha hb f (List.mem_range.1 hi) (List.mem_range.1 hj)).symm
 have o3:=qrf (m:=m) O hS.gi O uf ff d3;have n1:=np_le p b1;have n2:=np_le q b2;obtain⟨i1,i2⟩:=qr9 (a:=p) (b:=q) (c:=b1) (d:=b2);rw[sparselaw39_InertiaBlocks,show(3:Int)=((3:Nat):Int)from rfl,er,show(4:Int)=((4:Nat):Int)from rfl,ep,eq]
 simp only[bS];rw[ea,bS,eb,bS];dsimp only;rw[w,l0,bS];dsimp only;rw[l1,bS];dsimp only;rw[ef,bS,o1,bS,o2,bS,o3,bS];have w1:wI (((negN p b1:Nat):Int)+((negN q b2:Nat):Int))=((negN p b1+negN q b2:Nat):Int):=by rw[wQ,wi O O];omega
 have w2:wI (((p-(posN p b1+negN p b1):Nat):Int)+((q-(posN q b2+negN q b2):Nat):Int))=((p+q-(posN p b1+posN q b2+(negN p b1+negN q b2)):Nat):Int):=by rw[wQ,wi O O];omega
 have w3:wI (((posN p b1:Nat):Int)+((posN q b2:Nat):Int))=((posN p b1+posN q b2:Nat):Int):=by rw[wQ,wi O O];omega
 simp only[InT,i1,i2,w1,w2,w3,beq_self_eq_true,cond_true,Bool.and_self,qns (m:=m) O,bS]
end Go.Vs.F
