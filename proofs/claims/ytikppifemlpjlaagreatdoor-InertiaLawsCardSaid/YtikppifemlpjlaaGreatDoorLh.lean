/-Matrices made from raw numbers are valid. Matrices made from raw numbers:the checks and the look-up. The document's rows of a shifted matrix. The program's rows of a shifted matrix. The program's rows of a shifted matrix are the document's. Counts of symmetric matrices:program and document agree. Keys,middles and the k-th eigenvalue of a symmetric matrix. The k-th eigenvalue by program and document. Counts ascend;one count for every m. Isolating eigenvalues between any floats:program and document make the same slices. Isolate by program and document. Counts of diagonal matrices. Diagonal matrices. The count of a diagonal matrix by keys. The example of the chapter. Inertia:program and document agree;the matrix that a law picks. The shifted matrix as a block:program and document agree. The law InertiaMonotone. The inertia of a matrix whose diagonal form is known;of two blocks. The law InertiaBlocks. A float times a small power of 2,exactly. Matrices of numbers far from the ends of the exponents. Relabelled and scaled symmetric matrices. The law InertiaLaws. The law InertiaLaws:the form is the same. -/
import Derived.Test.YtikppifemlpjlaaGreatDoorLg
import Derived.Test.YtikppifemlpjlaaGreatDoorLa
import Derived.Test.YtikppifemlpjlaaGreatDoorFn
import Derived.KernelRfl
set_option linter.unusedVariables false
set_option linter.unusedSimpArgs false
set_option maxRecDepth 100000
namespace Go.Vs.F
theorem gapL {l x:LI} {k:Nat} (h:k<l.length):(l++x).getD k 0=l.getD k 0:=by simp[List.getD,List.getElem?_append_left h]
theorem gapR {l x:LI} {k:Nat} (h:l.length<=k):(l++x).getD k 0=x.getD (k-l.length) 0:=by simp[List.getD,List.getElem?_append_right h]
theorem qop {l x:LI} (h:FnL l) (h':FnL x):FnL (l++x):=by
 intro i hi;rw[List.length_append]at hi;by_cases c:i<l.length
 . rw[gapL c];exact h i c
 . rw[gapR O];exact h' _ O
structure CX (i:Nat) (X Y:LI):Prop where
 yl:Y.length=X.length
 fn:FnL Y
 sz:X.length<=i
 row: ∀k,k<X.length->0<=X.getD k 0/\X.getD k 0<(i:Int)/\(0<k->X.getD (k-1) 0<X.getD k 0)
theorem CX.nil:CX 0 [] []:=⟨rfl,qjf,Nat.le_refl _,fun k h=>absurd h (Nat.not_lt_zero _)⟩
theorem CX.skip {i:Nat} {X Y:LI} (h:CX i X Y):CX (i+1) X Y:=⟨h.yl,h.fn,by have:=h.sz;omega,fun k hk=>by have:=h.row k hk;exact⟨this.1,O,this.2.2⟩⟩
theorem CX.snoc {i:Nat} {X Y:LI} (h:CX i X Y) {f:Int} (h1:U64 f) (h2:FinF f):CX (i+1) (X++[(i:Int)]) (Y++[f]):=by
 refine⟨by simp[h.yl],ql2 h.fn h1 h2,by have:=h.sz;simp;omega,fun k hk=> ?_⟩
 rw[List.length_append]at hk;have e1:([(i:Int)]:LI).length=1:=rfl;by_cases c:k<X.length
 . have:=h.row k c;rw[gapL c];exact⟨this.1,O,fun h0=>by rw[gapL O];exact this.2.2 h0⟩
 . have hk':k=X.length:=O;subst hk';rw[gapR (Nat.le_refl _),Nat.sub_self];refine⟨by show(0:Int)<=i;omega,by show(i:Int)<((i+1:Nat):Int);omega,fun h0=> ?_⟩
   rw[gapL O];exact(h.row _ O).2.1
structure GI (R j:Nat) (S I V:LI):Prop where
 st:StartOK j S I
 col: ∀t,t<j-> ∀k,(S.getD t 0).toNat<=k->k<(S.getD (t+1) 0).toNat->0<=I.getD k 0/\I.getD k 0<(R:Int)/\((S.getD t 0).toNat<k->I.getD (k-1) 0<I.getD k 0)
 vl:V.length=I.length
 fn:FnL V
 sz:I.length<=j*R
theorem GI.nil {R:Nat}:GI R 0 [0] [] []:=⟨⟨rfl,rfl,fun j h=>absurd h (Nat.not_lt_zero _),rfl⟩,fun t h=>absurd h (Nat.not_lt_zero _),rfl,qjf,Nat.zero_le _⟩
theorem GI.snoc {R j:Nat} {S I V X Y:LI} (h:GI R j S I V) (hX:CX R X Y):GI R (j+1) (S++[((I++X).length:Int)]) (I++X) (V++Y):=by
 have hl:=h.st.len;have hlast:=h.st.last;have h0:=h.st.s0;have s1:=hX.sz;have ea:(I++X).length=I.length+X.length:=List.length_append;have eL: ∀t,t<=j->(S++[((I++X).length:Int)]).getD t 0=S.getD t 0:=fun t ht=>gapL O
 have eR:(S++[((I++X).length:Int)]).getD (j+1) 0=((I++X).length:Int):=by rw[gapR O,show j+1-S.length=0 by omega];rfl
 refine⟨⟨by simp[hl],by rw[eL 0 O];exact h0,fun t ht=> ?_,eR⟩,fun t ht k hk1 hk2=> ?_,by simp[h.vl,hX.yl],qop h.fn hX.fn,?_⟩
 . by_cases c:t<j
   . rw[eL t O,eL (t+1) O];exact h.st.mono t c
   . have:t=j:=O;subst this;rw[eL t (Nat.le_refl _),eR,hlast,ea];omega
 . by_cases c:t<j
   . rw[eL t O]at hk1⊢;rw[eL (t+1) O]at hk2;have:=h.st.le (i:=t+1) (j:=j) O (Nat.le_refl _);rw[gapL O];have q:=h.col t c k hk1 hk2;exact⟨q.1,q.2.1,fun hs=>by rw[gapL O];exact q.2.2 hs⟩
   . have:t=j:=O;subst this;rw[eL t (Nat.le_refl _)]at hk1⊢;rw[eR]at hk2;rw[hlast]at hk1⊢;rw[gapR O];have q:=hX.row (k-I.length) O;refine⟨q.1,q.2.1,fun hs=> ?_⟩
     rw[gapR O,show k-1-I.length=k-I.length-1 by omega]
     exact q.2.2 O
 . have:=h.sz;rw[ea,Nat.succ_mul];omega
theorem GI.mat {R C:Nat} {S I V:LI} (h:GI R C S I V) (hR:R<=100) (hC:C<=100):MatOK R C S I:=by
 have:C*R<=100*100:=Nat.mul_le_mul hC hR;have:=h.sz;refine⟨h.st,fun j hj=> ?_,O,O,O⟩
 unfold q0b;rw[Qr];intro k h1 h2;obtain⟨q1,q2,q3⟩:=h.col j hj k h1 h2;unfold entOK;by_cases c:(S.getD j 0).toNat<k
 . simp only[q1,q2,c,q3 c,decide_true,Bool.and_self,Bool.not_true,Bool.or_true]
 . simp only[q1,q2,c,decide_true,decide_false,Bool.and_self,Bool.not_false,Bool.true_or]
section
variable {m:Nat} (hm:5000000000<=m) {raw:LI} (hl:raw.length<=9223372036854775807) {R C:Nat} (hR:R<=100) (style:Int)
include hm hl hR
end
end Go.Vs.F
set_option maxRecDepth 100000
namespace Go.Vs.F
theorem GI.MV {R C:Nat} {S I V:LI} (h:GI R C S I V) (hR:R<=100) (hC:C<=100):MV R C S I V:=by
 have hM:=h.mat hR hC;refine⟨hM,h.vl,?_⟩;have hz:=hM.sz
 have h1:(decide (0<=(R:Int))&&decide ((R:Int)<=200)&&decide (0<=(C:Int))&&decide ((C:Int)<=200)&&decide (I.length<=10000))=true:=by
  simp only[Bool.and_eq_true,decide_eq_true_eq];omega
 have h2:strB (R:Int) (C:Int) S I V=true:=by
  unfold strB;have a1:((S.length:Int)=(C:Int)+1):=by have:=hM.st.len;omega
  have a2:=hM.st.s0;have a3:Qe (le2 S) 0 (C:Int).toNat=true:=Qr.2 fun k _ hk=>decide_eq_true (hM.st.mono k O)
  have a4:S.getD (C:Int).toNat 0=(I.length:Int):=hM.st.last;have a6:Qe (fun j=>q0b (R:Int) S I j) 0 (C:Int).toNat=true:=Qr.2 fun k _ hk=>hM.ent k O
  simp only[a1,a2,a3,a4,a6,h.vl,decide_true,Bool.and_self]
 have h3:finL V=true:=by
  unfold finL
  exact Qr.2 fun k _ hk=>by
   obtain⟨u,f⟩:=h.fn k hk;rw[qmp u];exact decide_eq_true f
 unfold chk;rw[h1,h2,h3];rfl
def findA (I V:LI) (i:Int):Nat->Nat->Option Int
 |0,_=>none
 |d+1,k=>if I.getD k 0=i then some (V.getD k 0)else findA I V i d (k+1)
def elA (S I V:LI) (i j:Nat):Int:=(findA I V (i:Int) ((S.getD (j+1) 0).toNat-(S.getD j 0).toNat) (S.getD j 0).toNat).getD 0
section
variable {R C:Nat} {S I V:LI}
theorem At_L0 (m:Nat) {i:Int} {j:Nat} (hj:j+1<S.length) (hj2:j<4611686018427387903) {e:Nat} (he:S.getD (j+1) 0=(e:Int)) (hI:e<=I.length) (hv:V.length=I.length) (hb:I.length<=100000) (a0 a1:Int): ∀(n k:Nat),e-k<n->k<=e->
 g19L0 m n i (j:Int) a0 a1 S I V (k:Int)=some (match findA I V i (e-k) k with|some v=> .inl (v,())|none=> .inr (.inl ()))
 |0,k,h,_=>O
 |n+1,k,h,hk0=>by
  have w:wI ((j:Int)+1)=((j+1:Nat):Int):=wsucc O;rw[g19L0,w,iP O,tN,he,bQ];by_cases hk:k<e
  . rw[iP O,iP O,tN,bif_eq,show e-k=e-(k+1)+1 by omega,findA]
    by_cases c:I.getD k 0=i
    . rw[iP c,iP O,iP c]
    . rw[iN' c,show wI ((k:Int)+1)=((k+1:Nat):Int)from wsucc O,iN' c]
      exact At_L0 m hj hj2 he hI hv hb a0 a1 n (k+1) O O
  . rw[iN' O,show e-k=0 by omega,findA]
theorem At_eq {m:Nat} (hm:3000000<m) (h:MV R C S I V) {i j:Nat} (hj:j<C):g19 m (R:Int) (C:Int) S I V (i:Int) (j:Int)=some (elA S I V i j,(),(),(),()):=by
 have hl:=h.ok.st.len;have hsz:=h.ok.sz;have hcz:=h.ok.cz;have hvl:=h.vl;have a:=h.ok.st.rng (j:=j) O;have b:=h.ok.st.rng (j:=j+1) O;have mo:=h.ok.st.mono j hj;have c1:(0:Int)<=(j:Int)/\(j:Int)<(S.length:Int):=O;have e1:S.getD j 0=(((S.getD j 0).toNat:Nat):Int):=O;have hr:=At_L0 (S:=S) (I:=I) (V:=V) m (i:=(i:Int)) (j:=j) O O (e:=(S.getD (j+1) 0).toNat) O O hvl O (R:Int) (C:Int) m (S.getD j 0).toNat O O
 have hpre:g19 m (R:Int) (C:Int) S I V (i:Int) (j:Int)=(g19L0 m m (i:Int) (j:Int) (R:Int) (C:Int) S I V (((S.getD j 0).toNat:Nat):Int)).bind fun y2=>match y2 with
  | .inl z3=>some (z3.1,((),(),(),()))
  | .inr (.inl z4)=>some (0,((),(),(),()))
  | .inr (.inr e)=>e.elim:=by
  rw[g19,q45 O O O,h.chk];simp only[bS,bif_ne,if_true,bQ];rw[iN' O,iN' O,iP c1,tN,<-e1];rfl
 rw[hpre,hr,elA];cases findA I V (i:Int) ((S.getD (j+1) 0).toNat-(S.getD j 0).toNat) (S.getD j 0).toNat<;>rfl
end
end Go.Vs.F
set_option linter.unusedSectionVars false
set_option maxRecDepth 100000
namespace Go.Vs.F
theorem q3q {I V:LI} {i v:Int}: ∀{d k:Nat},findA I V i d k=some v-> ∃t,k<=t/\t<k+d/\I.getD t 0=i/\v=V.getD t 0
 |0,k,h=>by rw[findA]at h;cases h
 |d+1,k,h=>by
  rw[findA]at h;by_cases c:I.getD k 0=i
  . rw[iP c]at h;injection h with h
    exact⟨k,Nat.le_refl _,O,c,h.symm⟩
  . rw[iN' c]at h;obtain⟨t,h1,h2,h3⟩:=q3q h;exact⟨t,O,O,h3⟩
theorem qou:U64 0/\FinF 0:=⟨⟨O,O⟩,by decide⟩
theorem qbc {R C:Nat} {S I V:LI} (h:GI R C S I V) (i:Nat) {j:Nat} (hj:j<C):U64 (elA S I V i j)/\FinF (elA S I V i j):=by
 unfold elA;have a:=h.st.rng (j:=j) O;have b:=h.st.rng (j:=j+1) O;have mo:=h.st.mono j hj;cases e:findA I V (i:Int) ((S.getD (j+1) 0).toNat-(S.getD j 0).toNat) (S.getD j 0).toNat with
 |none=>exact qou
 |some v=>
  obtain⟨t,h1,h2,_,h3⟩:=q3q e;subst h3;exact h.fn t (by have:=h.vl;omega)
def syD (S I V:LI) (x:Int) (i j:Nat):Int:=if i=j then valF (elA S I V i i)-valF x else valF (elA S I V (max i j) (min i j))
theorem qin (S I V:LI) (x:Int) (i j:Nat):syD S I V x i j=syD S I V x j i:=by
 unfold syD;by_cases c:i=j
 . subst c;rfl
 . rw[iN' c,iN' (fun h=>c h.symm),Nat.max_comm,Nat.min_comm]
theorem qc7 {n:Nat} {S I V:LI} {x:Int} (h:GI n n S I V) (hx:FinF x) {i j:Nat} (hi:i<n) (hj:j<n):blen (syD S I V x i j).natAbs<=2099:=by
 unfold syD;by_cases c:i=j
 . rw[iP c];exact qkw (qdm (qbc h i hi).2) (qdm hx)
 . rw[iN' c];exact Nat.le_trans (qdm (qbc h _ O).2) (by decide)
section
variable {m:Nat} (hm:5000000000<=m) {n:Nat} {S I V:LI} {x:Int} (hG:GI n n S I V) (hn:n<=100) (hxU:U64 x) (hx:FinF x)
include hm hG hn hxU hx
theorem qkl (M:List (List DyL)) {i:Nat} (hi:i<n): ∀(N j:Nat),n-j<N->j<=n->
 g37L1 m N x (n:Int) (n:Int) S I V M (i:Int) (mr j fun j=>dE (syD S I V x i j)) (j:Int)=some (.inl (x,((n:Int),(n:Int),S,I,V,()),M,(i:Int),rowD n (syD S I V x i),())):=by
 intro N;induction N with
 |zero=>intro j h;omega
 |succ N ih=>
  intro j h hj;rw[g37L1,bQ];by_cases c:j<n
  . have put: ∀v,v=syD S I V x i j->(if(mr j fun j=>dE (syD S I V x i j)).length+([dE v]:List DyL).length<=1073741824 then
     g37L1 m N x (n:Int) (n:Int) S I V M (i:Int) ((mr j fun j=>dE (syD S I V x i j))++[dE v]) (wI ((j:Int)+1))else none)=some (.inl (x,((n:Int),(n:Int),S,I,V,()),M,(i:Int),rowD n (syD S I V x i),())):=by
     intro v hv;subst hv;rw[Q8,iP (by show j+1<=_;omega),Y9 (f:=fun j=>dE (syD S I V x i j)),wQ,wsucc O]
     exact ih (j+1) O O
    have e1:(if(j:Int)>(i:Int)then(j:Int)else(i:Int))=((max i j:Nat):Int):=by split<;>omega
    have e2:(if(j:Int)<(i:Int)then(j:Int)else(i:Int))=((min i j:Nat):Int):=by split<;>omega
    obtain⟨u,f⟩:=qbc hG (max i j) (j:=min i j) O;rw[iP O,e1,e2,At_eq O (hG.MV hn hn) O,bS];dsimp only;rw[qm9 O u,bS,bif_eq];by_cases d:i=j
    . subst d;rw[iP rfl,qm9 O hxU,bS,(qdu O f hx).2,bS];refine put _ ?_;unfold syD;rw[iP rfl,Nat.max_self,Nat.min_self]
    . rw[iN' O,q4u f];refine put _ ?_;unfold syD;rw[iN' d]
  . have:j=n:=O;subst this;rw[iN' O];rfl
theorem qk6: ∀(N i:Nat),n-i<N->i<=n->
 g37L0 m N x (n:Int) (n:Int) S I V (mr i fun i=>rowD n (syD S I V x i)) (i:Int)=some (.inl (matD n (syD S I V x),())):=by
 intro N;induction N with
 |zero=>intro j h;omega
 |succ N ih=>
  intro i h hi;rw[g37L0,bQ];by_cases c:i<n
  . have e:=qkl hm hG hn hxU hx (mr i fun i=>rowD n (syD S I V x i)) c m 0 O O
    rw[Ze,nZ]at e;rw[iP O,e,bS];dsimp only;rw[Q8,iP (by show 0<1/\i+1<=_;omega),Y9 (f:=fun i=>rowD n (syD S I V x i)),wQ,wsucc O]
    exact ih (i+1) O O
  . have:i=n:=O;subst this;rw[iN' O];rfl
theorem q8a:g37 m (n:Int) (n:Int) S I V x=some (matD n (syD S I V x),(),(),()):=by
 have e:=qk6 hm hG hn hxU hx m 0 O O;rw[Ze,nZ]at e;rw[g37,e,bS]
end
end Go.Vs.F
set_option maxRecDepth 100000
namespace Go.Vs.F
theorem q7f {I V:LI} {i:Int}: ∀{d k:Nat},findA I V i (d+1) k=match findA I V i d k with|some v=>some v|none=>if I.getD (k+d) 0=i then some (V.getD (k+d) 0)else none
 |0,k=>rfl
 |d+1,k=>by
  rw[show findA I V i (d+1+1) k=if I.getD k 0=i then some (V.getD k 0)else findA I V i (d+1) (k+1)from rfl,show findA I V i (d+1) k=if I.getD k 0=i then some (V.getD k 0)else findA I V i d (k+1)from rfl]
  by_cases c:I.getD k 0=i
  . rw[iP c,iP c]
  . rw[iN' c,iN' c,q7f (d:=d) (k:=k+1),show k+1+d=k+(d+1) by omega]
def colP (I V:LI) (s:Nat):Nat->Int->Int
 |0,_=>0
 |d+1,a=>if I.getD (s+d) 0=a then valF (V.getD (s+d) 0)else colP I V s d a
theorem qhl:valF 0=0:=by decide
theorem qis {I V:LI} {a:Int} {s:Nat}: ∀{d:Nat},(∀t t',s<=t->t<t'->t'<s+d->I.getD t 0≠I.getD t' 0)->colP I V s d a=valF ((findA I V a d s).getD 0)
 |0,_=>qhl.symm
 |d+1,h=>by
  rw[colP,q7f];by_cases c:I.getD (s+d) 0=a
  . rw[iP c]
    have:findA I V a d s=none:=by
     cases e:findA I V a d s with
     |none=>rfl
     |some v=>
      obtain⟨t,h1,h2,h3,_⟩:=q3q e;exact absurd (h3.trans c.symm) (h t (s+d) h1 h2 O)
    rw[this];dsimp only;rw[iP c];rfl
  . rw[iN' c,qis (d:=d) (fun t t' h1 h2 h3=>h t t' h1 h2 O)]
    cases findA I V a d s with
    |some v=>rfl
    |none=>dsimp only;rw[iN' c]
def cM (S I V:LI) (j d a b:Nat):Int:=if min a b<j then valF (elA S I V (max a b) (min a b))else if min a b=j then colP I V (S.getD j 0).toNat d ((max a b:Nat):Int)else 0
theorem qi6 {S I V:LI} {j d a b:Nat} (h: ¬(min a b=j/\I.getD ((S.getD j 0).toNat+d) 0=((max a b:Nat):Int))):cM S I V j (d+1) a b=cM S I V j d a b:=by
 unfold cM;by_cases c1:min a b<j
 . rw[iP c1,iP c1]
 . rw[iN' c1,iN' c1];by_cases c2:min a b=j
   . rw[iP c2,iP c2,colP,iN' fun e=>h ⟨c2,e⟩]
   . rw[iN' c2,iN' c2]
theorem qpj {S I V:LI} {j d a b:Nat} (h1:min a b=j) (h2:I.getD ((S.getD j 0).toNat+d) 0=((max a b:Nat):Int)):cM S I V j (d+1) a b=valF (V.getD ((S.getD j 0).toNat+d) 0):=by
 unfold cM;rw[iN' O,iP h1,colP,iP h2]
theorem qow {S I V:LI} {j d r:Nat} (hr:I.getD ((S.getD j 0).toNat+d) 0=(r:Int)) (hj:j<=r) (a b:Nat):
 (if a=j then(fun b=>if b=r then valF (V.getD ((S.getD j 0).toNat+d) 0)else(if j=r then(fun b=>if b=j then valF (V.getD ((S.getD j 0).toNat+d) 0)else cM S I V j d r b)else cM S I V j d j) b)else(if a=r then(fun b=>if b=j then valF (V.getD ((S.getD j 0).toNat+d) 0)else cM S I V j d r b)else cM S I V j d a)) b=cM S I V j (d+1) a b:=by
 by_cases c:min a b=j/\max a b=r
 . rw[qpj c.1 (by rw[hr,c.2])]
   by_cases c1:a=j
   . rw[iP c1];rw[iP O]
   . rw[iN' c1,iP O];rw[iP O]
 . rw[qi6 (fun h=>c ⟨h.1,by have:=h.2;rw[hr]at this;omega⟩)]
   by_cases c1:a=j
   . rw[iP c1];subst c1;rw[iN' O];by_cases c2:a=r
     . rw[iP c2];rw[iN' O,c2]
     . rw[iN' c2]
   . rw[iN' c1];by_cases c2:a=r
     . rw[iP c2];rw[iN' O,c2]
     . rw[iN' c2]
section
variable {m:Nat} (hm:5000000000<=m) {n:Nat} {S I V:LI} {x:Int} (hG:GI n n S I V) (hn:n<=100) (hxU:U64 x) (hx:FinF x)
include hm hG hn hxU hx
theorem Sh_L2 {j:Nat} (hj:j<n) (t27 t28:Int): ∀(N d:Nat),(S.getD (j+1) 0).toNat-(S.getD j 0).toNat-d<N->(S.getD j 0).toNat+d<=(S.getD (j+1) 0).toNat->
 g35L2 m N x (n:Int) (n:Int) S I V (matD n (cM S I V j d)) (j:Int) (((S.getD j 0).toNat+d:Nat):Int) t27 t28=some (.inl (x,((n:Int),(n:Int),S,I,V,()),matD n (cM S I V j ((S.getD (j+1) 0).toNat-(S.getD j 0).toNat)),t27,t28,())):=by
 have hM:=hG.mat hn hn;have hz:=hM.sz;have hl:=hG.st.len;have hvl:=hG.vl;have a:=hG.st.rng (j:=j) O;have b:=hG.st.rng (j:=j+1) O;have mo:=hG.st.mono j hj;have w:wI ((j:Int)+1)=((j+1:Nat):Int):=wsucc O;have he:S.getD (j+1) 0=(((S.getD (j+1) 0).toNat:Nat):Int):=O;intro N;induction N with
 |zero=>intro d h;omega
 |succ N ih=>
  intro d h hd;rw[g35L2,w,iP O,tN,bQ];by_cases c:(S.getD j 0).toNat+d<(S.getD (j+1) 0).toNat
  . obtain⟨q1,q2⟩:=hM.row hj (k:=(S.getD j 0).toNat+d) O c;obtain⟨u,f⟩:=hG.fn ((S.getD j 0).toNat+d) O;have w2:wI ((((S.getD j 0).toNat+d:Nat):Int)+1)=(((S.getD j 0).toNat+(d+1):Nat):Int):=wsucc O;obtain⟨r,hr⟩: ∃r:Nat,I.getD ((S.getD j 0).toNat+d) 0=(r:Int):=⟨(I.getD ((S.getD j 0).toNat+d) 0).toNat,O⟩;rw[iP O,iP O];simp only[tN,hr,bQ,w2];by_cases c2:j<=r
    . rw[iP O,Xi,iP O,iP O,iP O,Of_eq O u,q4u f,bS,iP O,bS];dsimp only;rw[Z4 (show r<n by omega),Y2,iP O,q5o,q1p,Z4 hj,Y2,iP O,q5o,q1p]
      refine Eq.trans ?_ (ih (d+1) O O);congr 1;unfold matD;refine Q7 fun a ha=> ?_
      unfold rowD;refine Q7 fun b hb=> ?_
      congr 1;exact qow hr c2 a b
    . rw[iN' O];refine Eq.trans ?_ (ih (d+1) O O);congr 1;unfold matD;refine Q7 fun a ha=> ?_
      unfold rowD;refine Q7 fun b hb=> ?_
      rw[qi6 (fun h=>by have:=h.2;rw[hr]at this;omega)]
  . rw[iN' O,show(S.getD (j+1) 0).toNat-(S.getD j 0).toNat=d by omega]
end
end Go.Vs.F
set_option maxRecDepth 100000
namespace Go.Vs.F
theorem Je {n:Nat} {D D':Nat->Nat->Int} (h: ∀a b,a<n->b<n->D a b=D' a b):matD n D=matD n D':=by
 unfold matD;refine Q7 fun a ha=> ?_
 unfold rowD;exact Q7 fun b hb=>by rw[h a b ha hb]
theorem qoi {n:Nat} {S I V:LI} (hM:MatOK n n S I) {j:Nat} (hj:j<n) (a b:Nat):cM S I V j ((S.getD (j+1) 0).toNat-(S.getD j 0).toNat) a b=cM S I V (j+1) 0 a b:=by
 unfold cM;by_cases c1:min a b<j
 . rw[iP c1,iP O]
 . rw[iN' c1];by_cases c2:min a b=j
   . rw[iP c2,iP O,c2,elA];refine qis fun t t' h1 h2 h3=> ?_
     have:=hM.asc hj (t'-t-1) t h1 O;rw[show t+(t'-t-1+1)=t' by omega]at this
     omega
   . rw[iN' c2,iN' O];split
     . rfl
     . rfl
def dM (S I V:LI) (x:Int) (i a b:Nat):Int:=if a=b/\a<i then valF (elA S I V a a)-valF x else valF (elA S I V (max a b) (min a b))
section
variable {m:Nat} (hm:5000000000<=m) {n:Nat} {S I V:LI} {x:Int} (hG:GI n n S I V) (hn:n<=100) (hxU:U64 x) (hx:FinF x)
include hm hG hn hxU hx
theorem Sh_L1: ∀(N j:Nat),n-j<N->j<=n->
 g35L1 m N x (n:Int) (n:Int) S I V (matD n (cM S I V j 0)) (n:Int) (j:Int)=some (.inl (x,matD n (cM S I V n 0),())):=by
 have hM:=hG.mat hn hn;have hz:=hM.sz;have hl:=hG.st.len;intro N;induction N with
 |zero=>intro d h;omega
 |succ N ih=>
  intro j h hj;rw[g35L1,bQ];by_cases c:j<n
  . have a:=hG.st.rng (j:=j) O;have b:=hG.st.rng (j:=j+1) O;have mo:=hG.st.mono j c;have e:=Sh_L2 hm hG hn hxU hx c (n:Int) (j:Int) m 0 O O;rw[Nat.add_zero,show(((S.getD j 0).toNat:Nat):Int)=S.getD j 0 by omega,Je (fun a b _ _=>qoi (V:=V) hM c a b)]at e
    rw[iP O,iP O,tN,e,bS];dsimp only;rw[wQ,wsucc O];exact ih (j+1) O O
  . have:j=n:=O;subst this;rw[iN' O]
theorem Sh_L0: ∀(N i:Nat),n-i<N->i<=n->
 g35L0 m N x (n:Int) (n:Int) S I V (mr n fun k=>if k<i then rowD n (fun _=>0)else []) (n:Int) (i:Int)=some (.inl (x,((n:Int),(n:Int),S,I,V,()),matD n (fun _ _=>0),())):=by
 intro N;induction N with
 |zero=>intro d h;omega
 |succ N ih=>
  intro i h hi;rw[g35L0,bQ];by_cases c:i<n
  . rw[iP O,iP O,Q8,iP O,tN,tN,qj2,J7,wQ,wsucc O];refine Eq.trans ?_ (ih (i+1) O O);congr 1;refine Q7 fun k hk=> ?_
    by_cases c1:k=i
    . rw[iP c1,iP O]
    . rw[iN' c1];by_cases c2:k<i
      . rw[iP c2,iP O]
      . rw[iN' c2,iN' O]
  . have:i=n:=O;subst this;rw[iN' O];rw[show(mr i fun k=>if k<i then rowD i (fun _=>0)else [])=matD i (fun _ _=>0)from Q7 fun k hk=>iP hk]
theorem Sh_L3: ∀(N i:Nat),n-i<N->i<=n->
 g35L3 m N x (matD n (dM S I V x i)) (n:Int) (i:Int)=some (.inl (matD n (syD S I V x),())):=by
 intro N;induction N with
 |zero=>intro d h;omega
 |succ N ih=>
  intro i h hi;rw[g35L3,bQ];by_cases c:i<n
  . obtain⟨u,f⟩:=qbc hG i (j:=i) c;have key:=(qdu (m:=m) O f hx).1;rw[q4u f]at key;have hv:dM S I V x i i i=valF (elA S I V i i):=by unfold dM;rw[iN' O,Nat.max_self,Nat.min_self]
    rw[iP O,Xi,iP O,iP O,tN,Z4 c,Y2,iP O,Of_eq O hxU,bS,Ju c,hv];dsimp only;rw[show g66 m (dE (valF (elA S I V i i))).1 (dE (valF (elA S I V i i))).2.1.1 (dE (valF (elA S I V i i))).2.1.2 (dE (valF (elA S I V i i))).2.2 (ofD x).1 (ofD x).2.1 (ofD x).2.2.1 (ofD x).2.2.2.1=_ from key,bS,iP O]
    dsimp only;rw[q5o,q1p,wQ,wsucc O];refine Eq.trans ?_ (ih (i+1) O O);congr 1;refine Je fun a b ha hb=> ?_
    by_cases c1:a=i
    . rw[iP c1];subst c1;by_cases c2:b=a
      . rw[iP c2];subst c2;unfold dM;rw[iP ⟨rfl,O⟩]
      . rw[iN' c2];unfold dM;rw[iN' (fun h=>c2 h.1.symm),iN' (fun h=>c2 h.1.symm)]
    . rw[iN' c1];unfold dM;by_cases c2:a=b/\a<i
      . rw[iP c2,iP ⟨c2.1,O⟩]
      . rw[iN' c2,iN' (fun h=>c2 ⟨h.1,O⟩)]
  . have:i=n:=O;subst this;rw[iN' O];rw[Je (D':=syD S I V x) fun a b ha hb=> ?_]
    unfold dM syD;by_cases c2:a=b
    . rw[iP ⟨c2,ha⟩,iP c2]
    . rw[iN' (fun h=>c2 h.1),iN' c2]
theorem q3w:g35 m (n:Int) (n:Int) S I V x=some (matD n (syD S I V x),(),(),()):=by
 have e0:=Sh_L0 hm hG hn hxU hx m 0 O O;rw[show(mr n fun k=>if k<0 then rowD n (fun _=>0)else [])=List.replicate n [] by rw[q61];exact Q7 fun k _=>iN' O,nZ]at e0
 have e1:=Sh_L1 hm hG hn hxU hx m 0 O O;rw[Je (D:=cM S I V 0 0) (D':=fun _ _=>0) (fun a b _ _=>by unfold cM;rw[iN' O];split<;>rfl),nZ]at e1
 have e3:=Sh_L3 hm hG hn hxU hx m 0 O O;rw[Je (D:=dM S I V x 0) (D':=cM S I V n 0) (fun a b _ _=>by unfold cM dM;rw[iN' O,iP O]),nZ]at e3
 rw[g35,iP O,tN,List.length_replicate,e0,bS];dsimp only;rw[e1,bS];dsimp only;rw[Xi,e3,bS]
end
end Go.Vs.F
set_option maxRecDepth 100000
namespace Go.Vs.F
def chk9 (R C:Int) (S I V:LI) (x:Int) (inf:Bool):Int:=
 if chk R C S I V≠0 then chk R C S I V else if R≠C then 5 else if R>16 then 6 else if kindN x=3\/(inf=false/\ ¬FinF x)then 4 else 0
theorem q1x {m:Nat} (hm:5000000000<=m) {R C:Int} {S I V:LI} (hS:S.length<=1000000) (hV:V.length<=1000000) {x:Int} (hx:U64 x) (inf:Bool):
 g33 m R C S I V x inf=some (chk9 R C S I V x inf,(),(),(),())/\g36 m R C S I V x inf=some (chk9 R C S I V x inf,(),(),(),()):=by
 obtain⟨q1,q2⟩:=qn2 (m:=m) hx;constructor
 . rw[g33,g59eq O O O O O,bS,bif_ne,bif_ne,bQ,q1,chk9];dsimp only;by_cases c1:chk R C S I V=0
   . rw[iP c1,iN' (show¬(chk R C S I V≠0)from fun h=>h c1)]
     by_cases c2:R=C
     . rw[iP c2,iN' (show¬(R≠C)from fun h=>h c2)]
       by_cases c3:R>16
       . rw[iP c3,iP c3]
       . rw[iN' c3,iN' c3,bS,bif_eq];by_cases c4:kindN x=3
         . rw[iP c4,iP (.inl c4)]
         . rw[iN' c4];cases inf
           . rw[qgq hx];by_cases c5:FinF x
             . rw[iN' (by simp[c4,c5])];simp[c5]
             . rw[iP (.inr ⟨rfl,c5⟩)];simp[c5]
           . rw[iN' (by simp[c4])];rfl
     . rw[iN' c2,iP c2]
   . rw[iN' c1,iP c1]
 . rw[g36,q45 O O O,bS,bif_ne,bif_ne,bQ,q9h hx,chk9];dsimp only;by_cases c1:chk R C S I V=0
   . rw[iP c1,iN' (show¬(chk R C S I V≠0)from fun h=>h c1)]
     by_cases c2:R=C
     . rw[iP c2,iN' (show¬(R≠C)from fun h=>h c2)]
       by_cases c3:R>16
       . rw[iP c3,iP c3]
       . rw[iN' c3,iN' c3,bS];by_cases c5:FinF x
         . have c4:=q9g c5;rw[iN' (by simp[c4,c5])];simp[c5]
         . cases inf
           . rw[iP (.inr ⟨rfl,c5⟩)];simp[c5]
           . rw[q2];by_cases c4:kindN x=3
             . rw[iP (.inl c4)];simp[c5,c4]
             . rw[iN' (by simp[c4])];simp[c5,c4]
     . rw[iN' c2,iP c2]
   . rw[iN' c1,iP c1]
section
variable {m:Nat} (hm:5000000000<=m) {n:Nat} {S I V:LI} (hG:GI n n S I V) (h5:n<=5) {x:Int} (hx:U64 x)
include hm hG h5 hx
end
end Go.Vs.F
set_option maxRecDepth 100000
namespace Go.Vs.F
section
variable {m:Nat} (hm:5000000000<=m) {n:Nat} {S I V:LI} {C:Int->Nat}
 (hC: ∀q,inK q->g24 m (n:Int) (n:Int) S I V (fromK q)=some (((C q:Int),0,()),(),(),())/\g28 m (n:Int) (n:Int) S I V (fromK q)=some (((C q:Int),0,()),(),(),()))
include hm hC
end
end Go.Vs.F
set_option maxRecDepth 100000
namespace Go.Vs.F
end Go.Vs.F
set_option maxRecDepth 100000
namespace Go.Vs.F
theorem qqi {f:Int} (h:U64 f):FinF f↔lowF f<9218868437227405312:=by unfold FinF fexp lowF;obtain⟨h1,h2⟩:=h;omega
end Go.Vs.F
set_option maxRecDepth 100000
namespace Go.Vs.F
def Vx (x:Int):Prop:=U64 x/\nanB x=false
section
variable {n:Nat} {S I V:LI} {C:Int->Nat} (mono: ∀a b,Vx a->Vx b->keyF a<=keyF b->C a<=C b) (hn: ∀q,Vx q->C q<=100)
 (hC: ∀m:Nat,5000000000<=m-> ∀q,Vx q->g24 m (n:Int) (n:Int) S I V q=some (((C q:Int),0,()),(),(),())/\g28 m (n:Int) (n:Int) S I V q=some (((C q:Int),0,()),(),(),()))
include mono hn hC
end
end Go.Vs.F
set_option maxRecDepth 100000
namespace Go.Vs.F
theorem qmr (j:Nat):sparselaw39_awake (j+200)=some (true,()):=by kernel_rfl
end Go.Vs.F
set_option maxRecDepth 100000
namespace Go.Vs.F
theorem qns {m:Nat} (hm:200<=m):sparselaw39_awake m=some (true,()):=by
 obtain⟨j,rfl⟩: ∃j,m=j+200:=⟨m-200,O⟩;exact qmr j
def negN (n:Nat) (b:Nat->Rat):Nat:=npos (List.range n) (fun i=> -b i)
def posN (n:Nat) (b:Nat->Rat):Nat:=npos (List.range n) b
theorem np_le (n:Nat) (b:Nat->Rat):posN n b+negN n b<=n:=by
 have:=q8q (L:=List.range n) (b:=b);rw[List.length_range]at this;exact this
def InT (n:Nat) (b:Nat->Rat):(Int×Int×Int×Unit)×Int×Unit:=((((negN n b:Nat):Int),((n-(posN n b+negN n b):Nat):Int),((posN n b:Nat):Int),()),0,())
section
variable {m:Nat} (hm:5000000000<=m) {n:Nat} {S I V:LI} (hG:GI n n S I V) (h5:n<=5) {x:Int} (hx:U64 x) (hF:FinF x)
include hm hG h5 hx hF
theorem qdy (inf:Bool):g33 m (n:Int) (n:Int) S I V x inf=some (0,(),(),(),())/\g36 m (n:Int) (n:Int) S I V x inf=some (0,(),(),(),()):=by
 have hMV:=hG.MV O O;have hck:=hMV.chk;have hsl:=hMV.sl;have hsz:=hMV.ok.sz;have hvl:=hMV.vl;have h3:=q9g hF;have k:=q1x hm (R:=(n:Int)) (C:=(n:Int)) (S:=S) (I:=I) (V:=V) O O hx inf
 have z1:chk9 (n:Int) (n:Int) S I V x inf=0:=by
  unfold chk9;rw[iN' (show¬(chk (n:Int) (n:Int) S I V≠0)from fun h=>h hck),iN' (show¬((n:Int)≠(n:Int))from fun h=>h rfl),iN' (show¬((n:Int)>16) by omega),iN' (by simp[h3,hF])]
 rw[z1]at k;exact k
theorem qla: ∃W b,Dg (List.range n) (qM (syD S I V x)) W b/\g20 m (n:Int) (n:Int) S I V x=some (InT n b,(),(),())/\g16 m (n:Int) (n:Int) S I V x=some (InT n b,(),(),()):=by
 obtain⟨j1,j2⟩:=qdy hm hG h5 hx hF false;have hlen:=fun i j (hi:i<n) (hj:j<n)=>qc7 hG hF hi hj
 obtain⟨W,b,d1,d2,d3⟩:=q4a hm h5 (D:=syD S I V x) (fun i j hi hj=>Nat.le_trans (hlen i j hi hj) (by decide)) (qin S I V x)
 have hbig: ∀i j,i<n->j<n->blen (syD S I V x i j).natAbs<=10000:=fun i j hi hj=>Nat.le_trans (hlen i j hi hj) (by decide)
 refine⟨W,b,d1,?_,?_⟩
 . rw[g20,j1,bS];dsimp only;rw[show((0:Int) !=0)=false from rfl,cond_false,q3w hm hG O hx hF,bS,qgn hm O hbig,bS,d2,bS]
   rfl
 . rw[g16,j2,bS];dsimp only;rw[show((0:Int) !=0)=false from rfl,cond_false,q8a hm hG O hx hF,bS]
   dsimp only;rw[qhw hm O hbig,bS,d3,bS];rfl
end
end Go.Vs.F
set_option maxRecDepth 100000
namespace Go.Vs.F
def blk (n:Nat) (D:Nat->Nat->Int):List DyL:=mr (n*n) fun t=>dE (D (t%n) (t/n))
section
variable {m:Nat} (hm:5000000000<=m) {n:Nat} (hn:n<=100) {D:Nat->Nat->Int} (a2 a3 a4:LI)
include hm hn
end
section
variable {m:Nat} (hm:5000000000<=m) {n:Nat} {S I V:LI} (hG:GI n n S I V) (h5:n<=5) {x:Int} (hx:U64 x) (hF:FinF x)
include hm hG h5 hx hF
end
end Go.Vs.F
set_option maxRecDepth 100000
namespace Go.Vs.F
theorem qqe {f:Int} (h:U64 f) (hf:FinF f):nanB f=false:=by
 have h1:=(qqi h).1 hf;unfold nanB;exact decide_eq_false O
section
variable {m:Nat} (hm:5000000000<=m) {n:Nat} {S I V:LI} (hG:GI n n S I V) (h5:n<=4) {s t:Int} (hs:U64 s) (fs:FinF s) (ht:U64 t) (ft:FinF t) (hk:keyF s<=keyF t)
include hm hG h5 hs fs ht ft hk
end
end Go.Vs.F
set_option maxRecDepth 100000
namespace Go.Vs.F
section
variable {m:Nat} (hm:5000000000<=m) {n:Nat} {S I V:LI} (hG:GI n n S I V) (h5:n<=16) {x:Int} (hx:U64 x) (hF:FinF x)
include hm hG h5 hx hF
theorem qrf {W:Nat->Nat->Rat} {b:Nat->Rat} (hd:Dg (List.range n) (qM (syD S I V x)) W b):g20 m (n:Int) (n:Int) S I V x=some (InT n b,(),(),()):=by
 have hMV:=hG.MV O O;have hck:=hMV.chk;have hsl:=hMV.sl;have hsz:=hMV.ok.sz;have hvl:=hMV.vl;have h3:=q9g hF;have k:=(q1x hm (R:=(n:Int)) (C:=(n:Int)) (S:=S) (I:=I) (V:=V) O O hx false).1
 have z1:chk9 (n:Int) (n:Int) S I V x false=0:=by
  unfold chk9;rw[iN' (show¬(chk (n:Int) (n:Int) S I V≠0)from fun h=>h hck),iN' (show¬((n:Int)≠(n:Int))from fun h=>h rfl),iN' (show¬((n:Int)>16) by omega),iN' (by simp[h3,hF])]
 rw[z1]at k;have hlen:=fun i j (hi:i<n) (hj:j<n)=>qc7 hG hF hi hj
 have hbig: ∀i j,i<n->j<n->blen (syD S I V x i j).natAbs<=10000:=fun i j hi hj=>Nat.le_trans (hlen i j hi hj) (by decide)
 have hl: ∀i j,i<n->j<n->zlen (qD n (syD S I V x) i j)<=66:=fun i j hi hj=>qpu (Nat.le_trans (hlen i j hi hj) (by decide:2099<=2111))
 have hsq: ∀i j,i<n->j<n->qD n (syD S I V x) i j=qD n (syD S I V x) j i:=fun i j _ _=>by unfold qD;rw[qin S I V x i j]
 generalize hD:syD S I V x=D at*
 have hc:(0:Rat)<((2^kM n D:Int):Rat):=by
  have:=Zn (kM n D);have:=Rat.intCast_lt_intCast.2 this;exact this
 have hci:(0:Rat)<((2^kM n D:Int):Rat)⁻¹:=Rat.inv_pos.2 hc
 have hq:Dg (List.range n) (qM (qD n D)) W (fun i=>((2^kM n D:Int):Rat)⁻¹*b i):=(hd.scale _).congr fun i hi j hj=>by
  show((2^kM n D:Int):Rat)⁻¹*(D i j:Rat)=(qD n D i j:Rat)
  rw[qpn (D:=D) (List.mem_range.1 hi) (List.mem_range.1 hj),Rat.intCast_mul,Rat.mul_comm,Rat.mul_assoc,Rat.mul_inv_cancel _ (Rat.ne_of_gt hc),Rat.mul_one]
 have d3:=qfi (m:=m) O (n:=n) O (M:=qD n D) (e:=66) O hl hsq hq;rw[q3l hci,q1c hci]at d3;rw[g20,k,bS];dsimp only;rw[show((0:Int) !=0)=false from rfl,cond_false,q3w hm hG O hx hF,hD,bS,qgn hm O hbig,bS,d3,bS]
 rfl
end
section
variable {n:Nat} {A B:Nat->Nat->Rat} {i j:Nat}
end
end Go.Vs.F
set_option maxRecDepth 100000
namespace Go.Vs.F
theorem qr6 {I V X Y:LI} {i:Int} (hv:V.length=I.length): ∀{d k:Nat},k+d<=I.length->findA (I++X) (V++Y) i d k=findA I V i d k
 |0,k,_=>rfl
 |d+1,k,h=>by
  rw[findA,findA,gapL O,gapL O,qr6 hv O]
theorem qr3 {I V X Y:LI} {i:Int} (hv:V.length=I.length): ∀{d k:Nat},findA (I++X) (V++Y) i d (I.length+k)=findA X Y i d k
 |0,k=>rfl
 |d+1,k=>by
  rw[findA,findA,gapR O,gapR O,hv,show I.length+k-I.length=k by omega,Nat.add_assoc,qr3 hv]
section
variable {p q:Nat} {Sa Ia Va Sb Ib Vb:LI} (ha:GI p p Sa Ia Va) (hb:GI q q Sb Ib Vb)
include ha hb
end
end Go.Vs.F
set_option maxRecDepth 100000
namespace Go.Vs.F
def Nice (f:Int):Prop:=U64 f/\(lowF f=0\/(25<=fexp f/\fexp f<=2020))
def scF (f k:Int):Int:=if lowF f=0 then f else f+k*4503599627370496
theorem Nice.fin {f:Int} (h:Nice f):FinF f:=by
 obtain⟨⟨h1,h2⟩,h⟩:=h;unfold FinF fexp at*;unfold lowF at h;omega
theorem qsu {f k:Int} (h:Nice f) (h1: -20<=k) (h2:k<=20):U64 (scF f k)/\FinF (scF f k):=by
 obtain⟨⟨a1,a2⟩,h⟩:=h;unfold scF U64 FinF;unfold fexp lowF at*;split
 . omega
 . omega
theorem qsl {f k:Int} (h:Nice f) (h1: -20<=k) (h2:k<=20):valF (scF f k)*2^20=valF f*2^(k+20).toNat:=by
 obtain⟨⟨a1,a2⟩,h⟩:=h;unfold scF;by_cases c:lowF f=0
 . rw[iP c]
   have:valF f=0:=by
    unfold valF ofZ sc;have e1:fexp f=0:=by unfold fexp;unfold lowF at c;omega
    have e2:ffrac f=0:=by unfold ffrac;unfold lowF at c;omega
    rw[iP e1,e2,Int.mul_zero,Int.zero_mul]
   rw[this,Int.zero_mul,Int.zero_mul]
 . rw[iN' c];have h:=h.resolve_left c;have e1:fexp (f+k*4503599627370496)=fexp f+k:=by unfold fexp at*;omega
   have e2:ffrac (f+k*4503599627370496)=ffrac f:=by unfold ffrac;omega
   have e3:fneg (f+k*4503599627370496)=fneg f:=by
    unfold fneg;rw[decide_eq_decide];unfold fexp at*;omega
   have z1:ofZ (f+k*4503599627370496)=ofZ f:=by
    unfold ofZ;rw[e1,e2,e3,iN' (show¬(fexp f+k=0) by omega),iN' (show¬(fexp f=0) by omega)]
   have z2:ofE (f+k*4503599627370496)=fexp f+k-1075:=by unfold ofE;rw[e1,iN' O]
   have z3:ofE f=fexp f-1075:=by unfold ofE;rw[iN' O]
   unfold valF sc;rw[z1,z2,z3,Int.mul_assoc,Int.mul_assoc,<-Int.pow_add,<-Int.pow_add];congr 2;omega
theorem qsa {f k:Int} (h:Nice f) (hz:lowF f≠0) (h1: -20<=k) (h2:k<=20):qrx (mkD (ofZ f) (ofE f+k)) 0=f+k*4503599627370496:=by
 obtain⟨⟨a1,a2⟩,h⟩:=h;have h:=h.resolve_left hz;obtain⟨M,hM⟩: ∃M:Nat,ffrac f+4503599627370496=(M:Int):=⟨(ffrac f+4503599627370496).toNat,by unfold ffrac;omega⟩
 have m1:4503599627370496<=M/\M<9007199254740992:=by unfold ffrac at hM;omega
 have z3:ofE f=fexp f-1075:=by unfold ofE;rw[iN' O]
 have z1:ofZ f=(if fneg f then-1 else 1)*(M:Int):=by unfold ofZ;rw[iN' (show¬(fexp f=0) by omega),hM]
 have zA:(ofZ f).natAbs=M:=by rw[z1];split<;>omega
 have z0:ofZ f≠0:=by rw[z1];split<;>omega
 have zN:decide (ofZ f<0)=fneg f:=by
  rw[z1];by_cases c:fneg f=true
  . rw[iP c,c];exact decide_eq_true O
  . rw[iN' c,Bool.eq_false_iff.2 c];exact decide_eq_false O
 have hb:blen M=53:=qn0 (k:=52) (by show 4503599627370496<=M;omega) (by show M<9007199254740992;omega)
 have ht:=qez (n:=M) O;have hbt:=qdb (n:=M) O
 have hmk:mkD (ofZ f) (ofE f+k)=(false,decide (ofZ f<0),lim (M/2^tz M),ofE f+k+(tz M:Int),()):=by
  unfold mkD;rw[iN' z0,zA,iN' O]
 have hu:unitF (M/2^tz M) (ofE f+k+(tz M:Int))=ofE f+k:=by unfold unitF;omega
 have hmult:multF (fneg f) (M/2^tz M) (ofE f+k+(tz M:Int)) false 0=M:=by
  unfold multF;rw[hu,iP O,show(ofE f+k+(tz M:Int)-(ofE f+k)).toNat=tz M by omega,Nat.mul_comm]
  exact ht.2.1.symm
 unfold qrx;rw[hmk];dsimp only;rw[iN' (by simp),iN' (fun e=>ht.1 (q3n.1 e)),Q9,zN]
 unfold qri;rw[hmult,hu];unfold packF;rw[iN' O,iN' O,iN' O];unfold sgnF fneg;unfold fexp at*;unfold ffrac at*;by_cases c:9223372036854775808<=f
 . rw[decide_eq_true c,iP rfl];omega
 . rw[decide_eq_false c,iN' (by simp)];omega
theorem qs1 {m:Nat} (hm:5000000000<=m) {f k:Int} (h:Nice f) (h1: -20<=k) (h2:k<=20):g18 m f k 0=some (scF f k,(),(),(),()):=by
 have hf:=h.fin;have hU:=h.1;have hn:=qqe hU hf;rw[g18,qqn hU,hn,bS];dsimp only;rw[cond_false,(qn2 hU).2,bS,bif_ne];dsimp only;unfold scF;by_cases c:lowF f=0
 . have hk:kindN f=0:=by
    unfold kindN;have e1:fexp f=0:=by unfold fexp;unfold lowF at c;have:=hU.1;have:=hU.2;omega
    have e2:ffrac f=0:=by unfold ffrac;unfold lowF at c;omega
    rw[iN' O,iP ⟨e1,e2⟩]
   rw[iN' O,iP c]
 . have hE:=h.2.resolve_left c
   have hk:kindN f=1:=by
    unfold kindN;rw[iN' O,iN' O]
   rw[iP hk,iN' c,qm9 O hU,bS];have hof:ofD f=mkD (ofZ f) (ofE f):=by unfold ofD;rw[iP hf]
   have hok:OkD (ofZ f) (ofE f):=by have:=qq3 hf;exact this
   have e1:(if(if k<5000 then k else 5000)>(-5000)then(if k<5000 then k else 5000)else(-5000))=k:=by
    repeat' split
    all_goals omega
   rw[hof,e1,g48,Zl O,bS];dsimp only;obtain⟨w,e,nf,k1,k2,k3⟩:=Zd hok;have hb1:=nf.lo;have hb2:=nf.hi;have n1:=nf.len
   have z0:sgn (ofZ f)≠0:=by
    rw[Ne,Jm];unfold ofZ;rw[iN' (show¬(fexp f=0) by omega)]
    have:=q9p f;split<;>omega
   have w1:wI (e+k)=e+k:=by rw[wQ,wi O O]
   have hE2:EqD w (e+k) (ofZ f) (ofE f+k):=by
    have:=nf.eq.mul (EqD.refl 1 k)
    rwa [Int.mul_one,Int.mul_one]at this
   rw[show(mkD (ofZ f) (ofE f)).1=false from hok,cond_false,qjp O hok,bS,bif_eq,bQ,bQ]
   dsimp only;rw[iN' z0,iN' O,iN' O,k1,k2,k3,w1,q90 O O O O,hE2.mk,bS,bS];dsimp only;rw[qs3 O,bS,qsa h c h1 h2]
end Go.Vs.F
set_option maxRecDepth 100000
namespace Go.Vs.F
theorem qs4:Nice 0:=⟨⟨O,O⟩,.inl (by decide)⟩
theorem qs6 {f E:Int} (h:U64 f) (e:fexp f=E) (h1:25<=E) (h2:E<=2020):Nice f:=⟨h,.inr ⟨by rw[e];exact h1,by rw[e];exact h2⟩⟩
theorem qrn (m:Nat) {a k:Nat} (h:a<k) (hk:k<9223372036854775808):g14 m (a:Int) (k:Int)=some ((a:Int),(),(),()):=by
 have w:wJ (k:Int)=(k:Int):=w64n O;have w2:wJ (a:Int)=(a:Int):=w64n O;rw[g14,w,w2,iP O,tm,Nat.mod_eq_of_lt h,wQ,wi O O]
theorem qs5 {x M E:Nat} (hx:x<18446744073709551616) (hM:M<18446744073709551616) (hM0:M/4503599627370496%2048=0) (hE:E<2047):
 fexp (b_or_ .u64 (qw .u64 (x:Int) (M:Int)) (shl_ .u64 (wJ (E:Int)) 52))=(E:Int):=by
 have e2:shl_ .u64 (wJ (E:Int)) 52=((E*2^52:Nat):Int):=by
  rw[w64n O];exact shl64 (a:=E) (k:=52) O (by rw[show(2:Nat)^52=4503599627370496 by decide];omega)
 have ha:x&&&M<18446744073709551616:=Nat.lt_of_le_of_lt Nat.and_le_left hx;have hp:(2:Nat)^52=4503599627370496:=by decide
 rw[and64 hx hM,e2,or64 ha (by rw[hp];omega)]
 unfold fexp
 have key:(x&&&M|||E*2^52)/2^52%2^11=E:=by
  rw[<-Nat.shiftRight_eq_div_pow,Nat.shiftRight_or_distrib,Nat.or_mod_two_pow,Nat.shiftRight_and_distrib,Nat.and_mod_two_pow,Nat.shiftRight_eq_div_pow M,hp];rw[show(2:Nat)^11=2048 by decide,hM0,Nat.and_zero,Nat.zero_or,Nat.shiftRight_eq_div_pow,hp,Nat.mul_div_cancel _ (by decide)]
  omega
 rw[hp,show(2:Nat)^11=2048 by decide]at key
 rw[hp];generalize (x&&&M|||E*4503599627370496)=Z at*
 omega
theorem qsd:(smT.all fun f=>decide ((0<=f/\f<18446744073709551616)/\(f%9223372036854775808=0\/25<=f/4503599627370496%2048/\f/4503599627370496%2048<=2020)))=true:=by decide+kernel
theorem qs0 {m:Nat} (hm:5000000000<=m) {x:Int} (hx:U64 x): ∃f,g53 m x=some (f,(),())/\Nice f:=by
 obtain⟨j,rfl⟩: ∃j,m=j+100:=⟨m-100,O⟩;obtain⟨y,rfl⟩: ∃y:Nat,x=(y:Int):=⟨x.toNat,by have:=hx.1;omega⟩
 have hr:y%19<19:=Nat.mod_lt _ (by decide)
 have e:g53 (j+100) ((y:Nat):Int)=g53 (j+100) ((y%19:Nat):Int):=by
  rw[g53,g53,show(19:Int)=((19:Nat):Int)from rfl,tm,tm,Nat.mod_mod]
 have h1:=congrArg (fun l=>l[y%19]?) (qkh j)
 have hl:smT.length=19:=by decide
 simp only[List.getElem?_map,List.getElem?_range hr,List.getElem?_eq_getElem (show y%19<smT.length by omega),Option.map_some,Option.some.injEq]at h1
 have h2:=List.all_eq_true.1 qsd smT[y%19] (List.getElem_mem _);have h3:=of_decide_eq_true h2;exact⟨_,by rw[e];exact h1,h3.1,h3.2⟩
theorem qrw {m:Nat} (hm:5000000000<=m) {x:Int} (hx:U64 x) {r:Nat} (hr:r<3): ∃f,g21 m x (r:Int)=some (f,(),(),())/\Nice f:=by
 have e:=qrn m (a:=r) (k:=4) O (by decide)
 obtain⟨y,rfl⟩: ∃y:Nat,x=(y:Int):=⟨x.toNat,by have:=hx.1;omega⟩
 have hy:y<18446744073709551616:=by have:=hx.2;omega
 rw[g21,show(4:Int)=((4:Nat):Int)from rfl,e,bS,bif_eq,bif_eq,bif_eq]
 dsimp only;by_cases c1:r=1
 . subst c1
   have e1:qw .u64 (shr_ .u64 (y:Int) 52) 7=((y/4503599627370496%8:Nat):Int):=by
    have h1:shr_ .u64 (y:Int) 52=((y/4503599627370496:Nat):Int):=shr64 (a:=y) (k:=52) O;have h2:qw .u64 ((y/4503599627370496:Nat):Int) ((7:Nat):Int)=((y/4503599627370496&&&7:Nat):Int):=and64 O (by decide)
    rw[h1,show(7:Int)=((7:Nat):Int)from rfl,h2,Nat.and_two_pow_sub_one_eq_mod _ 3]
   have h1:=qm4 (x:=y) (M:=9227875636482146303) (E:=1019+y/4503599627370496%8) hy (by decide) (by decide) O
   have h2:=qs5 (x:=y) (M:=9227875636482146303) (E:=1019+y/4503599627370496%8) hy (by decide) (by decide) O
   rw[iP (by decide),e1,show(1019:Int)+((y/4503599627370496%8:Nat):Int)=((1019+y/4503599627370496%8:Nat):Int) by omega]
   exact⟨_,rfl,qs6 h1.1 h2 O O⟩
 . rw[iN' O];by_cases c2:r=2
   . subst c2
     have e1:Int.tmod (shr_ .u64 (y:Int) 8) 81=((y/256%81:Nat):Int):=by
      have h1:shr_ .u64 (y:Int) 8=((y/256:Nat):Int):=shr64 (a:=y) (k:=8) O;rw[h1,show(81:Int)=((81:Nat):Int)from rfl,tm]
     have h1:=qm4 (x:=y) (M:=9225623836668461056) (E:=983+y/256%81) hy (by decide) (by decide) O
     have h2:=qs5 (x:=y) (M:=9225623836668461056) (E:=983+y/256%81) hy (by decide) (by decide) O
     rw[iP (by decide),e1,show(983:Int)+((y/256%81:Nat):Int)=((983+y/256%81:Nat):Int) by omega]
     exact⟨_,rfl,qs6 h1.1 h2 O O⟩
   . rw[iN' O,iN' O];obtain⟨f,ef,h1⟩:=qs0 hm hx;rw[ef,bS];exact⟨_,rfl,h1⟩
def NcL (l:LI):Prop:= ∀i,i<l.length->Nice (l.getD i 0)
theorem qs2:NcL []:=fun i hi=>absurd hi (Nat.not_lt_zero _)
theorem qsb {l:LI} (h:NcL l) {f:Int} (hf:Nice f):NcL (l++[f]):=by
 intro i hi;rw[List.length_append,List.length_singleton]at hi;by_cases c:i<l.length
 . rw[gapL c];exact h i c
 . rw[gapR O,show i-l.length=0 by omega];exact hf
theorem qst {l x:LI} (h:NcL l) (h':NcL x):NcL (l++x):=by
 intro i hi;rw[List.length_append]at hi;by_cases c:i<l.length
 . rw[gapL c];exact h i c
 . rw[gapR O];exact h' _ O
section
variable {m:Nat} (hm:5000000000<=m) {raw:LI} (hl:raw.length<=9223372036854775807) {R C:Nat} (hR:R<=100) {st:Nat} (hst:st<3)
include hm hl hR hst
theorem qrr (a0 a1 m0 m1:Int) (a2 a3 a4 S I V:LI) (j:Int) (hI:I.length<=100000) (hV:V.length=I.length): ∀(N i:Nat) (X Y:LI),R-i<N->i<=R->CX i X Y->NcL Y->
 ∃X' Y',CX R X' Y'/\NcL Y'/\g25L1 m N raw (R:Int) (C:Int) (st:Int) a0 a1 a2 a3 a4 m0 m1 S (I++X) (V++Y) j (i:Int)=some (.inl (raw,(R:Int),(C:Int),(st:Int),(a0,a1,a2,a3,a4,()),(m0,m1,S,I++X',V++Y',()),j,())):=by
 intro N;induction N with
 |zero=>intro i X Y h;omega
 |succ N ih=>
  intro i X Y h hi hX hN;rw[g25L1,bQ];by_cases c:i<R
  . obtain⟨w,ew,hw⟩:=qn5 m hl (wI ((wI (100+(wI (j*(R:Int)))))+(i:Int)));rw[iP O,ew,bS,bQ,wQ (n:=(i:Int)+1),wsucc O];have s1:=hX.sz;have s2:=hX.yl;split
    . obtain⟨f,ef,h1⟩:=qrw hm hw hst;rw[iP (by rw[List.length_append];show _+1<=_;omega)]
      dsimp only;rw[ef,bS,iP (by rw[List.length_append];show _+1<=_;omega),List.append_assoc,List.append_assoc]
      exact ih (i+1) _ _ O O (hX.snoc h1.1 h1.fin) (qsb hN h1)
    . exact ih (i+1) _ _ O O hX.skip hN
  . have:i=R:=O;subst this;rw[iN' O];exact⟨X,Y,hX,hN,rfl⟩
theorem qrp (hC:C<=100) (a0 a1 m0 m1:Int) (a2 a3 a4:LI): ∀(N j:Nat) (S I V:LI),C-j<N->j<=C->GI R j S I V->NcL V->
 ∃S' I' V',GI R C S' I' V'/\NcL V'/\g25L0 m N raw (R:Int) (C:Int) (st:Int) a0 a1 a2 a3 a4 m0 m1 S I V (j:Int)=some (.inl ((a0,a1,a2,a3,a4,()),(m0,m1,S',I',V',()),())):=by
 intro N;induction N with
 |zero=>intro j S I V h;omega
 |succ N ih=>
  intro j S I V h hj hG hN;rw[g25L0,bQ];by_cases c:j<C
  . have s1:=hG.sz;have:j*R<=100*100:=Nat.mul_le_mul O hR;obtain⟨X,Y,hX,hY,e⟩:=qrr hm hl hR (C:=C) hst a0 a1 m0 m1 a2 a3 a4 S I V (j:Int) O hG.vl m 0 [] [] O O CX.nil qs2;rw[List.append_nil,List.append_nil,nZ]at e;rw[iP O,e,bS];dsimp only;have hS:=hG.st.len;rw[iP (by show _+1<=_;omega),wQ,wsucc O]
    exact ih (j+1) _ _ _ O O (hG.snoc hX) (qst hN hY)
  . have:j=C:=O;subst this;rw[iN' O];exact⟨S,I,V,hG,hN,rfl⟩
theorem qrt (hC:C<=100): ∃S I V,GI R C S I V/\NcL V/\g25 m raw (R:Int) (C:Int) (st:Int)=some (((R:Int),(C:Int),S,I,V,()),(),(),(),(),()):=by
 obtain⟨S,I,V,hG,hN,e⟩:=qrp hm hl hR (C:=C) hst hC 0 0 (R:Int) (C:Int) [] [] [] m 0 [0] [] [] O O GI.nil qs2;rw[nZ]at e;exact⟨S,I,V,hG,hN,by rw[g25,e,bS]⟩
end
theorem qrl {R C:Nat} {S I V:LI} (h:GI R C S I V) (hN:NcL V) (i:Nat) {j:Nat} (hj:j<C):Nice (elA S I V i j):=by
 unfold elA;have a:=h.st.rng (j:=j) O;have b:=h.st.rng (j:=j+1) O;have mo:=h.st.mono j hj;cases e:findA I V (i:Int) ((S.getD (j+1) 0).toNat-(S.getD j 0).toNat) (S.getD j 0).toNat with
 |none=>exact qs4
 |some v=>
  obtain⟨t,h1,h2,_,h3⟩:=q3q e;subst h3;exact hN t (by have:=h.vl;omega)
theorem pickN {m:Nat} (hm:5000000000<=m) {raw:LI} (hl:raw.length<=9223372036854775807) (n:Int) {r:Nat} (hr:r<3):
 ∃(k:Nat) (S I V:LI) (x:Int),k<=4/\GI k k S I V/\NcL V/\sparselaw39_pick m raw n (r:Int) 0 false=some ((((k:Int),(k:Int),S,I,V,()),x,()),(),(),(),(),(),()):=by
 have eb:=qrn m (a:=r) (k:=4) O (by decide)
 obtain⟨a,ha,ea⟩:=qdx m n (k:=5) (by decide) (by decide)
 obtain⟨S,I,V,hG,hN,e⟩:=qrt hm hl (R:=a) (C:=a) O hr O;obtain⟨f,ef,-⟩:=qrw hm (x:=0) ⟨O,O⟩ hr;refine⟨a,S,I,V,f,O,hG,hN,?_⟩;rw[sparselaw39_pick,show(4:Int)=((4:Nat):Int)from rfl,eb,bS,show(5:Int)=((5:Nat):Int)from rfl,ea,bS,bif_eq]
 dsimp only;rw[iN' O,e,bS,ef,bS,cond_false]
end Go.Vs.F
set_option maxRecDepth 100000
namespace Go.Vs.F
theorem Dg.relab {n:Nat} {o:Nat->Nat} (ho:((List.range n).map o).Perm (List.range n)) {A B V:Nat->Nat->Rat} {b s:Nat->Rat} (hs: ∀i,s i≠0)
 (h: ∀i,i<n-> ∀j,j<n->B i j=s i*s j*A (o i) (o j)) (hd:Dg (List.range n) A V b):Dg (List.range n) B (fun i j=>V i (o j)*(s j)⁻¹) b:=by
 have hl: ∀(y:Nat->Rat) (j:Nat),lin (List.range n) (fun i j=>V i (o j)*(s j)⁻¹) y j=lin (List.range n) V y (o j)*(s j)⁻¹:=by
  intro y j;unfold lin;rw[<-Yb];exact qi fun i _=>by rw[Rat.mul_assoc]
 refine⟨fun y=> ?_,fun y hy=>hd.ind y fun k hk=> ?_⟩
 . rw[<-hd.form y];generalize hz:lin (List.range n) V y=z at*
   have e1:qf (List.range n) B (lin (List.range n) (fun i j=>V i (o j)*(s j)⁻¹) y)=sm (List.range n) (fun i=>sm (List.range n) (fun j=>z (o i)*A (o i) (o j)*z (o j))):=by
    unfold qf;refine qi fun i hi=>qi fun j hj=> ?_
    rw[hl,hl,hz,h i (List.mem_range.1 hi) j (List.mem_range.1 hj)];have h1:=Rat.mul_inv_cancel _ (hs i);have h2:=Rat.mul_inv_cancel _ (hs j);generalize z (o i)=p;generalize z (o j)=q;generalize A (o i) (o j)=a;generalize (s i)⁻¹=u at*;generalize (s j)⁻¹=v at*;have:p*u*(s i*s j*a)*(q*v)=(s i*u)*(s j*v)*(p*a*q):=by grind
    rw[this,h1,h2];grind
   rw[e1];unfold qf;rw[<-Js ho (f:=fun i=>sm (List.range n) (fun j=>z i*A i j*z j)),qpg]
   refine qi fun i _=> ?_
   rw[<-Js ho (f:=fun j=>z (o i)*A (o i) j*z j),qpg]
 . obtain⟨j,hj,rfl⟩:=List.mem_map.1 (ho.mem_iff.2 hk);have h1:=hy j hj;rw[hl]at h1;have h2:=Rat.mul_inv_cancel _ (hs j);generalize (s j)⁻¹=u at*;generalize lin (List.range n) V y (o j)=x at*
   have:x=s j*(x*u):=by
    have:s j*(x*u)=x*(s j*u):=by grind
    rw[this,h2];grind
   rw[this,h1];grind
theorem qsc {o:List Nat} {n k:Nat} (h:o.Perm (List.range n)):(o.take k++[n]++o.drop k).Perm (List.range (n+1)):=by
 have h1:(o.take k++[n]++o.drop k).Perm (n::o):=by
  rw[List.append_assoc,List.singleton_append];refine List.perm_middle.trans ?_;rw[List.take_append_drop]
 rw[List.range_succ];exact h1.trans ((List.Perm.cons n h).trans (List.perm_append_singleton n (List.range n)).symm)
theorem qsq {o:List Nat} {k:Nat}:(nL o).take k=nL (o.take k):=by unfold nL;rw[List.map_take]
theorem qsm {o:List Nat} {k:Nat}:(nL o).drop k=nL (o.drop k):=by unfold nL;rw[List.map_drop]
theorem qsj {a b:List Nat}:nL a++nL b=nL (a++b):=by unfold nL;rw[List.map_append]
section
variable {m:Nat} (hm:5000000000<=m) {raw:LI} (hl:raw.length<=9223372036854775807) {n:Nat} (hn:n<=100)
include hm hl hn
theorem qsf: ∀(N i:Nat) (o:List Nat),n-i<N->i<=n->o.Perm (List.range i)-> ∃o':List Nat,o'.Perm (List.range n)/\g17L0 m N raw (n:Int) (nL o) (i:Int)=some (.inl (nL o',())):=by
 intro N;induction N with
 |zero=>intro i o h;omega
 |succ N ih=>
  intro i o h hi ho;have hol:o.length=i:=by rw[ho.length_eq,List.length_range]
  rw[g17L0,bQ];by_cases c:i<n
  . obtain⟨w,ew,hw⟩:=qn5 m hl (wI (700+(i:Int)));obtain⟨a,ha,ea⟩:=qdx m (wI (shr_ .u64 w 1)) (k:=i+1) O O;have w1:wI ((i:Int)+1)=((i+1:Nat):Int):=wsucc O;rw[iP O,ew,bS];dsimp only;rw[w1,ea,bS];dsimp only;have hL:(nL o).length=i:=by rw[q1f,hol]
    have e1:([]:LI)++((nL o).drop 0).take ((a:Int).toNat-0)++[(i:Int)]++((nL o).drop (0+(a:Int).toNat)).take ((nL o).length-(a:Int).toNat)=nL (o.take a++[i]++o.drop a):=by
     rw[List.drop_zero,Nat.sub_zero,tN,Nat.zero_add,List.nil_append,List.take_of_length_le (l:=(nL o).drop a) (by rw[List.length_drop];omega),qsq,qsm,show([(i:Int)]:LI)=nL [i]from rfl,qsj,qsj]
    have t1:(((nL o).drop 0).take ((a:Int).toNat-0)).length<=100:=by rw[List.length_take,List.length_drop];omega
    have t2:(([]:LI)++((nL o).drop 0).take ((a:Int).toNat-0)).length<=100:=by rw[List.nil_append];exact t1
    have t3:(([]:LI)++((nL o).drop 0).take ((a:Int).toNat-0)++[(i:Int)]).length<=101:=by rw[List.length_append];show _+1<=_;omega
    have t4:(((nL o).drop (0+(a:Int).toNat)).take ((nL o).length-(a:Int).toNat)).length<=100:=by rw[List.length_take,List.length_drop];omega
    rw[iP O,iP (by show 0+_<=_;omega),iP (by show _+1<=_;omega),iP O,iP O,e1]
    exact ih (i+1) _ O O (qsc ho)
  . have:i=n:=O;subst this;rw[iN' O];exact⟨o,ho,rfl⟩
theorem qse: ∃o:List Nat,o.Perm (List.range n)/\g17 m raw (n:Int)=some (nL o,(),(),()):=by
 obtain⟨o,ho,e⟩:=qsf hm hl hn m 0 [] O O (List.Perm.refl _);refine⟨o,ho,?_⟩;rw[nZ]at e;rw[g17,show([]:LI)=nL []from rfl,e,bS]
end
end Go.Vs.F
set_option maxRecDepth 100000
namespace Go.Vs.F
def elv (Sa Ia Va:LI) (o:List Nat) (i j:Nat):Int:=elA Sa Ia Va (max (o.getD i 0) (o.getD j 0)) (min (o.getD i 0) (o.getD j 0))
def vlL (Sa Ia Va:LI) (o:List Nat) (pw:Nat->Int) (i j:Nat):Int:=scF (elv Sa Ia Va o i j) (pw (o.getD i 0)+pw (o.getD j 0))
def clX (j e:Nat):LI:=mr e fun t=>((j+t:Nat):Int)
def clY (f:Nat->Nat->Int) (j e:Nat):LI:=mr e fun t=>f (j+t) j
theorem qry {f:Nat->Nat->Int} {j e i:Nat}: ∀(d k:Nat),k+d=e->j+k<=i->i<j+e->findA (clX j e) (clY f j e) (i:Int) d k=some (f i j)
 |0,k,h1,h2,h3=>O
 |d+1,k,h1,h2,h3=>by
  have g1:(clX j e).getD k 0=((j+k:Nat):Int):=Qo O;have g2:(clY f j e).getD k 0=f (j+k) j:=Qo O;rw[findA,g1,g2];by_cases c:j+k=i
  . rw[iP O,c]
  . rw[iN' O];exact qry d (k+1) O O h3
structure LwS (n:Nat) (f:Nat->Nat->Int) (t:Nat) (S I V:LI):Prop where
 gi:GI n t S I V
 el: ∀i j,j<t->j<=i->i<n->elA S I V i j=f i j
theorem cl_CX {n:Nat} {f:Nat->Nat->Int} {j:Nat} (hf: ∀i,i<n->U64 (f i j)/\FinF (f i j)) (hj:j<n):CX n (clX j (n-j)) (clY f j (n-j)):=by
 refine⟨by unfold clX clY;rw[Q8,Q8],fun t ht=> ?_,by unfold clX;rw[Q8];omega,fun k hk=> ?_⟩
 . unfold clY at ht⊢;rw[Q8]at ht;rw[Qo ht];exact hf _ O
 . unfold clX at hk⊢;rw[Q8]at hk;rw[Qo hk];refine⟨O,O,fun h0=> ?_⟩
   rw[Qo O];omega
theorem LwS.step {n:Nat} {f:Nat->Nat->Int} {t:Nat} {S I V:LI} (h:LwS n f t S I V) (hf: ∀i,i<n->U64 (f i t)/\FinF (f i t)) (ht:t<n):
 LwS n f (t+1) (S++[((I++clX t (n-t)).length:Int)]) (I++clX t (n-t)) (V++clY f t (n-t)):=by
 refine⟨h.gi.snoc (cl_CX hf ht),fun i j hj hij hi=> ?_⟩
 have hl:=h.gi.st.len;have hlast:=h.gi.st.last;have hvl:=h.gi.vl;have hXl:(clX t (n-t)).length=n-t:=Q8;by_cases c:j<t
 . rw[<-h.el i j c hij hi];unfold elA;have a:=h.gi.st.rng (j:=j+1) O;have b:=h.gi.st.mono j c;rw[gapL O,gapL O,qr6 hvl O]
 . have hj:j=t:=O;subst hj;unfold elA;have e1:(S++[((I++clX j (n-j)).length:Int)]).getD (j+1) 0=((I++clX j (n-j)).length:Int):=by rw[gapR O,show j+1-S.length=0 by omega];rfl
   rw[e1,gapL O,hlast,List.length_append,hXl];rw[show(((I.length+(n-j):Nat):Int)).toNat-(((I.length:Nat):Int)).toNat=n-j by omega,tN]
   rw[show findA (I++clX j (n-j)) (V++clY f j (n-j)) (i:Int) (n-j) I.length=findA (clX j (n-j)) (clY f j (n-j)) (i:Int) (n-j) 0 from qr3 (k:=0) hvl]
   rw[qry (n-j) 0 O O O];rfl
theorem pw_ex (m:Nat) (P:LI): ∃pw:Nat->Int,∀r,-10<=pw r/\pw r<=10/\(r<P.length->g14 m (P.getD r 0) 21=some (pw r+10,(),(),()))/\(¬r<P.length->pw r=0):=by
 have h: ∀r:Nat,∃p:Int,-10<=p/\p<=10/\(r<P.length->g14 m (P.getD r 0) 21=some (p+10,(),(),()))/\(¬r<P.length->p=0):=by
  intro r;by_cases c:r<P.length
  . obtain⟨q,hq,e⟩:=qdx m (P.getD r 0) (k:=21) (by decide) (by decide)
    refine⟨(q:Int)-10,O,O,fun _=> ?_,fun h=>absurd c h⟩
    rw[show(q:Int)-10+10=(q:Int) by omega]
    exact e
  . exact⟨0,O,O,fun h=>absurd h c,fun _=>rfl⟩
 exact⟨fun r=>(h r).choose,fun r=>(h r).choose_spec⟩
section
variable {m:Nat} (hm:5000000000<=m) {n:Nat} {Sa Ia Va:LI} (hn:n<=4) (ha:GI n n Sa Ia Va) (hN:NcL Va) {P:LI} {o:List Nat} (ho:o.Perm (List.range n))
 {pw:Nat->Int} (hpw: ∀r,-10<=pw r/\pw r<=10/\(r<P.length->g14 m (P.getD r 0) 21=some (pw r+10,(),(),()))/\(¬r<P.length->pw r=0))
include hm hn ha hN ho hpw
theorem o_lt {i:Nat} (hi:i<n):o.getD i 0<n:=by
 have hl:o.length=n:=by rw[ho.length_eq,List.length_range]
 have:o.getD i 0∈o:=by
  have:o.getD i 0=o[i]:=by simp[List.getD,show i<o.length by omega]
  rw[this];exact List.getElem_mem _
 exact List.mem_range.1 (ho.mem_iff.1 this)
theorem vl_ok {i j:Nat} (hi:i<n) (hj:j<n):U64 (vlL Sa Ia Va o pw i j)/\FinF (vlL Sa Ia Va o pw i j):=by
 have h1:=o_lt hm hn ha hN ho hpw hi;have h2:=o_lt hm hn ha hN ho hpw hj;have a:=hpw (o.getD i 0);have b:=hpw (o.getD j 0);exact qsu (qrl ha hN _ O) O O
theorem Lw_L1 (b0 b1:Int) (S I V:LI) (hI:I.length<=1000) (hV:V.length<=1000) {j:Nat} (hj:j<n): ∀(N e:Nat),n-(j+e)<N->j+e<=n->
 sparselaw39_InertiaLaws_L1 m N P (n:Int) (n:Int) Sa Ia Va (nL o) b0 b1 S (I++clX j e) (V++clY (vlL Sa Ia Va o pw) j e) (j:Int) ((j+e:Nat):Int)=
  some (.inl (P,((n:Int),(n:Int),Sa,Ia,Va,()),nL o,(b0,b1,S,I++clX j (n-j),V++clY (vlL Sa Ia Va o pw) j (n-j),()),(j:Int),())):=by
 have hol:o.length=n:=by rw[ho.length_eq,List.length_range]
 have hL:(nL o).length=n:=by rw[q1f,hol]
 have hg: ∀i,i<n->(nL o).getD i 0=((o.getD i 0:Nat):Int):=fun i hi=>by
  rw[q3t O];simp[List.getD,show i<o.length by omega]
 intro N;induction N with
 |zero=>intro t h;omega
 |succ N ih=>
  intro e h he;rw[sparselaw39_InertiaLaws_L1,bQ];by_cases c:j+e<n
  . have l1:=o_lt hm hn ha hN ho hpw c;have l2:=o_lt hm hn ha hN ho hpw hj;have p1:=hpw (o.getD (j+e) 0);have p2:=hpw (o.getD j 0);have m1:(clX j e).length=e:=Q8;have m2:(clY (vlL Sa Ia Va o pw) j e).length=e:=Q8;have e1:clX j e++[((j+e:Nat):Int)]=clX j (e+1):=Y9 (f:=fun t=>((j+t:Nat):Int))
    have e2:clY (vlL Sa Ia Va o pw) j e++[vlL Sa Ia Va o pw (j+e) j]=clY (vlL Sa Ia Va o pw) j (e+1):=Y9 (f:=fun t=>vlL Sa Ia Va o pw (j+t) j)
    have x1:(if((o.getD j 0:Nat):Int)>((o.getD (j+e) 0:Nat):Int)then((o.getD j 0:Nat):Int)else((o.getD (j+e) 0:Nat):Int))=((max (o.getD (j+e) 0) (o.getD j 0):Nat):Int):=by split<;>omega
    have x2:(if((o.getD j 0:Nat):Int)<((o.getD (j+e) 0:Nat):Int)then((o.getD j 0:Nat):Int)else((o.getD (j+e) 0:Nat):Int))=((min (o.getD (j+e) 0) (o.getD j 0):Nat):Int):=by split<;>omega
    have hat:=At_eq (m:=m) O (ha.MV O O) (i:=max (o.getD (j+e) 0) (o.getD j 0)) (j:=min (o.getD (j+e) 0) (o.getD j 0)) O;have ws:wI (((j+e:Nat):Int)+1)=((j+(e+1):Nat):Int):=wsucc O
    have fin: ∀k:Int,k=pw (o.getD (j+e) 0)+pw (o.getD j 0)->
     (if(I++clX j e).length+[((j+e:Nat):Int)].length<=1073741824 then
       (g19 m (n:Int) (n:Int) Sa Ia Va ((max (o.getD (j+e) 0) (o.getD j 0):Nat):Int) ((min (o.getD (j+e) 0) (o.getD j 0):Nat):Int)).bind fun y3=>
       (g18 m y3.1 k 0).bind fun y4=>
       if(V++clY (vlL Sa Ia Va o pw) j e).length+[y4.1].length<=1073741824 then
       sparselaw39_InertiaLaws_L1 m N P (n:Int) (n:Int) Sa Ia Va (nL o) b0 b1 S (I++clX j e++[((j+e:Nat):Int)]) (V++clY (vlL Sa Ia Va o pw) j e++[y4.1]) (j:Int) ((j+(e+1):Nat):Int)
       else none
     else none)=some (.inl (P,((n:Int),(n:Int),Sa,Ia,Va,()),nL o,(b0,b1,S,I++clX j (n-j),V++clY (vlL Sa Ia Va o pw) j (n-j),()),(j:Int),())):=by
     intro k hk;subst hk;rw[iP (by rw[List.length_append,m1];show _+1<=_;omega),hat,bS]
     dsimp only;rw[qs1 hm (qrl ha hN _ O) O O,bS];dsimp only;rw[iP (by rw[List.length_append,m2];show _+1<=_;omega)]
     rw[List.append_assoc,e1,List.append_assoc];rw[show clY (vlL Sa Ia Va o pw) j e++[scF (elA Sa Ia Va (max (o.getD (j+e) 0) (o.getD j 0)) (min (o.getD (j+e) 0) (o.getD j 0))) (pw (o.getD (j+e) 0)+pw (o.getD j 0))]=_ from e2]
     exact ih (e+1) O O
    rw[iP O,iP O,iP O,iP O,iP O,iP O];simp only[tN,Nat.zero_add,hg (j+e) c,hg j hj,x1,x2,ws,bQ];have wA: ∀r,wI (pw r+10-10)=pw r:=fun r=>by have:=hpw r;rw[wQ,wi O O];omega
    have wB: ∀r,wI (0+pw r)=pw r:=fun r=>by have:=hpw r;rw[wQ,wi O O];omega
    by_cases c1:o.getD (j+e) 0<P.length
    . rw[iP O,iP O,iP O,p1.2.2.1 c1,bS];dsimp only;rw[iP O];by_cases c2:o.getD j 0<P.length
      . rw[iP O,iP O,iP O,p2.2.2.1 c2,bS];dsimp only;rw[wA,wA,wB];refine fin _ ?_;rw[wQ,wi O O]
      . rw[iN' O];rw[wA,wB];exact fin _ (by rw[p2.2.2.2 c2];omega)
    . rw[iN' O,iP O];by_cases c2:o.getD j 0<P.length
      . rw[iP O,iP O,iP O,p2.2.2.1 c2,bS];dsimp only;rw[wA,wB];exact fin _ (by rw[p1.2.2.2 c1];omega)
      . rw[iN' O];exact fin _ (by rw[p1.2.2.2 c1,p2.2.2.2 c2];omega)
  . rw[iN' O,show n-j=e by omega]
theorem Lw_L0 (b0 b1:Int): ∀(N t:Nat) (S I V:LI),n-t<N->t<=n->LwS n (vlL Sa Ia Va o pw) t S I V->
 ∃S' I' V',LwS n (vlL Sa Ia Va o pw) n S' I' V'/\sparselaw39_InertiaLaws_L0 m N P (n:Int) (n:Int) Sa Ia Va (nL o) b0 b1 S I V (t:Int)=
  some (.inl (((n:Int),(n:Int),Sa,Ia,Va,()),(b0,b1,S',I',V',()),())):=by
 intro N;induction N with
 |zero=>intro t S I V h;omega
 |succ N ih=>
  intro t S I V h ht hS;rw[sparselaw39_InertiaLaws_L0,bQ];by_cases c:t<n
  . have s1:=hS.gi.sz;have s2:=hS.gi.vl;have s3:=hS.gi.st.len;have:t*n<=4*4:=Nat.mul_le_mul O hn;have e:=Lw_L1 hm hn ha hN ho hpw b0 b1 S I V O O c m 0 O O;rw[show clX t 0=[]from rfl,show clY (vlL Sa Ia Va o pw) t 0=[]from rfl,List.append_nil,List.append_nil,Nat.add_zero]at e
    rw[iP O,e,bS];dsimp only;rw[iP (by show _+1<=_;omega),wQ,wsucc O]
    exact ih (t+1) _ _ _ O O (hS.step (fun i hi=>vl_ok hm hn ha hN ho hpw hi c) c)
  . have:t=n:=O;subst this;rw[iN' O];exact⟨S,I,V,hS,rfl⟩
end
end Go.Vs.F
set_option maxRecDepth 100000
namespace Go.Vs.F
def c10:Rat:=((1024:Int):Rat)⁻¹
def sF (pw:Nat->Int) (o:List Nat) (i:Nat):Rat:=((2^(pw (o.getD i 0)+10).toNat:Int):Rat)*c10
theorem qsz:c10≠0:=Rat.ne_of_gt (Rat.inv_pos.2 (by decide))
theorem qsx:((2^20:Int):Rat)*(c10*c10)=1:=by
 have h:((1024:Int):Rat)*c10=1:=Rat.mul_inv_cancel _ (by decide)
 rw[show((2^20:Int):Rat)=((1024:Int):Rat)*((1024:Int):Rat) by rw[<-Rat.intCast_mul];rfl]
 generalize ((1024:Int):Rat)=a at*
 have:a*a*(c10*c10)=(a*c10)*(a*c10):=by grind
 rw[this,h,Rat.mul_one]
theorem qsw {f k:Int} (h:Nice f) {p q:Int} (hp: -10<=p/\p<=10) (hq: -10<=q/\q<=10):((valF (scF f (p+q)):Int):Rat)=((2^(p+10).toNat:Int):Rat)*c10*(((2^(q+10).toNat:Int):Rat)*c10)*((valF f:Int):Rat):=by
 have e:=qsl (k:=p+q) h O O
 have e2:((valF (scF f (p+q)):Int):Rat)*((2^20:Int):Rat)=((valF f:Int):Rat)*(((2^(p+10).toNat:Int):Rat)*((2^(q+10).toNat:Int):Rat)):=by
  rw[<-Rat.intCast_mul,e,Rat.intCast_mul,<-Rat.intCast_mul (2^(p+10).toNat),<-Int.pow_add];rw[show(p+q+20).toNat=(p+10).toNat+(q+10).toNat by omega]
 have h2:=qsx;generalize ((valF (scF f (p+q)):Int):Rat)=X at*;generalize ((2^(p+10).toNat:Int):Rat)=a at*;generalize ((2^(q+10).toNat:Int):Rat)=b at*;generalize ((valF f:Int):Rat)=y at*;generalize ((2^20:Int):Rat)=t at*;have:X=X*t*(c10*c10):=by rw[Rat.mul_assoc,h2,Rat.mul_one]
 rw[this,e2];grind
theorem qso (Sa Ia Va:LI) (o:List Nat) (i j:Nat):elv Sa Ia Va o i j=elv Sa Ia Va o j i:=by
 unfold elv;rw[Nat.max_comm,Nat.min_comm]
theorem qt0 (Sa Ia Va:LI) (o:List Nat) (pw:Nat->Int) (i j:Nat):vlL Sa Ia Va o pw i j=vlL Sa Ia Va o pw j i:=by
 unfold vlL;rw[qso,Int.add_comm]
theorem qrh (raw:LI) (n style:Int) (P:LI) (hl:raw.length<=9223372036854775807): ∃m,sparselaw39_InertiaLaws m raw n style P=some (true,(),(),(),(),()):=by
 obtain⟨m,hm⟩: ∃m:Nat,5000000100<=m:=⟨_,Nat.le_refl _⟩;refine⟨m,?_⟩;obtain⟨r,hr,er⟩:=qdx m style (k:=3) (by decide) (by decide)
 obtain⟨k,Sa,Ia,Va,x0,hk,ha,hN,ep⟩:=pickN (m:=m) O hl n hr;obtain⟨o,ho,eo⟩:=qse (m:=m) O hl (n:=k) O;obtain⟨pw,hpw⟩:=pw_ex m P;obtain⟨S,I,V,hS,el⟩:=Lw_L0 (m:=m) O hk ha hN ho hpw (k:Int) (k:Int) m 0 [0] [] [] O O ⟨GI.nil,fun i j h=>absurd h (Nat.not_lt_zero _)⟩
 rw[nZ]at el;have u0:U64 0/\FinF 0:=qou;have u1:U64 9223372036854775808/\FinF 9223372036854775808:=⟨⟨O,O⟩,by decide⟩
 have v1:valF 9223372036854775808=0:=by decide
 obtain⟨W,b,d,o1,-⟩:=qla (m:=m) O ha O u0.1 u0.2;have hol:o.length=k:=by rw[ho.length_eq,List.length_range]
 have hmap:(List.range k).map (fun i=>o.getD i 0)=o:=by
  refine List.ext_getElem (by simp[hol]) fun i h1 h2=> ?_
  simp[List.getD,h2]
 have hinj: ∀i j,i<k->j<k->o.getD i 0=o.getD j 0->i=j:=by
  intro i j hi hj e;have hnd:o.Nodup:=(ho.nodup_iff).2 List.nodup_range
  have e1:o[i]'(O)=o[j]'(O):=by
   have a1:o.getD i 0=o[i]'(O):=by simp[List.getD,show i<o.length by omega]
   have a2:o.getD j 0=o[j]'(O):=by simp[List.getD,show j<o.length by omega]
   rw[<-a1,<-a2];exact e
  exact(qae hnd O O).1 e1
 have hsF: ∀i,sF pw o i≠0:=fun i=>by
  unfold sF;refine fun h=> ?_
  rcases Rat.mul_eq_zero.1 h with h|h
  . have h3:=Zn (pw (o.getD i 0)+10).toNat;have h4:=Rat.intCast_lt_intCast.2 h3;rw[h]at h4;exact absurd h4 (by decide)
  . exact qsz h
 have key: ∀i,i<k-> ∀j,j<k->qM (syD S I V 9223372036854775808) i j=sF pw o i*sF pw o j*qM (syD Sa Ia Va 0) (o.getD i 0) (o.getD j 0):=by
  intro i hi j hj
  have hb:syD S I V 9223372036854775808 i j=valF (vlL Sa Ia Va o pw i j):=by
   unfold syD;by_cases c:i=j
   . subst c;rw[iP rfl,hS.el i i hi (Nat.le_refl _) hi,v1,Int.sub_zero]
   . rw[iN' c,hS.el _ _ O O O];rcases Nat.lt_or_ge i j with h|h
     . rw[Nat.max_eq_right O,Nat.min_eq_left O,qt0]
     . rw[Nat.max_eq_left O,Nat.min_eq_right O]
  have hA:syD Sa Ia Va 0 (o.getD i 0) (o.getD j 0)=valF (elv Sa Ia Va o i j):=by
   unfold syD elv;by_cases c:i=j
   . subst c;rw[iP rfl,Nat.max_self,Nat.min_self,qhl,Int.sub_zero]
   . rw[iN' (fun e=>c (hinj i j hi hj e))]
  show((syD S I V 9223372036854775808 i j:Int):Rat)=sF pw o i*sF pw o j*((syD Sa Ia Va 0 (o.getD i 0) (o.getD j 0):Int):Rat)
  rw[hb,hA];have h1:=o_lt (m:=m) O hk ha hN ho hpw hi;have h2:=o_lt (m:=m) O hk ha hN ho hpw hj;have a1:=hpw (o.getD i 0);have a2:=hpw (o.getD j 0);exact qsw (k:=0) (qrl ha hN _ O) ⟨a1.1,a1.2.1⟩ ⟨a2.1,a2.2.1⟩
 have d2:=Dg.relab (o:=fun i=>o.getD i 0) (by rw[hmap];exact ho) hsF key d
 have o2:=qrf (m:=m) O hS.gi O u1.1 u1.2 d2;have hnp:=np_le k b;rw[sparselaw39_InertiaLaws,show(3:Int)=((3:Nat):Int)from rfl,er,bS]
 dsimp only;rw[ep,bS];dsimp only;rw[eo,bS,el,bS];dsimp only;rw[o1,bS,o2,bS];have w1:wI (((negN k b:Nat):Int)+((k-(posN k b+negN k b):Nat):Int))=((k-posN k b:Nat):Int):=by rw[wQ,wi O O];omega
 have w2:wI (((k-posN k b:Nat):Int)+((posN k b:Nat):Int))=(k:Int):=by rw[wQ,wi O O];omega
 simp only[InT,w1,w2,beq_self_eq_true,cond_true,Bool.and_self,qns (m:=m) O,bS]
end Go.Vs.F
