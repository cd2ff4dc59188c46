/-Matrices of dyads at one exponent become matrices of integers:program and document agree. The counts of a tridiagonal matrix:program and document agree. Checks and counts of tridiagonal matrices:program and document agree. The numbers that the statements make. The laws TridiagCounts and TridiagKth. Keys of floats. The law TridiagKth:program and document search the same eigenvalue. Counts are monotone,and do not see the signs beside the diagonal. -/
import Derived.Test.YtikppifemlpjlaaGreatDoorLf
import Derived.KernelRfl
set_option linter.unusedVariables false
set_option linter.unusedSimpArgs false
set_option linter.unusedSectionVars false
set_option maxRecDepth 100000
namespace Go.Vs.F
abbrev DyL:=Bool×(Bool×LI)×Int
def dE (z:Int):DyL:=((mkD z (-1074)).1,((mkD z (-1074)).2.1,(mkD z (-1074)).2.2.1),(mkD z (-1074)).2.2.2.1)
def rowD (n:Nat) (f:Nat->Int):List DyL:=mr n fun j=>dE (f j)
def matD (n:Nat) (D:Nat->Nat->Int):List (List DyL):=mr n fun i=>rowD n (D i)
theorem Xi {n:Nat} {D:Nat->Nat->Int}:(matD n D).length=n:=Q8
theorem Y2 {n:Nat} {f:Nat->Int}:(rowD n f).length=n:=Q8
theorem Z4 {n i:Nat} {D:Nat->Nat->Int} (h:i<n):(matD n D).getD i []=rowD n (D i):=Qo h
theorem Ju {n j:Nat} {f:Nat->Int} (h:j<n):(rowD n f).getD j (false,((false,[]),0))=dE (f j):=Qo h
theorem Ja {z e:Int} (h:blen z.natAbs<=10000) (h1: -1074<=e) (h2:e<=0):OkD z e:=Yt.2 (.inr ⟨O,O⟩)
theorem ex_mk {z e:Int} (h:OkD z e) (hz:z≠0):(mkD z e).2.2.2.1=e+(tz z.natAbs:Int):=by
 rcases Yt.1 h with h|⟨h1,h2⟩
 . exact absurd h hz
 . unfold mkD;rw[iN' hz,iN' O]
def sm1 (l z:Int):Int:=if z=0 then l else if-1074+(tz z.natAbs:Int)<l then-1074+(tz z.natAbs:Int)else l
def mnR (f:Nat->Int):Nat->Int->Int
 |0,l=>l
 |k+1,l=>sm1 (mnR f k l) (f k)
def mnM (n:Nat) (D:Nat->Nat->Int):Nat->Int
 |0=>0
 |i+1=>mnR (D i) n (mnM n D i)
theorem qm3 {l z:Int}:sm1 l z<=l:=by
 unfold sm1
 repeat' split
 all_goals omega
theorem qq7 {l z:Int} (h: -1074<=l): -1074<=sm1 l z:=by
 unfold sm1
 repeat' split
 all_goals omega
theorem sm1_z {l z:Int} (h:z≠0):sm1 l z<= -1074+(tz z.natAbs:Int):=by unfold sm1;rw[iN' h];split<;>omega
theorem qir {f:Nat->Int}: ∀{k:Nat} {l:Int},mnR f k l<=l
 |0,_=>Int.le_refl _
 |k+1,l=>Int.le_trans qm3 (qir (k:=k))
theorem qmk {f:Nat->Int}: ∀{k:Nat} {l:Int},-1074<=l-> -1074<=mnR f k l
 |0,_,h=>h
 |k+1,l,h=>qq7 (qmk (k:=k) h)
theorem mnR_z {f:Nat->Int}: ∀{k:Nat} {l:Int} {j:Nat},j<k->f j≠0->mnR f k l<= -1074+(tz (f j).natAbs:Int)
 |0,_,_,h,_=>absurd h (Nat.not_lt_zero _)
 |k+1,l,j,h,hz=>by
  by_cases c:j=k
  . subst c;exact sm1_z hz
  . exact Int.le_trans qm3 (mnR_z (k:=k) O hz)
theorem qml {n:Nat} {D:Nat->Nat->Int}: ∀{i:Nat},mnM n D i<=0
 |0=>Int.le_refl _
 |i+1=>Int.le_trans qir (qml (i:=i))
theorem qdp {n:Nat} {D:Nat->Nat->Int}: ∀{i:Nat},-1074<=mnM n D i
 |0=>by show(-1074:Int)<=0;omega
 |i+1=>qmk (qdp (i:=i))
theorem mnM_z {n:Nat} {D:Nat->Nat->Int}: ∀{k i j:Nat},i<k->j<n->D i j≠0->mnM n D k<= -1074+(tz (D i j).natAbs:Int)
 |0,_,_,h,_,_=>absurd h (Nat.not_lt_zero _)
 |k+1,i,j,h,hj,hz=>by
  by_cases c:i=k
  . subst c;exact mnR_z hj hz
  . exact Int.le_trans qir (mnM_z (k:=k) O hj hz)
def kM (n:Nat) (D:Nat->Nat->Int):Nat:=(mnM n D n+1074).toNat
section
variable {m:Nat} (hm:5000000000<=m)
include hm
theorem pSign {z:Int} (h:blen z.natAbs<=10000):g92 m (mkD z (-1074)).1 (mkD z (-1074)).2.1 (mkD z (-1074)).2.2.1 (mkD z (-1074)).2.2.2.1=some (sgn z,(),()):=qjx O (Ja h O O)
theorem qlx {z:Int} (h:blen z.natAbs<=10000):g38 m (mkD z (-1074)).1 (mkD z (-1074)).2.1 (mkD z (-1074)).2.2.1 (mkD z (-1074)).2.2.2.1=some (sgn z,(),()):=by
 have ok:(mkD z (-1074)).1=false:=Ja h O O;rw[g38,Zl O,bS,qjp O ok];dsimp only;rw[ok,cond_false,bS]
theorem qpq {z L:Int} (h:blen z.natAbs<=10000) (h1: -1074<=L) (h0:L<=0):g94 m (mkD z (-1074)).1 (mkD z (-1074)).2.1 (mkD z (-1074)).2.2.1 (mkD z (-1074)).2.2.2.1 (wI (0-L))=some (mkD z (-1074-L),(),(),()):=by
 have w:wI (0-L)= -L:=by rw[wQ,wi O O];omega
 rw[qhk O,iP (Ja h O O),w];have:Jf (-L)= -L:=by unfold Jf;omega
 rw[this,Int.sub_eq_add_neg]
theorem q87 {w f z c:Int} {k:Nat} (e:EqD w f z c) (h:c+(k:Int)<=f):w*2^(f-(c+(k:Int))).toNat=z/2^k:=by
 have h1:=e.low (c:=c) O O;rw[qcz]at h1;unfold sc at h1;have h2:(f-c).toNat=(f-(c+(k:Int))).toNat+k:=O;rw[h2,Int.pow_add,<-Int.mul_assoc]at h1;rw[<-h1,Int.mul_ediv_cancel];have:=Zn k;omega
theorem qpm {z L:Int} (h:blen z.natAbs<=10000) (h1: -1074<=L) (h0:L<=0) (hz:z≠0->L<= -1074+(tz z.natAbs:Int)):
 g93 m (mkD z (-1074-L)).1 (mkD z (-1074-L)).2.1 (mkD z (-1074-L)).2.2.1 (mkD z (-1074-L)).2.2.2.1=some ((zB (z/2^(L+1074).toNat),true,()),(),()):=by
 have hok:OkD z (-1074-L):=Ja h O O;obtain⟨w,f,k,k1,k2,k3⟩:=Zd hok;rw[g93,qcl O hok,bS];dsimp only;rw[Bool.not_true,cond_false,k1,k2,k3];by_cases c:z=0
 . subst c;have hf:f=0:=by rw[<-k3];rfl
   have hw:w=0:=by
    have:=k.eq.low (c:=min f (-1074-L)) O O;unfold sc at this;rw[Int.zero_mul]at this;rcases Int.mul_eq_zero.1 this with h|h
    . exact h
    . have:=Zn (f-min f (-1074-L)).toNat;omega
   subst hf hw;rw[show(0:Int)=((0:Nat):Int)from rfl,q4s O (Lm_zB _) (by rw[zB_2];simp[Qa]) O,bS,zv_zB]
   rw[nZ,Int.zero_mul,Int.zero_ediv]
 . have hf:f= -1074-L+(tz z.natAbs:Int):=by rw[<-k3];exact ex_mk hok c
   have hz':=hz c;have htz:=q0u (n:=z.natAbs);have n1:=k.len;have hl:=q1e n1;obtain⟨fn,rfl⟩: ∃fn:Nat,f=(fn:Int):=⟨f.toNat,O⟩;rw[q4s O (Lm_zB _) O O,bS,zv_zB];have e:=q87 (m:=m) hm k.eq (k:=(L+1074).toNat) O;rw[show((fn:Int)-(-1074-L+(((L+1074).toNat:Nat):Int))).toNat=fn by omega]at e
   rw[e]
theorem qo9 {z L:Int} (h:blen z.natAbs<=10000) (h1: -1074<=L) (hc:z≠0) (hz:L<= -1074+(tz z.natAbs:Int)):
 g80 m (mkD z (-1074)).2.1 (mkD z (-1074)).2.2.1 (wI ((mkD z (-1074)).2.2.2.1-L))=some (zB (z/2^(L+1074).toNat),(),(),()):=by
 have hok:OkD z (-1074):=Ja h O O;obtain⟨w,f,k,k1,k2,k3⟩:=Zd hok;have hf:f= -1074+(tz z.natAbs:Int):=by rw[<-k3];exact ex_mk hok hc
 have htz:=q0u (n:=z.natAbs);have n1:=k.len;rw[k1,k2,k3,wQ,wi O O,q1u O O O O];have e:=q87 (m:=m) hm k.eq (k:=(L+1074).toNat) O;rw[<-e];congr 6;omega
variable {n:Nat} (hn:n<=1000) {D:Nat->Nat->Int} (hD: ∀i j,i<n->j<n->blen (D i j).natAbs<=10000)
include hn hD
theorem qhs {z:Int} {α:Type} {a b:α}:(bif sgn z !=0 then a else b)=if z=0 then b else a:=by
 rw[bif_ne];by_cases c:z=0
 . subst c;rw[iP rfl,iP (by rfl)]
 . rw[iN' c,iN' (fun h=>c (Jm.1 h))]
theorem qhx {l z:Int} (h:blen z.natAbs<=10000) (hz:z≠0):(if(mkD z (-1074)).2.2.2.1<l then(mkD z (-1074)).2.2.2.1 else l)=sm1 l z:=by
 rw[ex_mk (Ja h O O) hz,sm1,iN' hz]
theorem qp0 (R:List (List DyL)) (t15:List (List DyL)) (t16 t17:Int) {i:Nat} (hi:i<n) (l:Int): ∀(N j:Nat),n-j<N->j<=n->
 g52L1 m N R (mnR (D i) j l) t15 t16 t17 (rowD n (D i)) (n:Int) (j:Int)=some (.inl (R,mnR (D i) n l,t15,t16,t17,())):=by
 intro N;induction N with
 |zero=>intro j h;omega
 |succ N ih=>
  intro j h hj;rw[g52L1,Y2,bQ];by_cases c:j<n
  . have hz:=hD i j hi c;rw[iP O,iP O];simp only[tN,Ju c];rw[show g56 m (dE (D i j)).1 (dE (D i j)).2.1.1 (dE (D i j)).2.1.2 (dE (D i j)).2.2=_ from qem O,bS,pSign hm hz,bS]
    dsimp only;rw[wQ,wsucc O,qhs hm hn hD];by_cases z:D i j=0
    . rw[iP z];have:=ih (j+1) O O;rw[mnR,sm1,iP z]at this;exact this
    . rw[iN' z,qhx hm hn hD hz z];exact ih (j+1) O O
  . have:j=n:=O;subst this;rw[iN' O]
theorem qni (R:List (List DyL)): ∀(N i:Nat),n-i<N->i<=n->
 g52L0 m N R (mnM n D i) (matD n D) (n:Int) (i:Int)=some (.inl (R,mnM n D n,())):=by
 intro N;induction N with
 |zero=>intro j h;omega
 |succ N ih=>
  intro i h hi;rw[g52L0,Xi,bQ];by_cases c:i<n
  . rw[iP O,iP O];simp only[tN,Z4 c,Y2];have e:=qp0 hm hn hD R (matD n D) (n:Int) (i:Int) c (mnM n D i) m 0 O O;rw[nZ]at e;rw[show g52L1 m m R (mnM n D i) (matD n D) (n:Int) (i:Int) (rowD n (D i)) (n:Int) 0=_ from e,bS]
    dsimp only;rw[wQ,wsucc O];exact ih (i+1) O O
  . have:i=n:=O;subst this;rw[iN' O]
theorem qor {i:Nat} (hi:i<n) (l:Int): ∀(N j:Nat),n-j<N->j<=n->
 g44L1 m N (matD n D) (mnR (D i) j l) (i:Int) (j:Int)=some (.inl (matD n D,mnR (D i) n l,(i:Int),())):=by
 intro N;induction N with
 |zero=>intro j h;omega
 |succ N ih=>
  intro j h hj;rw[g44L1,Xi,iP O,bQ];simp only[tN,Z4 hi,Y2];by_cases c:j<n
  . have hz:=hD i j hi c;rw[iP O,iP O,iP O];simp only[Ju c];rw[show g38 m (dE (D i j)).1 (dE (D i j)).2.1.1 (dE (D i j)).2.1.2 (dE (D i j)).2.2=_ from qlx hm hz,bS]
    dsimp only;rw[wQ,wsucc O,qhs hm hn hD];by_cases z:D i j=0
    . rw[iP z];have:=ih (j+1) O O;rw[mnR,sm1,iP z]at this;exact this
    . rw[iN' z,iP O,iP O,show g68 m (dE (D i j)).1 (dE (D i j)).2.1.1 (dE (D i j)).2.1.2 (dE (D i j)).2.2=_ from Zl O,bS,qhx hm hn hD hz z]
      exact ih (j+1) O O
  . have:j=n:=O;subst this;rw[iN' O]
theorem qnh: ∀(N i:Nat),n-i<N->i<=n->
 g44L0 m N (matD n D) (mnM n D i) (i:Int)=some (.inl (matD n D,mnM n D n,())):=by
 intro N;induction N with
 |zero=>intro j h;omega
 |succ N ih=>
  intro i h hi;rw[g44L0,Xi,bQ];by_cases c:i<n
  . have e:=qor hm hn hD c (mnM n D i) m 0 O O;rw[nZ]at e;rw[iP O,show g44L1 m m (matD n D) (mnM n D i) (i:Int) 0=_ from e,bS]
    dsimp only;rw[wQ,wsucc O];exact ih (i+1) O O
  . have:i=n:=O;subst this;rw[iN' O]
def qD (n:Nat) (D:Nat->Nat->Int):Nat->Nat->Int:=fun i j=>D i j/2^kM n D
theorem qoz (t41:List (List DyL)) (t42 t43:Int) {i:Nat} (hi:i<n) (out:List (List Bg)) (ho:out.length=n): ∀(N j:Nat) (o:List Bg),n-j<N->j<=n->o=(mr j fun j=>BZ (qD n D i j))->
 g52L3 m N (mnM n D n) (out.set i o) (i:Int) t41 t42 t43 (rowD n (D i)) (n:Int) (j:Int)=some (.inl (mnM n D n,out.set i (rowB n (qD n D i)),t41,t42,t43,())):=by
 intro N;induction N with
 |zero=>intro j o h;omega
 |succ N ih=>
  intro j o h hj hoe;rw[g52L3,Y2,bQ];by_cases c:j<n
  . have hz:=hD i j hi c;have hL1:=qdp (n:=n) (D:=D) (i:=n);have hL0:=qml (n:=n) (D:=D) (i:=n);have hLz:D i j≠0->mnM n D n<= -1074+(tz (D i j).natAbs:Int):=fun hne=>mnM_z hi c hne
    have hg:(out.set i o).getD i []=o:=q5n O;have hlen:(out.set i o).length=n:=by rw[List.length_set];exact ho
    have hol:o.length=j:=by rw[hoe];exact Q8
    have hq:zlen (qD n D i j)<=1000000:=by
     have:(qD n D i j).natAbs<=(D i j).natAbs:=by unfold qD;exact Int.natAbs_ediv_le_natAbs _ _
     refine Nat.le_trans (Q5 this) (Nat.le_trans (Zo hz) O)
    rw[iP O,iP O];simp only[tN,Ju c,hg,hlen];rw[show g94 m (dE (D i j)).1 (dE (D i j)).2.1.1 (dE (D i j)).2.1.2 (dE (D i j)).2.2 (wI (0-mnM n D n))=_ from qpq hm hz hL1 hL0,bS,qpm hm hz hL1 hL0 hLz,bS]
    dsimp only;rw[iP O,show g95 m (zB (D i j/2^(mnM n D n+1074).toNat)).1 (zB (D i j/2^(mnM n D n+1074).toNat)).2.1=_ from bNorm O hq,bS,hol,iP (by show j+1<=_;omega),iP O,iP trivial,wQ,wsucc O,List.set_set]
    refine ih (j+1) _ O O ?_;rw[hoe];exact Y9 (f:=fun j=>BZ (qD n D i j))
  . have:j=n:=O;subst this;rw[iN' O,hoe];rfl
theorem qoe: ∀(N i:Nat),n-i<N->i<=n->
 g52L2 m N (mnM n D n) (mr n fun k=>if k<i then rowB n (qD n D k)else []) (matD n D) (n:Int) (i:Int)=some (.inl (matB n (qD n D),())):=by
 intro N;induction N with
 |zero=>intro j h;omega
 |succ N ih=>
  intro i h hi;rw[g52L2,Xi,bQ];by_cases c:i<n
  . have e:=qoz hm hn hD (matD n D) (n:Int) (i:Int) c (mr n fun k=>if k<i then rowB n (qD n D k)else []) Q8 m 0 [] O O Ze.symm
    have e0:(mr n fun k=>if k<i then rowB n (qD n D k)else []).set i []=mr n fun k=>if k<i then rowB n (qD n D k)else []:=by
     rw[J7];refine Q7 fun k hk=> ?_
     by_cases d:k=i
     . rw[iP d,iN' O]
     . rw[iN' d]
    have e1:(mr n fun k=>if k<i then rowB n (qD n D k)else []).set i (rowB n (qD n D i))=mr n fun k=>if k<i+1 then rowB n (qD n D k)else []:=by
     rw[J7];refine Q7 fun k hk=> ?_
     by_cases d:k=i
     . subst d;rw[iP rfl,iP O]
     . rw[iN' d];by_cases d2:k<i
       . rw[iP d2,iP O]
       . rw[iN' d2,iN' O]
    rw[e0,e1,nZ]at e;rw[iP O,iP O];simp only[tN,Z4 c,Y2];rw[e,bS];dsimp only;rw[wQ,wsucc O];exact ih (i+1) O O
  . have:i=n:=O;subst this;rw[iN' O];congr 3;exact Q7 fun k hk=>iP hk
theorem qgn:g52 m (matD n D)=some (matB n (qD n D),(),()):=by
 have e0:=qni hm hn hD (matD n D) m 0 O O;rw[nZ]at e0;have e2:=qoe hm hn hD m 0 O O;rw[show(mr n fun k=>if k<0 then rowB n (qD n D k)else [])=List.replicate n [] by rw[q61];exact Q7 fun k _=>iN' O,nZ]at e2
 rw[g52,Xi,show g52L0 m m (matD n D) 0 (matD n D) (n:Int) 0=_ from e0,bS]
 dsimp only;rw[Xi,iP O,tN,e2,bS]
theorem qnz (out:List (List Bg)) {i:Nat} (hi:i<n): ∀(N j:Nat),n-j<N->j<=n->
 g44L3 m N (matD n D) (mnM n D n) out (i:Int) (mr j fun j=>BZ (qD n D i j)) (j:Int)=some (.inl (matD n D,mnM n D n,out,(i:Int),rowB n (qD n D i),())):=by
 intro N;induction N with
 |zero=>intro j h;omega
 |succ N ih=>
  intro j h hj;rw[g44L3,Xi,iP O,bQ];simp only[tN,Z4 hi,Y2];by_cases c:j<n
  . have hz:=hD i j hi c;have hL1:=qdp (n:=n) (D:=D) (i:=n);have hol:(mr j fun j=>BZ (qD n D i j)).length=j:=Q8
    rw[iP O,iP O,iP O];simp only[Ju c];rw[show g68 m (dE (D i j)).1 (dE (D i j)).2.1.1 (dE (D i j)).2.1.2 (dE (D i j)).2.2=_ from Zl O,bS,qlx hm hz,bS]
    dsimp only;rw[wQ,wQ,wsucc O,qhs hm hn hD];by_cases z:D i j=0
    . rw[iP z,hol,iP (by show j+1<=_;omega)]
      have e1:(mr j fun j=>BZ (qD n D i j))++[(false,[])]=mr (j+1) fun j=>BZ (qD n D i j):=by
       rw[<-Y9];have:qD n D i j=0:=by unfold qD;rw[z,Int.zero_ediv]
       rw[this,q5r]
      rw[e1];exact ih (j+1) O O
    . rw[iN' z,show g80 m (mkD (D i j) (-1074)).2.1 (mkD (D i j) (-1074)).2.2.1 (IntKind.wrap .i64 ((mkD (D i j) (-1074)).2.2.2.1-mnM n D n))=_ from qo9 hm hz hL1 z (mnM_z hi c z),bS,hol,iP (by show j+1<=_;omega)]
      have e1:(mr j fun j=>BZ (qD n D i j))++[((zB (D i j/2^(mnM n D n+1074).toNat)).1,(zB (D i j/2^(mnM n D n+1074).toNat)).2.1)]=mr (j+1) fun j=>BZ (qD n D i j):=Y9 (f:=fun j=>BZ (qD n D i j))
      rw[e1];exact ih (j+1) O O
  . have:j=n:=O;subst this;rw[iN' O];rfl
theorem qms: ∀(N i:Nat),n-i<N->i<=n->
 g44L2 m N (matD n D) (mnM n D n) (mr i fun i=>rowB n (qD n D i)) (i:Int)=some (.inl (matB n (qD n D),())):=by
 intro N;induction N with
 |zero=>intro j h;omega
 |succ N ih=>
  intro i h hi;have hol:(mr i fun i=>rowB n (qD n D i)).length=i:=Q8
  rw[g44L2,Xi,bQ];by_cases c:i<n
  . have e:=qnz hm hn hD (mr i fun i=>rowB n (qD n D i)) c m 0 O O
    rw[Ze,nZ]at e;rw[iP O,e,bS];dsimp only;rw[hol,iP (by show 0<1/\i+1<=_;omega),wQ,wsucc O]
    have e1:(mr i fun i=>rowB n (qD n D i))++[rowB n (qD n D i)]=mr (i+1) fun i=>rowB n (qD n D i):=Y9 (f:=fun i=>rowB n (qD n D i))
    rw[e1];exact ih (i+1) O O
  . have:i=n:=O;subst this;rw[iN' O];rfl
theorem qhw:g44 m (matD n D)=some (matB n (qD n D),(),()):=by
 have e0:=qnh hm hn hD m 0 O O;rw[nZ]at e0;have e2:=qms hm hn hD m 0 O O;rw[Ze,nZ]at e2;rw[g44,show g44L0 m m (matD n D) 0 0=_ from e0,bS]
 dsimp only;rw[e2,bS]
end
end Go.Vs.F
set_option maxRecDepth 100000
namespace Go.Vs.F
def valF (f:Int):Int:=sc (ofZ f) (ofE f) (-1074)
theorem q4u {f:Int} (h:FinF f):ofD f=mkD (valF f) (-1074):=by
 have he:=q7n (f:=f);unfold ofD valF;rw[iP h,qdq O]
theorem val_ok {f:Int} (h:FinF f):OkD (valF f) (-1074):=by
 have he:=q7n (f:=f);have:=qq3 h;unfold OkD valF at*
 rwa [qdq O]
theorem qdu {m:Nat} (hm:3000000<m) {a b:Int} (ha:FinF a) (hb:FinF b):
 g66 m (ofD a).1 (ofD a).2.1 (ofD a).2.2.1 (ofD a).2.2.2.1 (ofD b).1 (ofD b).2.1 (ofD b).2.2.1 (ofD b).2.2.2.1=some (mkD (valF a-valF b) (-1074),(),(),())/\
 g67 m (ofD a).1 (ofD a).2.1 (ofD a).2.2.1 (ofD a).2.2.2.1 (ofD b).1 (ofD b).2.1 (ofD b).2.2.1 (ofD b).2.2.2.1=some (mkD (valF a-valF b) (-1074),(),(),()):=by
 rw[q4u ha,q4u hb,qnw hm,qjt hm,iP ⟨val_ok ha,val_ok hb⟩];exact⟨rfl,rfl⟩
theorem qdm {f:Int} (h:FinF f):blen (valF f).natAbs<=2098:=by
 have h1:=q9c f;have h2:=qne h;have h3:=(q7n (f:=f)).1;unfold valF sc;refine Nat.le_trans qa9 ?_;omega
theorem qkw {a b:Int} {k:Nat} (ha:blen a.natAbs<=k) (hb:blen b.natAbs<=k):blen (a-b).natAbs<=k+1:=by
 rw[Int.sub_eq_add_neg];exact q51 ha (by rw[Int.natAbs_neg];exact hb)
def FnL (l:LI):Prop:= ∀i,i<l.length->U64 (l.getD i 0)/\FinF (l.getD i 0)
theorem ql6 {n j:Nat} {f:Nat->Int} {v:Int}:(rowD n f).set j (dE v)=rowD n (fun k=>if k=j then v else f k):=by
 unfold rowD;rw[J7];refine Q7 fun k hk=> ?_
 show(if k=j then dE v else dE (f k))=dE (if k=j then v else f k)
 by_cases c:k=j
 . rw[iP c,iP c]
 . rw[iN' c,iN' c]
theorem qj2 {n:Nat}:List.replicate n ((false,((false,[]),0)):DyL)=rowD n (fun _=>0):=q61
theorem q1p {n i:Nat} {D:Nat->Nat->Int} {f:Nat->Int}:(matD n D).set i (rowD n f)=matD n (fun k=>if k=i then f else D k):=by
 unfold matD;rw[J7];refine Q7 fun k hk=> ?_
 show(if k=i then rowD n f else rowD n (D k))=rowD n (if k=i then f else D k)
 by_cases c:k=i
 . rw[iP c,iP c]
 . rw[iN' c,iN' c]
theorem q5o {n j:Nat} {f:Nat->Int} {v:Int}:(rowD n f).set j ((mkD v (-1074)).1,((mkD v (-1074)).2.1,(mkD v (-1074)).2.2.1),(mkD v (-1074)).2.2.2.1)=rowD n (fun k=>if k=j then v else f k):=ql6
section
variable {m:Nat} (hm:5000000000<=m) {d e:LI} {x:Int} (hd:FnL d) (he:FnL e) (hle:e.length=d.length-1) (hl:d.length<=1000) (hxU:U64 x) (hx:FinF x)
include hm hd he hle hl hxU hx
end
end Go.Vs.F
set_option maxRecDepth 100000
namespace Go.Vs.F
def kindN (f:Int):Int:=if fexp f=2047 then(if ffrac f=0 then 2 else 3)else if fexp f=0/\ffrac f=0 then 0 else 1
theorem qn2 {m:Nat} {f:Int} (h:U64 f):g60 m f=some (kindN f,(),())/\g46 m f=some (kindN f,(),()):=by
 have hl:=q3m f;rw[g60,parts_eq h,bS,g46,(qak h).1,(qak h).2];simp only[bif_eq,bif_ne];unfold kindN;by_cases c:fexp f=2047
 . by_cases d:ffrac f=0
   . simp[c,d]
   . simp[c,d]
 . by_cases e:fexp f=0
   . by_cases d:ffrac f=0
     . simp[e,d]
     . simp[e,d]
   . simp[c,e]
theorem Dg.scale {L:List Nat} {A V:Nat->Nat->Rat} {b:Nat->Rat} (c:Rat) (hd:Dg L A V b):Dg L (fun i j=>c*A i j) V (fun i=>c*b i):=by
 refine⟨fun y=> ?_,hd.ind⟩
 have e:sm L (fun i=>c*b i*(y i*y i))=c*sm L (fun i=>b i*(y i*y i)):=by
  rw[<-Ql];exact qi fun i _=>by grind
 rw[e,<-hd.form y];unfold qf;rw[<-Ql];refine qi fun i _=> ?_
 rw[<-Ql];exact qi fun j _=>by grind
theorem q3l {L:List Nat} {b:Nat->Rat} {c:Rat} (hc:0<c):npos L (fun i=>c*b i)=npos L b:=by
 unfold npos;rw[List.filter_congr fun i _=> ?_]
 rw[decide_eq_decide];constructor
 . intro h;exact(Rat.mul_pos_iff_of_pos_left hc).1 h
 . intro h;exact Rat.mul_pos hc h
theorem q1c {L:List Nat} {b:Nat->Rat} {c:Rat} (hc:0<c):npos L (fun i=> -(c*b i))=npos L (fun i=> -b i):=by
 rw[<-q3l (b:=fun i=> -b i) hc]
 exact Y8 fun i _=>by grind
theorem qpn {n:Nat} {D:Nat->Nat->Int} {i j:Nat} (hi:i<n) (hj:j<n):D i j=qD n D i j*2^kM n D:=by
 unfold qD;by_cases z:D i j=0
 . rw[z,Int.zero_ediv,Int.zero_mul]
 . have h1:=mnM_z (n:=n) (D:=D) (k:=n) hi hj z;have h2:=qdp (n:=n) (D:=D) (i:=n);obtain⟨k1,k2,k3⟩:=qez (n:=(D i j).natAbs) O;have hk:kM n D<=tz (D i j).natAbs:=by unfold kM;omega
   have hd:((2^kM n D:Nat):Int)∣D i j:=by
    rw[Int.ofNat_dvd_left];exact Nat.dvd_trans (Nat.pow_dvd_pow 2 hk) ⟨_,k2⟩
   rw[Int.natCast_pow]at hd;exact(Int.ediv_mul_cancel hd).symm
theorem qpu {n:Nat} {D:Nat->Nat->Int} {i j k:Nat} (h:blen (D i j).natAbs<=k):zlen (qD n D i j)<=k/32+1:=
 Nat.le_trans (Q5 (by unfold qD;exact Int.natAbs_ediv_le_natAbs _ _)) (Zo h)
theorem q4a {m:Nat} (hm:5000000000<=m) {n:Nat} (hn:n<=5) {D:Nat->Nat->Int} (hD: ∀i j,i<n->j<n->blen (D i j).natAbs<=2111) (hs: ∀i j,D i j=D j i):
 ∃V b,Dg (List.range n) (qM D) V b/\
  (g51 m (matB n (qD n D))=some ((((npos (List.range n) (fun i=> -b i):Nat):Int),((n-(npos (List.range n) b+npos (List.range n) (fun i=> -b i)):Nat):Int),((npos (List.range n) b:Nat):Int),0,()),(),()))/\
  g43 m (matB n (qD n D))=some ((((npos (List.range n) (fun i=> -b i):Nat):Int),((n-(npos (List.range n) b+npos (List.range n) (fun i=> -b i)):Nat):Int),((npos (List.range n) b:Nat):Int),()),(),()):=by
 have hl: ∀i j,i<n->j<n->zlen (qD n D i j)<=66:=fun i j hi hj=>qpu (hD i j hi hj)
 have hsq: ∀i j,i<n->j<n->qD n D i j=qD n D j i:=fun i j _ _=>by unfold qD;rw[hs i j]
 have hsz:4^n*(66+1)<=80000:=by
  have:4^n<=4^5:=Nat.pow_le_pow_right (by decide) hn
  have:=Nat.mul_le_mul_right (66+1) this;omega
 obtain⟨V,b,d1,d2⟩:=qc0 hm (n:=n) O hl (by decide) hsq hsz
 have d3:=qfi (m:=m) O (n:=n) O (M:=qD n D) (e:=66) O hl hsq d1
 have hc:(0:Rat)<((2^kM n D:Int):Rat):=by
  have:=Zn (kM n D);have:=Rat.intCast_lt_intCast.2 this;exact this
 refine⟨V,fun i=>((2^kM n D:Int):Rat)*b i,((d1.scale ((2^kM n D:Int):Rat)).congr fun i hi j hj=> ?_),?_,?_⟩
 . show((2^kM n D:Int):Rat)*(qD n D i j:Rat)=(D i j:Rat)
   rw[qpn (D:=D) (List.mem_range.1 hi) (List.mem_range.1 hj),Rat.intCast_mul,Rat.mul_comm]
 . rw[q3l hc,q1c hc];exact d3
 . rw[q3l hc,q1c hc];exact d2
end Go.Vs.F
set_option maxRecDepth 100000
namespace Go.Vs.F
theorem qdx (m:Nat) (a:Int) {k:Nat} (h0:0<k) (hk:k<9223372036854775808): ∃r:Nat,r<k/\g14 m a (k:Int)=some ((r:Int),(),(),()):=by
 have w:wJ (k:Int)=(k:Int):=w64n O;obtain⟨x,hx,_⟩:=qpk a;have hx':wJ a=(x:Int):=hx;refine⟨x%k,Nat.mod_lt _ h0,?_⟩;have:=Nat.mod_lt x h0;rw[g14,w,hx',iP O,tm,wQ,wi O O]
theorem wrapU (a:Int):U64 (IntKind.wrap .u64 a):=qhn a
theorem qn5 (m:Nat) {raw:LI} (hl:raw.length<=9223372036854775807) (k:Int): ∃w,g32 m raw k=some (w,(),(),())/\U64 w:=by
 rw[g32,bQ];by_cases c:0<raw.length
 . obtain⟨r,hr,e⟩:=qdx m k (k:=raw.length) c O;rw[iP O,e,bS];dsimp only;rw[iP O];exact⟨_,rfl,wrapU _⟩
 . rw[iN' O];exact⟨_,rfl,wrapU _⟩
theorem qm4 {x M E:Nat} (hx:x<18446744073709551616) (hM:M<18446744073709551616) (hM0:M/4503599627370496%2048=0) (hE:E<2047):
 U64 (b_or_ .u64 (qw .u64 (x:Int) (M:Int)) (shl_ .u64 (wJ (E:Int)) 52))/\FinF (b_or_ .u64 (qw .u64 (x:Int) (M:Int)) (shl_ .u64 (wJ (E:Int)) 52)):=by
 refine⟨wrapU _,?_⟩
 have e2:shl_ .u64 (wJ (E:Int)) 52=((E*2^52:Nat):Int):=by
  rw[w64n O];exact shl64 (a:=E) (k:=52) O (by rw[show(2:Nat)^52=4503599627370496 by decide];omega)
 have ha:x&&&M<18446744073709551616:=Nat.lt_of_le_of_lt Nat.and_le_left hx;have hp:(2:Nat)^52=4503599627370496:=by decide
 rw[and64 hx hM,e2,or64 ha (by rw[hp];omega)]
 unfold FinF fexp
 have key:(x&&&M|||E*2^52)/2^52%2^11=E:=by
  rw[<-Nat.shiftRight_eq_div_pow,Nat.shiftRight_or_distrib,Nat.or_mod_two_pow,Nat.shiftRight_and_distrib,Nat.and_mod_two_pow,Nat.shiftRight_eq_div_pow M,hp];rw[show(2:Nat)^11=2048 by decide,hM0,Nat.and_zero,Nat.zero_or,Nat.shiftRight_eq_div_pow,hp,Nat.mul_div_cancel _ (by decide)]
  omega
 rw[hp,show(2:Nat)^11=2048 by decide]at key
 rw[hp];generalize (x&&&M|||E*4503599627370496)=Z at*
 omega
def smT:LI:=[13844628204490326016,13844065254536904704,13842939354630062080,13841813454723219456,13840687554816376832,13839561654909534208,13837309855095848960,13835058055282163712,13830554455654793216,0,4607182418800017408,4611686018427387904,4613937818241073152,4616189618054758400,4617315517961601024,4618441417868443648,4619567317775286272,4620693217682128896,4621256167635550208]
theorem qkh (j:Nat):((List.range 19).map fun r=>g53 (j+100) ((r:Nat):Int))=smT.map fun f=>some (f,(),()):=by kernel_rfl
theorem qjf:FnL []:=fun i hi=>absurd hi (Nat.not_lt_zero _)
theorem ql2 {l:LI} (h:FnL l) {f:Int} (h1:U64 f) (h2:FinF f):FnL (l++[f]):=by
 intro i hi;rw[List.length_append,List.length_singleton]at hi;by_cases c:i<l.length
 . have:(l++[f]).getD i 0=l.getD i 0:=by rw[List.getD,List.getElem?_append_left c];rfl
   rw[this];exact h i c
 . have:i=l.length:=O;subst this;have:(l++[f]).getD l.length 0=f:=by simp[List.getD]
   rw[this];exact⟨h1,h2⟩
theorem q9g {x:Int} (h:FinF x):kindN x≠3:=by
 unfold kindN;rw[iN' h];split<;>decide
end Go.Vs.F
set_option maxRecDepth 100000
namespace Go.Vs.F
theorem wfLen {t:Ty} {xs:List (Den t)} (h:wfC (.imm t) xs):xs.length<=9223372036854775807:=Nat.le_trans h.2 (by decide)
theorem qgo {a:Int} {k:Nat}:Int.fdiv a (2^k)=a/2^k:=
 Int.fdiv_eq_ediv_of_nonneg _ (by exact Int.le_of_lt (Int.pow_pos O))
def lowF (f:Int):Int:=f%9223372036854775808
def keyF (f:Int):Int:=if 9223372036854775808<=f then-lowF f else lowF f
def nanB (f:Int):Bool:=decide (9218868437227405312<lowF f)
def inK (k:Int):Prop:= -9218868437227405312<=k/\k<=9218868437227405312
instance {k:Int}:Decidable (inK k):=inferInstanceAs (Decidable (_/\_))
def fromK (k:Int):Int:=if k<0 then 9223372036854775808-k else k
theorem fields {f:Int} (h:U64 f):qw .u64 (shr_ .u64 f 52) 2047=f/4503599627370496%2048/\qw .u64 f 4503599627370495=f%4503599627370496:=by
 obtain⟨n,rfl⟩: ∃n:Nat,f=(n:Int):=⟨f.toNat,by have:=h.1;omega⟩
 have hn:n<18446744073709551616:=by have:=h.2;omega
 have e1:shr_ .u64 (n:Int) 52=((n/4503599627370496:Nat):Int):=by
  unfold shr_;rw[show min (52:Int).toNat (IntKind.u64.bits)=52 by decide,qgo];rfl
 have e2:=and64 (a:=n/4503599627370496) (b:=2047) O O;have e3:=and64 (a:=n) (b:=4503599627370495) hn O;rw[show((2047:Nat):Int)=2047 from rfl,show(2047:Nat)=2^11-1 by decide,Nat.and_two_pow_sub_one_eq_mod]at e2
 rw[show((4503599627370495:Nat):Int)=4503599627370495 from rfl,show(4503599627370495:Nat)=2^52-1 by decide,Nat.and_two_pow_sub_one_eq_mod]at e3
 rw[e1,e2,e3];constructor<;>omega
theorem qqv {f:Int} (h:U64 f):9218868437227405312<lowF f↔f/4503599627370496%2048=2047/\f%4503599627370496≠0:=by
 unfold lowF;have:=h.1;have:=h.2;omega
theorem qqk {m:Nat} {f:Int} (h:U64 f): ∃k,g60 m f=some (k,(),())/\g46 m f=some (k,(),())/\(k=3↔nanB f=true):=by
 have hf:=fields h;have hn:=qqv h;have hl:0<=f/4503599627370496%2048/\f/4503599627370496%2048<2048:=O;unfold nanB;rw[decide_eq_true_eq,hn,g60,g103,g46,hf.1,hf.2,bS,wQ,wi O O];dsimp only;simp only[bif_eq,bif_ne];generalize f/4503599627370496%2048=a;generalize f%4503599627370496=b;by_cases c:a=2047
 . by_cases d:b=0
   . exact⟨2,by simp[c,d],by simp[c,d],by simp[c,d]⟩
   . exact⟨3,by simp[c,d],by simp[c,d],by simp[c,d]⟩
 . by_cases e:a=0
   . by_cases d:b=0
     . exact⟨0,by simp[e,d],by simp[e,d],by simp[e,d]⟩
     . exact⟨1,by simp[e,d],by simp[e,d],by simp[e,d]⟩
   . exact⟨1,by simp[c,e],by simp[c,e],by simp[c,e]⟩
theorem qqn {m:Nat} {f:Int} (h:U64 f):g45 m f=some (nanB f,(),()):=by
 obtain⟨k,-,h2,h3⟩:=qqk (m:=m) h;rw[g45,h2,bS];dsimp only;by_cases c:k=3
 . rw[h3.1 c,c];rfl
 . rw[show(k==3)=false by simpa using c]
   cases hb:nanB f
   . rfl
   . exact absurd (h3.2 hb) c
end Go.Vs.F
set_option maxRecDepth 100000
namespace Go.Vs.F
end Go.Vs.F
set_option maxRecDepth 100000
namespace Go.Vs.F
end Go.Vs.F
