/-Matrices of dyads at one exponent become matrices of integers:program and document agree. The counts of a tridiagonal matrix:program and document agree. Checks and counts of tridiagonal matrices:program and document agree. The numbers that the statements make. The laws TridiagCounts and TridiagKth. Keys of floats. The law TridiagKth:program and document search the same eigenvalue. Counts are monotone,and do not see the signs beside the diagonal. The law TridiagMonotone. Directed rounding:the nearest floats below and above a dyad. The nearest floats below and above;dominant diagonals. The bounds of all eigenvalues:program and document agree. Bounds,as both compute them. The law TridiagBounds. The law TridiagRefuses. -/
import Derived.Test.YtipppakhihimpaaGreatDoorLf
import Derived.KernelRfl
import Derived.Test.YtipppakhihimpaaGreatDoorFn
set_option linter.unusedVariables false
set_option linter.unusedSimpArgs false
set_option linter.unusedSectionVars false
set_option maxRecDepth 100000
namespace Go.Vs.F
abbrev DyL:=Bool×(Bool×LI)×Int
def dE (z:Int):DyL:=((mkD z (-1074)).1,((mkD z (-1074)).2.1,(mkD z (-1074)).2.2.1),(mkD z (-1074)).2.2.2.1)
def rowD (n:Nat) (f:Nat->Int):List DyL:=mr n fun j=>dE (f j)
def matD (n:Nat) (D:Nat->Nat->Int):List (List DyL):=mr n fun i=>rowD n (D i)
theorem Yl {n:Nat} {D:Nat->Nat->Int}:(matD n D).length=n:=Qa
theorem Xq {n:Nat} {f:Nat->Int}:(rowD n f).length=n:=Qa
theorem q0h {n i:Nat} {D:Nat->Nat->Int} (h:i<n):(matD n D).getD i []=rowD n (D i):=Qq h
theorem q44 {n j:Nat} {f:Nat->Int} (h:j<n):(rowD n f).getD j (false,((false,[]),0))=dE (f j):=Qq h
theorem Zy {z e:Int} (h:blen z.natAbs<=10000) (h1: -1074<=e) (h2:e<=0):OkD z e:=Yk.2 (.inr ⟨O,O⟩)
theorem ex_mk {z e:Int} (h:OkD z e) (hz:z≠0):(mkD z e).2.2.2.1=e+(tz z.natAbs:Int):=by
 rcases Yk.1 h with h|⟨h1,h2⟩
 . exact absurd h hz
 . unfold mkD;rw[iN' hz,iN' O]
def sm1 (l z:Int):Int:=if z=0 then l else if-1074+(tz z.natAbs:Int)<l then-1074+(tz z.natAbs:Int)else l
def mnR (f:Nat->Int):Nat->Int->Int
 |0,l=>l
 |k+1,l=>sm1 (mnR f k l) (f k)
def mnM (n:Nat) (D:Nat->Nat->Int):Nat->Int
 |0=>0
 |i+1=>mnR (D i) n (mnM n D i)
theorem qkj {l z:Int}:sm1 l z<=l:=by
 unfold sm1
 repeat' split
 all_goals omega
theorem qo0 {l z:Int} (h: -1074<=l): -1074<=sm1 l z:=by
 unfold sm1
 repeat' split
 all_goals omega
theorem sm1_z {l z:Int} (h:z≠0):sm1 l z<= -1074+(tz z.natAbs:Int):=by unfold sm1;rw[iN' h];split<;>omega
theorem qft {f:Nat->Int}: ∀{k:Nat} {l:Int},mnR f k l<=l
 |0,_=>Int.le_refl _
 |k+1,l=>Int.le_trans qkj (qft (k:=k))
theorem qkz {f:Nat->Int}: ∀{k:Nat} {l:Int},-1074<=l-> -1074<=mnR f k l
 |0,_,h=>h
 |k+1,l,h=>qo0 (qkz (k:=k) h)
theorem mnR_z {f:Nat->Int}: ∀{k:Nat} {l:Int} {j:Nat},j<k->f j≠0->mnR f k l<= -1074+(tz (f j).natAbs:Int)
 |0,_,_,h,_=>absurd h (Nat.not_lt_zero _)
 |k+1,l,j,h,hz=>by
  by_cases c:j=k
  . subst c;exact sm1_z hz
  . exact Int.le_trans qkj (mnR_z (k:=k) O hz)
theorem qkm {n:Nat} {D:Nat->Nat->Int}: ∀{i:Nat},mnM n D i<=0
 |0=>Int.le_refl _
 |i+1=>Int.le_trans qft (qkm (i:=i))
theorem qdu {n:Nat} {D:Nat->Nat->Int}: ∀{i:Nat},-1074<=mnM n D i
 |0=>by show(-1074:Int)<=0;omega
 |i+1=>qkz (qdu (i:=i))
theorem mnM_z {n:Nat} {D:Nat->Nat->Int}: ∀{k i j:Nat},i<k->j<n->D i j≠0->mnM n D k<= -1074+(tz (D i j).natAbs:Int)
 |0,_,_,h,_,_=>absurd h (Nat.not_lt_zero _)
 |k+1,i,j,h,hj,hz=>by
  by_cases c:i=k
  . subst c;exact mnR_z hj hz
  . exact Int.le_trans qft (mnM_z (k:=k) O hj hz)
def kM (n:Nat) (D:Nat->Nat->Int):Nat:=(mnM n D n+1074).toNat
section
variable {m:Nat} (hm:5000000000<=m)
include hm
theorem pSign {z:Int} (h:blen z.natAbs<=10000):g78 m (mkD z (-1074)).1 (mkD z (-1074)).2.1 (mkD z (-1074)).2.2.1 (mkD z (-1074)).2.2.2.1=some (sgn z,(),()):=qiq O (Zy h O O)
theorem ql3 {z:Int} (h:blen z.natAbs<=10000):g108 m (mkD z (-1074)).1 (mkD z (-1074)).2.1 (mkD z (-1074)).2.2.1 (mkD z (-1074)).2.2.2.1=some (sgn z,(),()):=by
 have ok:(mkD z (-1074)).1=false:=Zy h O O;rw[g108,J9 O,bS,qff O ok];dsimp only;rw[ok,cond_false,bS]
theorem qny {z L:Int} (h:blen z.natAbs<=10000) (h1: -1074<=L) (h0:L<=0):g98 m (mkD z (-1074)).1 (mkD z (-1074)).2.1 (mkD z (-1074)).2.2.1 (mkD z (-1074)).2.2.2.1 (wI (0-L))=some (mkD z (-1074-L),(),(),()):=by
 have w:wI (0-L)= -L:=by rw[wQ,wi O O];omega
 rw[qh3 O,iP (Zy h O O),w];have:J5 (-L)= -L:=by unfold J5;omega
 rw[this,Int.sub_eq_add_neg]
theorem q7a {w f z c:Int} {k:Nat} (e:EqD w f z c) (h:c+(k:Int)<=f):w*2^(f-(c+(k:Int))).toNat=z/2^k:=by
 have h1:=e.low (c:=c) O O;rw[qcc]at h1;unfold sc at h1;have h2:(f-c).toNat=(f-(c+(k:Int))).toNat+k:=O;rw[h2,Int.pow_add,<-Int.mul_assoc]at h1;rw[<-h1,Int.mul_ediv_cancel];have:=Zk k;omega
theorem qo8 {z L:Int} (h:blen z.natAbs<=10000) (h1: -1074<=L) (h0:L<=0) (hz:z≠0->L<= -1074+(tz z.natAbs:Int)):
 g97 m (mkD z (-1074-L)).1 (mkD z (-1074-L)).2.1 (mkD z (-1074-L)).2.2.1 (mkD z (-1074-L)).2.2.2.1=some ((zB (z/2^(L+1074).toNat),true,()),(),()):=by
 have hok:OkD z (-1074-L):=Zy h O O;obtain⟨w,f,k,k1,k2,k3⟩:=Yv hok;rw[g97,qbi O hok,bS];dsimp only;rw[Bool.not_true,cond_false,k1,k2,k3];by_cases c:z=0
 . subst c;have hf:f=0:=by rw[<-k3];rfl
   have hw:w=0:=by
    have:=k.eq.low (c:=min f (-1074-L)) O O;unfold sc at this;rw[Int.zero_mul]at this;rcases Int.mul_eq_zero.1 this with h|h
    . exact h
    . have:=Zk (f-min f (-1074-L)).toNat;omega
   subst hf hw;rw[show(0:Int)=((0:Nat):Int)from rfl,q49 O (Lm_zB _) (by rw[zB_2];simp[Qb]) O,bS,zv_zB]
   rw[nZ,Int.zero_mul,Int.zero_ediv]
 . have hf:f= -1074-L+(tz z.natAbs:Int):=by rw[<-k3];exact ex_mk hok c
   have hz':=hz c;have htz:=q0k (n:=z.natAbs);have n1:=k.len;have hl:=q0w n1;obtain⟨fn,rfl⟩: ∃fn:Nat,f=(fn:Int):=⟨f.toNat,O⟩;rw[q49 O (Lm_zB _) O O,bS,zv_zB];have e:=q7a (m:=m) hm k.eq (k:=(L+1074).toNat) O;rw[show((fn:Int)-(-1074-L+(((L+1074).toNat:Nat):Int))).toNat=fn by omega]at e
   rw[e]
theorem qma {z L:Int} (h:blen z.natAbs<=10000) (h1: -1074<=L) (hc:z≠0) (hz:L<= -1074+(tz z.natAbs:Int)):
 g109 m (mkD z (-1074)).2.1 (mkD z (-1074)).2.2.1 (wI ((mkD z (-1074)).2.2.2.1-L))=some (zB (z/2^(L+1074).toNat),(),(),()):=by
 have hok:OkD z (-1074):=Zy h O O;obtain⟨w,f,k,k1,k2,k3⟩:=Yv hok;have hf:f= -1074+(tz z.natAbs:Int):=by rw[<-k3];exact ex_mk hok hc
 have htz:=q0k (n:=z.natAbs);have n1:=k.len;rw[k1,k2,k3,wQ,wi O O,q1m O O O O];have e:=q7a (m:=m) hm k.eq (k:=(L+1074).toNat) O;rw[<-e];congr 6;omega
variable {n:Nat} (hn:n<=1000) {D:Nat->Nat->Int} (hD: ∀i j,i<n->j<n->blen (D i j).natAbs<=10000)
include hn hD
theorem qha {z:Int} {α:Type} {a b:α}:(bif sgn z !=0 then a else b)=if z=0 then b else a:=by
 rw[bif_ne];by_cases c:z=0
 . subst c;rw[iP rfl,iP (by rfl)]
 . rw[iN' c,iN' (fun h=>c (Jc.1 h))]
theorem qgq {l z:Int} (h:blen z.natAbs<=10000) (hz:z≠0):(if(mkD z (-1074)).2.2.2.1<l then(mkD z (-1074)).2.2.2.1 else l)=sm1 l z:=by
 rw[ex_mk (Zy h O O) hz,sm1,iN' hz]
theorem qlq (R:List (List DyL)) (t15:List (List DyL)) (t16 t17:Int) {i:Nat} (hi:i<n) (l:Int): ∀(N j:Nat),n-j<N->j<=n->
 g57L1 m N R (mnR (D i) j l) t15 t16 t17 (rowD n (D i)) (n:Int) (j:Int)=some (.inl (R,mnR (D i) n l,t15,t16,t17,())):=by
 intro N;induction N with
 |zero=>intro j h;omega
 |succ N ih=>
  intro j h hj;rw[g57L1,Xq,bQ];by_cases c:j<n
  . have hz:=hD i j hi c;rw[iP O,iP O];simp only[tN,q44 c];rw[show g77 m (dE (D i j)).1 (dE (D i j)).2.1.1 (dE (D i j)).2.1.2 (dE (D i j)).2.2=_ from qij O,bS,pSign hm hz,bS]
    dsimp only;rw[wQ,wsucc O,qha hm hn hD];by_cases z:D i j=0
    . rw[iP z];have:=ih (j+1) O O;rw[mnR,sm1,iP z]at this;exact this
    . rw[iN' z,qgq hm hn hD hz z];exact ih (j+1) O O
  . have:j=n:=O;subst this;rw[iN' O]
theorem qna (R:List (List DyL)): ∀(N i:Nat),n-i<N->i<=n->
 g57L0 m N R (mnM n D i) (matD n D) (n:Int) (i:Int)=some (.inl (R,mnM n D n,())):=by
 intro N;induction N with
 |zero=>intro j h;omega
 |succ N ih=>
  intro i h hi;rw[g57L0,Yl,bQ];by_cases c:i<n
  . rw[iP O,iP O];simp only[tN,q0h c,Xq];have e:=qlq hm hn hD R (matD n D) (n:Int) (i:Int) c (mnM n D i) m 0 O O;rw[nZ]at e;rw[show g57L1 m m R (mnM n D i) (matD n D) (n:Int) (i:Int) (rowD n (D i)) (n:Int) 0=_ from e,bS]
    dsimp only;rw[wQ,wsucc O];exact ih (i+1) O O
  . have:i=n:=O;subst this;rw[iN' O]
theorem qnd {i:Nat} (hi:i<n) (l:Int): ∀(N j:Nat),n-j<N->j<=n->
 g65L1 m N (matD n D) (mnR (D i) j l) (i:Int) (j:Int)=some (.inl (matD n D,mnR (D i) n l,(i:Int),())):=by
 intro N;induction N with
 |zero=>intro j h;omega
 |succ N ih=>
  intro j h hj;rw[g65L1,Yl,iP O,bQ];simp only[tN,q0h hi,Xq];by_cases c:j<n
  . have hz:=hD i j hi c;rw[iP O,iP O,iP O];simp only[q44 c];rw[show g108 m (dE (D i j)).1 (dE (D i j)).2.1.1 (dE (D i j)).2.1.2 (dE (D i j)).2.2=_ from ql3 hm hz,bS]
    dsimp only;rw[wQ,wsucc O,qha hm hn hD];by_cases z:D i j=0
    . rw[iP z];have:=ih (j+1) O O;rw[mnR,sm1,iP z]at this;exact this
    . rw[iN' z,iP O,iP O,show g83 m (dE (D i j)).1 (dE (D i j)).2.1.1 (dE (D i j)).2.1.2 (dE (D i j)).2.2=_ from J9 O,bS,qgq hm hn hD hz z]
      exact ih (j+1) O O
  . have:j=n:=O;subst this;rw[iN' O]
theorem qms: ∀(N i:Nat),n-i<N->i<=n->
 g65L0 m N (matD n D) (mnM n D i) (i:Int)=some (.inl (matD n D,mnM n D n,())):=by
 intro N;induction N with
 |zero=>intro j h;omega
 |succ N ih=>
  intro i h hi;rw[g65L0,Yl,bQ];by_cases c:i<n
  . have e:=qnd hm hn hD c (mnM n D i) m 0 O O;rw[nZ]at e;rw[iP O,show g65L1 m m (matD n D) (mnM n D i) (i:Int) 0=_ from e,bS]
    dsimp only;rw[wQ,wsucc O];exact ih (i+1) O O
  . have:i=n:=O;subst this;rw[iN' O]
def qD (n:Nat) (D:Nat->Nat->Int):Nat->Nat->Int:=fun i j=>D i j/2^kM n D
theorem qn6 (t41:List (List DyL)) (t42 t43:Int) {i:Nat} (hi:i<n) (out:List (List Bg)) (ho:out.length=n): ∀(N j:Nat) (o:List Bg),n-j<N->j<=n->o=(mr j fun j=>BZ (qD n D i j))->
 g57L3 m N (mnM n D n) (out.set i o) (i:Int) t41 t42 t43 (rowD n (D i)) (n:Int) (j:Int)=some (.inl (mnM n D n,out.set i (rowB n (qD n D i)),t41,t42,t43,())):=by
 intro N;induction N with
 |zero=>intro j o h;omega
 |succ N ih=>
  intro j o h hj hoe;rw[g57L3,Xq,bQ];by_cases c:j<n
  . have hz:=hD i j hi c;have hL1:=qdu (n:=n) (D:=D) (i:=n);have hL0:=qkm (n:=n) (D:=D) (i:=n);have hLz:D i j≠0->mnM n D n<= -1074+(tz (D i j).natAbs:Int):=fun hne=>mnM_z hi c hne
    have hg:(out.set i o).getD i []=o:=q1l O;have hlen:(out.set i o).length=n:=by rw[List.length_set];exact ho
    have hol:o.length=j:=by rw[hoe];exact Qa
    have hq:zlen (qD n D i j)<=1000000:=by
     have:(qD n D i j).natAbs<=(D i j).natAbs:=by unfold qD;exact Int.natAbs_ediv_le_natAbs _ _
     refine Nat.le_trans (Q7 this) (Nat.le_trans (q08 hz) O)
    rw[iP O,iP O];simp only[tN,q44 c,hg,hlen];rw[show g98 m (dE (D i j)).1 (dE (D i j)).2.1.1 (dE (D i j)).2.1.2 (dE (D i j)).2.2 (wI (0-mnM n D n))=_ from qny hm hz hL1 hL0,bS,qo8 hm hz hL1 hL0 hLz,bS]
    dsimp only;rw[iP O,show g99 m (zB (D i j/2^(mnM n D n+1074).toNat)).1 (zB (D i j/2^(mnM n D n+1074).toNat)).2.1=_ from bNorm O hq,bS,hol,iP (by show j+1<=_;omega),iP O,iP trivial,wQ,wsucc O,List.set_set]
    refine ih (j+1) _ O O ?_;rw[hoe];exact Yw (f:=fun j=>BZ (qD n D i j))
  . have:j=n:=O;subst this;rw[iN' O,hoe];rfl
theorem qmw: ∀(N i:Nat),n-i<N->i<=n->
 g57L2 m N (mnM n D n) (mr n fun k=>if k<i then rowB n (qD n D k)else []) (matD n D) (n:Int) (i:Int)=some (.inl (matB n (qD n D),())):=by
 intro N;induction N with
 |zero=>intro j h;omega
 |succ N ih=>
  intro i h hi;rw[g57L2,Yl,bQ];by_cases c:i<n
  . have e:=qn6 hm hn hD (matD n D) (n:Int) (i:Int) c (mr n fun k=>if k<i then rowB n (qD n D k)else []) Qa m 0 [] O O Zr.symm
    have e0:(mr n fun k=>if k<i then rowB n (qD n D k)else []).set i []=mr n fun k=>if k<i then rowB n (qD n D k)else []:=by
     rw[Jp];refine Q9 fun k hk=> ?_
     by_cases d:k=i
     . rw[iP d,iN' O]
     . rw[iN' d]
    have e1:(mr n fun k=>if k<i then rowB n (qD n D k)else []).set i (rowB n (qD n D i))=mr n fun k=>if k<i+1 then rowB n (qD n D k)else []:=by
     rw[Jp];refine Q9 fun k hk=> ?_
     by_cases d:k=i
     . subst d;rw[iP rfl,iP O]
     . rw[iN' d];by_cases d2:k<i
       . rw[iP d2,iP O]
       . rw[iN' d2,iN' O]
    rw[e0,e1,nZ]at e;rw[iP O,iP O];simp only[tN,q0h c,Xq];rw[e,bS];dsimp only;rw[wQ,wsucc O];exact ih (i+1) O O
  . have:i=n:=O;subst this;rw[iN' O];congr 3;exact Q9 fun k hk=>iP hk
theorem qmy:g57 m (matD n D)=some (matB n (qD n D),(),()):=by
 have e0:=qna hm hn hD (matD n D) m 0 O O;rw[nZ]at e0;have e2:=qmw hm hn hD m 0 O O;rw[show(mr n fun k=>if k<0 then rowB n (qD n D k)else [])=List.replicate n [] by rw[q6x];exact Q9 fun k _=>iN' O,nZ]at e2
 rw[g57,Yl,show g57L0 m m (matD n D) 0 (matD n D) (n:Int) 0=_ from e0,bS]
 dsimp only;rw[Yl,iP O,tN,e2,bS]
theorem qn9 (out:List (List Bg)) {i:Nat} (hi:i<n): ∀(N j:Nat),n-j<N->j<=n->
 g65L3 m N (matD n D) (mnM n D n) out (i:Int) (mr j fun j=>BZ (qD n D i j)) (j:Int)=some (.inl (matD n D,mnM n D n,out,(i:Int),rowB n (qD n D i),())):=by
 intro N;induction N with
 |zero=>intro j h;omega
 |succ N ih=>
  intro j h hj;rw[g65L3,Yl,iP O,bQ];simp only[tN,q0h hi,Xq];by_cases c:j<n
  . have hz:=hD i j hi c;have hL1:=qdu (n:=n) (D:=D) (i:=n);have hol:(mr j fun j=>BZ (qD n D i j)).length=j:=Qa
    rw[iP O,iP O,iP O];simp only[q44 c];rw[show g83 m (dE (D i j)).1 (dE (D i j)).2.1.1 (dE (D i j)).2.1.2 (dE (D i j)).2.2=_ from J9 O,bS,ql3 hm hz,bS]
    dsimp only;rw[wQ,wQ,wsucc O,qha hm hn hD];by_cases z:D i j=0
    . rw[iP z,hol,iP (by show j+1<=_;omega)]
      have e1:(mr j fun j=>BZ (qD n D i j))++[(false,[])]=mr (j+1) fun j=>BZ (qD n D i j):=by
       rw[<-Yw];have:qD n D i j=0:=by unfold qD;rw[z,Int.zero_ediv]
       rw[this,q52]
      rw[e1];exact ih (j+1) O O
    . rw[iN' z,show g109 m (mkD (D i j) (-1074)).2.1 (mkD (D i j) (-1074)).2.2.1 (IntKind.wrap .i64 ((mkD (D i j) (-1074)).2.2.2.1-mnM n D n))=_ from qma hm hz hL1 z (mnM_z hi c z),bS,hol,iP (by show j+1<=_;omega)]
      have e1:(mr j fun j=>BZ (qD n D i j))++[((zB (D i j/2^(mnM n D n+1074).toNat)).1,(zB (D i j/2^(mnM n D n+1074).toNat)).2.1)]=mr (j+1) fun j=>BZ (qD n D i j):=Yw (f:=fun j=>BZ (qD n D i j))
      rw[e1];exact ih (j+1) O O
  . have:j=n:=O;subst this;rw[iN' O];rfl
theorem qmr: ∀(N i:Nat),n-i<N->i<=n->
 g65L2 m N (matD n D) (mnM n D n) (mr i fun i=>rowB n (qD n D i)) (i:Int)=some (.inl (matB n (qD n D),())):=by
 intro N;induction N with
 |zero=>intro j h;omega
 |succ N ih=>
  intro i h hi;have hol:(mr i fun i=>rowB n (qD n D i)).length=i:=Qa
  rw[g65L2,Yl,bQ];by_cases c:i<n
  . have e:=qn9 hm hn hD (mr i fun i=>rowB n (qD n D i)) c m 0 O O
    rw[Zr,nZ]at e;rw[iP O,e,bS];dsimp only;rw[hol,iP (by show 0<1/\i+1<=_;omega),wQ,wsucc O]
    have e1:(mr i fun i=>rowB n (qD n D i))++[rowB n (qD n D i)]=mr (i+1) fun i=>rowB n (qD n D i):=Yw (f:=fun i=>rowB n (qD n D i))
    rw[e1];exact ih (i+1) O O
  . have:i=n:=O;subst this;rw[iN' O];rfl
theorem qls:g65 m (matD n D)=some (matB n (qD n D),(),()):=by
 have e0:=qms hm hn hD m 0 O O;rw[nZ]at e0;have e2:=qmr hm hn hD m 0 O O;rw[Zr,nZ]at e2;rw[g65,show g65L0 m m (matD n D) 0 0=_ from e0,bS]
 dsimp only;rw[e2,bS]
end
end Go.Vs.F
set_option maxRecDepth 100000
namespace Go.Vs.F
def valF (f:Int):Int:=sc (ofZ f) (ofE f) (-1074)
theorem q2y {f:Int} (h:FinF f):ofD f=mkD (valF f) (-1074):=by
 have he:=q6d (f:=f);unfold ofD valF;rw[iP h,qdj O]
theorem val_ok {f:Int} (h:FinF f):OkD (valF f) (-1074):=by
 have he:=q6d (f:=f);have:=qnp h;unfold OkD valF at*
 rwa [qdj O]
theorem qdk {m:Nat} (hm:3000000<m) {a b:Int} (ha:FinF a) (hb:FinF b):
 g44 m (ofD a).1 (ofD a).2.1 (ofD a).2.2.1 (ofD a).2.2.2.1 (ofD b).1 (ofD b).2.1 (ofD b).2.2.1 (ofD b).2.2.2.1=some (mkD (valF a-valF b) (-1074),(),(),())/\
 g27 m (ofD a).1 (ofD a).2.1 (ofD a).2.2.1 (ofD a).2.2.2.1 (ofD b).1 (ofD b).2.1 (ofD b).2.2.1 (ofD b).2.2.2.1=some (mkD (valF a-valF b) (-1074),(),(),()):=by
 rw[q2y ha,q2y hb,ql8 hm,qjq hm,iP ⟨val_ok ha,val_ok hb⟩];exact⟨rfl,rfl⟩
theorem q8a {f:Int} (h:FinF f):blen (valF f).natAbs<=2098:=by
 have h1:=q7w f;have h2:=qmp h;have h3:=(q6d (f:=f)).1;unfold valF sc;refine Nat.le_trans qa4 ?_;omega
theorem qj0 {a b:Int} {k:Nat} (ha:blen a.natAbs<=k) (hb:blen b.natAbs<=k):blen (a-b).natAbs<=k+1:=by
 rw[Int.sub_eq_add_neg];exact q55 ha (by rw[Int.natAbs_neg];exact hb)
def triA (a b:Nat->Int):Nat->Nat->Int:=fun i j=>if i=j then a i else if j=i+1 then b i else if i=j+1 then b j else 0
def triKA (a b:Nat->Int) (k:Nat):Nat->Nat->Int:=fun i j=>if j=i then a i else if j=i+1 then(if i<k then b i else 0)else if i=j+1 then(if j<k then b j else 0)else 0
theorem qis (a b:Nat->Int) (i j:Nat):triA a b i j=triA a b j i:=by unfold triA;grind
theorem qfa (a b:Nat->Int) (i j:Nat):triKA a b 0 i j=if j=i then a i else 0:=by unfold triKA;grind
theorem qee (a b:Nat->Int) (n i j:Nat) (hi:i<n) (hj:j<n):triKA a b (n-1) i j=triA a b i j:=by unfold triKA triA;grind
theorem qex (a b:Nat->Int) (k i j:Nat):(if i=k+1 then(if j=k then b k else triKA a b k (k+1) j)else if i=k then(if j=k+1 then b k else triKA a b k k j)else triKA a b k i j)=triKA a b (k+1) i j:=by unfold triKA;grind
theorem qhq (a b:Nat->Int) (j:Nat) (i:Nat) (hi:i=0):(if j=i+1 then b i else if j=i then a i else 0)=triA a b i j:=by unfold triA;grind
theorem qe5 (a b:Nat->Int) (n i j:Nat) (hi:i=0) (hn:n=1) (hj:j<n):(if j=i then a i else 0)=triA a b i j:=by unfold triA;grind
theorem qhp (a b:Nat->Int) (j:Nat) (i:Nat) (hi:i≠0):(if j=i+1 then b i else if j=i-1 then b (i-1)else if j=i then a i else 0)=triA a b i j:=by unfold triA;grind
theorem qhb (a b:Nat->Int) (n i j:Nat) (hi:i≠0) (hn:n=i+1) (hj:j<n):(if j=i-1 then b (i-1)else if j=i then a i else 0)=triA a b i j:=by unfold triA;grind
def dgF (d:LI) (x:Int) (i:Nat):Int:=valF (d.getD i 0)-valF x
def ofF (e:LI) (i:Nat):Int:=valF (e.getD i 0)
def triD (d e:LI) (x:Int):Nat->Nat->Int:=triA (dgF d x) (ofF e)
theorem qj9 (d e:LI) (x:Int) (i j:Nat):triD d e x i j=triD d e x j i:=qis ..
def FnL (l:LI):Prop:= ∀i,i<l.length->U64 (l.getD i 0)/\FinF (l.getD i 0)
theorem qil {d e:LI} {x:Int} (hd:FnL d) (he:FnL e) (hle:e.length=d.length-1) (hx:FinF x) {i j:Nat} (hi:i<d.length) (hj:j<d.length):blen (triD d e x i j).natAbs<=2099:=by
 unfold triD triA;by_cases c:i=j
 . rw[iP c];exact qj0 (q8a (hd i hi).2) (q8a hx)
 . rw[iN' c];by_cases c1:j=i+1
   . rw[iP c1];exact Nat.le_trans (q8a (he i O).2) (by decide)
   . rw[iN' c1];by_cases c2:i=j+1
     . rw[iP c2];exact Nat.le_trans (q8a (he j O).2) (by decide)
     . rw[iN' c2];decide
theorem qjw {n j:Nat} {f:Nat->Int} {v:Int}:(rowD n f).set j (dE v)=rowD n (fun k=>if k=j then v else f k):=by
 unfold rowD;rw[Jp];refine Q9 fun k hk=> ?_
 show(if k=j then dE v else dE (f k))=dE (if k=j then v else f k)
 by_cases c:k=j
 . rw[iP c,iP c]
 . rw[iN' c,iN' c]
theorem qae {n:Nat}:List.replicate n ((false,((false,[]),0)):DyL)=rowD n (fun _=>0):=q6x
theorem q4k {n i:Nat} {D:Nat->Nat->Int} {f:Nat->Int}:(matD n D).set i (rowD n f)=matD n (fun k=>if k=i then f else D k):=by
 unfold matD;rw[Jp];refine Q9 fun k hk=> ?_
 show(if k=i then rowD n f else rowD n (D k))=rowD n (if k=i then f else D k)
 by_cases c:k=i
 . rw[iP c,iP c]
 . rw[iN' c,iN' c]
theorem Z9 {n j:Nat} {f:Nat->Int} {v:Int}:(rowD n f).set j ((mkD v (-1074)).1,((mkD v (-1074)).2.1,(mkD v (-1074)).2.2.1),(mkD v (-1074)).2.2.2.1)=rowD n (fun k=>if k=j then v else f k):=qjw
section
variable {m:Nat} (hm:5000000000<=m) {d e:LI} {x:Int} (hd:FnL d) (he:FnL e) (hle:e.length=d.length-1) (hl:d.length<=1000) (hxU:U64 x) (hx:FinF x)
include hm hd he hle hl hxU hx
theorem qe3: ∀(N i:Nat),d.length-i<N->i<=d.length->
 g58L0 m N d e x (mr d.length fun k=>if k<i then rowD d.length (fun j=>if j=k then dgF d x k else 0)else []) (d.length:Int) (i:Int)=
  some (.inl (e,matD d.length (fun k j=>if j=k then dgF d x k else 0),())):=by
 intro N;induction N with
 |zero=>intro j h;omega
 |succ N ih=>
  intro i h hi;rw[g58L0,bQ];by_cases c:i<d.length
  . obtain⟨u1,f1⟩:=hd i c;have hlen:(mr d.length fun k=>if k<i then rowD d.length (fun j=>if j=k then dgF d x k else 0)else []).length=d.length:=Qa
    rw[iP O,iP O,hlen,iP O];simp only[tN,List.length_set,hlen];rw[iP O,iP O,Of_eq O u1,bS,Of_eq O hxU,bS,(qdk O f1 hx).1,bS,q1l (by rw[hlen];exact c),List.length_replicate,iP O,List.set_set,qae]
    dsimp only;rw[Z9]
    have e2:(mr d.length fun k=>if k<i then rowD d.length (fun j=>if j=k then dgF d x k else 0)else []).set i (rowD d.length (fun j=>if j=i then valF (d.getD i 0)-valF x else 0))=mr d.length fun k=>if k<i+1 then rowD d.length (fun j=>if j=k then dgF d x k else 0)else []:=by
     rw[Jp];refine Q9 fun k hk=> ?_
     by_cases c1:k=i
     . subst c1;rw[iP rfl,iP O];rfl
     . rw[iN' c1];by_cases c2:k<i
       . rw[iP c2,iP O]
       . rw[iN' c2,iN' O]
    rw[e2,wQ,wsucc O];exact ih (i+1) O O
  . have:i=d.length:=O;subst this;rw[iN' O];congr 4;exact Q9 fun k hk=>iP hk
theorem qen: ∀(N k:Nat),e.length-k<N->k<=e.length->g58L1 m N (matD d.length (triKA (dgF d x) (ofF e) k)) e (e.length:Int) (k:Int)=some (.inl (matD d.length (triD d e x),())):=by
 intro N;induction N with
 |zero=>intro j h;omega
 |succ N ih=>
  intro k h hk;rw[g58L1,bQ];by_cases c:k<e.length
  . obtain⟨u1,f1⟩:=he k c;have w1:wI ((k:Int)+1)=((k+1:Nat):Int):=wsucc O;rw[iP O,iP O,Yl,w1,iP O,tN,tN,Of_eq O u1,q2y f1,bS,bS];dsimp only;rw[q0h (show k<d.length by omega),Xq,iP O,Z9,q4k,q0h (show k+1<d.length by omega),Xq,iP O,Z9,q4k]
    have e3:matD d.length (fun i=>if i=k+1 then(fun j=>if j=k then valF (e.getD k 0)else(if k+1=k then(fun j=>if j=k+1 then valF (e.getD k 0)else triKA (dgF d x) (ofF e) k k j)else triKA (dgF d x) (ofF e) k (k+1)) j)else(if i=k then(fun j=>if j=k+1 then valF (e.getD k 0)else triKA (dgF d x) (ofF e) k k j)else triKA (dgF d x) (ofF e) k i))=matD d.length (triKA (dgF d x) (ofF e) (k+1)):=by
     unfold matD;refine Q9 fun i hi=> ?_
     unfold rowD;refine Q9 fun j hj=> ?_
     congr 1;rw[<-qex];rw[iN' (show¬k+1=k by omega)]
     show _=if i=k+1 then(if j=k then valF (e.getD k 0)else _)else if i=k then(if j=k+1 then valF (e.getD k 0)else _)else _
     dsimp only;by_cases c1:i=k+1
     . rw[iP c1,iP c1]
     . rw[iN' c1,iN' c1];by_cases c2:i=k
       . rw[iP c2,iP c2]
       . rw[iN' c2,iN' c2]
    rw[e3,iP O];exact ih (k+1) O O
  . have hke:k=d.length-1:=O;rw[iN' O];congr 3;unfold matD;refine Q9 fun i hi=> ?_
    unfold rowD;refine Q9 fun j hj=> ?_
    rw[hke,qee _ _ _ _ _ hi hj];rfl
theorem qej:g58 m d e x=some (matD d.length (triD d e x),(),(),(),()):=by
 have e0:=qe3 hm hd he hle hl hxU hx m 0 O O;rw[show(mr d.length fun k=>if k<0 then rowD d.length (fun j=>if j=k then dgF d x k else 0)else [])=List.replicate d.length [] by rw[q6x];exact Q9 fun k _=>iN' O,nZ]at e0
 have e1:=qen hm hd he hle hl hxU hx m 0 O O
 have e2:matD d.length (triKA (dgF d x) (ofF e) 0)=matD d.length (fun k j=>if j=k then dgF d x k else 0):=by
  unfold matD;refine Q9 fun i hi=> ?_
  unfold rowD;refine Q9 fun j hj=> ?_
  rw[qfa]
 rw[e2,nZ]at e1;rw[g58,iP O,tN,List.length_replicate,e0,bS];dsimp only;rw[e1,bS]
theorem qf8: ∀(N i:Nat),d.length-i<N->i<=d.length->
 g11L0 m N d e x (mr i fun i=>rowD d.length (triD d e x i)) (i:Int)=some (.inl (matD d.length (triD d e x),())):=by
 intro N;induction N with
 |zero=>intro j h;omega
 |succ N ih=>
  intro i h hi;rw[g11L0,bQ];by_cases c:i<d.length
  . obtain⟨u1,f1⟩:=hd i c;have w1:wI ((i:Int)+1)=((i+1:Nat):Int):=wsucc O;have hlen:(mr i fun i=>rowD d.length (triD d e x i)).length=i:=Qa
    have put: ∀f:Nat->Int,(∀j,j<d.length->f j=triD d e x i j)->(if 0<([rowD d.length f]:List (List DyL)).length/\(mr i fun i=>rowD d.length (triD d e x i)).length+([rowD d.length f]:List (List DyL)).length<=1073741824 then
     g11L0 m N d e x ((mr i fun i=>rowD d.length (triD d e x i))++[rowD d.length f]) ((i+1:Nat):Int)else none)=some (.inl (matD d.length (triD d e x),())):=by
     intro f hf;have:rowD d.length f=rowD d.length (triD d e x i):=Q9 fun j hj=>by rw[hf j hj]
     rw[this,hlen,iP (by show 0<1/\i+1<=_;omega),Yw (f:=fun i=>rowD d.length (triD d e x i))]
     exact ih (i+1) O O
    rw[iP O,iP O,iP O,tN,tN,qak O u1,bS,qak O hxU,bS,(qdk O f1 hx).2,bS,List.length_replicate,iP O,Nat.zero_add,qae,w1];dsimp only;rw[Z9,bQ,bQ];by_cases c1:i=0
    . rw[iN' O];by_cases c2:i<e.length
      . obtain⟨u2,f2⟩:=he i c2;rw[iP O,iP O,qak O u2,q2y f2,bS];dsimp only;rw[tN,Nat.zero_add,Z9,Xq,iP O];exact put _ fun j hj=>qhq (dgF d x) (ofF e) j i c1
      . rw[iN' O];exact put _ fun j hj=>qe5 (dgF d x) (ofF e) d.length i j c1 O hj
    . have w2:wI ((i:Int)-1)=((i-1:Nat):Int):=by rw[wQ,wi O O];omega
      obtain⟨u3,f3⟩:=he (i-1) O;rw[iP O,w2,iP O,tN,qak O u3,q2y f3,bS,Xq,iP O,Nat.zero_add];dsimp only;rw[Z9,bQ];by_cases c2:i<e.length
      . obtain⟨u2,f2⟩:=he i c2;rw[iP O,iP O,qak O u2,q2y f2,bS,Xq,iP O,tN,Nat.zero_add];dsimp only;rw[Z9];exact put _ fun j hj=>qhp (dgF d x) (ofF e) j i c1
      . rw[iN' O];exact put _ fun j hj=>qhb (dgF d x) (ofF e) d.length i j c1 O hj
  . have:i=d.length:=O;rw[iN' O,this];rfl
end
end Go.Vs.F
set_option maxRecDepth 100000
namespace Go.Vs.F
def kindN (f:Int):Int:=if fexp f=2047 then(if ffrac f=0 then 2 else 3)else if fexp f=0/\ffrac f=0 then 0 else 1
theorem qg2 {m:Nat} {f:Int} (h:U64 f):g23 m f=some (kindN f,(),())/\g26 m f=some (kindN f,(),()):=by
 have hl:=q36 f;rw[g23,parts_eq h,bS,g26,(q92 h).1,(q92 h).2];simp only[bif_eq,bif_ne];unfold kindN;by_cases c:fexp f=2047
 . by_cases d:ffrac f=0
   . simp[c,d]
   . simp[c,d]
 . by_cases e:fexp f=0
   . by_cases d:ffrac f=0
     . simp[e,d]
     . simp[e,d]
   . simp[c,e]
def UL (l:LI):Prop:= ∀i,i<l.length->U64 (l.getD i 0)
def allF (l:LI):Bool:=l.all fun f=>decide (FinF f)
theorem qpy {l:LI} (h:UL l) (ha:allF l=true):FnL l:=by
 intro i hi;refine⟨h i hi,?_⟩;unfold allF at ha;rw[List.all_eq_true]at ha;have hx:l.getD i 0∈l:=by simp[List.getD,hi]
 simpa using ha _ hx
theorem qa3 {l:LI} {k:Nat} (h:k<l.length):allF (l.drop k)=(decide (FinF (l.getD k 0))&&allF (l.drop (k+1))):=by
 unfold allF;rw[List.drop_eq_getElem_cons h,List.all_cons];simp[List.getD,h]
theorem qi2 {m:Nat} {l:LI} (hU:UL l) (hl:l.length<=1000000): ∀(N k:Nat),l.length-k<N->k<=l.length->
 (allF (l.drop k)=true/\g91L0 m N l (l.length:Int) (k:Int)=some (.inr (.inl ())))\/(allF (l.drop k)=false/\ ∃j:Nat,g91L0 m N l (l.length:Int) (k:Int)=some (.inl ((j:Int),()))):=by
 intro N;induction N with
 |zero=>intro j h;omega
 |succ N ih=>
  intro k h hk;rw[g91L0,bQ];by_cases c:k<l.length
  . rw[iP O,iP O,tN,g52,qb4 (hU k c),bS,bS,qa3 c];dsimp only;by_cases f:FinF (l.getD k 0)
    . rw[decide_eq_true f,Bool.not_true,cond_false,Bool.true_and,wQ,wsucc O];exact ih (k+1) O O
    . rw[decide_eq_false f,Bool.not_false,cond_true,Bool.false_and];exact .inr ⟨rfl,k,rfl⟩
  . rw[iN' O,List.drop_eq_nil_of_le O];exact .inl ⟨rfl,rfl⟩
theorem q95 {m:Nat} (hm:5000000000<=m) {l:LI} (hU:UL l) (hl:l.length<=1000000):g54 m l=some (!allF l,(),(),()):=by
 rw[g54,g91];rcases qi2 (m:=m) hU hl m 0 O O with⟨h,e⟩|⟨h,j,e⟩
 . rw[nZ]at e;rw[List.drop_zero]at h;rw[e,bS,h];rfl
 . rw[nZ]at e;rw[List.drop_zero]at h;rw[e,bS,h,bS];dsimp only;rw[show decide ((j:Int)>=0)=true from decide_eq_true O]
   rfl
theorem qmj {m:Nat} {l:LI} (hU:UL l) (hl:l.length<=1000000): ∀(N k:Nat),l.length-k<N->k<=l.length->
 (allF (l.drop k)=true/\g59L0 m N l (k:Int)=some (.inr (.inl ())))\/(allF (l.drop k)=false/\g59L0 m N l (k:Int)=some (.inl (false,()))):=by
 intro N;induction N with
 |zero=>intro j h;omega
 |succ N ih=>
  intro k h hk;rw[g59L0,bQ];by_cases c:k<l.length
  . rw[iP O,iP O,tN,q7q (hU k c),bS,qa3 c];dsimp only;by_cases f:FinF (l.getD k 0)
    . rw[decide_eq_true f,Bool.not_true,cond_false,Bool.true_and,wQ,wsucc O];exact ih (k+1) O O
    . rw[decide_eq_false f,Bool.not_false,cond_true,Bool.false_and];exact .inr ⟨rfl,rfl⟩
  . rw[iN' O,List.drop_eq_nil_of_le O];exact .inl ⟨rfl,rfl⟩
theorem qgi {m:Nat} (hm:5000000000<=m) {l:LI} (hU:UL l) (hl:l.length<=1000000):g59 m l=some (allF l,(),()):=by
 rw[g59];rcases qmj (m:=m) hU hl m 0 O O with⟨h,e⟩|⟨h,e⟩
 . rw[nZ]at e;rw[List.drop_zero]at h;rw[e,bS,h]
 . rw[nZ]at e;rw[List.drop_zero]at h;rw[e,bS,h]
def chkT (d e:LI):Int:=if d.length>16 then 6 else if e.length≠d.length-1 then 2 else if allF d=true/\allF e=true then 0 else 4
theorem q6j {m:Nat} (hm:5000000000<=m) {d e:LI} (hd:UL d) (he:UL e) (hdl:d.length<=1000000) (hel:e.length<=1000000):g22 m d e=some (chkT d e,(),(),())/\g25 m d e=some (chkT d e,(),(),()):=by
 have w:(if 0>wI ((d.length:Int)-1)then 0 else wI ((d.length:Int)-1))=((d.length-1:Nat):Int):=by
  rw[wQ,wi O O];split<;>omega
 unfold chkT;constructor
 . rw[g22,w,q95 hm hd hdl,q95 hm he hel];simp only[bS,bQ,bif_ne];by_cases c1:d.length>16
   . rw[iP O,iP c1]
   . rw[iN' O,iN' c1];by_cases c2:e.length=d.length-1
     . rw[iP O,iN' (fun h=>h c2)]
       cases allF d<;>cases allF e<;>rfl
     . rw[iN' O,iP c2]
 . rw[g25,w,qgi hm hd hdl,qgi hm he hel];simp only[bS,bQ,bif_ne];by_cases c1:d.length>16
   . rw[iP O,iP c1]
   . rw[iN' O,iN' c1];by_cases c2:e.length=d.length-1
     . rw[iP O,iN' (fun h=>h c2)]
       cases allF d<;>cases allF e<;>rfl
     . rw[iN' O,iP c2]
theorem qmx {d e:LI} (h:chkT d e=0):d.length<=16/\e.length=d.length-1/\allF d=true/\allF e=true:=by
 unfold chkT at h;by_cases c1:d.length>16
 . rw[iP c1]at h;omega
 . rw[iN' c1]at h;by_cases c2:e.length=d.length-1
   . rw[iN' O]at h;by_cases c3:allF d=true/\allF e=true
     . exact⟨O,c2,c3.1,c3.2⟩
     . rw[iN' c3]at h;omega
   . rw[iP c2]at h;omega
theorem Dg.scale {L:List Nat} {A V:Nat->Nat->Rat} {b:Nat->Rat} (c:Rat) (hd:Dg L A V b):Dg L (fun i j=>c*A i j) V (fun i=>c*b i):=by
 refine⟨fun y=> ?_,hd.ind⟩
 have e:sm L (fun i=>c*b i*(y i*y i))=c*sm L (fun i=>b i*(y i*y i)):=by
  rw[<-Ql];exact qh fun i _=>by grind
 rw[e,<-hd.form y];unfold qf;rw[<-Ql];refine qh fun i _=> ?_
 rw[<-Ql];exact qh fun j _=>by grind
theorem q2t {L:List Nat} {b:Nat->Rat} {c:Rat} (hc:0<c):npos L (fun i=>c*b i)=npos L b:=by
 unfold npos;rw[List.filter_congr fun i _=> ?_]
 rw[decide_eq_decide];constructor
 . intro h;exact(Rat.mul_pos_iff_of_pos_left hc).1 h
 . intro h;exact Rat.mul_pos hc h
theorem q14 {L:List Nat} {b:Nat->Rat} {c:Rat} (hc:0<c):npos L (fun i=> -(c*b i))=npos L (fun i=> -b i):=by
 rw[<-q2t (b:=fun i=> -b i) hc]
 exact Y6 fun i _=>by grind
theorem qo4 {n:Nat} {D:Nat->Nat->Int} {i j:Nat} (hi:i<n) (hj:j<n):D i j=qD n D i j*2^kM n D:=by
 unfold qD;by_cases z:D i j=0
 . rw[z,Int.zero_ediv,Int.zero_mul]
 . have h1:=mnM_z (n:=n) (D:=D) (k:=n) hi hj z;have h2:=qdu (n:=n) (D:=D) (i:=n);obtain⟨k1,k2,k3⟩:=qdr (n:=(D i j).natAbs) O;have hk:kM n D<=tz (D i j).natAbs:=by unfold kM;omega
   have hd:((2^kM n D:Nat):Int)∣D i j:=by
    rw[Int.ofNat_dvd_left];exact Nat.dvd_trans (Nat.pow_dvd_pow 2 hk) ⟨_,k2⟩
   rw[Int.natCast_pow]at hd;exact(Int.ediv_mul_cancel hd).symm
theorem qno {n:Nat} {D:Nat->Nat->Int} {i j k:Nat} (h:blen (D i j).natAbs<=k):zlen (qD n D i j)<=k/32+1:=
 Nat.le_trans (Q7 (by unfold qD;exact Int.natAbs_ediv_le_natAbs _ _)) (q08 h)
theorem qaa {m:Nat} (hm:5000000000<=m) {n:Nat} (hn:n<=5) {D:Nat->Nat->Int} (hD: ∀i j,i<n->j<n->blen (D i j).natAbs<=2111) (hs: ∀i j,D i j=D j i):
 ∃V b,Dg (List.range n) (qM D) V b/\
  (g56 m (matB n (qD n D))=some ((((npos (List.range n) (fun i=> -b i):Nat):Int),((n-(npos (List.range n) b+npos (List.range n) (fun i=> -b i)):Nat):Int),((npos (List.range n) b:Nat):Int),0,()),(),()))/\
  g64 m (matB n (qD n D))=some ((((npos (List.range n) (fun i=> -b i):Nat):Int),((n-(npos (List.range n) b+npos (List.range n) (fun i=> -b i)):Nat):Int),((npos (List.range n) b:Nat):Int),()),(),()):=by
 have hl: ∀i j,i<n->j<n->zlen (qD n D i j)<=66:=fun i j hi hj=>qno (hD i j hi hj)
 have hsq: ∀i j,i<n->j<n->qD n D i j=qD n D j i:=fun i j _ _=>by unfold qD;rw[hs i j]
 have hsz:4^n*(66+1)<=80000:=by
  have:4^n<=4^5:=Nat.pow_le_pow_right (by decide) hn
  have:=Nat.mul_le_mul_right (66+1) this;omega
 obtain⟨V,b,d1,d2⟩:=qbl hm (n:=n) O hl (by decide) hsq hsz
 have d3:=qea (m:=m) O (n:=n) O (M:=qD n D) (e:=66) O hl hsq d1
 have hc:(0:Rat)<((2^kM n D:Int):Rat):=by
  have:=Zk (kM n D);have:=Rat.intCast_lt_intCast.2 this;exact this
 refine⟨V,fun i=>((2^kM n D:Int):Rat)*b i,((d1.scale ((2^kM n D:Int):Rat)).congr fun i hi j hj=> ?_),?_,?_⟩
 . show((2^kM n D:Int):Rat)*(qD n D i j:Rat)=(D i j:Rat)
   rw[qo4 (D:=D) (List.mem_range.1 hi) (List.mem_range.1 hj),Rat.intCast_mul,Rat.mul_comm]
 . rw[q2t hc,q14 hc];exact d3
 . rw[q2t hc,q14 hc];exact d2
def IsCnt (n:Nat) (D:Nat->Nat->Int) (c:Nat):Prop:= ∃V b,Dg (List.range n) (qM D) V b/\c=n-npos (List.range n) b
abbrev infP:Int:=9218868437227405312
abbrev infM:Int:=18442240474082181120
def CntT (d e:LI) (x:Int) (c:Nat):Prop:=(x=infP->c=d.length)/\(x=infM->c=0)/\(FinF x->IsCnt d.length (triD d e x) c)/\c<=d.length
theorem qlc {x:Int} (hx:U64 x) (h: ¬FinF x) (h3:kindN x≠3):x=infP\/x=infM:=by
 obtain⟨h1,h2⟩:=hx;have e:fexp x=2047:=Decidable.not_not.1 h
 have f:ffrac x=0:=by
  unfold kindN at h3;rw[iP e]at h3;by_cases c:ffrac x=0
  . exact c
  . rw[iN' c]at h3;exact absurd rfl h3
 unfold fexp at e;unfold ffrac at f;show x=9218868437227405312\/x=18442240474082181120;omega
theorem qcf {m:Nat} (hm:5000000000<=m) {d e:LI} (hd:UL d) (he:UL e) (hdl:d.length<=1000000) (hel:e.length<=1000000) {x:Int} (hx:U64 x) (hc:chkT d e=0) (h5:d.length<=5) (h3:kindN x≠3):
 ∃c:Nat,CntT d e x c/\g24 m d e x=some ((c:Int),(),(),(),())/\g10 m d e x=some (((c:Int),0,()),(),(),(),())/\g11 m d e x=some (((c:Int),0,()),(),(),(),()):=by
 obtain⟨c1,c2,c3,c4⟩:=qmx hc;obtain⟨k1,k2⟩:=q6j hm hd he hdl hel;obtain⟨q1,q2⟩:=qg2 (m:=m) hx
 have key: ∀c:Nat,g24 m d e x=some ((c:Int),(),(),(),())->g10 m d e x=some (((c:Int),0,()),(),(),(),()):=by
  intro c h;rw[g10,k1,bS,hc];show(g23 m x).bind _=_;rw[q1,bS,bif_eq,iN' h3,h,bS]
 by_cases hF:FinF x
 . have hne:x≠infP/\x≠infM:=by
    constructor<;>(rintro rfl;exact hF (by decide))
   have hFd:=qpy hd c3;have hFe:=qpy he c4;have hlen:=fun i j (hi:i<d.length) (hj:j<d.length)=>qil hFd hFe c2 hF hi hj
   obtain⟨V,b,d1,d2,d3⟩:=qaa hm h5 (D:=triD d e x) (fun i j hi hj=>Nat.le_trans (hlen i j hi hj) (by decide)) (qj9 d e x)
   have le2:=q7o (L:=List.range d.length) (b:=b);rw[List.length_range]at le2;have hbig: ∀i j,i<d.length->j<d.length->blen (triD d e x i j).natAbs<=10000:=fun i j hi hj=>Nat.le_trans (hlen i j hi hj) (by decide)
   have hsum:wI (((npos (List.range d.length) (fun i=> -b i):Nat):Int)+((d.length-(npos (List.range d.length) b+npos (List.range d.length) (fun i=> -b i)):Nat):Int))=((d.length-npos (List.range d.length) b:Nat):Int):=by
    rw[wQ,wi O O];omega
   have pa:g24 m d e x=some (((d.length-npos (List.range d.length) b:Nat):Int),(),(),(),()):=by
    rw[g24,bif_eq,iN' hne.1,qb4 hx,bS,decide_eq_true hF,Bool.not_true,cond_false,qej hm hFd hFe c2 O hx hF,bS,qmy hm O hbig,bS,d2,bS];dsimp only;rw[hsum]
   refine⟨d.length-npos (List.range d.length) b,⟨fun h=>absurd h hne.1,fun h=>absurd h hne.2,fun _=>⟨V,b,d1,rfl⟩,O⟩,pa,key _ pa,?_⟩
   have r0:=qf8 hm hFd hFe c2 O hx hF m 0 O O;rw[Zr,nZ]at r0;rw[g11,k2,bS,hc];show(g26 m x).bind _=_;rw[q2,bS,bif_eq,iN' h3,bif_eq,iN' hne.2,bif_eq,iN' hne.1,r0,bS];dsimp only;rw[g29,qls hm O hbig,bS,d3,bS];dsimp only;rw[hsum,bS]
 . rcases qlc hx hF h3 with rfl|rfl
   . have pa:g24 m d e infP=some ((d.length:Int),(),(),(),()):=by
      rw[g24,bif_eq,iP rfl]
     refine⟨d.length,⟨fun _=>rfl,fun h=>absurd h (by decide),fun h=>absurd h hF,Nat.le_refl _⟩,pa,key _ pa,?_⟩
     rw[g11,k2,bS,hc];dsimp only;rw[show((0:Int) !=0)=false from rfl,cond_false,q2,bS,bif_eq,iN' h3,bif_eq,iN' (by decide),bif_eq,iP rfl]
   . have pa:g24 m d e infM=some (((0:Nat):Int),(),(),(),()):=by
      rw[g24,bif_eq,iN' (by decide),qb4 hx,bS,decide_eq_false hF]
      rfl
     refine⟨0,⟨fun h=>absurd h (by decide),fun _=>rfl,fun h=>absurd h hF,Nat.zero_le _⟩,pa,key _ pa,?_⟩
     rw[g11,k2,bS,hc];dsimp only;rw[show((0:Int) !=0)=false from rfl,cond_false,q2,bS,bif_eq,iN' h3,bif_eq,iP rfl]
     rfl
theorem qf5 {m:Nat} (hm:5000000000<=m) {d e:LI} (hd:UL d) (he:UL e) (hdl:d.length<=1000000) (hel:e.length<=1000000) {x:Int} (hx:U64 x) (h:chkT d e≠0\/kindN x=3):
 ∃r,g10 m d e x=some ((0,r,()),(),(),(),())/\g11 m d e x=some ((0,r,()),(),(),(),())/\r=if chkT d e≠0 then chkT d e else 4:=by
 obtain⟨k1,k2⟩:=q6j hm hd he hdl hel;obtain⟨q1,q2⟩:=qg2 (m:=m) hx;refine⟨_,?_,?_,rfl⟩
 . rw[g10,k1,bS,bif_ne];dsimp only;by_cases c:chkT d e=0
   . rw[iP c,iN' (fun h=>h c),q1,bS,bif_eq,iP (h.resolve_left fun h=>h c)]
   . rw[iN' c,iP c]
 . rw[g11,k2,bS,bif_ne];dsimp only;by_cases c:chkT d e=0
   . rw[iP c,iN' (fun h=>h c),q2,bS,bif_eq,iP (h.resolve_left fun h=>h c)]
   . rw[iN' c,iP c]
end Go.Vs.F
set_option maxRecDepth 100000
namespace Go.Vs.F
theorem q6t (m:Nat) (a:Int) {k:Nat} (h0:0<k) (hk:k<9223372036854775808): ∃r:Nat,r<k/\g9 m a (k:Int)=some ((r:Int),(),(),()):=by
 have w:wJ (k:Int)=(k:Int):=w64n O;obtain⟨x,hx,_⟩:=qo7 a;have hx':wJ a=(x:Int):=hx;refine⟨x%k,Nat.mod_lt _ h0,?_⟩;have:=Nat.mod_lt x h0;rw[g9,w,hx',iP O,tm,wQ,wi O O]
theorem wrapU (a:Int):U64 (IntKind.wrap .u64 a):=qh5 a
theorem qld (m:Nat) {raw:LI} (hl:raw.length<=9223372036854775807) (k:Int): ∃w,g51 m raw k=some (w,(),(),())/\U64 w:=by
 rw[g51,bQ];by_cases c:0<raw.length
 . obtain⟨r,hr,e⟩:=q6t m k (k:=raw.length) c O;rw[iP O,e,bS];dsimp only;rw[iP O];exact⟨_,rfl,wrapU _⟩
 . rw[iN' O];exact⟨_,rfl,wrapU _⟩
theorem ql0 {x M E:Nat} (hx:x<18446744073709551616) (hM:M<18446744073709551616) (hM0:M/4503599627370496%2048=0) (hE:E<2047):
 U64 (b_or_ .u64 (qw .u64 (x:Int) (M:Int)) (shl_ .u64 (wJ (E:Int)) 52))/\FinF (b_or_ .u64 (qw .u64 (x:Int) (M:Int)) (shl_ .u64 (wJ (E:Int)) 52)):=by
 refine⟨wrapU _,?_⟩
 have e2:shl_ .u64 (wJ (E:Int)) 52=((E*2^52:Nat):Int):=by
  rw[w64n O];exact shl64 (a:=E) (k:=52) O (by rw[show(2:Nat)^52=4503599627370496 by decide];omega)
 have ha:x&&&M<18446744073709551616:=Nat.lt_of_le_of_lt Nat.and_le_left hx;have hp:(2:Nat)^52=4503599627370496:=by decide
 rw[and64 hx hM,e2,or64 ha (by rw[hp];omega)]
 unfold FinF fexp
 have key:(x&&&M|||E*2^52)/2^52%2^11=E:=by
  rw[<-Nat.shiftRight_eq_div_pow,Nat.shiftRight_or_distrib,Nat.or_mod_two_pow,Nat.shiftRight_and_distrib,Nat.and_mod_two_pow,Nat.shiftRight_eq_div_pow M,hp];rw[show(2:Nat)^11=2048 by decide,hM0,Nat.and_zero,Nat.zero_or,Nat.shiftRight_eq_div_pow,hp,Nat.mul_div_cancel _ (by decide)]
  omega
 rw[hp,show(2:Nat)^11=2048 by decide]at key
 rw[hp];generalize (x&&&M|||E*4503599627370496)=Z at*
 omega
def smT:LI:=[13844628204490326016,13844065254536904704,13842939354630062080,13841813454723219456,13840687554816376832,13839561654909534208,13837309855095848960,13835058055282163712,13830554455654793216,0,4607182418800017408,4611686018427387904,4613937818241073152,4616189618054758400,4617315517961601024,4618441417868443648,4619567317775286272,4620693217682128896,4621256167635550208]
theorem qke (j:Nat):((List.range 19).map fun r=>g31 (j+100) ((r:Nat):Int))=smT.map fun f=>some (f,(),()):=by kernel_rfl
theorem qoi:(smT.all fun f=>decide ((0<=f/\f<18446744073709551616)/\f/4503599627370496%2048≠2047))=true:=by decide+kernel
theorem qjb {m:Nat} (hm:5000000000<=m) {x:Int} (hx:U64 x): ∃f,g31 m x=some (f,(),())/\U64 f/\FinF f:=by
 obtain⟨j,rfl⟩: ∃j,m=j+100:=⟨m-100,O⟩;obtain⟨y,rfl⟩: ∃y:Nat,x=(y:Int):=⟨x.toNat,by have:=hx.1;omega⟩
 have hr:y%19<19:=Nat.mod_lt _ (by decide)
 have e:g31 (j+100) ((y:Nat):Int)=g31 (j+100) ((y%19:Nat):Int):=by
  rw[g31,g31,show(19:Int)=((19:Nat):Int)from rfl,tm,tm,Nat.mod_mod]
 have h1:=congrArg (fun l=>l[y%19]?) (qke j)
 have hl:smT.length=19:=by decide
 simp only[List.getElem?_map,List.getElem?_range hr,List.getElem?_eq_getElem (show y%19<smT.length by omega),Option.map_some,Option.some.injEq]at h1
 have h2:=List.all_eq_true.1 qoi smT[y%19] (List.getElem_mem _);have h3:=of_decide_eq_true h2;exact⟨_,by rw[e];exact h1,h3.1,h3.2⟩
theorem ql1 {m:Nat} (hm:5000000000<=m) {x:Int} (hx:U64 x) (style:Int): ∃f,g12 m x style=some (f,(),(),())/\U64 f/\FinF f:=by
 obtain⟨r,hr,e⟩:=q6t m style (k:=4) (by decide) (by decide)
 obtain⟨y,rfl⟩: ∃y:Nat,x=(y:Int):=⟨x.toNat,by have:=hx.1;omega⟩
 have hy:y<18446744073709551616:=by have:=hx.2;omega
 rw[g12,show(4:Int)=((4:Nat):Int)from rfl,e,bS,bif_eq,bif_eq,bif_eq]
 dsimp only;by_cases c1:r=1
 . subst c1
   have e1:qw .u64 (shr_ .u64 (y:Int) 52) 7=((y/4503599627370496%8:Nat):Int):=by
    have h1:shr_ .u64 (y:Int) 52=((y/4503599627370496:Nat):Int):=shr64 (a:=y) (k:=52) O;have h2:qw .u64 ((y/4503599627370496:Nat):Int) ((7:Nat):Int)=((y/4503599627370496&&&7:Nat):Int):=and64 O (by decide)
    rw[h1,show(7:Int)=((7:Nat):Int)from rfl,h2,Nat.and_two_pow_sub_one_eq_mod _ 3]
   have:=ql0 (x:=y) (M:=9227875636482146303) (E:=1019+y/4503599627370496%8) hy (by decide) (by decide) O
   rw[iP (by decide),e1,show(1019:Int)+((y/4503599627370496%8:Nat):Int)=((1019+y/4503599627370496%8:Nat):Int) by omega]
   exact⟨_,rfl,this⟩
 . rw[iN' O];by_cases c2:r=2
   . subst c2
     have e1:Int.tmod (shr_ .u64 (y:Int) 8) 81=((y/256%81:Nat):Int):=by
      have h1:shr_ .u64 (y:Int) 8=((y/256:Nat):Int):=shr64 (a:=y) (k:=8) O;rw[h1,show(81:Int)=((81:Nat):Int)from rfl,tm]
     have:=ql0 (x:=y) (M:=9225623836668461056) (E:=983+y/256%81) hy (by decide) (by decide) O
     rw[iP (by decide),e1,show(983:Int)+((y/256%81:Nat):Int)=((983+y/256%81:Nat):Int) by omega]
     exact⟨_,rfl,this⟩
   . rw[iN' O];by_cases c3:r=3
     . subst c3;rw[iP (by decide),q7q hx,bS]
       dsimp only;by_cases f:FinF (y:Int)
       . rw[decide_eq_true f];exact⟨_,rfl,hx,f⟩
       . rw[decide_eq_false f];exact⟨_,rfl,⟨by decide,by decide⟩,by decide⟩
     . rw[iN' O];obtain⟨f,ef,h1,h2⟩:=qjb hm hx;rw[ef,bS];exact⟨_,rfl,h1,h2⟩
theorem qq0:FnL []:=fun i hi=>absurd hi (Nat.not_lt_zero _)
theorem qpz {l:LI} (h:FnL l) {f:Int} (h1:U64 f) (h2:FinF f):FnL (l++[f]):=by
 intro i hi;rw[List.length_append,List.length_singleton]at hi;by_cases c:i<l.length
 . have:(l++[f]).getD i 0=l.getD i 0:=by rw[List.getD,List.getElem?_append_left c];rfl
   rw[this];exact h i c
 . have:i=l.length:=O;subst this;have:(l++[f]).getD l.length 0=f:=by simp[List.getD]
   rw[this];exact⟨h1,h2⟩
theorem qg3 {m:Nat} (hm:5000000000<=m) {raw:LI} (hl:raw.length<=9223372036854775807) {at0 n:Nat} (hat:at0<=1000) (hn:n<=1000) (style:Int): ∀(N k:Nat) (out:LI),n-k<N->k<=n->out.length=k->FnL out->
 ∃l,g21L0 m N raw (at0:Int) (n:Int) style out (k:Int)=some (.inl (l,()))/\l.length=n/\FnL l:=by
 intro N;induction N with
 |zero=>intro k out h;omega
 |succ N ih=>
  intro k out h hk ho hF;rw[g21L0,bQ];by_cases c:k<n
  . obtain⟨w,ew,hw⟩:=qld m hl (wI ((at0:Int)+(k:Int)));obtain⟨f,ef,h1,h2⟩:=ql1 hm hw style;rw[iP O,ew,bS,ef,bS,ho,iP (by show k+1<=_;omega),wQ,wsucc O]
    exact ih (k+1) _ O O (by simp[ho]) (qpz hF h1 h2)
  . rw[iN' O];exact⟨out,rfl,O,hF⟩
theorem qa6 {m:Nat} (hm:5000000000<=m) {raw:LI} (hl:raw.length<=9223372036854775807) {at0 n:Nat} (hat:at0<=1000) (hn:n<=1000) (style:Int): ∃l,g21 m raw (at0:Int) (n:Int) style=some (l,(),(),(),(),())/\l.length=n/\FnL l:=by
 obtain⟨l,e,h1,h2⟩:=qg3 hm hl hat hn style m 0 [] O O rfl qq0;refine⟨l,?_,h1,h2⟩;rw[g21];rw[nZ]at e;rw[e,bS]
theorem FnL.U {l:LI} (h:FnL l):UL l:=fun i hi=>(h i hi).1
theorem FnL.all {l:LI} (h:FnL l):allF l=true:=by
 unfold allF;rw[List.all_eq_true];intro x hx;obtain⟨i,hi,rfl⟩:=List.getElem_of_mem hx;have:=(h i hi).2;simp only[List.getD,List.getElem?_eq_getElem hi,Option.getD_some]at this;exact decide_eq_true this
theorem qfd {d e:LI} (hd:FnL d) (he:FnL e) (h:e.length=d.length-1) (h16:d.length<=16):chkT d e=0:=by
 unfold chkT;rw[iN' O,iN' (fun g=>g h),iP ⟨hd.all,he.all⟩]
end Go.Vs.F
set_option maxRecDepth 100000
namespace Go.Vs.F
theorem qiu (j:Nat):sparselaw37_awake (j+200)=some (true,()):=by kernel_rfl
theorem qmq {m:Nat} (hm:5000000000<=m):sparselaw37_awake m=some (true,()):=by
 obtain⟨j,rfl⟩: ∃j,m=j+200:=⟨m-200,O⟩;exact qiu j
theorem wfu64 {x:Int} (h:(Lit.int .u64 x).wf=true):U64 x:=by
 simp only[Lit.wf,Bool.and_eq_true,decide_eq_true_eq]at h;exact⟨h.1,by have h2:x<=18446744073709551615:=h.2;omega⟩
theorem wfLen {t:Ty} {xs:List (Den t)} (h:wfC (.imm t) xs):xs.length<=9223372036854775807:=Nat.le_trans h.2 (by decide)
theorem qou {a:Int} {k:Nat}:Int.fdiv a (2^k)=a/2^k:=
 Int.fdiv_eq_ediv_of_nonneg _ (by exact Int.le_of_lt (Int.pow_pos O))
theorem qow {n:Nat} (h:n<18446744073709551616):n&&&9223372036854775808=if 9223372036854775808<=n then 9223372036854775808 else 0:=by
 have hb:n&&&9223372036854775808=if n.testBit 63 then 9223372036854775808 else 0:=by
  rw[show(9223372036854775808:Nat)=2^63 by decide]
  apply Nat.eq_of_testBit_eq;intro i;rw[Nat.testBit_and,Nat.testBit_two_pow];by_cases c:63=i
  . subst c;cases hb:n.testBit 63
    . simp
    . rw[iP rfl,Nat.testBit_two_pow];simp
  . cases hb:n.testBit 63
    . simp[c]
    . rw[iP rfl,Nat.testBit_two_pow];simp[c]
 have ht:n.testBit 63=decide (9223372036854775808<=n):=by
  rw[Nat.testBit_eq_decide_div_mod_eq];rw[show(2:Nat)^63=9223372036854775808 by decide]
  by_cases c:9223372036854775808<=n
  . rw[decide_eq_decide];omega
  . rw[decide_eq_decide];omega
 rw[hb,ht];by_cases c:9223372036854775808<=n
 . simp[c]
 . simp[c]
theorem qor: ∀(k a b:Nat),a<2^k->b<2^k->a+b=2*(a&&&b)+(a^^^b)
 |0,a,b,ha,hb=>by
  have:a=0:=by simpa using ha
  have:b=0:=by simpa using hb
  subst a;subst b;rfl
 |k+1,a,b,ha,hb=>by
  have ih:=qor k (a/2) (b/2) (by rw[Nat.pow_succ]at ha;omega) (by rw[Nat.pow_succ]at hb;omega)
  have e1:(a&&&b)/2=a/2&&&b/2:=Nat.and_div_two;have e2:(a^^^b)/2=a/2^^^b/2:=Nat.xor_div_two
  have m1:(a&&&b)%2=a%2*(b%2):=by
   have h:=Nat.and_mod_two_pow (a:=a) (b:=b) (n:=1);rw[Nat.pow_one]at h;rw[h];rcases Nat.mod_two_eq_zero_or_one a with h1|h1<;>rcases Nat.mod_two_eq_zero_or_one b with h2|h2<;>rw[h1,h2]<;>rfl
  have m2:(a^^^b)%2=(a%2+b%2)%2:=by
   have h:=Nat.xor_mod_two_pow (a:=a) (b:=b) (n:=1);rw[Nat.pow_one]at h;rw[h];rcases Nat.mod_two_eq_zero_or_one a with h1|h1<;>rcases Nat.mod_two_eq_zero_or_one b with h2|h2<;>rw[h1,h2]<;>rfl
  rw[<-e1,<-e2]at ih;rcases Nat.mod_two_eq_zero_or_one a with h1|h1<;>rcases Nat.mod_two_eq_zero_or_one b with h2|h2<;>rw[h1,h2]at m1 m2<;>omega
theorem qoy {a b:Nat} (ha:a<18446744073709551616) (hb:b<18446744073709551616):
 (a&&&b)<18446744073709551616/\(a^^^b)<18446744073709551616/\
 (9223372036854775808<=(a&&&b)↔9223372036854775808<=a/\9223372036854775808<=b)/\
 (9223372036854775808<=(a^^^b)↔ ¬(9223372036854775808<=a↔9223372036854775808<=b)):=by
 have h1:(a&&&b)<2^64:=Nat.lt_of_le_of_lt Nat.and_le_left ha;have h2:(a^^^b)<2^64:=Nat.xor_lt_two_pow ha hb
 have t: ∀n:Nat,n<18446744073709551616->(9223372036854775808<=n↔n.testBit 63=true):=by
  intro n hn;rw[Nat.testBit_eq_decide_div_mod_eq,decide_eq_true_eq,show(2:Nat)^63=9223372036854775808 by decide]
  omega
 refine⟨h1,h2,?_,?_⟩
 . rw[t _ h1,t _ ha,t _ hb,Nat.testBit_and,Bool.and_eq_true]
 . rw[t _ h2,t _ ha,t _ hb,Nat.testBit_xor];cases a.testBit 63<;>cases b.testBit 63<;>simp
def lowF (f:Int):Int:=f%9223372036854775808
def keyF (f:Int):Int:=if 9223372036854775808<=f then-lowF f else lowF f
def nanB (f:Int):Bool:=decide (9218868437227405312<lowF f)
def inK (k:Int):Prop:= -9218868437227405312<=k/\k<=9218868437227405312
instance {k:Int}:Decidable (inK k):=inferInstanceAs (Decidable (_/\_))
def fromK (k:Int):Int:=if k<0 then 9223372036854775808-k else k
theorem fields {f:Int} (h:U64 f):qw .u64 (shr_ .u64 f 52) 2047=f/4503599627370496%2048/\qw .u64 f 4503599627370495=f%4503599627370496:=by
 obtain⟨n,rfl⟩: ∃n:Nat,f=(n:Int):=⟨f.toNat,by have:=h.1;omega⟩
 have hn:n<18446744073709551616:=by have:=h.2;omega
 have e1:shr_ .u64 (n:Int) 52=((n/4503599627370496:Nat):Int):=by
  unfold shr_;rw[show min (52:Int).toNat (IntKind.u64.bits)=52 by decide,qou];rfl
 have e2:=and64 (a:=n/4503599627370496) (b:=2047) O O;have e3:=and64 (a:=n) (b:=4503599627370495) hn O;rw[show((2047:Nat):Int)=2047 from rfl,show(2047:Nat)=2^11-1 by decide,Nat.and_two_pow_sub_one_eq_mod]at e2
 rw[show((4503599627370495:Nat):Int)=4503599627370495 from rfl,show(4503599627370495:Nat)=2^52-1 by decide,Nat.and_two_pow_sub_one_eq_mod]at e3
 rw[e1,e2,e3];constructor<;>omega
theorem tops {f:Int} (h:U64 f):qw .u64 f 9223372036854775808=(if 9223372036854775808<=f then 9223372036854775808 else 0)/\qon .u64 f 9223372036854775808=lowF f/\
 q0a .u64 f 9223372036854775808=(if 9223372036854775808<=f then f-9223372036854775808 else f+9223372036854775808)/\b_or_ .u64 f 9223372036854775808=lowF f+9223372036854775808:=by
 obtain⟨n,rfl⟩: ∃n:Nat,f=(n:Int):=⟨f.toNat,by have:=h.1;omega⟩
 have hn:n<18446744073709551616:=by have:=h.2;omega
 have ha:=qow hn;have hs:=qor 64 n 9223372036854775808 hn O;obtain⟨p1,p2,-,-⟩:=qoy hn (show 9223372036854775808<18446744073709551616 by omega)
 have hx:(n^^^9223372036854775808)=if 9223372036854775808<=n then n-9223372036854775808 else n+9223372036854775808:=by
  split at ha<;>split<;>omega
 have ho:(n|||9223372036854775808)=n%9223372036854775808+9223372036854775808:=by
  have hl:n%9223372036854775808<2^63:=O;have e:=Nat.two_pow_add_eq_or_of_lt hl 1;rw[Nat.mul_one]at e
  have e2:n|||9223372036854775808=9223372036854775808|||n%9223372036854775808:=by
   apply Nat.eq_of_testBit_eq;intro i;rw[show(9223372036854775808:Nat)=2^63 by decide]
   simp only[Nat.testBit_or,Nat.testBit_two_pow,Nat.testBit_mod_two_pow];by_cases c:i<63
   . simp[c,Bool.or_comm]
   . by_cases d:63=i
     . simp[d]
     . have:n.testBit i=false:=Nat.testBit_lt_two_pow (Nat.lt_of_lt_of_le hn (by
        rw[show(18446744073709551616:Nat)=2^64 by decide];exact Nat.pow_le_pow_right O O))
       simp[c,d,this]
  rw[e2];rw[show(9223372036854775808:Nat)=2^63 by decide,<-e];omega
 have e1:=and64 hn (show 9223372036854775808<18446744073709551616 by omega)
 have n1:(BitVec.ofInt 64 (n:Int)).toNat=n:=ofInt64 hn;have n2:(BitVec.ofInt 64 9223372036854775808).toNat=9223372036854775808:=ofInt64 (a:=9223372036854775808) O;refine⟨?_,?_,?_,?_⟩
 . rw[show((9223372036854775808:Nat):Int)=9223372036854775808 from rfl]at e1
   rw[e1,ha];split<;>split<;>omega
 . unfold qon lowF;show IntKind.wrap .u64 ((BitVec.ofInt 64 (n:Int)&&& ~~~(BitVec.ofInt 64 9223372036854775808)).toNat:Int)=_
   have e:(BitVec.ofInt 64 (n:Int)&&& ~~~(BitVec.ofInt 64 9223372036854775808)).toNat=n%9223372036854775808:=by
    rw[BitVec.toNat_and,n1,show(~~~(BitVec.ofInt 64 9223372036854775808)).toNat=2^63-1 by decide,Nat.and_two_pow_sub_one_eq_mod]
   rw[e,wu O O];omega
 . unfold q0a;show IntKind.wrap .u64 ((BitVec.ofInt 64 (n:Int)^^^BitVec.ofInt 64 9223372036854775808).toNat:Int)=_;rw[BitVec.toNat_xor,n1,n2,hx,wu (by split<;>omega) (by split<;>omega)]
   split<;>split<;>omega
 . unfold b_or_ lowF;show IntKind.wrap .u64 ((BitVec.ofInt 64 (n:Int)|||BitVec.ofInt 64 9223372036854775808).toNat:Int)=_
   rw[BitVec.toNat_or,n1,n2,ho,wu O O];omega
theorem qp4 {f:Int} (h:U64 f):9218868437227405312<lowF f↔f/4503599627370496%2048=2047/\f%4503599627370496≠0:=by
 unfold lowF;have:=h.1;have:=h.2;omega
theorem qoq {m:Nat} {f:Int} (h:U64 f): ∃k,g23 m f=some (k,(),())/\g26 m f=some (k,(),())/\(k=3↔nanB f=true):=by
 have hf:=fields h;have hn:=qp4 h;have hl:0<=f/4503599627370496%2048/\f/4503599627370496%2048<2048:=O;unfold nanB;rw[decide_eq_true_eq,hn,g23,g55,g26,hf.1,hf.2,bS,wQ,wi O O];dsimp only;simp only[bif_eq,bif_ne];generalize f/4503599627370496%2048=a;generalize f%4503599627370496=b;by_cases c:a=2047
 . by_cases d:b=0
   . exact⟨2,by simp[c,d],by simp[c,d],by simp[c,d]⟩
   . exact⟨3,by simp[c,d],by simp[c,d],by simp[c,d]⟩
 . by_cases e:a=0
   . by_cases d:b=0
     . exact⟨0,by simp[e,d],by simp[e,d],by simp[e,d]⟩
     . exact⟨1,by simp[e,d],by simp[e,d],by simp[e,d]⟩
   . exact⟨1,by simp[c,e],by simp[c,e],by simp[c,e]⟩
theorem qp5 {m:Nat} (hm:10<m) {f:Int} (h:U64 f):g76 m [f]=some (nanB f,(),()):=by
 obtain⟨k,h1,-,h3⟩:=qoq (m:=m) h;obtain⟨j,rfl⟩: ∃j,m=j+2:=⟨m-2,O⟩;rw[g76,g76L0];simp only[List.length_cons,List.length_nil,Nat.zero_add,Int.toNat_zero];rw[show(((1:Nat):Int))=1 from rfl,bQ,iP O,iP O]
 simp only[List.getD_cons_zero,h1,bS,bif_eq];by_cases c:k=3
 . rw[iP c,bS,h3.1 c]
 . rw[iN' c,wQ,wi O O,g76L0,bQ,iN' O,bS];cases hb:nanB f
   . rfl
   . exact absurd (h3.2 hb) c
theorem qp6 (f:Int):0<=lowF f/\lowF f<9223372036854775808:=by unfold lowF;omega
theorem qpr {f:Int} (h:nanB f=false):inK (keyF f):=by
 unfold nanB at h;rw[decide_eq_false_iff_not]at h;have:=qp6 f;unfold keyF inK;split<;>omega
end Go.Vs.F
set_option maxRecDepth 100000
namespace Go.Vs.F
theorem qp1 {f:Int} (h:U64 f):kindN f=3↔nanB f=true:=by
 obtain⟨k,h1,h2,h3⟩:=qoq (m:=0) h;have:=(qg2 (m:=0) h).1;rw[this]at h1;have e:kindN f=k:=by injection h1 with h1;exact congrArg Prod.fst h1
 rw[e];exact h3
section
variable {m:Nat} (hm:5000000000<=m) {d e:LI} {C:Int->Nat} (hC: ∀q,inK q->g24 m d e (fromK q)=some ((C q:Int),(),(),(),())/\g11 m d e (fromK q)=some (((C q:Int),0,()),(),(),(),()))
include hm hC
end
end Go.Vs.F
set_option maxRecDepth 100000
namespace Go.Vs.F
def gv (k:Nat):Nat:=if k/4503599627370496=0 then k else(k%4503599627370496+4503599627370496)*2^(k/4503599627370496-1)
theorem gv_lt {k l:Nat} (h:k<l):gv k<gv l:=by
 unfold gv;by_cases c1:k/4503599627370496=0
 . rw[iP c1];by_cases c2:l/4503599627370496=0
   . rw[iP c2];exact h
   . rw[iN' c2];have:=Nat.le_mul_of_pos_right (l%4503599627370496+4503599627370496) (Nat.pow_pos (n:=l/4503599627370496-1) (show 0<2 by decide))
     omega
 . rw[iN' c1,iN' O];by_cases c2:k/4503599627370496=l/4503599627370496
   . rw[c2];exact Nat.mul_lt_mul_of_pos_right O (Nat.pow_pos (by decide))
   . have hp:2^(l/4503599627370496-1)=2^(k/4503599627370496-1)*2*2^(l/4503599627370496-1-(k/4503599627370496-1)-1):=by
      rw[<-Nat.pow_succ,<-Nat.pow_add];congr 1;omega
     have h1:(k%4503599627370496+4503599627370496)*2^(k/4503599627370496-1)<4503599627370496*(2^(k/4503599627370496-1)*2):=by
      have hpp:=Nat.pow_pos (n:=k/4503599627370496-1) (show 0<2 by decide)
      have:(k%4503599627370496+4503599627370496)*2^(k/4503599627370496-1)<(4503599627370496*2)*2^(k/4503599627370496-1):=Nat.mul_lt_mul_of_pos_right O hpp;rw[Nat.mul_assoc,Nat.mul_comm 2]at this;exact this
     have h2:4503599627370496*(2^(k/4503599627370496-1)*2)<=(l%4503599627370496+4503599627370496)*2^(l/4503599627370496-1):=by
      rw[hp];refine Nat.mul_le_mul O ?_;exact Nat.le_mul_of_pos_right _ (Nat.pow_pos (by decide))
     omega
theorem gv_le {k l:Nat} (h:k<=l):gv k<=gv l:=by
 rcases Nat.lt_or_ge k l with c|c
 . exact Nat.le_of_lt (gv_lt c)
 . rw[Nat.le_antisymm h c];exact Nat.le_refl _
theorem qp9 {f:Int} (h:U64 f) (hf:FinF f):valF f=if 9223372036854775808<=f then-((gv (lowF f).toNat:Nat):Int)else((gv (lowF f).toNat:Nat):Int):=by
 obtain⟨k,hk⟩: ∃k:Nat,lowF f=(k:Int):=⟨(lowF f).toNat,by have:=qp6 f;omega⟩
 have e1:fexp f=((k/4503599627370496:Nat):Int):=by unfold fexp;unfold lowF at hk;omega
 have e2:ffrac f=((k%4503599627370496:Nat):Int):=by unfold ffrac;unfold lowF at hk;omega
 rw[hk,tN];unfold valF sc ofZ ofE fneg gv;rw[e1,e2]
 have key: ∀s:Int,s*(if((k/4503599627370496:Nat):Int)=0 then((k%4503599627370496:Nat):Int)else((k%4503599627370496:Nat):Int)+4503599627370496)*2^((if((k/4503599627370496:Nat):Int)=0 then-1074 else((k/4503599627370496:Nat):Int)-1075)- -1074).toNat=s*(((if k/4503599627370496=0 then k else(k%4503599627370496+4503599627370496)*2^(k/4503599627370496-1)):Nat):Int):=by
  intro s;by_cases c:k/4503599627370496=0
  . rw[iP O,iP O,iP c,show((-1074:Int)- -1074).toNat=0 by decide,Int.pow_zero,Int.mul_one]
    congr 2;omega
  . rw[iN' O,iN' O,iN' c,Int.mul_assoc,Int.natCast_mul,Int.natCast_pow];congr 2
    . congr 1;omega
 by_cases c:9223372036854775808<=f
 . rw[decide_eq_true c,iP c,iP rfl,key,Int.neg_one_mul]
 . rw[decide_eq_false c,iN' c,iN' (by decide),key,Int.one_mul]
end Go.Vs.F
set_option maxRecDepth 100000
namespace Go.Vs.F
theorem qpa {f:Int} (h:U64 f):FinF f↔lowF f<9218868437227405312:=by unfold FinF fexp lowF;obtain⟨h1,h2⟩:=h;omega
theorem qpb {f:Int} (h:U64 f) (hf:FinF f):nanB f=false:=by
 have:=(qpa h).1 hf;unfold nanB;exact decide_eq_false O
end Go.Vs.F
set_option maxRecDepth 100000
namespace Go.Vs.F
def nbT (V:Nat):Nat:=blen V-53
def kfl (V:Nat):Nat:=nbT V*4503599627370496+V/2^nbT V
def kce (V:Nat):Nat:=nbT V*4503599627370496+(if V%2^nbT V=0 then V/2^nbT V else V/2^nbT V+1)
theorem qro {n N:Nat} (h:N<=9007199254740992) (h2:4503599627370496<=N\/n=0):gv (n*4503599627370496+N)=N*2^n:=by
 unfold gv;by_cases c:N<4503599627370496
 . have hn:n=0:=O;subst hn;rw[iP O,Nat.zero_mul,Nat.zero_add,Nat.pow_zero,Nat.mul_one]
 . by_cases d:N=9007199254740992
   . subst d;have e1:(n*4503599627370496+9007199254740992)/4503599627370496=n+2:=O;have e2:(n*4503599627370496+9007199254740992)%4503599627370496=0:=O;rw[e1,e2,iN' O,Nat.zero_add,show n+2-1=n+1 by omega,Nat.pow_succ]
     omega
   . have e1:(n*4503599627370496+N)/4503599627370496=n+1:=O;have e2:(n*4503599627370496+N)%4503599627370496=N-4503599627370496:=O;rw[e1,e2,iN' O,show n+1-1=n by omega]
     congr 1;omega
theorem nb_lo {V:Nat} (hV:V≠0):V/2^nbT V<9007199254740992/\(4503599627370496<=V/2^nbT V\/nbT V=0):=by
 have h1:=q1b V;have h2:=qn0 hV;have c53:(2:Nat)^53=9007199254740992:=by decide
 have c52:(2:Nat)^52=4503599627370496:=by decide
 constructor
 . rw[Nat.div_lt_iff_lt_mul (Nat.pow_pos O),<-c53,<-Nat.pow_add];refine Nat.lt_of_lt_of_le h1 (Nat.pow_le_pow_right O ?_);unfold nbT;omega
 . by_cases c:nbT V=0
   . exact .inr c
   . left;rw[Nat.le_div_iff_mul_le (Nat.pow_pos O),<-c52,<-Nat.pow_add];refine Nat.le_trans (Nat.pow_le_pow_right O ?_) h2;unfold nbT at*;omega
theorem qs1 {V:Nat} (hV:V≠0):gv (kfl V)=V/2^nbT V*2^nbT V/\gv (kfl V+1)=(V/2^nbT V+1)*2^nbT V:=by
 obtain⟨h1,h2⟩:=nb_lo hV;refine⟨qro O h2,?_⟩;have:kfl V+1=nbT V*4503599627370496+(V/2^nbT V+1):=by unfold kfl;omega
 rw[this];exact qro O O
theorem qr8 {V:Nat} (hV:V≠0) (l:Nat):gv l<=V↔l<=kfl V:=by
 obtain⟨h1,h2⟩:=qs1 hV;have h3:=Nat.div_mul_le_self V (2^nbT V)
 have h4:V<(V/2^nbT V+1)*2^nbT V:=by
  have:=Nat.lt_mul_div_succ V (Nat.pow_pos (n:=nbT V) (show 0<2 by decide))
  rwa [Nat.mul_comm]at this
 constructor
 . intro h;refine Nat.le_of_not_lt fun hlt=> ?_
   have:=gv_le (k:=kfl V+1) (l:=l) hlt;omega
 . intro h;have:=gv_le h;omega
theorem qrq {V:Nat} (hV:V≠0) (l:Nat):V<=gv l↔kce V<=l:=by
 have h0:=qr8 hV;obtain⟨h1,h2⟩:=qs1 hV;have h3:=Nat.div_add_mod V (2^nbT V)
 have e:kce V=if V%2^nbT V=0 then kfl V else kfl V+1:=by
  unfold kce kfl;split<;>omega
 rw[e];by_cases c:V%2^nbT V=0
 . rw[iP c];have hv:gv (kfl V)=V:=by rw[h1,Nat.mul_comm];omega
   constructor
   . intro h;refine Nat.le_of_not_lt fun hlt=> ?_
     have:=gv_lt hlt;omega
   . intro h;have:=gv_le h;omega
 . rw[iN' c];have hne:gv (kfl V)≠V:=by rw[h1,Nat.mul_comm];omega
   constructor
   . intro h;refine Nat.lt_of_not_le fun hle=> ?_
     have a1:=(h0 l).2 hle;have a2:gv l=V:=O;have a3:=gv_le hle;have a4:=(h0 (kfl V)).2 (Nat.le_refl _);omega
   . intro h;refine Nat.le_of_not_lt fun hlt=> ?_
     have:=(h0 l).1 (Nat.le_of_lt hlt);omega
def awayB (neg:Bool) (mode:Int):Bool:=if mode=1 then neg else !neg
def rdK (neg:Bool) (mode:Int) (V:Nat):Nat:=if awayB neg mode then min (kce V) 9218868437227405312 else min (kfl V) 9218868437227405311
theorem qrf {neg:Bool} {v:Nat} (hv:v≠0) {e:Int} (he: -1074<=e) (hv2:blen v<=100000) (he2:e<=100000) {mode:Int} (hm:mode=1\/mode=2):qq6 neg v e false mode=sgnF neg ((rdK neg mode (v*2^(e+1074).toNat):Nat):Int):=by
 generalize hV:v*2^(e+1074).toNat=V
 have hV0:V≠0:=by rw[<-hV];exact Nat.mul_ne_zero hv (by have:=Nat.pow_pos (n:=(e+1074).toNat) (show 0<2 by decide);omega)
 have hbl:blen V=(e+1074).toNat+blen v:=by rw[<-hV,Nat.mul_comm];exact Jw hv
 have hb1:1<=blen v:=by rw[X6 hv];omega
 obtain⟨n1,n2⟩:=nb_lo hV0;have hunit:unitF v e=(nbT V:Int)-1074:=by unfold unitF nbT;rw[hbl];omega
 have hmult:multF neg v e false mode=if awayB neg mode then(if V%2^nbT V=0 then V/2^nbT V else V/2^nbT V+1)else V/2^nbT V:=by
  unfold multF;by_cases c:unitF v e<=e
  . rw[iP c]
    have hVe:V=v*2^(e-unitF v e).toNat*2^nbT V:=by
     have h1:(e+1074).toNat=(e-unitF v e).toNat+nbT V:=O;rw[h1,Nat.pow_add,<-Nat.mul_assoc]at hV;exact hV.symm
    have hp:=Nat.pow_pos (n:=nbT V) (show 0<2 by decide)
    have q1:V/2^nbT V=v*2^(e-unitF v e).toNat:=by
     conv=>lhs;arg 1;rw[hVe]
     exact Nat.mul_div_cancel _ hp
    have q2:V%2^nbT V=0:=by
     conv=>lhs;arg 1;rw[hVe]
     exact Nat.mul_mod_left ..
    rw[q2,iP rfl,q1];split<;>rfl
  . rw[iN' c];have hp:=Nat.pow_pos (n:=(e+1074).toNat) (show 0<2 by decide)
    have hn:nbT V=(unitF v e-e).toNat+(e+1074).toNat:=O
    have q1:V/2^nbT V=v/2^(unitF v e-e).toNat:=by
     rw[hn,<-hV,Nat.pow_add,Nat.mul_div_mul_right _ _ hp]
    have q2:(V%2^nbT V=0)↔v%2^(unitF v e-e).toNat=0:=by
     rw[hn,<-hV,Nat.pow_add,Nat.mul_mod_mul_right];constructor
     . intro h;rcases Nat.mul_eq_zero.1 h with h|h
       . exact h
       . omega
     . intro h;rw[h,Nat.zero_mul]
    unfold cutN;rw[q1];by_cases c2:v%2^(unitF v e-e).toNat=0
    . rw[iP ⟨c2,rfl⟩,iP (q2.2 c2)];split<;>rfl
    . rw[iN' (fun h=>c2 h.1),iN' (fun h=>c2 (q2.1 h))]
      have hu: ∀h o,upB neg h o mode=awayB neg mode:=by
       intro h o;unfold upB awayB;rcases hm with rfl|rfl
       . rw[iP rfl,iP rfl]
       . rw[iN' (by decide),iP rfl,iN' (by decide)]
      rw[hu];cases awayB neg mode<;>rfl
 have hover:overF neg mode=sgnF neg (if awayB neg mode then 9218868437227405312 else 9218868437227405311):=by
  unfold overF awayB;rcases hm with rfl|rfl<;>cases neg<;>rfl
 unfold qq6;rw[hmult,hunit]
 have hpack: ∀N:Nat,N<=9007199254740992->(4503599627370496<=N\/nbT V=0)->packF neg N ((nbT V:Int)-1074) mode=if nbT V*4503599627370496+N<9218868437227405312 then sgnF neg ((nbT V*4503599627370496+N:Nat):Int)else overF neg mode:=by
  intro N hN hN2;unfold packF;by_cases c1:N=9007199254740992
  . rw[iP c1];by_cases c2:(nbT V:Int)-1074+1076>=2047
    . rw[iP c2,iN' O]
    . rw[iN' c2,iP O];congr 1;omega
  . rw[iN' c1];by_cases c3:N<4503599627370496
    . rw[iP c3,iP O];congr 2;omega
    . rw[iN' c3];by_cases c2:(nbT V:Int)-1074+1075>=2047
      . rw[iP c2,iN' O]
      . rw[iN' c2,iP O];congr 1;omega
 unfold rdK;cases ha:awayB neg mode
 . rw[ha]at hover;simp only[Bool.false_eq_true,if_false]at hover⊢;rw[hpack _ O n2,hover];unfold kfl;by_cases c:nbT V*4503599627370496+V/2^nbT V<9218868437227405312
   . rw[iP c,Nat.min_eq_left O]
   . rw[iN' c,Nat.min_eq_right O];rfl
 . rw[ha]at hover;simp only[if_true]at hover⊢
   have key: ∀N,N<=9007199254740992->(4503599627370496<=N\/nbT V=0)->packF neg N ((nbT V:Int)-1074) mode=sgnF neg ((min (nbT V*4503599627370496+N) 9218868437227405312:Nat):Int):=by
    intro N a1 a2;rw[hpack N a1 a2,hover];by_cases c:nbT V*4503599627370496+N<9218868437227405312
    . rw[iP c,Nat.min_eq_left O]
    . rw[iN' c,Nat.min_eq_right O];rfl
   unfold kce;by_cases c:V%2^nbT V=0
   . rw[iP c];exact key _ O n2
   . rw[iN' c];exact key _ O O
theorem qqn {z:Int} (hz:z≠0) (hb:blen z.natAbs<=10000) {mode:Int} (hm:mode=1\/mode=2):qq5 (mkD z (-1074)) mode=sgnF (decide (z<0)) ((rdK (decide (z<0)) mode z.natAbs:Nat):Int):=by
 have hok:OkD z (-1074):=Zy hb O O;obtain⟨w,f,k⟩:=hok.nf
 have hw:w≠0:=by
  rintro rfl
  have:=k.eq.low (c:=min f (-1074)) O O;unfold sc at this;rw[Int.zero_mul]at this;rcases Int.mul_eq_zero.1 this.symm with h|h
  . exact hz h
  . have:=Zk (-1074-min f (-1074)).toNat;omega
 have hf:f= -1074+(tz z.natAbs:Int):=by
  have:=ex_mk hok hz;rw[k.md]at this;exact this
 have hs:w*2^(f+1074).toNat=z:=by
  have:=k.eq.low (c:= -1074) O O;rw[qcc]at this;unfold sc at this;rw[show f- -1074=f+1074 by omega]at this
  exact this
 have hN:z.natAbs=w.natAbs*2^(f+1074).toNat:=by
  rw[<-hs,Zq,Nat.mul_comm]
 have hneg:decide (w<0)=decide (z<0):=by rw[<-hs,decide_eq_decide];exact q6n.symm
 have hl:lim w.natAbs≠[]:=fun h=>hw (by have:=q31.1 h;omega)
 have htz:=q0k (n:=z.natAbs)
 have hbw:blen w.natAbs<=10000:=by
  refine Nat.le_trans (qgm ?_) hb;rw[hN];exact Nat.le_mul_of_pos_right _ (Nat.pow_pos (by decide))
 unfold qq5;rw[k.md];dsimp only;rw[iN' (by decide),iN' hl,Q8,qrf (v:=w.natAbs) O O O O hm,<-hN,hneg]
end Go.Vs.F
set_option maxRecDepth 100000
namespace Go.Vs.F
def dnF (z:Int):Int:=qq5 (mkD z (-1074)) 1
def upF (z:Int):Int:=qq5 (mkD z (-1074)) 2
theorem qqc {g:Int} (hg:U64 g) (fg:FinF g): ∃l:Nat,l<9218868437227405312/\((keyF g=(l:Int)/\valF g=((gv l:Nat):Int))\/(keyF g= -(l:Int)/\valF g= -((gv l:Nat):Int))):=by
 have h1:=(qpa hg).1 fg;have h2:=qp6 g;refine⟨(lowF g).toNat,O,?_⟩;rw[qp9 hg fg];unfold keyF;by_cases c:9223372036854775808<=g
 . rw[iP c,iP c];exact .inr ⟨O,rfl⟩
 . rw[iN' c,iN' c];exact .inl ⟨O,rfl⟩
theorem qqy:gv 0=0:=rfl
theorem qsa {l:Nat} (h:0<l):0<gv l:=Nat.lt_of_le_of_lt (Nat.zero_le _) (gv_lt h)
theorem qqx {k:Nat} (h:k<9223372036854775808):U64 (k:Int)/\keyF (k:Int)=(k:Int)/\lowF (k:Int)=(k:Int):=by
 have h1:lowF (k:Int)=(k:Int):=by unfold lowF;omega
 refine⟨⟨O,O⟩,?_,h1⟩;unfold keyF;rw[iN' O,h1]
theorem qqm {k:Nat} (h:k<9223372036854775808):U64 ((k:Int)+9223372036854775808)/\keyF ((k:Int)+9223372036854775808)= -(k:Int)/\lowF ((k:Int)+9223372036854775808)=(k:Int):=by
 have h1:lowF ((k:Int)+9223372036854775808)=(k:Int):=by unfold lowF;omega
 refine⟨⟨O,O⟩,?_,h1⟩;unfold keyF;rw[iP O,h1]
structure Rd (f:Int):Prop where
 u:U64 f
 nan:nanB f=false
 nz:f≠9223372036854775808
theorem Rd.eq {f g:Int} (h1:Rd f) (h2:Rd g) (h:keyF f=keyF g):f=g:=by
 obtain⟨⟨a1,a2⟩,_,a3⟩:=h1;obtain⟨⟨b1,b2⟩,_,b3⟩:=h2;unfold keyF lowF at h;split at h<;>split at h<;>omega
theorem qrr {V:Nat} (h:V≠0):1<=kfl V:=(qr8 h 1).1 (by show 1<=V;omega)
theorem qrm {V:Nat} (h:V≠0):1<=kce V:=by
 rcases Nat.lt_or_ge (kce V) 1 with c|c
 . have:=(qrq h 0).2 O;rw[qqy]at this;omega
 . exact c
theorem qr9 {neg:Bool} {mode:Int} {V:Nat} (h:awayB neg mode=true):rdK neg mode V=min (kce V) 9218868437227405312:=iP h
theorem qs3 {neg:Bool} {mode:Int} {V:Nat} (h:awayB neg mode=false):rdK neg mode V=min (kfl V) 9218868437227405311:=iN' (by rw[h];decide)
theorem qs7 (f:Int):sgnF true f=f+9223372036854775808:=iP rfl
theorem qs8 (f:Int):sgnF false f=f:=iN' (by decide)
theorem qrl:dnF 0=0:=by
 unfold dnF qq5;rw[qkc];rfl
theorem qru:upF 0=0:=by
 unfold upF qq5;rw[qkc];rfl
theorem qq8 {z:Int} (hb:blen z.natAbs<=10000):Rd (dnF z)/\keyF (dnF z)<9218868437227405312/\ ∀g,U64 g->FinF g->(valF g<=z↔keyF g<=keyF (dnF z)):=by
 by_cases hz:z=0
 . subst hz;rw[qrl];refine⟨⟨⟨by decide,by decide⟩,by decide,by decide⟩,by decide,fun g hg fg=> ?_⟩
   have hk:keyF 0=0:=by decide
   rw[hk];obtain⟨l,_,⟨h1,h2⟩|⟨h1,h2⟩⟩:=qqc hg fg
   . rw[h1,h2];by_cases c:l=0
     . subst c;rw[qqy]
     . have:=qsa (l:=l) O;omega
   . rw[h1,h2];omega
 . unfold dnF;rw[qqn hz hb (.inl rfl)];by_cases hn:z<0
   . rw[decide_eq_true hn];have hV:z.natAbs≠0:=O;have hk:rdK true 1 z.natAbs=min (kce z.natAbs) 9218868437227405312:=qr9 rfl;have h1:=qrm hV;obtain⟨k1,k2,k3⟩:=qqm (k:=rdK true 1 z.natAbs) O;rw[qs7];refine⟨⟨k1,?_,O⟩,by rw[k2];omega,fun g hg fg=> ?_⟩
     . unfold nanB;rw[k3];exact decide_eq_false O
     . rw[k2];obtain⟨l,hl,⟨g1,g2⟩|⟨g1,g2⟩⟩:=qqc hg fg
       . rw[g1,g2];omega
       . have:=qrq hV l;rw[g1,g2];constructor
         . intro h;have:=this.1 O;omega
         . intro h;have:=this.2 O;omega
   . rw[decide_eq_false hn];have hV:z.natAbs≠0:=O;have hk:rdK false 1 z.natAbs=min (kfl z.natAbs) 9218868437227405311:=qs3 rfl;have h1:=qrr hV;obtain⟨k1,k2,k3⟩:=qqx (k:=rdK false 1 z.natAbs) O;rw[qs8];refine⟨⟨k1,?_,O⟩,by rw[k2];omega,fun g hg fg=> ?_⟩
     . unfold nanB;rw[k3];exact decide_eq_false O
     . rw[k2];obtain⟨l,hl,⟨g1,g2⟩|⟨g1,g2⟩⟩:=qqc hg fg
       . have:=qr8 hV l;rw[g1,g2];constructor
         . intro h;have:=this.1 O;omega
         . intro h;have:=this.2 O;omega
       . rw[g1,g2];omega
theorem qq9 {z:Int} (hb:blen z.natAbs<=10000):Rd (upF z)/\ -9218868437227405312<keyF (upF z)/\ ∀g,U64 g->FinF g->(z<=valF g↔keyF (upF z)<=keyF g):=by
 by_cases hz:z=0
 . subst hz;rw[qru];refine⟨⟨⟨by decide,by decide⟩,by decide,by decide⟩,by decide,fun g hg fg=> ?_⟩
   have hk:keyF 0=0:=by decide
   rw[hk];obtain⟨l,_,⟨h1,h2⟩|⟨h1,h2⟩⟩:=qqc hg fg
   . rw[h1,h2];omega
   . rw[h1,h2];by_cases c:l=0
     . subst c;rw[qqy]
     . have:=qsa (l:=l) O;omega
 . unfold upF;rw[qqn hz hb (.inr rfl)];by_cases hn:z<0
   . rw[decide_eq_true hn];have hV:z.natAbs≠0:=O;have hk:rdK true 2 z.natAbs=min (kfl z.natAbs) 9218868437227405311:=qs3 rfl;have h1:=qrr hV;obtain⟨k1,k2,k3⟩:=qqm (k:=rdK true 2 z.natAbs) O;rw[qs7];refine⟨⟨k1,?_,O⟩,by rw[k2];omega,fun g hg fg=> ?_⟩
     . unfold nanB;rw[k3];exact decide_eq_false O
     . rw[k2];obtain⟨l,hl,⟨g1,g2⟩|⟨g1,g2⟩⟩:=qqc hg fg
       . rw[g1,g2];omega
       . have:=qr8 hV l;rw[g1,g2];constructor
         . intro h;have:=this.1 O;omega
         . intro h;have:=this.2 O;omega
   . rw[decide_eq_false hn];have hV:z.natAbs≠0:=O;have hk:rdK false 2 z.natAbs=min (kce z.natAbs) 9218868437227405312:=qr9 rfl;have h1:=qrm hV;obtain⟨k1,k2,k3⟩:=qqx (k:=rdK false 2 z.natAbs) O;rw[qs8];refine⟨⟨k1,?_,O⟩,by rw[k2];omega,fun g hg fg=> ?_⟩
     . unfold nanB;rw[k3];exact decide_eq_false O
     . rw[k2];obtain⟨l,hl,⟨g1,g2⟩|⟨g1,g2⟩⟩:=qqc hg fg
       . have:=qrq hV l;rw[g1,g2];constructor
         . intro h;have:=this.1 O;omega
         . intro h;have:=this.2 O;omega
       . rw[g1,g2];omega
theorem qqz {f:Int} (h:U64 f):FinF f↔ -9218868437227405312<keyF f/\keyF f<9218868437227405312:=by
 rw[qpa h];have:=qp6 f;unfold keyF;split<;>omega
theorem qrn {z y:Int} (hz:blen z.natAbs<=10000) (hy:blen y.natAbs<=10000) (h:z<=y):keyF (dnF z)<=keyF (dnF y):=by
 obtain⟨r1,r2,r3⟩:=qq8 hz;obtain⟨s1,s2,s3⟩:=qq8 hy;have i1:=qpr r1.nan;have i2:=qpr s1.nan;unfold inK at i1 i2;by_cases c: -9218868437227405312<keyF (dnF z)
 . have hf:=(qqz r1.u).2 ⟨c,r2⟩;have:=(r3 _ r1.u hf).2 (Int.le_refl _);exact(s3 _ r1.u hf).1 O
 . omega
theorem qrs {z y:Int} (hz:blen z.natAbs<=10000) (hy:blen y.natAbs<=10000) (h:z<=y):keyF (upF z)<=keyF (upF y):=by
 obtain⟨r1,r2,r3⟩:=qq9 hz;obtain⟨s1,s2,s3⟩:=qq9 hy;have i1:=qpr r1.nan;have i2:=qpr s1.nan;unfold inK at i1 i2;by_cases c:keyF (upF y)<9218868437227405312
 . have hf:=(qqz s1.u).2 ⟨s2,c⟩;have:=(s3 _ s1.u hf).2 (Int.le_refl _);exact(r3 _ s1.u hf).1 O
 . omega
end Go.Vs.F
set_option maxRecDepth 100000
namespace Go.Vs.F
theorem qrw {m:Nat} (hm:10<m) {a b:Int} (ha:U64 a) (hb:U64 b) (na:nanB a=false) (nbT':nanB b=false):g76 m [a,b]=some (false,(),()):=by
 obtain⟨j,rfl⟩: ∃j,m=j+3:=⟨m-3,O⟩;have k1:kindN a≠3:=by rw[Ne,qp1 ha,na];simp
 have k2:kindN b≠3:=by rw[Ne,qp1 hb,nbT'];simp
 have l2:(([a,b]:LI).length:Int)=2:=rfl;rw[g76,l2,g76L0,bQ,iP O,l2,iP O];rw[show([a,b]:LI).getD (0:Int).toNat 0=a from rfl,(qg2 ha).1,bS,bif_eq,iN' k1,show wI (0+1)=1 from by decide]
 rw[g76L0,bQ,iP O,l2,iP O];rw[show([a,b]:LI).getD (1:Int).toNat 0=b from rfl,(qg2 hb).1,bS,bif_eq,iN' k2,show wI (1+1)=2 from by decide]
 rw[g76L0,bQ,iN' O,bS]
theorem qr4 {m:Nat} {f:Int} (h:U64 f):g82 m f=some (keyF f,(),()):=by
 have ht:=tops h;have hl:=qp6 f;rw[g82,q4i h,bS,ht.2.1];dsimp only;unfold keyF fneg;by_cases d:9223372036854775808<=f
 . rw[decide_eq_true d,cond_true,iP d,wQ,wQ,wi (n:=lowF f) O O,wi O O,Int.zero_sub]
 . rw[decide_eq_false d,cond_false,iN' d,wQ,wi O O]
def cmpK (x y:Int):Int:=if x<y then-1 else if x>y then 1 else 0
theorem pFCmp {m:Nat} (hm:10<m) {a b:Int} (ha:Rd a) (hb:Rd b):g45 m a b=some ((cmpK (keyF a) (keyF b),true,()),(),(),()):=by
 rw[g45,qrw hm ha.u hb.u ha.nan hb.nan,bS,cond_false,qr4 ha.u,qr4 hb.u,bS,bS,bQ,bQ];dsimp only;unfold cmpK;split
 . rfl
 . split<;>rfl
theorem absV {f:Int} (h:U64 f) (hf:FinF f):U64 (lowF f)/\FinF (lowF f)/\valF (lowF f)=((valF f).natAbs:Int):=by
 have hl:=qp6 f;have u:U64 (lowF f):=⟨O,O⟩;have ll:lowF (lowF f)=lowF f:=by unfold lowF;omega
 have ff:FinF (lowF f):=by rw[qpa u,ll];exact(qpa h).1 hf
 refine⟨u,ff,?_⟩;rw[qp9 u ff,qp9 h hf,ll,iN' O];split<;>omega
theorem pAbs {m:Nat} (hm:10<m) {f:Int} (h:U64 f) (hf:FinF f):g42 m f=some (lowF f,(),()):=by
 rw[g42,qp5 hm h,bS,qpb h hf,cond_false,(tops h).2.1]
theorem rDAbs {m:Nat} (hm:5000000000<=m) {z:Int} (hb:blen z.natAbs<=10000):g47 m (mkD z (-1074)).1 (mkD z (-1074)).2.1 (mkD z (-1074)).2.2.1 (mkD z (-1074)).2.2.2.1=some (mkD (z.natAbs:Int) (-1074),(),()):=by
 have hok:OkD z (-1074):=Zy hb O O;obtain⟨w,f,k,k1,k2,k3⟩:=Yv hok;have ok1:(mkD z (-1074)).1=false:=hok;have n1:=k.len;have hlo:=k.lo;have hhi:=k.hi;rw[g47,J9 O,bS];dsimp only;rw[ok1,cond_false,k1,k2,k3,qgc O k.Sz,bS,zv_zB];dsimp only;rw[q8q O (by rw[Int.natAbs_natCast];omega) O O,bS]
 have e:EqD (w.natAbs:Int) f (z.natAbs:Int) (-1074):=by
  obtain⟨b,b1,b2,b3⟩:=k.eq;refine⟨b,b1,b2,?_⟩;unfold sc at b3⊢;have h:=congrArg Int.natAbs b3;rw[Zq,Zq]at h;have h2:=congrArg (fun n:Nat=>(n:Int)) h
  rw[Int.mul_comm,Int.mul_comm (z.natAbs:Int)];rw[Int.natCast_mul,Int.natCast_mul,Int.natCast_pow,Int.natCast_pow]at h2;exact h2
 rw[e.mk]
def rad (e:LI) (i:Nat):Int:=(if 0<i then((ofF e (i-1)).natAbs:Int)else 0)+(if i<e.length then((ofF e i).natAbs:Int)else 0)
def loB (d e:LI) (i:Nat):Int:=valF (d.getD i 0)-rad e i
def hiB (d e:LI) (i:Nat):Int:=valF (d.getD i 0)+rad e i
def mnZ (d e:LI):Nat->Int
 |0=>0
 |i+1=>if i=0 then loB d e 0 else if loB d e i<mnZ d e i then loB d e i else mnZ d e i
def mxZ (d e:LI):Nat->Int
 |0=>0
 |i+1=>if i=0 then hiB d e 0 else if mxZ d e i<hiB d e i then hiB d e i else mxZ d e i
section
variable {m:Nat} (hm:5000000000<=m) {d e:LI} (hd:FnL d) (he:FnL e) (hle:e.length=d.length-1) (hl:d.length<=1000)
include hm hd he hle hl
theorem qq3 {i:Nat} (hi:i<e.length):blen ((ofF e i).natAbs:Int).natAbs<=2098:=by
 rw[Int.natAbs_natCast];exact q8a (he i hi).2
theorem qqr {i:Nat} (hi:i<d.length):blen (rad e i).natAbs<=2099:=by
 unfold rad;refine q55 ?_ ?_
 . by_cases c:0<i
   . rw[iP c];exact qq3 hm hd he hle hl O
   . rw[iN' c];decide
 . by_cases c:i<e.length
   . rw[iP c];exact qq3 hm hd he hle hl c
   . rw[iN' c];decide
theorem qqi {i:Nat} (hi:i<d.length):blen (loB d e i).natAbs<=2100:=qj0 (Nat.le_trans (q8a (hd i hi).2) (by decide)) (qqr hm hd he hle hl hi)
theorem qqg {i:Nat} (hi:i<d.length):blen (hiB d e i).natAbs<=2100:=q55 (Nat.le_trans (q8a (hd i hi).2) (by decide)) (qqr hm hd he hle hl hi)
theorem qqk: ∀{i:Nat},i<=d.length->blen (mnZ d e i).natAbs<=2100
 |0,_=>by first|(rw[mnZ];decide)|(rw[mxZ];decide)
 |i+1,h=>by
  unfold mnZ;split
  . exact qqi hm hd he hle hl O
  . split
    . exact qqi hm hd he hle hl O
    . exact qqk O
theorem qqh: ∀{i:Nat},i<=d.length->blen (mxZ d e i).natAbs<=2100
 |0,_=>by first|(rw[mnZ];decide)|(rw[mxZ];decide)
 |i+1,h=>by
  unfold mxZ;split
  . exact qqg hm hd he hle hl O
  . split
    . exact qqg hm hd he hle hl O
    . exact qqh O
theorem qse {i:Nat} (h0:i≠0) (hi:i<d.length):(if cmpK (keyF (dnF (loB d e i))) (keyF (dnF (mnZ d e i)))<0 then dnF (loB d e i)else dnF (mnZ d e i))=dnF (mnZ d e (i+1)):=by
 have a:=qqi hm hd he hle hl hi;have b:=qqk hm hd he hle hl (i:=i) O;rw[mnZ,iN' h0];by_cases c:keyF (dnF (loB d e i))<keyF (dnF (mnZ d e i))
 . have hlt:loB d e i<mnZ d e i:=by
    refine Int.lt_of_not_ge fun h=> ?_
    have:=qrn O O h;omega
   rw[iP (by unfold cmpK;rw[iP c];decide),iP hlt]
 . rw[iN' (by unfold cmpK;rw[iN' c];split<;>decide)]
   by_cases hlt:loB d e i<mnZ d e i
   . rw[iP hlt];have:=qrn O O (Int.le_of_lt hlt);exact Rd.eq (qq8 O).1 (qq8 O).1 O
   . rw[iN' hlt]
theorem qsg {i:Nat} (h0:i≠0) (hi:i<d.length):(if cmpK (keyF (upF (hiB d e i))) (keyF (upF (mxZ d e i)))>0 then upF (hiB d e i)else upF (mxZ d e i))=upF (mxZ d e (i+1)):=by
 have a:=qqg hm hd he hle hl hi;have b:=qqh hm hd he hle hl (i:=i) O;rw[mxZ,iN' h0];by_cases c:keyF (upF (hiB d e i))>keyF (upF (mxZ d e i))
 . have hlt:mxZ d e i<hiB d e i:=by
    refine Int.lt_of_not_ge fun h=> ?_
    have:=qrs O O h;omega
   rw[iP (by unfold cmpK;rw[iN' O,iP c];decide),iP hlt]
 . rw[iN' (by unfold cmpK;rw[iN' c];split<;>decide)]
   by_cases hlt:mxZ d e i<hiB d e i
   . rw[iP hlt];have:=qrs O O (Int.le_of_lt hlt);exact Rd.eq (qq9 O).1 (qq9 O).1 O
   . rw[iN' hlt]
theorem pAddV {a b:Int} (ha:blen a.natAbs<=10000) (hb:blen b.natAbs<=10000):g40 m (mkD a (-1074)).1 (mkD a (-1074)).2.1 (mkD a (-1074)).2.2.1 (mkD a (-1074)).2.2.2.1 (mkD b (-1074)).1 (mkD b (-1074)).2.1 (mkD b (-1074)).2.2.1 (mkD b (-1074)).2.2.2.1=some (mkD (a+b) (-1074),(),(),()):=by
 rw[qn7 O,iP ⟨Zy ha O O,Zy hb O O⟩]
theorem pSubV {a b:Int} (ha:blen a.natAbs<=10000) (hb:blen b.natAbs<=10000):g44 m (mkD a (-1074)).1 (mkD a (-1074)).2.1 (mkD a (-1074)).2.2.1 (mkD a (-1074)).2.2.2.1 (mkD b (-1074)).1 (mkD b (-1074)).2.1 (mkD b (-1074)).2.2.1 (mkD b (-1074)).2.2.2.1=some (mkD (a-b) (-1074),(),(),()):=by
 rw[ql8 O,iP ⟨Zy ha O O,Zy hb O O⟩]
theorem rAddV {a b:Int} (ha:blen a.natAbs<=10000) (hb:blen b.natAbs<=10000):g46 m (mkD a (-1074)).1 (mkD a (-1074)).2.1 (mkD a (-1074)).2.2.1 (mkD a (-1074)).2.2.2.1 (mkD b (-1074)).1 (mkD b (-1074)).2.1 (mkD b (-1074)).2.2.1 (mkD b (-1074)).2.2.2.1=some (mkD (a+b) (-1074),(),(),()):=by
 rw[qjt O,iP ⟨Zy ha O O,Zy hb O O⟩]
theorem rSubV {a b:Int} (ha:blen a.natAbs<=10000) (hb:blen b.natAbs<=10000):g27 m (mkD a (-1074)).1 (mkD a (-1074)).2.1 (mkD a (-1074)).2.2.1 (mkD a (-1074)).2.2.2.1 (mkD b (-1074)).1 (mkD b (-1074)).2.1 (mkD b (-1074)).2.2.1 (mkD b (-1074)).2.2.2.1=some (mkD (a-b) (-1074),(),(),()):=by
 rw[qjq O,iP ⟨Zy ha O O,Zy hb O O⟩]
theorem rLess {a b:Int} (ha:blen a.natAbs<=10000) (hb:blen b.natAbs<=10000):g48 m (mkD a (-1074)).1 (mkD a (-1074)).2.1 (mkD a (-1074)).2.2.1 (mkD a (-1074)).2.2.2.1 (mkD b (-1074)).1 (mkD b (-1074)).2.1 (mkD b (-1074)).2.2.1 (mkD b (-1074)).2.2.2.1=some (decide (a<b),(),(),()):=by
 rw[g48,qrz O,iP ⟨Zy ha O O,Zy hb O O⟩,bS]
 have e:decide (cmpZ a b<0)=decide (a<b):=by
  rw[decide_eq_decide];unfold cmpZ;by_cases c:a<b
  . rw[iP c];exact⟨fun _=>c,fun _=>by decide⟩
  . rw[iN' c];split<;>exact⟨fun h=>absurd h (by decide),fun h=>absurd h c⟩
 dsimp only;rw[e]
end
end Go.Vs.F
set_option maxRecDepth 100000
namespace Go.Vs.F
section
variable {m:Nat} (hm:5000000000<=m) {d e:LI} (hd:FnL d) (he:FnL e) (hle:e.length=d.length-1) (hl:d.length<=1000)
include hm hd he hle hl
theorem tailP {i:Nat} (hi:i<d.length) (N:Nat) {R:Int} (hR:R=rad e i) (a0 a1:Int):
 (
 (g41 m (d.getD i 0)).bind fun y8=>
 (g44 m y8.1.1 y8.1.2.1 y8.1.2.2.1 y8.1.2.2.2.1 (mkD R (-1074)).1 (mkD R (-1074)).2.1 (mkD R (-1074)).2.2.1 (mkD R (-1074)).2.2.2.1).bind fun y9=>
 (g43 m y9.1.1 y9.1.2.1 y9.1.2.2.1 y9.1.2.2.2.1 1).bind fun y10=>
 (g41 m (d.getD i 0)).bind fun y11=>
 (g40 m y11.1.1 y11.1.2.1 y11.1.2.2.1 y11.1.2.2.2.1 (mkD R (-1074)).1 (mkD R (-1074)).2.1 (mkD R (-1074)).2.2.1 (mkD R (-1074)).2.2.2.1).bind fun y12=>
 (g43 m y12.1.1 y12.1.2.1 y12.1.2.2.1 y12.1.2.2.2.1 2).bind fun y13=>
 (g45 m y10.1 (dnF (mnZ d e i))).bind fun y14=>
 bif (i:Int)==0 then
  (g45 m y13.1 (upF (mxZ d e i))).bind fun y15=>
  bif (i:Int)==0 then
   g18L0 m N e a0 a1 y10.1 y13.1 d (d.length:Int) (wI ((i:Int)+1))
  else
   bif decide (y15.1.1>0)then
    g18L0 m N e a0 a1 y10.1 y13.1 d (d.length:Int) (wI ((i:Int)+1))
   else
    g18L0 m N e a0 a1 y10.1 (upF (mxZ d e i)) d (d.length:Int) (wI ((i:Int)+1))
 else
  bif decide (y14.1.1<0)then
   (g45 m y13.1 (upF (mxZ d e i))).bind fun y16=>
   bif (i:Int)==0 then
    g18L0 m N e a0 a1 y10.1 y13.1 d (d.length:Int) (wI ((i:Int)+1))
   else
    bif decide (y16.1.1>0)then
     g18L0 m N e a0 a1 y10.1 y13.1 d (d.length:Int) (wI ((i:Int)+1))
    else
     g18L0 m N e a0 a1 y10.1 (upF (mxZ d e i)) d (d.length:Int) (wI ((i:Int)+1))
  else
   (g45 m y13.1 (upF (mxZ d e i))).bind fun y17=>
   bif (i:Int)==0 then
    g18L0 m N e a0 a1 (dnF (mnZ d e i)) y13.1 d (d.length:Int) (wI ((i:Int)+1))
   else
    bif decide (y17.1.1>0)then
     g18L0 m N e a0 a1 (dnF (mnZ d e i)) y13.1 d (d.length:Int) (wI ((i:Int)+1))
    else
     g18L0 m N e a0 a1 (dnF (mnZ d e i)) (upF (mxZ d e i)) d (d.length:Int) (wI ((i:Int)+1))
 )=g18L0 m N e a0 a1 (dnF (mnZ d e (i+1))) (upF (mxZ d e (i+1))) d (d.length:Int) ((i+1:Nat):Int):=by
 subst hR;obtain⟨u1,f1⟩:=hd i hi;have q1:=qqr hm hd he hle hl hi;have q2:=q8a f1;have q3:=qqi hm hd he hle hl hi;have q4:=qqg hm hd he hle hl hi;have q5:=qqk hm hd he hle hl (i:=i) O;have q6:=qqh hm hd he hle hl (i:=i) O;have r1:=(qq8 (z:=loB d e i) O).1;have r2:=(qq8 (z:=mnZ d e i) O).1;have r3:=(qq9 (z:=hiB d e i) O).1;have r4:=(qq9 (z:=mxZ d e i) O).1;have ws:wI ((i:Int)+1)=((i+1:Nat):Int):=wsucc O;rw[Of_eq O u1,q2y f1];simp only[bS];rw[pSubV hm hd he hle hl O O];simp only[bS];rw[qr3 O];simp only[bS];rw[pAddV hm hd he hle hl O O];simp only[bS];rw[qr3 O];simp only[bS];rw[show qq5 (mkD (valF (d.getD i 0)-rad e i) (-1074)) 1=dnF (loB d e i)from rfl,show qq5 (mkD (valF (d.getD i 0)+rad e i) (-1074)) 2=upF (hiB d e i)from rfl,ws]
 rw[pFCmp O r1 r2,pFCmp O r3 r4];simp only[bS];by_cases c:i=0
 . subst c;rw[show(((0:Nat):Int)==0)=true from rfl,cond_true,cond_true]
   rfl
 . have hc:((i:Int)==0)=false:=by simpa using c
   simp only[hc,cond_false,bQ];rw[<-qse hm hd he hle hl c hi,<-qsg hm hd he hle hl c hi];split<;>split<;>rfl
theorem tailR {i:Nat} (hi:i<d.length) (N:Nat) {R:Int} (hR:R=rad e i) (a0 a1:Int):
 (
 if(0:Int)<=(i:Int)/\(i:Int)<(d.length:Int)then
 (g28 m (d.getD i 0)).bind fun y7=>
 (g27 m y7.1.1 y7.1.2.1 y7.1.2.2.1 y7.1.2.2.2.1 (mkD R (-1074)).1 (mkD R (-1074)).2.1 (mkD R (-1074)).2.2.1 (mkD R (-1074)).2.2.2.1).bind fun y8=>
 if(0:Int)<=(i:Int)/\(i:Int)<(d.length:Int)then
 (g28 m (d.getD i 0)).bind fun y9=>
 (g46 m y9.1.1 y9.1.2.1 y9.1.2.2.1 y9.1.2.2.2.1 (mkD R (-1074)).1 (mkD R (-1074)).2.1 (mkD R (-1074)).2.2.1 (mkD R (-1074)).2.2.2.1).bind fun y10=>
 bif (i:Int)==0 then
  bif (i:Int)==0 then
   g19L0 m N d e a0 a1 y8.1.1 y8.1.2.1 y8.1.2.2.1 y8.1.2.2.2.1 y10.1.1 y10.1.2.1 y10.1.2.2.1 y10.1.2.2.2.1 (wI ((i:Int)+1))
  else
   (g48 m (mkD (mxZ d e i) (-1074)).1 (mkD (mxZ d e i) (-1074)).2.1 (mkD (mxZ d e i) (-1074)).2.2.1 (mkD (mxZ d e i) (-1074)).2.2.2.1 y10.1.1 y10.1.2.1 y10.1.2.2.1 y10.1.2.2.2.1).bind fun y11=>
   bif y11.1 then
    g19L0 m N d e a0 a1 y8.1.1 y8.1.2.1 y8.1.2.2.1 y8.1.2.2.2.1 y10.1.1 y10.1.2.1 y10.1.2.2.1 y10.1.2.2.2.1 (wI ((i:Int)+1))
   else
    g19L0 m N d e a0 a1 y8.1.1 y8.1.2.1 y8.1.2.2.1 y8.1.2.2.2.1 (mkD (mxZ d e i) (-1074)).1 (mkD (mxZ d e i) (-1074)).2.1 (mkD (mxZ d e i) (-1074)).2.2.1 (mkD (mxZ d e i) (-1074)).2.2.2.1 (wI ((i:Int)+1))
 else
  (g48 m y8.1.1 y8.1.2.1 y8.1.2.2.1 y8.1.2.2.2.1 (mkD (mnZ d e i) (-1074)).1 (mkD (mnZ d e i) (-1074)).2.1 (mkD (mnZ d e i) (-1074)).2.2.1 (mkD (mnZ d e i) (-1074)).2.2.2.1).bind fun y12=>
  bif y12.1 then
   bif (i:Int)==0 then
    g19L0 m N d e a0 a1 y8.1.1 y8.1.2.1 y8.1.2.2.1 y8.1.2.2.2.1 y10.1.1 y10.1.2.1 y10.1.2.2.1 y10.1.2.2.2.1 (wI ((i:Int)+1))
   else
    (g48 m (mkD (mxZ d e i) (-1074)).1 (mkD (mxZ d e i) (-1074)).2.1 (mkD (mxZ d e i) (-1074)).2.2.1 (mkD (mxZ d e i) (-1074)).2.2.2.1 y10.1.1 y10.1.2.1 y10.1.2.2.1 y10.1.2.2.2.1).bind fun y13=>
    bif y13.1 then
     g19L0 m N d e a0 a1 y8.1.1 y8.1.2.1 y8.1.2.2.1 y8.1.2.2.2.1 y10.1.1 y10.1.2.1 y10.1.2.2.1 y10.1.2.2.2.1 (wI ((i:Int)+1))
    else
     g19L0 m N d e a0 a1 y8.1.1 y8.1.2.1 y8.1.2.2.1 y8.1.2.2.2.1 (mkD (mxZ d e i) (-1074)).1 (mkD (mxZ d e i) (-1074)).2.1 (mkD (mxZ d e i) (-1074)).2.2.1 (mkD (mxZ d e i) (-1074)).2.2.2.1 (wI ((i:Int)+1))
  else
   bif (i:Int)==0 then
    g19L0 m N d e a0 a1 (mkD (mnZ d e i) (-1074)).1 (mkD (mnZ d e i) (-1074)).2.1 (mkD (mnZ d e i) (-1074)).2.2.1 (mkD (mnZ d e i) (-1074)).2.2.2.1 y10.1.1 y10.1.2.1 y10.1.2.2.1 y10.1.2.2.2.1 (wI ((i:Int)+1))
   else
    (g48 m (mkD (mxZ d e i) (-1074)).1 (mkD (mxZ d e i) (-1074)).2.1 (mkD (mxZ d e i) (-1074)).2.2.1 (mkD (mxZ d e i) (-1074)).2.2.2.1 y10.1.1 y10.1.2.1 y10.1.2.2.1 y10.1.2.2.2.1).bind fun y14=>
    bif y14.1 then
     g19L0 m N d e a0 a1 (mkD (mnZ d e i) (-1074)).1 (mkD (mnZ d e i) (-1074)).2.1 (mkD (mnZ d e i) (-1074)).2.2.1 (mkD (mnZ d e i) (-1074)).2.2.2.1 y10.1.1 y10.1.2.1 y10.1.2.2.1 y10.1.2.2.2.1 (wI ((i:Int)+1))
    else
     g19L0 m N d e a0 a1 (mkD (mnZ d e i) (-1074)).1 (mkD (mnZ d e i) (-1074)).2.1 (mkD (mnZ d e i) (-1074)).2.2.1 (mkD (mnZ d e i) (-1074)).2.2.2.1 (mkD (mxZ d e i) (-1074)).1 (mkD (mxZ d e i) (-1074)).2.1 (mkD (mxZ d e i) (-1074)).2.2.1 (mkD (mxZ d e i) (-1074)).2.2.2.1 (wI ((i:Int)+1))
 else none
 else none
 )=g19L0 m N d e a0 a1 (mkD (mnZ d e (i+1)) (-1074)).1 (mkD (mnZ d e (i+1)) (-1074)).2.1 (mkD (mnZ d e (i+1)) (-1074)).2.2.1 (mkD (mnZ d e (i+1)) (-1074)).2.2.2.1 (mkD (mxZ d e (i+1)) (-1074)).1 (mkD (mxZ d e (i+1)) (-1074)).2.1 (mkD (mxZ d e (i+1)) (-1074)).2.2.1 (mkD (mxZ d e (i+1)) (-1074)).2.2.2.1 ((i+1:Nat):Int):=by
 subst hR;obtain⟨u1,f1⟩:=hd i hi;have q1:=qqr hm hd he hle hl hi;have q2:=q8a f1;have q3:=qqi hm hd he hle hl hi;have q4:=qqg hm hd he hle hl hi;have q5:=qqk hm hd he hle hl (i:=i) O;have q6:=qqh hm hd he hle hl (i:=i) O;have ws:wI ((i:Int)+1)=((i+1:Nat):Int):=wsucc O;rw[iP O,qak O u1,q2y f1];simp only[bS];rw[rSubV hm hd he hle hl O O];simp only[bS];rw[iP O,rAddV hm hd he hle hl O O,ws];simp only[bS];rw[show valF (d.getD i 0)-rad e i=loB d e i from rfl,show valF (d.getD i 0)+rad e i=hiB d e i from rfl]
 by_cases c:i=0
 . subst c;rw[show(((0:Nat):Int)==0)=true from rfl,cond_true,cond_true]
   rfl
 . have hc:((i:Int)==0)=false:=by simpa using c
   rw[rLess hm hd he hle hl O O,rLess hm hd he hle hl O O];simp only[hc,cond_false,bS,bQ];rw[mnZ,mxZ,iN' c,iN' c];by_cases c1:loB d e i<mnZ d e i<;>by_cases c2:mxZ d e i<hiB d e i<;>simp only[c1,c2,if_true,if_false]
theorem pZero:g39 m 0=some (mkD 0 (-1074),(),()):=by
 rw[g39,q2u O (by decide) (by decide),bS,q7y O (by decide) (by decide) (by decide)]
 rfl
theorem qre (a0 a1:Int): ∀(N i:Nat),d.length-i<N->i<=d.length->g18L0 m N e a0 a1 (dnF (mnZ d e i)) (upF (mxZ d e i)) d (d.length:Int) (i:Int)=some (.inl ((a0,a1,()),(dnF (mnZ d e d.length),upF (mxZ d e d.length),()),())):=by
 intro N;induction N with
 |zero=>intro i h;omega
 |succ N ih=>
  intro i h hi;rw[g18L0,bQ];by_cases c:i<d.length
  . have t:=fun{R:Int} (hR:R=rad e i)=>(tailP hm hd he hle hl c N hR a0 a1).trans (ih (i+1) O O)
    rw[iP O,iP O,pZero hm hd he hle hl,bS,bQ,bQ];by_cases c1:0<i
    . have w2:wI ((i:Int)-1)=((i-1:Nat):Int):=by rw[wQ,wi O O];omega
      obtain⟨u3,f3⟩:=he (i-1) O;obtain⟨v1,v2,v3⟩:=absV u3 f3;rw[iP O,w2,iP O,tN,pAbs O u3 f3,bS,Of_eq O v1,q2y v2,v3,bS];have p1:=qq3 hm hd he hle hl (i:=i-1) O;rw[show g40 m (mkD 0 (-1074)).1 (mkD 0 (-1074)).2.1 (mkD 0 (-1074)).2.2.1 (mkD 0 (-1074)).2.2.2.1 (mkD ((valF (e.getD (i-1) 0)).natAbs:Int) (-1074)).1 (mkD ((valF (e.getD (i-1) 0)).natAbs:Int) (-1074)).2.1 (mkD ((valF (e.getD (i-1) 0)).natAbs:Int) (-1074)).2.2.1 (mkD ((valF (e.getD (i-1) 0)).natAbs:Int) (-1074)).2.2.2.1=_ from pAddV hm hd he hle hl (a:=0) (b:=((ofF e (i-1)).natAbs:Int)) (by decide) O,bS,bQ]
      by_cases c2:i<e.length
      . obtain⟨u4,f4⟩:=he i c2;obtain⟨g1,g2,g3⟩:=absV u4 f4;have p2:=qq3 hm hd he hle hl (i:=i) c2;rw[iP O,iP O,tN,pAbs O u4 f4,bS,Of_eq O g1,q2y g2,g3,bS];rw[show g40 m (mkD (0+((ofF e (i-1)).natAbs:Int)) (-1074)).1 (mkD (0+((ofF e (i-1)).natAbs:Int)) (-1074)).2.1 (mkD (0+((ofF e (i-1)).natAbs:Int)) (-1074)).2.2.1 (mkD (0+((ofF e (i-1)).natAbs:Int)) (-1074)).2.2.2.1 (mkD ((valF (e.getD i 0)).natAbs:Int) (-1074)).1 (mkD ((valF (e.getD i 0)).natAbs:Int) (-1074)).2.1 (mkD ((valF (e.getD i 0)).natAbs:Int) (-1074)).2.2.1 (mkD ((valF (e.getD i 0)).natAbs:Int) (-1074)).2.2.2.1=_ from pAddV hm hd he hle hl (a:=0+((ofF e (i-1)).natAbs:Int)) (b:=((ofF e i).natAbs:Int)) (by rw[Int.zero_add];omega) O,bS]
        exact t (by unfold rad;rw[iP c1,iP c2,Int.zero_add])
      . rw[iN' O];exact t (by unfold rad;rw[iP c1,iN' c2];omega)
    . rw[iN' O];by_cases c2:i<e.length
      . obtain⟨u4,f4⟩:=he i c2;obtain⟨g1,g2,g3⟩:=absV u4 f4;have p2:=qq3 hm hd he hle hl (i:=i) c2;rw[iP O,iP O,tN,pAbs O u4 f4,bS,Of_eq O g1,q2y g2,g3,bS];rw[show g40 m (mkD 0 (-1074)).1 (mkD 0 (-1074)).2.1 (mkD 0 (-1074)).2.2.1 (mkD 0 (-1074)).2.2.2.1 (mkD ((valF (e.getD i 0)).natAbs:Int) (-1074)).1 (mkD ((valF (e.getD i 0)).natAbs:Int) (-1074)).2.1 (mkD ((valF (e.getD i 0)).natAbs:Int) (-1074)).2.2.1 (mkD ((valF (e.getD i 0)).natAbs:Int) (-1074)).2.2.2.1=_ from pAddV hm hd he hle hl (a:=0) (b:=((ofF e i).natAbs:Int)) (by decide) O,bS]
        exact t (by unfold rad;rw[iN' c1,iP c2])
      . rw[iN' O];exact t (by unfold rad;rw[iN' c1,iN' c2];rfl)
  . have:i=d.length:=O;rw[iN' O,this]
theorem qrj (a0 a1:Int): ∀(N i:Nat),d.length-i<N->i<=d.length->g19L0 m N d e a0 a1 (mkD (mnZ d e i) (-1074)).1 (mkD (mnZ d e i) (-1074)).2.1 (mkD (mnZ d e i) (-1074)).2.2.1 (mkD (mnZ d e i) (-1074)).2.2.2.1 (mkD (mxZ d e i) (-1074)).1 (mkD (mxZ d e i) (-1074)).2.1 (mkD (mxZ d e i) (-1074)).2.2.1 (mkD (mxZ d e i) (-1074)).2.2.2.1 (i:Int)=some (.inl ((a0,a1,()),mkD (mnZ d e d.length) (-1074),mkD (mxZ d e d.length) (-1074),())):=by
 intro N;induction N with
 |zero=>intro i h;omega
 |succ N ih=>
  intro i h hi;rw[g19L0,bQ];by_cases c:i<d.length
  . have t:=fun{R:Int} (hR:R=rad e i)=>(tailR hm hd he hle hl c N hR a0 a1).trans (ih (i+1) O O)
    rw[iP O,bQ,bQ];by_cases c1:0<i
    . have w2:wI ((i:Int)-1)=((i-1:Nat):Int):=by rw[wQ,wi O O];omega
      obtain⟨u3,f3⟩:=he (i-1) O;have p1:=qq3 hm hd he hle hl (i:=i-1) O;have s1:=q8a f3;rw[iP O,w2,iP O,tN,qak O u3,q2y f3,bS];dsimp only;rw[rDAbs hm O,bS];rw[show g46 m false false [] 0 (mkD ((valF (e.getD (i-1) 0)).natAbs:Int) (-1074)).1 (mkD ((valF (e.getD (i-1) 0)).natAbs:Int) (-1074)).2.1 (mkD ((valF (e.getD (i-1) 0)).natAbs:Int) (-1074)).2.2.1 (mkD ((valF (e.getD (i-1) 0)).natAbs:Int) (-1074)).2.2.2.1=_ from rAddV hm hd he hle hl (a:=0) (b:=((ofF e (i-1)).natAbs:Int)) (by decide) O,bS,bQ]
      by_cases c2:i<e.length
      . obtain⟨u4,f4⟩:=he i c2;have p2:=qq3 hm hd he hle hl (i:=i) c2;have s2:=q8a f4;rw[iP O,iP O,tN,qak O u4,q2y f4,bS];dsimp only;rw[rDAbs hm O,bS];rw[show g46 m (mkD (0+((ofF e (i-1)).natAbs:Int)) (-1074)).1 (mkD (0+((ofF e (i-1)).natAbs:Int)) (-1074)).2.1 (mkD (0+((ofF e (i-1)).natAbs:Int)) (-1074)).2.2.1 (mkD (0+((ofF e (i-1)).natAbs:Int)) (-1074)).2.2.2.1 (mkD ((valF (e.getD i 0)).natAbs:Int) (-1074)).1 (mkD ((valF (e.getD i 0)).natAbs:Int) (-1074)).2.1 (mkD ((valF (e.getD i 0)).natAbs:Int) (-1074)).2.2.1 (mkD ((valF (e.getD i 0)).natAbs:Int) (-1074)).2.2.2.1=_ from rAddV hm hd he hle hl (a:=0+((ofF e (i-1)).natAbs:Int)) (b:=((ofF e i).natAbs:Int)) (by rw[Int.zero_add];omega) O,bS]
        exact t (by unfold rad;rw[iP c1,iP c2,Int.zero_add])
      . rw[iN' O];exact t (by unfold rad;rw[iP c1,iN' c2];omega)
    . rw[iN' O];by_cases c2:i<e.length
      . obtain⟨u4,f4⟩:=he i c2;have p2:=qq3 hm hd he hle hl (i:=i) c2;have s2:=q8a f4;rw[iP O,iP O,tN,qak O u4,q2y f4,bS];dsimp only;rw[rDAbs hm O,bS];rw[show g46 m false false [] 0 (mkD ((valF (e.getD i 0)).natAbs:Int) (-1074)).1 (mkD ((valF (e.getD i 0)).natAbs:Int) (-1074)).2.1 (mkD ((valF (e.getD i 0)).natAbs:Int) (-1074)).2.2.1 (mkD ((valF (e.getD i 0)).natAbs:Int) (-1074)).2.2.2.1=_ from rAddV hm hd he hle hl (a:=0) (b:=((ofF e i).natAbs:Int)) (by decide) O,bS]
        exact t (by unfold rad;rw[iN' c1,iP c2])
      . rw[iN' O];exact t (by unfold rad;rw[iN' c1,iN' c2])
  . have:i=d.length:=O;rw[iN' O,this]
end
end Go.Vs.F
set_option maxRecDepth 100000
namespace Go.Vs.F
theorem qr1 {m:Nat} (hm:5000000000<=m) {d e:LI} (hd:FnL d) (he:FnL e) (hle:e.length=d.length-1) (hl:d.length<=16):
 g18 m d e=some (((dnF (mnZ d e d.length),upF (mxZ d e d.length),()),0,()),(),(),())/\g19 m d e=some (((dnF (mnZ d e d.length),upF (mxZ d e d.length),()),0,()),(),(),()):=by
 have hc:=qfd hd he hle hl;obtain⟨k1,k2⟩:=q6j hm hd.U he.U O O;have p0:=qre hm hd he hle O 0 0 m 0 O O;have r0:=qrj hm hd he hle O 0 0 m 0 O O;rw[mnZ,mxZ,qrl,qru,nZ]at p0;rw[show mnZ d e 0=0 from rfl,show mxZ d e 0=0 from rfl,nZ]at r0
 constructor
 . rw[g18,k1,bS,hc];dsimp only;rw[show((0:Int) !=0)=false from rfl,cond_false,p0,bS]
 . rw[g19,k2,bS,hc];dsimp only;rw[show((0:Int) !=0)=false from rfl,cond_false,show g19L0 m m d e 0 0 false false [] 0 false false [] 0 0=_ from r0,bS]
   dsimp only;rw[qqu O,bS,qqu O,bS];rfl
end Go.Vs.F
set_option maxRecDepth 100000
namespace Go.Vs.F
theorem qsv {m:Nat} (hm:5000000000<=m) {D E:LI} (hD:UL D) (hE:UL E) (hdl:D.length<=1000) (hel:E.length<=1000):
 ∃a b,g18 m D E=some (((a,b,()),chkT D E,()),(),(),())/\g19 m D E=some (((a,b,()),chkT D E,()),(),(),()):=by
 obtain⟨k1,k2⟩:=q6j hm hD hE O O;by_cases c:chkT D E=0
 . obtain⟨c1,c2,c3,c4⟩:=qmx c;obtain⟨b1,b2⟩:=qr1 hm (qpy hD c3) (qpy hE c4) c2 c1;rw[c];exact⟨_,_,b1,b2⟩
 . refine⟨0,0,?_,?_⟩
   . rw[g18,k1,bS,bif_ne];dsimp only;rw[iN' c]
   . rw[g19,k2,bS,bif_ne];dsimp only;rw[iN' c]
theorem qsu {m:Nat} (hm:5000000000<=m) {D E:LI} (hD:UL D) (hE:UL E) (hdl:D.length<=1000) (hel:E.length<=1000) (h5:D.length<=5\/16<D.length) {x:Int} (hx:U64 x) (k:Int):
 (
 (g10 m D E x).bind fun y40=>
 (g11 m D E x).bind fun y41=>
 bif y40.1.1 !=y41.1.1 then
  some (false,((),(),(),(),(),(),()))
 else
  bif y40.1.2.1 !=y41.1.2.1 then
   some (false,((),(),(),(),(),(),()))
  else
   (g18 m D E).bind fun y42=>
   (g19 m D E).bind fun y43=>
   (g9 m k 3).bind fun y44=>
   (g16 m D E (wI ((-1)-y44.1))).bind fun y45=>
   bif y43.1.2.1==0 then
    bif ((y42.1.1.1==y43.1.1.1)&&((y42.1.1.2.1==y43.1.1.2.1)&&true))then
     bif y42.1.2.1==y43.1.2.1 then
      bif y45.1.2.1==3 then
       (sparselaw37_awake m).bind fun y46=>
       some (y46.1,((),(),(),(),(),(),()))
      else
       some (false,((),(),(),(),(),(),()))
     else
      some (false,((),(),(),(),(),(),()))
    else
     some (false,((),(),(),(),(),(),()))
   else
    bif ((y42.1.1.1==y43.1.1.1)&&((y42.1.1.2.1==y43.1.1.2.1)&&true))then
     bif y42.1.2.1==y43.1.2.1 then
      bif y45.1.2.1==y43.1.2.1 then
       (sparselaw37_awake m).bind fun y47=>
       some (y47.1,((),(),(),(),(),(),()))
      else
       some (false,((),(),(),(),(),(),()))
     else
      some (false,((),(),(),(),(),(),()))
    else
     some (false,((),(),(),(),(),(),()))
 )=some (true,(),(),(),(),(),(),()):=by
 obtain⟨r,a1,a2⟩: ∃r,g10 m D E x=some (r,(),(),(),())/\g11 m D E x=some (r,(),(),(),()):=by
  by_cases c:chkT D E=0
  . have:=qmx c;by_cases h3:kindN x=3
    . obtain⟨r,h1,h2,_⟩:=qf5 hm hD hE O O hx (.inr h3);exact⟨_,h1,h2⟩
    . obtain⟨q,_,_,h1,h2⟩:=qcf hm hD hE O O hx c O h3;exact⟨_,h1,h2⟩
  . obtain⟨r,h1,h2,_⟩:=qf5 hm hD hE O O hx (.inl c);exact⟨_,h1,h2⟩
 obtain⟨a,b,b1,b2⟩:=qsv hm hD hE hdl hel;obtain⟨q,hq,eq⟩:=q6t m k (k:=3) (by decide) (by decide)
 obtain⟨k1,k2⟩:=q6j hm hD hE O O;have w:wI ((-1)-(q:Int))= -1-(q:Int):=by rw[wQ,wi O O]
 have hk:g16 m D E (-1-(q:Int))=some (((0,0,0,()),(if chkT D E=0 then 3 else chkT D E),()),(),(),(),()):=by
  rw[g16,k1,bS,bif_ne];dsimp only;by_cases c:chkT D E=0
  . rw[iP c,iP c,bQ,iP O]
  . rw[iN' c,iN' c]
 rw[a1,bS,a2,bS,b1,bS,b2,bS,show(3:Int)=((3:Nat):Int)from rfl,eq,bS]
 dsimp only;rw[w,hk,bS];by_cases c:chkT D E=0
 . rw[iP c,c];simp only[beq_self_eq_true,bne_self_eq_false,Bool.and_self,cond_true,cond_false,qmq hm,bS];rfl
 . have hc:(chkT D E==0)=false:=by simpa using c
   rw[iN' c];simp only[beq_self_eq_true,bne_self_eq_false,Bool.and_self,cond_true,cond_false,qmq hm,bS,hc]
theorem qsw {l:LI} (h:UL l) (k:Nat):UL (l.take k):=by
 intro i hi;rw[List.length_take]at hi;have:(l.take k).getD i 0=l.getD i 0:=by simp[List.getD,List.getElem?_take,show i<k by omega]
 rw[this];exact h i O
theorem qsx {l:LI} (h:UL l) (k:Nat) {x:Int} (hx:U64 x):UL (l.set k x):=by
 intro i hi;rw[List.length_set]at hi;by_cases c:i=k
 . subst c;rw[q1l hi];exact hx
 . rw[getD_set_ne (fun g=>c g.symm)];exact h i hi
theorem qst (raw:LI) (n m0 x k at0:Int) (hl:raw.length<=9223372036854775807) (hx:U64 x): ∃m,sparselaw37_TridiagRefusesB m raw n m0 x k at0=some (true,(),(),(),(),(),(),()):=by
 obtain⟨m,hm⟩: ∃m:Nat,5000000000<=m:=⟨_,Nat.le_refl _⟩;refine⟨m,?_⟩;obtain⟨p,hp,ep⟩:=q6t m n (k:=19) (by decide) (by decide)
 obtain⟨q,hq,eq⟩:=q6t m m0 (k:=19) (by decide) (by decide)
 obtain⟨d,ed,d1,d2⟩:=qa6 hm hl (at0:=0) (n:=p) O O 0;obtain⟨e,ee,e1,e2⟩:=qa6 hm hl (at0:=20) (n:=q) O O 0;rw[sparselaw37_TridiagRefusesB,show(19:Int)=((19:Nat):Int)from rfl,ep,bS]
 dsimp only;rw[show g21 m raw 0 (p:Int) 0=_ from ed,bS,eq,bS]
 dsimp only;rw[show g21 m raw 20 (q:Int) 0=_ from ee,bS]
 dsimp only;have fin: ∀D E:LI,UL D->UL E->D.length<=1000->E.length<=1000->(D.length<=5\/16<D.length)->_:=fun D E h1 h2 h3 h4 h5=>qsu hm h1 h2 h3 h4 h5 hx k
 have two: ∀D E:LI,UL D->UL E->D.length<=1000->E.length<=1000->(D.length<=5\/16<D.length)->(bif decide ((D.length:Int)>0)then
  bif (Int.tmod at0 2)==0 then
   (g9 m at0 (D.length:Int)).bind fun y6=>
   if(0:Int)<=y6.1/\y6.1<(D.length:Int)then
   (g10 m (D.set (0+y6.1.toNat) x) E x).bind fun y40=>
   (g11 m (D.set (0+y6.1.toNat) x) E x).bind fun y41=>
   bif y40.1.1 !=y41.1.1 then
    some (false,((),(),(),(),(),(),()))
   else
    bif y40.1.2.1 !=y41.1.2.1 then
     some (false,((),(),(),(),(),(),()))
    else
     (g18 m (D.set (0+y6.1.toNat) x) E).bind fun y42=>
     (g19 m (D.set (0+y6.1.toNat) x) E).bind fun y43=>
     (g9 m k 3).bind fun y44=>
     (g16 m (D.set (0+y6.1.toNat) x) E (wI ((-1)-y44.1))).bind fun y45=>
     bif y43.1.2.1==0 then
      bif ((y42.1.1.1==y43.1.1.1)&&((y42.1.1.2.1==y43.1.1.2.1)&&true))then
       bif y42.1.2.1==y43.1.2.1 then
        bif y45.1.2.1==3 then
         (sparselaw37_awake m).bind fun y46=>
         some (y46.1,((),(),(),(),(),(),()))
        else
         some (false,((),(),(),(),(),(),()))
       else
        some (false,((),(),(),(),(),(),()))
      else
       some (false,((),(),(),(),(),(),()))
     else
      bif ((y42.1.1.1==y43.1.1.1)&&((y42.1.1.2.1==y43.1.1.2.1)&&true))then
       bif y42.1.2.1==y43.1.2.1 then
        bif y45.1.2.1==y43.1.2.1 then
         (sparselaw37_awake m).bind fun y47=>
         some (y47.1,((),(),(),(),(),(),()))
        else
         some (false,((),(),(),(),(),(),()))
       else
        some (false,((),(),(),(),(),(),()))
      else
       some (false,((),(),(),(),(),(),()))
   else none
  else
   (g10 m D E x).bind fun y40=>
   (g11 m D E x).bind fun y41=>
   bif y40.1.1 !=y41.1.1 then
    some (false,((),(),(),(),(),(),()))
   else
    bif y40.1.2.1 !=y41.1.2.1 then
     some (false,((),(),(),(),(),(),()))
    else
     (g18 m D E).bind fun y42=>
     (g19 m D E).bind fun y43=>
     (g9 m k 3).bind fun y44=>
     (g16 m D E (wI ((-1)-y44.1))).bind fun y45=>
     bif y43.1.2.1==0 then
      bif ((y42.1.1.1==y43.1.1.1)&&((y42.1.1.2.1==y43.1.1.2.1)&&true))then
       bif y42.1.2.1==y43.1.2.1 then
        bif y45.1.2.1==3 then
         (sparselaw37_awake m).bind fun y46=>
         some (y46.1,((),(),(),(),(),(),()))
        else
         some (false,((),(),(),(),(),(),()))
       else
        some (false,((),(),(),(),(),(),()))
      else
       some (false,((),(),(),(),(),(),()))
     else
      bif ((y42.1.1.1==y43.1.1.1)&&((y42.1.1.2.1==y43.1.1.2.1)&&true))then
       bif y42.1.2.1==y43.1.2.1 then
        bif y45.1.2.1==y43.1.2.1 then
         (sparselaw37_awake m).bind fun y47=>
         some (y47.1,((),(),(),(),(),(),()))
        else
         some (false,((),(),(),(),(),(),()))
       else
        some (false,((),(),(),(),(),(),()))
      else
       some (false,((),(),(),(),(),(),()))
  else
   (g10 m D E x).bind fun y40=>
   (g11 m D E x).bind fun y41=>
   bif y40.1.1 !=y41.1.1 then
    some (false,((),(),(),(),(),(),()))
   else
    bif y40.1.2.1 !=y41.1.2.1 then
     some (false,((),(),(),(),(),(),()))
    else
     (g18 m D E).bind fun y42=>
     (g19 m D E).bind fun y43=>
     (g9 m k 3).bind fun y44=>
     (g16 m D E (wI ((-1)-y44.1))).bind fun y45=>
     bif y43.1.2.1==0 then
      bif ((y42.1.1.1==y43.1.1.1)&&((y42.1.1.2.1==y43.1.1.2.1)&&true))then
       bif y42.1.2.1==y43.1.2.1 then
        bif y45.1.2.1==3 then
         (sparselaw37_awake m).bind fun y46=>
         some (y46.1,((),(),(),(),(),(),()))
        else
         some (false,((),(),(),(),(),(),()))
       else
        some (false,((),(),(),(),(),(),()))
      else
       some (false,((),(),(),(),(),(),()))
     else
      bif ((y42.1.1.1==y43.1.1.1)&&((y42.1.1.2.1==y43.1.1.2.1)&&true))then
       bif y42.1.2.1==y43.1.2.1 then
        bif y45.1.2.1==y43.1.2.1 then
         (sparselaw37_awake m).bind fun y47=>
         some (y47.1,((),(),(),(),(),(),()))
        else
         some (false,((),(),(),(),(),(),()))
       else
        some (false,((),(),(),(),(),(),()))
      else
       some (false,((),(),(),(),(),(),()))
  )=some (true,(),(),(),(),(),(),()):=by
  intro D E h1 h2 h3 h4 h5;rw[bQ];by_cases c:0<D.length
  . rw[iP O];cases (Int.tmod at0 2)==0
    . exact fin D E h1 h2 h3 h4 h5
    . obtain⟨g,hg,eg⟩:=q6t m at0 (k:=D.length) c O;rw[cond_true,eg,bS];dsimp only;rw[iP O];exact fin _ E (qsx h1 _ hx) h2 (by rw[List.length_set];exact h3) h4 (by rw[List.length_set];exact h5)
  . rw[iN' O];exact fin D E h1 h2 h3 h4 h5
 have cut: ∀E:LI,UL E->E.length<=1000->(bif decide ((d.length:Int)>5)then
  bif decide ((d.length:Int)<=16)then
   if(0:Int)<=0/\(0:Int)<=5/\5<=(d.length:Int)then
   if(0:Int)<=0/\0<=(if 4<(E.length:Int)then 4 else(E.length:Int))/\(if 4<(E.length:Int)then 4 else(E.length:Int))<=(E.length:Int)then
   bif decide (((d.take 5).length:Int)>0)then
        bif (Int.tmod at0 2)==0 then
         (g9 m at0 ((d.take 5).length:Int)).bind fun y6=>
         if(0:Int)<=y6.1/\y6.1<((d.take 5).length:Int)then
         (g10 m ((d.take 5).set (0+y6.1.toNat) x) (E.take (if 4<(E.length:Int)then 4 else(E.length:Int)).toNat) x).bind fun y40=>
         (g11 m ((d.take 5).set (0+y6.1.toNat) x) (E.take (if 4<(E.length:Int)then 4 else(E.length:Int)).toNat) x).bind fun y41=>
         bif y40.1.1 !=y41.1.1 then
          some (false,((),(),(),(),(),(),()))
         else
          bif y40.1.2.1 !=y41.1.2.1 then
           some (false,((),(),(),(),(),(),()))
          else
           (g18 m ((d.take 5).set (0+y6.1.toNat) x) (E.take (if 4<(E.length:Int)then 4 else(E.length:Int)).toNat)).bind fun y42=>
           (g19 m ((d.take 5).set (0+y6.1.toNat) x) (E.take (if 4<(E.length:Int)then 4 else(E.length:Int)).toNat)).bind fun y43=>
           (g9 m k 3).bind fun y44=>
           (g16 m ((d.take 5).set (0+y6.1.toNat) x) (E.take (if 4<(E.length:Int)then 4 else(E.length:Int)).toNat) (wI ((-1)-y44.1))).bind fun y45=>
           bif y43.1.2.1==0 then
            bif ((y42.1.1.1==y43.1.1.1)&&((y42.1.1.2.1==y43.1.1.2.1)&&true))then
             bif y42.1.2.1==y43.1.2.1 then
              bif y45.1.2.1==3 then
               (sparselaw37_awake m).bind fun y46=>
               some (y46.1,((),(),(),(),(),(),()))
              else
               some (false,((),(),(),(),(),(),()))
             else
              some (false,((),(),(),(),(),(),()))
            else
             some (false,((),(),(),(),(),(),()))
           else
            bif ((y42.1.1.1==y43.1.1.1)&&((y42.1.1.2.1==y43.1.1.2.1)&&true))then
             bif y42.1.2.1==y43.1.2.1 then
              bif y45.1.2.1==y43.1.2.1 then
               (sparselaw37_awake m).bind fun y47=>
               some (y47.1,((),(),(),(),(),(),()))
              else
               some (false,((),(),(),(),(),(),()))
             else
              some (false,((),(),(),(),(),(),()))
            else
             some (false,((),(),(),(),(),(),()))
         else none
        else
         (g10 m (d.take 5) (E.take (if 4<(E.length:Int)then 4 else(E.length:Int)).toNat) x).bind fun y40=>
         (g11 m (d.take 5) (E.take (if 4<(E.length:Int)then 4 else(E.length:Int)).toNat) x).bind fun y41=>
         bif y40.1.1 !=y41.1.1 then
          some (false,((),(),(),(),(),(),()))
         else
          bif y40.1.2.1 !=y41.1.2.1 then
           some (false,((),(),(),(),(),(),()))
          else
           (g18 m (d.take 5) (E.take (if 4<(E.length:Int)then 4 else(E.length:Int)).toNat)).bind fun y42=>
           (g19 m (d.take 5) (E.take (if 4<(E.length:Int)then 4 else(E.length:Int)).toNat)).bind fun y43=>
           (g9 m k 3).bind fun y44=>
           (g16 m (d.take 5) (E.take (if 4<(E.length:Int)then 4 else(E.length:Int)).toNat) (wI ((-1)-y44.1))).bind fun y45=>
           bif y43.1.2.1==0 then
            bif ((y42.1.1.1==y43.1.1.1)&&((y42.1.1.2.1==y43.1.1.2.1)&&true))then
             bif y42.1.2.1==y43.1.2.1 then
              bif y45.1.2.1==3 then
               (sparselaw37_awake m).bind fun y46=>
               some (y46.1,((),(),(),(),(),(),()))
              else
               some (false,((),(),(),(),(),(),()))
             else
              some (false,((),(),(),(),(),(),()))
            else
             some (false,((),(),(),(),(),(),()))
           else
            bif ((y42.1.1.1==y43.1.1.1)&&((y42.1.1.2.1==y43.1.1.2.1)&&true))then
             bif y42.1.2.1==y43.1.2.1 then
              bif y45.1.2.1==y43.1.2.1 then
               (sparselaw37_awake m).bind fun y47=>
               some (y47.1,((),(),(),(),(),(),()))
              else
               some (false,((),(),(),(),(),(),()))
             else
              some (false,((),(),(),(),(),(),()))
            else
             some (false,((),(),(),(),(),(),()))
       else
        (g10 m (d.take 5) (E.take (if 4<(E.length:Int)then 4 else(E.length:Int)).toNat) x).bind fun y40=>
        (g11 m (d.take 5) (E.take (if 4<(E.length:Int)then 4 else(E.length:Int)).toNat) x).bind fun y41=>
        bif y40.1.1 !=y41.1.1 then
         some (false,((),(),(),(),(),(),()))
        else
         bif y40.1.2.1 !=y41.1.2.1 then
          some (false,((),(),(),(),(),(),()))
         else
          (g18 m (d.take 5) (E.take (if 4<(E.length:Int)then 4 else(E.length:Int)).toNat)).bind fun y42=>
          (g19 m (d.take 5) (E.take (if 4<(E.length:Int)then 4 else(E.length:Int)).toNat)).bind fun y43=>
          (g9 m k 3).bind fun y44=>
          (g16 m (d.take 5) (E.take (if 4<(E.length:Int)then 4 else(E.length:Int)).toNat) (wI ((-1)-y44.1))).bind fun y45=>
          bif y43.1.2.1==0 then
           bif ((y42.1.1.1==y43.1.1.1)&&((y42.1.1.2.1==y43.1.1.2.1)&&true))then
            bif y42.1.2.1==y43.1.2.1 then
             bif y45.1.2.1==3 then
              (sparselaw37_awake m).bind fun y46=>
              some (y46.1,((),(),(),(),(),(),()))
             else
              some (false,((),(),(),(),(),(),()))
            else
             some (false,((),(),(),(),(),(),()))
           else
            some (false,((),(),(),(),(),(),()))
          else
           bif ((y42.1.1.1==y43.1.1.1)&&((y42.1.1.2.1==y43.1.1.2.1)&&true))then
            bif y42.1.2.1==y43.1.2.1 then
             bif y45.1.2.1==y43.1.2.1 then
              (sparselaw37_awake m).bind fun y47=>
              some (y47.1,((),(),(),(),(),(),()))
             else
              some (false,((),(),(),(),(),(),()))
            else
             some (false,((),(),(),(),(),(),()))
           else
            some (false,((),(),(),(),(),(),()))
   else none
   else none
  else
   bif decide ((d.length:Int)>0)then
        bif (Int.tmod at0 2)==0 then
         (g9 m at0 (d.length:Int)).bind fun y6=>
         if(0:Int)<=y6.1/\y6.1<(d.length:Int)then
         (g10 m (d.set (0+y6.1.toNat) x) E x).bind fun y40=>
         (g11 m (d.set (0+y6.1.toNat) x) E x).bind fun y41=>
         bif y40.1.1 !=y41.1.1 then
          some (false,((),(),(),(),(),(),()))
         else
          bif y40.1.2.1 !=y41.1.2.1 then
           some (false,((),(),(),(),(),(),()))
          else
           (g18 m (d.set (0+y6.1.toNat) x) E).bind fun y42=>
           (g19 m (d.set (0+y6.1.toNat) x) E).bind fun y43=>
           (g9 m k 3).bind fun y44=>
           (g16 m (d.set (0+y6.1.toNat) x) E (wI ((-1)-y44.1))).bind fun y45=>
           bif y43.1.2.1==0 then
            bif ((y42.1.1.1==y43.1.1.1)&&((y42.1.1.2.1==y43.1.1.2.1)&&true))then
             bif y42.1.2.1==y43.1.2.1 then
              bif y45.1.2.1==3 then
               (sparselaw37_awake m).bind fun y46=>
               some (y46.1,((),(),(),(),(),(),()))
              else
               some (false,((),(),(),(),(),(),()))
             else
              some (false,((),(),(),(),(),(),()))
            else
             some (false,((),(),(),(),(),(),()))
           else
            bif ((y42.1.1.1==y43.1.1.1)&&((y42.1.1.2.1==y43.1.1.2.1)&&true))then
             bif y42.1.2.1==y43.1.2.1 then
              bif y45.1.2.1==y43.1.2.1 then
               (sparselaw37_awake m).bind fun y47=>
               some (y47.1,((),(),(),(),(),(),()))
              else
               some (false,((),(),(),(),(),(),()))
             else
              some (false,((),(),(),(),(),(),()))
            else
             some (false,((),(),(),(),(),(),()))
         else none
        else
         (g10 m d E x).bind fun y40=>
         (g11 m d E x).bind fun y41=>
         bif y40.1.1 !=y41.1.1 then
          some (false,((),(),(),(),(),(),()))
         else
          bif y40.1.2.1 !=y41.1.2.1 then
           some (false,((),(),(),(),(),(),()))
          else
           (g18 m d E).bind fun y42=>
           (g19 m d E).bind fun y43=>
           (g9 m k 3).bind fun y44=>
           (g16 m d E (wI ((-1)-y44.1))).bind fun y45=>
           bif y43.1.2.1==0 then
            bif ((y42.1.1.1==y43.1.1.1)&&((y42.1.1.2.1==y43.1.1.2.1)&&true))then
             bif y42.1.2.1==y43.1.2.1 then
              bif y45.1.2.1==3 then
               (sparselaw37_awake m).bind fun y46=>
               some (y46.1,((),(),(),(),(),(),()))
              else
               some (false,((),(),(),(),(),(),()))
             else
              some (false,((),(),(),(),(),(),()))
            else
             some (false,((),(),(),(),(),(),()))
           else
            bif ((y42.1.1.1==y43.1.1.1)&&((y42.1.1.2.1==y43.1.1.2.1)&&true))then
             bif y42.1.2.1==y43.1.2.1 then
              bif y45.1.2.1==y43.1.2.1 then
               (sparselaw37_awake m).bind fun y47=>
               some (y47.1,((),(),(),(),(),(),()))
              else
               some (false,((),(),(),(),(),(),()))
             else
              some (false,((),(),(),(),(),(),()))
            else
             some (false,((),(),(),(),(),(),()))
       else
        (g10 m d E x).bind fun y40=>
        (g11 m d E x).bind fun y41=>
        bif y40.1.1 !=y41.1.1 then
         some (false,((),(),(),(),(),(),()))
        else
         bif y40.1.2.1 !=y41.1.2.1 then
          some (false,((),(),(),(),(),(),()))
         else
          (g18 m d E).bind fun y42=>
          (g19 m d E).bind fun y43=>
          (g9 m k 3).bind fun y44=>
          (g16 m d E (wI ((-1)-y44.1))).bind fun y45=>
          bif y43.1.2.1==0 then
           bif ((y42.1.1.1==y43.1.1.1)&&((y42.1.1.2.1==y43.1.1.2.1)&&true))then
            bif y42.1.2.1==y43.1.2.1 then
             bif y45.1.2.1==3 then
              (sparselaw37_awake m).bind fun y46=>
              some (y46.1,((),(),(),(),(),(),()))
             else
              some (false,((),(),(),(),(),(),()))
            else
             some (false,((),(),(),(),(),(),()))
           else
            some (false,((),(),(),(),(),(),()))
          else
           bif ((y42.1.1.1==y43.1.1.1)&&((y42.1.1.2.1==y43.1.1.2.1)&&true))then
            bif y42.1.2.1==y43.1.2.1 then
             bif y45.1.2.1==y43.1.2.1 then
              (sparselaw37_awake m).bind fun y47=>
              some (y47.1,((),(),(),(),(),(),()))
             else
              some (false,((),(),(),(),(),(),()))
            else
             some (false,((),(),(),(),(),(),()))
           else
            some (false,((),(),(),(),(),(),()))
  else
   bif decide ((d.length:Int)>0)then
        bif (Int.tmod at0 2)==0 then
         (g9 m at0 (d.length:Int)).bind fun y6=>
         if(0:Int)<=y6.1/\y6.1<(d.length:Int)then
         (g10 m (d.set (0+y6.1.toNat) x) E x).bind fun y40=>
         (g11 m (d.set (0+y6.1.toNat) x) E x).bind fun y41=>
         bif y40.1.1 !=y41.1.1 then
          some (false,((),(),(),(),(),(),()))
         else
          bif y40.1.2.1 !=y41.1.2.1 then
           some (false,((),(),(),(),(),(),()))
          else
           (g18 m (d.set (0+y6.1.toNat) x) E).bind fun y42=>
           (g19 m (d.set (0+y6.1.toNat) x) E).bind fun y43=>
           (g9 m k 3).bind fun y44=>
           (g16 m (d.set (0+y6.1.toNat) x) E (wI ((-1)-y44.1))).bind fun y45=>
           bif y43.1.2.1==0 then
            bif ((y42.1.1.1==y43.1.1.1)&&((y42.1.1.2.1==y43.1.1.2.1)&&true))then
             bif y42.1.2.1==y43.1.2.1 then
              bif y45.1.2.1==3 then
               (sparselaw37_awake m).bind fun y46=>
               some (y46.1,((),(),(),(),(),(),()))
              else
               some (false,((),(),(),(),(),(),()))
             else
              some (false,((),(),(),(),(),(),()))
            else
             some (false,((),(),(),(),(),(),()))
           else
            bif ((y42.1.1.1==y43.1.1.1)&&((y42.1.1.2.1==y43.1.1.2.1)&&true))then
             bif y42.1.2.1==y43.1.2.1 then
              bif y45.1.2.1==y43.1.2.1 then
               (sparselaw37_awake m).bind fun y47=>
               some (y47.1,((),(),(),(),(),(),()))
              else
               some (false,((),(),(),(),(),(),()))
             else
              some (false,((),(),(),(),(),(),()))
            else
             some (false,((),(),(),(),(),(),()))
         else none
        else
         (g10 m d E x).bind fun y40=>
         (g11 m d E x).bind fun y41=>
         bif y40.1.1 !=y41.1.1 then
          some (false,((),(),(),(),(),(),()))
         else
          bif y40.1.2.1 !=y41.1.2.1 then
           some (false,((),(),(),(),(),(),()))
          else
           (g18 m d E).bind fun y42=>
           (g19 m d E).bind fun y43=>
           (g9 m k 3).bind fun y44=>
           (g16 m d E (wI ((-1)-y44.1))).bind fun y45=>
           bif y43.1.2.1==0 then
            bif ((y42.1.1.1==y43.1.1.1)&&((y42.1.1.2.1==y43.1.1.2.1)&&true))then
             bif y42.1.2.1==y43.1.2.1 then
              bif y45.1.2.1==3 then
               (sparselaw37_awake m).bind fun y46=>
               some (y46.1,((),(),(),(),(),(),()))
              else
               some (false,((),(),(),(),(),(),()))
             else
              some (false,((),(),(),(),(),(),()))
            else
             some (false,((),(),(),(),(),(),()))
           else
            bif ((y42.1.1.1==y43.1.1.1)&&((y42.1.1.2.1==y43.1.1.2.1)&&true))then
             bif y42.1.2.1==y43.1.2.1 then
              bif y45.1.2.1==y43.1.2.1 then
               (sparselaw37_awake m).bind fun y47=>
               some (y47.1,((),(),(),(),(),(),()))
              else
               some (false,((),(),(),(),(),(),()))
             else
              some (false,((),(),(),(),(),(),()))
            else
             some (false,((),(),(),(),(),(),()))
       else
        (g10 m d E x).bind fun y40=>
        (g11 m d E x).bind fun y41=>
        bif y40.1.1 !=y41.1.1 then
         some (false,((),(),(),(),(),(),()))
        else
         bif y40.1.2.1 !=y41.1.2.1 then
          some (false,((),(),(),(),(),(),()))
         else
          (g18 m d E).bind fun y42=>
          (g19 m d E).bind fun y43=>
          (g9 m k 3).bind fun y44=>
          (g16 m d E (wI ((-1)-y44.1))).bind fun y45=>
          bif y43.1.2.1==0 then
           bif ((y42.1.1.1==y43.1.1.1)&&((y42.1.1.2.1==y43.1.1.2.1)&&true))then
            bif y42.1.2.1==y43.1.2.1 then
             bif y45.1.2.1==3 then
              (sparselaw37_awake m).bind fun y46=>
              some (y46.1,((),(),(),(),(),(),()))
             else
              some (false,((),(),(),(),(),(),()))
            else
             some (false,((),(),(),(),(),(),()))
           else
            some (false,((),(),(),(),(),(),()))
          else
           bif ((y42.1.1.1==y43.1.1.1)&&((y42.1.1.2.1==y43.1.1.2.1)&&true))then
            bif y42.1.2.1==y43.1.2.1 then
             bif y45.1.2.1==y43.1.2.1 then
              (sparselaw37_awake m).bind fun y47=>
              some (y47.1,((),(),(),(),(),(),()))
             else
              some (false,((),(),(),(),(),(),()))
            else
             some (false,((),(),(),(),(),(),()))
           else
            some (false,((),(),(),(),(),(),()))
  )=some (true,(),(),(),(),(),(),()):=by
  intro E h2 h4;rw[bQ,bQ];by_cases c:5<d.length
  . rw[iP O];by_cases c2:d.length<=16
    . rw[iP O,iP O,iP (by split<;>omega)]
      exact two (d.take 5) (E.take _) (qsw d2.U 5) (qsw h2 _) (by rw[List.length_take];omega) (by rw[List.length_take];omega) (.inl (by rw[List.length_take];omega))
    . rw[iN' O];exact two d E d2.U h2 O h4 (.inr O)
  . rw[iN' O];exact two d E d2.U h2 O h4 (.inl O)
 cases decide (Int.tmod n 3>0)
 . exact cut e e2.U O
 . have w:(if 0>(wI ((d.length:Int)-1))then 0 else(wI ((d.length:Int)-1)))=((d.length-1:Nat):Int):=by
    rw[wQ,wi O O];split<;>omega
   obtain⟨e',ee',g1,g2⟩:=qa6 hm hl (at0:=20) (n:=d.length-1) O O 0;rw[cond_true,w,show g21 m raw 20 ((d.length-1:Nat):Int) 0=_ from ee',bS]
   exact cut e' g2.U O
end Go.Vs.F
