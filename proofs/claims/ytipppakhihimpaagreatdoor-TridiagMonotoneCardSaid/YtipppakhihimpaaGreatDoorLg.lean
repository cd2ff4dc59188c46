/-Matrices of dyads at one exponent become matrices of integers:program and document agree. The counts of a tridiagonal matrix:program and document agree. Checks and counts of tridiagonal matrices:program and document agree. The numbers that the statements make. The laws TridiagCounts and TridiagKth. Keys of floats. The law TridiagKth:program and document search the same eigenvalue. Counts are monotone,and do not see the signs beside the diagonal. The law TridiagMonotone. -/
import Derived.Test.YtipppakhihimpaaGreatDoorLf
import Derived.KernelRfl
set_option linter.unusedVariables false
set_option linter.unusedSimpArgs false
set_option linter.unusedSectionVars false
set_option maxRecDepth 100000
namespace Go.Vs.F
abbrev DyL:=Bool×(Bool×LI)×Int
def dE (z:Int):DyL:=((mkD z (-1074)).1,((mkD z (-1074)).2.1,(mkD z (-1074)).2.2.1),(mkD z (-1074)).2.2.2.1)
def rowD (n:Nat) (f:Nat->Int):List DyL:=mr n fun j=>dE (f j)
def matD (n:Nat) (D:Nat->Nat->Int):List (List DyL):=mr n fun i=>rowD n (D i)
theorem Yl {n:Nat} {D:Nat->Nat->Int}:(matD n D).length=n:=Qa
theorem Xq {n:Nat} {f:Nat->Int}:(rowD n f).length=n:=Qa
theorem q0h {n i:Nat} {D:Nat->Nat->Int} (h:i<n):(matD n D).getD i []=rowD n (D i):=Qq h
theorem q44 {n j:Nat} {f:Nat->Int} (h:j<n):(rowD n f).getD j (false,((false,[]),0))=dE (f j):=Qq h
theorem Zy {z e:Int} (h:blen z.natAbs<=10000) (h1: -1074<=e) (h2:e<=0):OkD z e:=Yk.2 (.inr ⟨O,O⟩)
theorem ex_mk {z e:Int} (h:OkD z e) (hz:z≠0):(mkD z e).2.2.2.1=e+(tz z.natAbs:Int):=by
 rcases Yk.1 h with h|⟨h1,h2⟩
 . exact absurd h hz
 . unfold mkD;rw[iN' hz,iN' O]
def sm1 (l z:Int):Int:=if z=0 then l else if-1074+(tz z.natAbs:Int)<l then-1074+(tz z.natAbs:Int)else l
def mnR (f:Nat->Int):Nat->Int->Int
 |0,l=>l
 |k+1,l=>sm1 (mnR f k l) (f k)
def mnM (n:Nat) (D:Nat->Nat->Int):Nat->Int
 |0=>0
 |i+1=>mnR (D i) n (mnM n D i)
theorem qkj {l z:Int}:sm1 l z<=l:=by
 unfold sm1
 repeat' split
 all_goals omega
theorem qo0 {l z:Int} (h: -1074<=l): -1074<=sm1 l z:=by
 unfold sm1
 repeat' split
 all_goals omega
theorem sm1_z {l z:Int} (h:z≠0):sm1 l z<= -1074+(tz z.natAbs:Int):=by unfold sm1;rw[iN' h];split<;>omega
theorem qft {f:Nat->Int}: ∀{k:Nat} {l:Int},mnR f k l<=l
 |0,_=>Int.le_refl _
 |k+1,l=>Int.le_trans qkj (qft (k:=k))
theorem qkz {f:Nat->Int}: ∀{k:Nat} {l:Int},-1074<=l-> -1074<=mnR f k l
 |0,_,h=>h
 |k+1,l,h=>qo0 (qkz (k:=k) h)
theorem mnR_z {f:Nat->Int}: ∀{k:Nat} {l:Int} {j:Nat},j<k->f j≠0->mnR f k l<= -1074+(tz (f j).natAbs:Int)
 |0,_,_,h,_=>absurd h (Nat.not_lt_zero _)
 |k+1,l,j,h,hz=>by
  by_cases c:j=k
  . subst c;exact sm1_z hz
  . exact Int.le_trans qkj (mnR_z (k:=k) O hz)
theorem qkm {n:Nat} {D:Nat->Nat->Int}: ∀{i:Nat},mnM n D i<=0
 |0=>Int.le_refl _
 |i+1=>Int.le_trans qft (qkm (i:=i))
theorem qdu {n:Nat} {D:Nat->Nat->Int}: ∀{i:Nat},-1074<=mnM n D i
 |0=>by show(-1074:Int)<=0;omega
 |i+1=>qkz (qdu (i:=i))
theorem mnM_z {n:Nat} {D:Nat->Nat->Int}: ∀{k i j:Nat},i<k->j<n->D i j≠0->mnM n D k<= -1074+(tz (D i j).natAbs:Int)
 |0,_,_,h,_,_=>absurd h (Nat.not_lt_zero _)
 |k+1,i,j,h,hj,hz=>by
  by_cases c:i=k
  . subst c;exact mnR_z hj hz
  . exact Int.le_trans qft (mnM_z (k:=k) O hj hz)
def kM (n:Nat) (D:Nat->Nat->Int):Nat:=(mnM n D n+1074).toNat
section
variable {m:Nat} (hm:5000000000<=m)
include hm
theorem pSign {z:Int} (h:blen z.natAbs<=10000):g78 m (mkD z (-1074)).1 (mkD z (-1074)).2.1 (mkD z (-1074)).2.2.1 (mkD z (-1074)).2.2.2.1=some (sgn z,(),()):=qiq O (Zy h O O)
theorem ql3 {z:Int} (h:blen z.natAbs<=10000):g108 m (mkD z (-1074)).1 (mkD z (-1074)).2.1 (mkD z (-1074)).2.2.1 (mkD z (-1074)).2.2.2.1=some (sgn z,(),()):=by
 have ok:(mkD z (-1074)).1=false:=Zy h O O;rw[g108,J9 O,bS,qff O ok];dsimp only;rw[ok,cond_false,bS]
theorem qny {z L:Int} (h:blen z.natAbs<=10000) (h1: -1074<=L) (h0:L<=0):g98 m (mkD z (-1074)).1 (mkD z (-1074)).2.1 (mkD z (-1074)).2.2.1 (mkD z (-1074)).2.2.2.1 (wI (0-L))=some (mkD z (-1074-L),(),(),()):=by
 have w:wI (0-L)= -L:=by rw[wQ,wi O O];omega
 rw[qh3 O,iP (Zy h O O),w];have:J5 (-L)= -L:=by unfold J5;omega
 rw[this,Int.sub_eq_add_neg]
theorem q7a {w f z c:Int} {k:Nat} (e:EqD w f z c) (h:c+(k:Int)<=f):w*2^(f-(c+(k:Int))).toNat=z/2^k:=by
 have h1:=e.low (c:=c) O O;rw[qcc]at h1;unfold sc at h1;have h2:(f-c).toNat=(f-(c+(k:Int))).toNat+k:=O;rw[h2,Int.pow_add,<-Int.mul_assoc]at h1;rw[<-h1,Int.mul_ediv_cancel];have:=Zk k;omega
theorem qo8 {z L:Int} (h:blen z.natAbs<=10000) (h1: -1074<=L) (h0:L<=0) (hz:z≠0->L<= -1074+(tz z.natAbs:Int)):
 g97 m (mkD z (-1074-L)).1 (mkD z (-1074-L)).2.1 (mkD z (-1074-L)).2.2.1 (mkD z (-1074-L)).2.2.2.1=some ((zB (z/2^(L+1074).toNat),true,()),(),()):=by
 have hok:OkD z (-1074-L):=Zy h O O;obtain⟨w,f,k,k1,k2,k3⟩:=Yv hok;rw[g97,qbi O hok,bS];dsimp only;rw[Bool.not_true,cond_false,k1,k2,k3];by_cases c:z=0
 . subst c;have hf:f=0:=by rw[<-k3];rfl
   have hw:w=0:=by
    have:=k.eq.low (c:=min f (-1074-L)) O O;unfold sc at this;rw[Int.zero_mul]at this;rcases Int.mul_eq_zero.1 this with h|h
    . exact h
    . have:=Zk (f-min f (-1074-L)).toNat;omega
   subst hf hw;rw[show(0:Int)=((0:Nat):Int)from rfl,q49 O (Lm_zB _) (by rw[zB_2];simp[Qb]) O,bS,zv_zB]
   rw[nZ,Int.zero_mul,Int.zero_ediv]
 . have hf:f= -1074-L+(tz z.natAbs:Int):=by rw[<-k3];exact ex_mk hok c
   have hz':=hz c;have htz:=q0k (n:=z.natAbs);have n1:=k.len;have hl:=q0w n1;obtain⟨fn,rfl⟩: ∃fn:Nat,f=(fn:Int):=⟨f.toNat,O⟩;rw[q49 O (Lm_zB _) O O,bS,zv_zB];have e:=q7a (m:=m) hm k.eq (k:=(L+1074).toNat) O;rw[show((fn:Int)-(-1074-L+(((L+1074).toNat:Nat):Int))).toNat=fn by omega]at e
   rw[e]
theorem qma {z L:Int} (h:blen z.natAbs<=10000) (h1: -1074<=L) (hc:z≠0) (hz:L<= -1074+(tz z.natAbs:Int)):
 g109 m (mkD z (-1074)).2.1 (mkD z (-1074)).2.2.1 (wI ((mkD z (-1074)).2.2.2.1-L))=some (zB (z/2^(L+1074).toNat),(),(),()):=by
 have hok:OkD z (-1074):=Zy h O O;obtain⟨w,f,k,k1,k2,k3⟩:=Yv hok;have hf:f= -1074+(tz z.natAbs:Int):=by rw[<-k3];exact ex_mk hok hc
 have htz:=q0k (n:=z.natAbs);have n1:=k.len;rw[k1,k2,k3,wQ,wi O O,q1m O O O O];have e:=q7a (m:=m) hm k.eq (k:=(L+1074).toNat) O;rw[<-e];congr 6;omega
variable {n:Nat} (hn:n<=1000) {D:Nat->Nat->Int} (hD: ∀i j,i<n->j<n->blen (D i j).natAbs<=10000)
include hn hD
theorem qha {z:Int} {α:Type} {a b:α}:(bif sgn z !=0 then a else b)=if z=0 then b else a:=by
 rw[bif_ne];by_cases c:z=0
 . subst c;rw[iP rfl,iP (by rfl)]
 . rw[iN' c,iN' (fun h=>c (Jc.1 h))]
theorem qgq {l z:Int} (h:blen z.natAbs<=10000) (hz:z≠0):(if(mkD z (-1074)).2.2.2.1<l then(mkD z (-1074)).2.2.2.1 else l)=sm1 l z:=by
 rw[ex_mk (Zy h O O) hz,sm1,iN' hz]
theorem qlq (R:List (List DyL)) (t15:List (List DyL)) (t16 t17:Int) {i:Nat} (hi:i<n) (l:Int): ∀(N j:Nat),n-j<N->j<=n->
 g57L1 m N R (mnR (D i) j l) t15 t16 t17 (rowD n (D i)) (n:Int) (j:Int)=some (.inl (R,mnR (D i) n l,t15,t16,t17,())):=by
 intro N;induction N with
 |zero=>intro j h;omega
 |succ N ih=>
  intro j h hj;rw[g57L1,Xq,bQ];by_cases c:j<n
  . have hz:=hD i j hi c;rw[iP O,iP O];simp only[tN,q44 c];rw[show g77 m (dE (D i j)).1 (dE (D i j)).2.1.1 (dE (D i j)).2.1.2 (dE (D i j)).2.2=_ from qij O,bS,pSign hm hz,bS]
    dsimp only;rw[wQ,wsucc O,qha hm hn hD];by_cases z:D i j=0
    . rw[iP z];have:=ih (j+1) O O;rw[mnR,sm1,iP z]at this;exact this
    . rw[iN' z,qgq hm hn hD hz z];exact ih (j+1) O O
  . have:j=n:=O;subst this;rw[iN' O]
theorem qna (R:List (List DyL)): ∀(N i:Nat),n-i<N->i<=n->
 g57L0 m N R (mnM n D i) (matD n D) (n:Int) (i:Int)=some (.inl (R,mnM n D n,())):=by
 intro N;induction N with
 |zero=>intro j h;omega
 |succ N ih=>
  intro i h hi;rw[g57L0,Yl,bQ];by_cases c:i<n
  . rw[iP O,iP O];simp only[tN,q0h c,Xq];have e:=qlq hm hn hD R (matD n D) (n:Int) (i:Int) c (mnM n D i) m 0 O O;rw[nZ]at e;rw[show g57L1 m m R (mnM n D i) (matD n D) (n:Int) (i:Int) (rowD n (D i)) (n:Int) 0=_ from e,bS]
    dsimp only;rw[wQ,wsucc O];exact ih (i+1) O O
  . have:i=n:=O;subst this;rw[iN' O]
theorem qnd {i:Nat} (hi:i<n) (l:Int): ∀(N j:Nat),n-j<N->j<=n->
 g65L1 m N (matD n D) (mnR (D i) j l) (i:Int) (j:Int)=some (.inl (matD n D,mnR (D i) n l,(i:Int),())):=by
 intro N;induction N with
 |zero=>intro j h;omega
 |succ N ih=>
  intro j h hj;rw[g65L1,Yl,iP O,bQ];simp only[tN,q0h hi,Xq];by_cases c:j<n
  . have hz:=hD i j hi c;rw[iP O,iP O,iP O];simp only[q44 c];rw[show g108 m (dE (D i j)).1 (dE (D i j)).2.1.1 (dE (D i j)).2.1.2 (dE (D i j)).2.2=_ from ql3 hm hz,bS]
    dsimp only;rw[wQ,wsucc O,qha hm hn hD];by_cases z:D i j=0
    . rw[iP z];have:=ih (j+1) O O;rw[mnR,sm1,iP z]at this;exact this
    . rw[iN' z,iP O,iP O,show g83 m (dE (D i j)).1 (dE (D i j)).2.1.1 (dE (D i j)).2.1.2 (dE (D i j)).2.2=_ from J9 O,bS,qgq hm hn hD hz z]
      exact ih (j+1) O O
  . have:j=n:=O;subst this;rw[iN' O]
theorem qms: ∀(N i:Nat),n-i<N->i<=n->
 g65L0 m N (matD n D) (mnM n D i) (i:Int)=some (.inl (matD n D,mnM n D n,())):=by
 intro N;induction N with
 |zero=>intro j h;omega
 |succ N ih=>
  intro i h hi;rw[g65L0,Yl,bQ];by_cases c:i<n
  . have e:=qnd hm hn hD c (mnM n D i) m 0 O O;rw[nZ]at e;rw[iP O,show g65L1 m m (matD n D) (mnM n D i) (i:Int) 0=_ from e,bS]
    dsimp only;rw[wQ,wsucc O];exact ih (i+1) O O
  . have:i=n:=O;subst this;rw[iN' O]
def qD (n:Nat) (D:Nat->Nat->Int):Nat->Nat->Int:=fun i j=>D i j/2^kM n D
theorem qn6 (t41:List (List DyL)) (t42 t43:Int) {i:Nat} (hi:i<n) (out:List (List Bg)) (ho:out.length=n): ∀(N j:Nat) (o:List Bg),n-j<N->j<=n->o=(mr j fun j=>BZ (qD n D i j))->
 g57L3 m N (mnM n D n) (out.set i o) (i:Int) t41 t42 t43 (rowD n (D i)) (n:Int) (j:Int)=some (.inl (mnM n D n,out.set i (rowB n (qD n D i)),t41,t42,t43,())):=by
 intro N;induction N with
 |zero=>intro j o h;omega
 |succ N ih=>
  intro j o h hj hoe;rw[g57L3,Xq,bQ];by_cases c:j<n
  . have hz:=hD i j hi c;have hL1:=qdu (n:=n) (D:=D) (i:=n);have hL0:=qkm (n:=n) (D:=D) (i:=n);have hLz:D i j≠0->mnM n D n<= -1074+(tz (D i j).natAbs:Int):=fun hne=>mnM_z hi c hne
    have hg:(out.set i o).getD i []=o:=q1l O;have hlen:(out.set i o).length=n:=by rw[List.length_set];exact ho
    have hol:o.length=j:=by rw[hoe];exact Qa
    have hq:zlen (qD n D i j)<=1000000:=by
     have:(qD n D i j).natAbs<=(D i j).natAbs:=by unfold qD;exact Int.natAbs_ediv_le_natAbs _ _
     refine Nat.le_trans (Q7 this) (Nat.le_trans (q08 hz) O)
    rw[iP O,iP O];simp only[tN,q44 c,hg,hlen];rw[show g98 m (dE (D i j)).1 (dE (D i j)).2.1.1 (dE (D i j)).2.1.2 (dE (D i j)).2.2 (wI (0-mnM n D n))=_ from qny hm hz hL1 hL0,bS,qo8 hm hz hL1 hL0 hLz,bS]
    dsimp only;rw[iP O,show g99 m (zB (D i j/2^(mnM n D n+1074).toNat)).1 (zB (D i j/2^(mnM n D n+1074).toNat)).2.1=_ from bNorm O hq,bS,hol,iP (by show j+1<=_;omega),iP O,iP trivial,wQ,wsucc O,List.set_set]
    refine ih (j+1) _ O O ?_;rw[hoe];exact Yw (f:=fun j=>BZ (qD n D i j))
  . have:j=n:=O;subst this;rw[iN' O,hoe];rfl
theorem qmw: ∀(N i:Nat),n-i<N->i<=n->
 g57L2 m N (mnM n D n) (mr n fun k=>if k<i then rowB n (qD n D k)else []) (matD n D) (n:Int) (i:Int)=some (.inl (matB n (qD n D),())):=by
 intro N;induction N with
 |zero=>intro j h;omega
 |succ N ih=>
  intro i h hi;rw[g57L2,Yl,bQ];by_cases c:i<n
  . have e:=qn6 hm hn hD (matD n D) (n:Int) (i:Int) c (mr n fun k=>if k<i then rowB n (qD n D k)else []) Qa m 0 [] O O Zr.symm
    have e0:(mr n fun k=>if k<i then rowB n (qD n D k)else []).set i []=mr n fun k=>if k<i then rowB n (qD n D k)else []:=by
     rw[Jp];refine Q9 fun k hk=> ?_
     by_cases d:k=i
     . rw[iP d,iN' O]
     . rw[iN' d]
    have e1:(mr n fun k=>if k<i then rowB n (qD n D k)else []).set i (rowB n (qD n D i))=mr n fun k=>if k<i+1 then rowB n (qD n D k)else []:=by
     rw[Jp];refine Q9 fun k hk=> ?_
     by_cases d:k=i
     . subst d;rw[iP rfl,iP O]
     . rw[iN' d];by_cases d2:k<i
       . rw[iP d2,iP O]
       . rw[iN' d2,iN' O]
    rw[e0,e1,nZ]at e;rw[iP O,iP O];simp only[tN,q0h c,Xq];rw[e,bS];dsimp only;rw[wQ,wsucc O];exact ih (i+1) O O
  . have:i=n:=O;subst this;rw[iN' O];congr 3;exact Q9 fun k hk=>iP hk
theorem qmy:g57 m (matD n D)=some (matB n (qD n D),(),()):=by
 have e0:=qna hm hn hD (matD n D) m 0 O O;rw[nZ]at e0;have e2:=qmw hm hn hD m 0 O O;rw[show(mr n fun k=>if k<0 then rowB n (qD n D k)else [])=List.replicate n [] by rw[q6x];exact Q9 fun k _=>iN' O,nZ]at e2
 rw[g57,Yl,show g57L0 m m (matD n D) 0 (matD n D) (n:Int) 0=_ from e0,bS]
 dsimp only;rw[Yl,iP O,tN,e2,bS]
theorem qn9 (out:List (List Bg)) {i:Nat} (hi:i<n): ∀(N j:Nat),n-j<N->j<=n->
 g65L3 m N (matD n D) (mnM n D n) out (i:Int) (mr j fun j=>BZ (qD n D i j)) (j:Int)=some (.inl (matD n D,mnM n D n,out,(i:Int),rowB n (qD n D i),())):=by
 intro N;induction N with
 |zero=>intro j h;omega
 |succ N ih=>
  intro j h hj;rw[g65L3,Yl,iP O,bQ];simp only[tN,q0h hi,Xq];by_cases c:j<n
  . have hz:=hD i j hi c;have hL1:=qdu (n:=n) (D:=D) (i:=n);have hol:(mr j fun j=>BZ (qD n D i j)).length=j:=Qa
    rw[iP O,iP O,iP O];simp only[q44 c];rw[show g83 m (dE (D i j)).1 (dE (D i j)).2.1.1 (dE (D i j)).2.1.2 (dE (D i j)).2.2=_ from J9 O,bS,ql3 hm hz,bS]
    dsimp only;rw[wQ,wQ,wsucc O,qha hm hn hD];by_cases z:D i j=0
    . rw[iP z,hol,iP (by show j+1<=_;omega)]
      have e1:(mr j fun j=>BZ (qD n D i j))++[(false,[])]=mr (j+1) fun j=>BZ (qD n D i j):=by
       rw[<-Yw];have:qD n D i j=0:=by unfold qD;rw[z,Int.zero_ediv]
       rw[this,q52]
      rw[e1];exact ih (j+1) O O
    . rw[iN' z,show g109 m (mkD (D i j) (-1074)).2.1 (mkD (D i j) (-1074)).2.2.1 (IntKind.wrap .i64 ((mkD (D i j) (-1074)).2.2.2.1-mnM n D n))=_ from qma hm hz hL1 z (mnM_z hi c z),bS,hol,iP (by show j+1<=_;omega)]
      have e1:(mr j fun j=>BZ (qD n D i j))++[((zB (D i j/2^(mnM n D n+1074).toNat)).1,(zB (D i j/2^(mnM n D n+1074).toNat)).2.1)]=mr (j+1) fun j=>BZ (qD n D i j):=Yw (f:=fun j=>BZ (qD n D i j))
      rw[e1];exact ih (j+1) O O
  . have:j=n:=O;subst this;rw[iN' O];rfl
theorem qmr: ∀(N i:Nat),n-i<N->i<=n->
 g65L2 m N (matD n D) (mnM n D n) (mr i fun i=>rowB n (qD n D i)) (i:Int)=some (.inl (matB n (qD n D),())):=by
 intro N;induction N with
 |zero=>intro j h;omega
 |succ N ih=>
  intro i h hi;have hol:(mr i fun i=>rowB n (qD n D i)).length=i:=Qa
  rw[g65L2,Yl,bQ];by_cases c:i<n
  . have e:=qn9 hm hn hD (mr i fun i=>rowB n (qD n D i)) c m 0 O O
    rw[Zr,nZ]at e;rw[iP O,e,bS];dsimp only;rw[hol,iP (by show 0<1/\i+1<=_;omega),wQ,wsucc O]
    have e1:(mr i fun i=>rowB n (qD n D i))++[rowB n (qD n D i)]=mr (i+1) fun i=>rowB n (qD n D i):=Yw (f:=fun i=>rowB n (qD n D i))
    rw[e1];exact ih (i+1) O O
  . have:i=n:=O;subst this;rw[iN' O];rfl
theorem qls:g65 m (matD n D)=some (matB n (qD n D),(),()):=by
 have e0:=qms hm hn hD m 0 O O;rw[nZ]at e0;have e2:=qmr hm hn hD m 0 O O;rw[Zr,nZ]at e2;rw[g65,show g65L0 m m (matD n D) 0 0=_ from e0,bS]
 dsimp only;rw[e2,bS]
end
end Go.Vs.F
set_option maxRecDepth 100000
namespace Go.Vs.F
def valF (f:Int):Int:=sc (ofZ f) (ofE f) (-1074)
theorem q2y {f:Int} (h:FinF f):ofD f=mkD (valF f) (-1074):=by
 have he:=q6d (f:=f);unfold ofD valF;rw[iP h,qdj O]
theorem val_ok {f:Int} (h:FinF f):OkD (valF f) (-1074):=by
 have he:=q6d (f:=f);have:=qnp h;unfold OkD valF at*
 rwa [qdj O]
theorem qdk {m:Nat} (hm:3000000<m) {a b:Int} (ha:FinF a) (hb:FinF b):
 g44 m (ofD a).1 (ofD a).2.1 (ofD a).2.2.1 (ofD a).2.2.2.1 (ofD b).1 (ofD b).2.1 (ofD b).2.2.1 (ofD b).2.2.2.1=some (mkD (valF a-valF b) (-1074),(),(),())/\
 g27 m (ofD a).1 (ofD a).2.1 (ofD a).2.2.1 (ofD a).2.2.2.1 (ofD b).1 (ofD b).2.1 (ofD b).2.2.1 (ofD b).2.2.2.1=some (mkD (valF a-valF b) (-1074),(),(),()):=by
 rw[q2y ha,q2y hb,ql8 hm,qjq hm,iP ⟨val_ok ha,val_ok hb⟩];exact⟨rfl,rfl⟩
theorem q8a {f:Int} (h:FinF f):blen (valF f).natAbs<=2098:=by
 have h1:=q7w f;have h2:=qmp h;have h3:=(q6d (f:=f)).1;unfold valF sc;refine Nat.le_trans qa4 ?_;omega
theorem qj0 {a b:Int} {k:Nat} (ha:blen a.natAbs<=k) (hb:blen b.natAbs<=k):blen (a-b).natAbs<=k+1:=by
 rw[Int.sub_eq_add_neg];exact q55 ha (by rw[Int.natAbs_neg];exact hb)
def triA (a b:Nat->Int):Nat->Nat->Int:=fun i j=>if i=j then a i else if j=i+1 then b i else if i=j+1 then b j else 0
def triKA (a b:Nat->Int) (k:Nat):Nat->Nat->Int:=fun i j=>if j=i then a i else if j=i+1 then(if i<k then b i else 0)else if i=j+1 then(if j<k then b j else 0)else 0
theorem qis (a b:Nat->Int) (i j:Nat):triA a b i j=triA a b j i:=by unfold triA;grind
theorem qfa (a b:Nat->Int) (i j:Nat):triKA a b 0 i j=if j=i then a i else 0:=by unfold triKA;grind
theorem qee (a b:Nat->Int) (n i j:Nat) (hi:i<n) (hj:j<n):triKA a b (n-1) i j=triA a b i j:=by unfold triKA triA;grind
theorem qex (a b:Nat->Int) (k i j:Nat):(if i=k+1 then(if j=k then b k else triKA a b k (k+1) j)else if i=k then(if j=k+1 then b k else triKA a b k k j)else triKA a b k i j)=triKA a b (k+1) i j:=by unfold triKA;grind
theorem qhq (a b:Nat->Int) (j:Nat) (i:Nat) (hi:i=0):(if j=i+1 then b i else if j=i then a i else 0)=triA a b i j:=by unfold triA;grind
theorem qe5 (a b:Nat->Int) (n i j:Nat) (hi:i=0) (hn:n=1) (hj:j<n):(if j=i then a i else 0)=triA a b i j:=by unfold triA;grind
theorem qhp (a b:Nat->Int) (j:Nat) (i:Nat) (hi:i≠0):(if j=i+1 then b i else if j=i-1 then b (i-1)else if j=i then a i else 0)=triA a b i j:=by unfold triA;grind
theorem qhb (a b:Nat->Int) (n i j:Nat) (hi:i≠0) (hn:n=i+1) (hj:j<n):(if j=i-1 then b (i-1)else if j=i then a i else 0)=triA a b i j:=by unfold triA;grind
def dgF (d:LI) (x:Int) (i:Nat):Int:=valF (d.getD i 0)-valF x
def ofF (e:LI) (i:Nat):Int:=valF (e.getD i 0)
def triD (d e:LI) (x:Int):Nat->Nat->Int:=triA (dgF d x) (ofF e)
theorem qj9 (d e:LI) (x:Int) (i j:Nat):triD d e x i j=triD d e x j i:=qis ..
def FnL (l:LI):Prop:= ∀i,i<l.length->U64 (l.getD i 0)/\FinF (l.getD i 0)
theorem qil {d e:LI} {x:Int} (hd:FnL d) (he:FnL e) (hle:e.length=d.length-1) (hx:FinF x) {i j:Nat} (hi:i<d.length) (hj:j<d.length):blen (triD d e x i j).natAbs<=2099:=by
 unfold triD triA;by_cases c:i=j
 . rw[iP c];exact qj0 (q8a (hd i hi).2) (q8a hx)
 . rw[iN' c];by_cases c1:j=i+1
   . rw[iP c1];exact Nat.le_trans (q8a (he i O).2) (by decide)
   . rw[iN' c1];by_cases c2:i=j+1
     . rw[iP c2];exact Nat.le_trans (q8a (he j O).2) (by decide)
     . rw[iN' c2];decide
theorem qjw {n j:Nat} {f:Nat->Int} {v:Int}:(rowD n f).set j (dE v)=rowD n (fun k=>if k=j then v else f k):=by
 unfold rowD;rw[Jp];refine Q9 fun k hk=> ?_
 show(if k=j then dE v else dE (f k))=dE (if k=j then v else f k)
 by_cases c:k=j
 . rw[iP c,iP c]
 . rw[iN' c,iN' c]
theorem qae {n:Nat}:List.replicate n ((false,((false,[]),0)):DyL)=rowD n (fun _=>0):=q6x
theorem q4k {n i:Nat} {D:Nat->Nat->Int} {f:Nat->Int}:(matD n D).set i (rowD n f)=matD n (fun k=>if k=i then f else D k):=by
 unfold matD;rw[Jp];refine Q9 fun k hk=> ?_
 show(if k=i then rowD n f else rowD n (D k))=rowD n (if k=i then f else D k)
 by_cases c:k=i
 . rw[iP c,iP c]
 . rw[iN' c,iN' c]
theorem Z9 {n j:Nat} {f:Nat->Int} {v:Int}:(rowD n f).set j ((mkD v (-1074)).1,((mkD v (-1074)).2.1,(mkD v (-1074)).2.2.1),(mkD v (-1074)).2.2.2.1)=rowD n (fun k=>if k=j then v else f k):=qjw
section
variable {m:Nat} (hm:5000000000<=m) {d e:LI} {x:Int} (hd:FnL d) (he:FnL e) (hle:e.length=d.length-1) (hl:d.length<=1000) (hxU:U64 x) (hx:FinF x)
include hm hd he hle hl hxU hx
theorem qe3: ∀(N i:Nat),d.length-i<N->i<=d.length->
 g58L0 m N d e x (mr d.length fun k=>if k<i then rowD d.length (fun j=>if j=k then dgF d x k else 0)else []) (d.length:Int) (i:Int)=
  some (.inl (e,matD d.length (fun k j=>if j=k then dgF d x k else 0),())):=by
 intro N;induction N with
 |zero=>intro j h;omega
 |succ N ih=>
  intro i h hi;rw[g58L0,bQ];by_cases c:i<d.length
  . obtain⟨u1,f1⟩:=hd i c;have hlen:(mr d.length fun k=>if k<i then rowD d.length (fun j=>if j=k then dgF d x k else 0)else []).length=d.length:=Qa
    rw[iP O,iP O,hlen,iP O];simp only[tN,List.length_set,hlen];rw[iP O,iP O,Of_eq O u1,bS,Of_eq O hxU,bS,(qdk O f1 hx).1,bS,q1l (by rw[hlen];exact c),List.length_replicate,iP O,List.set_set,qae]
    dsimp only;rw[Z9]
    have e2:(mr d.length fun k=>if k<i then rowD d.length (fun j=>if j=k then dgF d x k else 0)else []).set i (rowD d.length (fun j=>if j=i then valF (d.getD i 0)-valF x else 0))=mr d.length fun k=>if k<i+1 then rowD d.length (fun j=>if j=k then dgF d x k else 0)else []:=by
     rw[Jp];refine Q9 fun k hk=> ?_
     by_cases c1:k=i
     . subst c1;rw[iP rfl,iP O];rfl
     . rw[iN' c1];by_cases c2:k<i
       . rw[iP c2,iP O]
       . rw[iN' c2,iN' O]
    rw[e2,wQ,wsucc O];exact ih (i+1) O O
  . have:i=d.length:=O;subst this;rw[iN' O];congr 4;exact Q9 fun k hk=>iP hk
theorem qen: ∀(N k:Nat),e.length-k<N->k<=e.length->g58L1 m N (matD d.length (triKA (dgF d x) (ofF e) k)) e (e.length:Int) (k:Int)=some (.inl (matD d.length (triD d e x),())):=by
 intro N;induction N with
 |zero=>intro j h;omega
 |succ N ih=>
  intro k h hk;rw[g58L1,bQ];by_cases c:k<e.length
  . obtain⟨u1,f1⟩:=he k c;have w1:wI ((k:Int)+1)=((k+1:Nat):Int):=wsucc O;rw[iP O,iP O,Yl,w1,iP O,tN,tN,Of_eq O u1,q2y f1,bS,bS];dsimp only;rw[q0h (show k<d.length by omega),Xq,iP O,Z9,q4k,q0h (show k+1<d.length by omega),Xq,iP O,Z9,q4k]
    have e3:matD d.length (fun i=>if i=k+1 then(fun j=>if j=k then valF (e.getD k 0)else(if k+1=k then(fun j=>if j=k+1 then valF (e.getD k 0)else triKA (dgF d x) (ofF e) k k j)else triKA (dgF d x) (ofF e) k (k+1)) j)else(if i=k then(fun j=>if j=k+1 then valF (e.getD k 0)else triKA (dgF d x) (ofF e) k k j)else triKA (dgF d x) (ofF e) k i))=matD d.length (triKA (dgF d x) (ofF e) (k+1)):=by
     unfold matD;refine Q9 fun i hi=> ?_
     unfold rowD;refine Q9 fun j hj=> ?_
     congr 1;rw[<-qex];rw[iN' (show¬k+1=k by omega)]
     show _=if i=k+1 then(if j=k then valF (e.getD k 0)else _)else if i=k then(if j=k+1 then valF (e.getD k 0)else _)else _
     dsimp only;by_cases c1:i=k+1
     . rw[iP c1,iP c1]
     . rw[iN' c1,iN' c1];by_cases c2:i=k
       . rw[iP c2,iP c2]
       . rw[iN' c2,iN' c2]
    rw[e3,iP O];exact ih (k+1) O O
  . have hke:k=d.length-1:=O;rw[iN' O];congr 3;unfold matD;refine Q9 fun i hi=> ?_
    unfold rowD;refine Q9 fun j hj=> ?_
    rw[hke,qee _ _ _ _ _ hi hj];rfl
theorem qej:g58 m d e x=some (matD d.length (triD d e x),(),(),(),()):=by
 have e0:=qe3 hm hd he hle hl hxU hx m 0 O O;rw[show(mr d.length fun k=>if k<0 then rowD d.length (fun j=>if j=k then dgF d x k else 0)else [])=List.replicate d.length [] by rw[q6x];exact Q9 fun k _=>iN' O,nZ]at e0
 have e1:=qen hm hd he hle hl hxU hx m 0 O O
 have e2:matD d.length (triKA (dgF d x) (ofF e) 0)=matD d.length (fun k j=>if j=k then dgF d x k else 0):=by
  unfold matD;refine Q9 fun i hi=> ?_
  unfold rowD;refine Q9 fun j hj=> ?_
  rw[qfa]
 rw[e2,nZ]at e1;rw[g58,iP O,tN,List.length_replicate,e0,bS];dsimp only;rw[e1,bS]
theorem qf8: ∀(N i:Nat),d.length-i<N->i<=d.length->
 g11L0 m N d e x (mr i fun i=>rowD d.length (triD d e x i)) (i:Int)=some (.inl (matD d.length (triD d e x),())):=by
 intro N;induction N with
 |zero=>intro j h;omega
 |succ N ih=>
  intro i h hi;rw[g11L0,bQ];by_cases c:i<d.length
  . obtain⟨u1,f1⟩:=hd i c;have w1:wI ((i:Int)+1)=((i+1:Nat):Int):=wsucc O;have hlen:(mr i fun i=>rowD d.length (triD d e x i)).length=i:=Qa
    have put: ∀f:Nat->Int,(∀j,j<d.length->f j=triD d e x i j)->(if 0<([rowD d.length f]:List (List DyL)).length/\(mr i fun i=>rowD d.length (triD d e x i)).length+([rowD d.length f]:List (List DyL)).length<=1073741824 then
     g11L0 m N d e x ((mr i fun i=>rowD d.length (triD d e x i))++[rowD d.length f]) ((i+1:Nat):Int)else none)=some (.inl (matD d.length (triD d e x),())):=by
     intro f hf;have:rowD d.length f=rowD d.length (triD d e x i):=Q9 fun j hj=>by rw[hf j hj]
     rw[this,hlen,iP (by show 0<1/\i+1<=_;omega),Yw (f:=fun i=>rowD d.length (triD d e x i))]
     exact ih (i+1) O O
    rw[iP O,iP O,iP O,tN,tN,qak O u1,bS,qak O hxU,bS,(qdk O f1 hx).2,bS,List.length_replicate,iP O,Nat.zero_add,qae,w1];dsimp only;rw[Z9,bQ,bQ];by_cases c1:i=0
    . rw[iN' O];by_cases c2:i<e.length
      . obtain⟨u2,f2⟩:=he i c2;rw[iP O,iP O,qak O u2,q2y f2,bS];dsimp only;rw[tN,Nat.zero_add,Z9,Xq,iP O];exact put _ fun j hj=>qhq (dgF d x) (ofF e) j i c1
      . rw[iN' O];exact put _ fun j hj=>qe5 (dgF d x) (ofF e) d.length i j c1 O hj
    . have w2:wI ((i:Int)-1)=((i-1:Nat):Int):=by rw[wQ,wi O O];omega
      obtain⟨u3,f3⟩:=he (i-1) O;rw[iP O,w2,iP O,tN,qak O u3,q2y f3,bS,Xq,iP O,Nat.zero_add];dsimp only;rw[Z9,bQ];by_cases c2:i<e.length
      . obtain⟨u2,f2⟩:=he i c2;rw[iP O,iP O,qak O u2,q2y f2,bS,Xq,iP O,tN,Nat.zero_add];dsimp only;rw[Z9];exact put _ fun j hj=>qhp (dgF d x) (ofF e) j i c1
      . rw[iN' O];exact put _ fun j hj=>qhb (dgF d x) (ofF e) d.length i j c1 O hj
  . have:i=d.length:=O;rw[iN' O,this];rfl
end
end Go.Vs.F
set_option maxRecDepth 100000
namespace Go.Vs.F
def kindN (f:Int):Int:=if fexp f=2047 then(if ffrac f=0 then 2 else 3)else if fexp f=0/\ffrac f=0 then 0 else 1
theorem qg2 {m:Nat} {f:Int} (h:U64 f):g23 m f=some (kindN f,(),())/\g26 m f=some (kindN f,(),()):=by
 have hl:=q36 f;rw[g23,parts_eq h,bS,g26,(q92 h).1,(q92 h).2];simp only[bif_eq,bif_ne];unfold kindN;by_cases c:fexp f=2047
 . by_cases d:ffrac f=0
   . simp[c,d]
   . simp[c,d]
 . by_cases e:fexp f=0
   . by_cases d:ffrac f=0
     . simp[e,d]
     . simp[e,d]
   . simp[c,e]
def UL (l:LI):Prop:= ∀i,i<l.length->U64 (l.getD i 0)
def allF (l:LI):Bool:=l.all fun f=>decide (FinF f)
theorem qpy {l:LI} (h:UL l) (ha:allF l=true):FnL l:=by
 intro i hi;refine⟨h i hi,?_⟩;unfold allF at ha;rw[List.all_eq_true]at ha;have hx:l.getD i 0∈l:=by simp[List.getD,hi]
 simpa using ha _ hx
theorem qa3 {l:LI} {k:Nat} (h:k<l.length):allF (l.drop k)=(decide (FinF (l.getD k 0))&&allF (l.drop (k+1))):=by
 unfold allF;rw[List.drop_eq_getElem_cons h,List.all_cons];simp[List.getD,h]
theorem qi2 {m:Nat} {l:LI} (hU:UL l) (hl:l.length<=1000000): ∀(N k:Nat),l.length-k<N->k<=l.length->
 (allF (l.drop k)=true/\g91L0 m N l (l.length:Int) (k:Int)=some (.inr (.inl ())))\/(allF (l.drop k)=false/\ ∃j:Nat,g91L0 m N l (l.length:Int) (k:Int)=some (.inl ((j:Int),()))):=by
 intro N;induction N with
 |zero=>intro j h;omega
 |succ N ih=>
  intro k h hk;rw[g91L0,bQ];by_cases c:k<l.length
  . rw[iP O,iP O,tN,g52,qb4 (hU k c),bS,bS,qa3 c];dsimp only;by_cases f:FinF (l.getD k 0)
    . rw[decide_eq_true f,Bool.not_true,cond_false,Bool.true_and,wQ,wsucc O];exact ih (k+1) O O
    . rw[decide_eq_false f,Bool.not_false,cond_true,Bool.false_and];exact .inr ⟨rfl,k,rfl⟩
  . rw[iN' O,List.drop_eq_nil_of_le O];exact .inl ⟨rfl,rfl⟩
theorem q95 {m:Nat} (hm:5000000000<=m) {l:LI} (hU:UL l) (hl:l.length<=1000000):g54 m l=some (!allF l,(),(),()):=by
 rw[g54,g91];rcases qi2 (m:=m) hU hl m 0 O O with⟨h,e⟩|⟨h,j,e⟩
 . rw[nZ]at e;rw[List.drop_zero]at h;rw[e,bS,h];rfl
 . rw[nZ]at e;rw[List.drop_zero]at h;rw[e,bS,h,bS];dsimp only;rw[show decide ((j:Int)>=0)=true from decide_eq_true O]
   rfl
theorem qmj {m:Nat} {l:LI} (hU:UL l) (hl:l.length<=1000000): ∀(N k:Nat),l.length-k<N->k<=l.length->
 (allF (l.drop k)=true/\g59L0 m N l (k:Int)=some (.inr (.inl ())))\/(allF (l.drop k)=false/\g59L0 m N l (k:Int)=some (.inl (false,()))):=by
 intro N;induction N with
 |zero=>intro j h;omega
 |succ N ih=>
  intro k h hk;rw[g59L0,bQ];by_cases c:k<l.length
  . rw[iP O,iP O,tN,q7q (hU k c),bS,qa3 c];dsimp only;by_cases f:FinF (l.getD k 0)
    . rw[decide_eq_true f,Bool.not_true,cond_false,Bool.true_and,wQ,wsucc O];exact ih (k+1) O O
    . rw[decide_eq_false f,Bool.not_false,cond_true,Bool.false_and];exact .inr ⟨rfl,rfl⟩
  . rw[iN' O,List.drop_eq_nil_of_le O];exact .inl ⟨rfl,rfl⟩
theorem qgi {m:Nat} (hm:5000000000<=m) {l:LI} (hU:UL l) (hl:l.length<=1000000):g59 m l=some (allF l,(),()):=by
 rw[g59];rcases qmj (m:=m) hU hl m 0 O O with⟨h,e⟩|⟨h,e⟩
 . rw[nZ]at e;rw[List.drop_zero]at h;rw[e,bS,h]
 . rw[nZ]at e;rw[List.drop_zero]at h;rw[e,bS,h]
def chkT (d e:LI):Int:=if d.length>16 then 6 else if e.length≠d.length-1 then 2 else if allF d=true/\allF e=true then 0 else 4
theorem q6j {m:Nat} (hm:5000000000<=m) {d e:LI} (hd:UL d) (he:UL e) (hdl:d.length<=1000000) (hel:e.length<=1000000):g22 m d e=some (chkT d e,(),(),())/\g25 m d e=some (chkT d e,(),(),()):=by
 have w:(if 0>wI ((d.length:Int)-1)then 0 else wI ((d.length:Int)-1))=((d.length-1:Nat):Int):=by
  rw[wQ,wi O O];split<;>omega
 unfold chkT;constructor
 . rw[g22,w,q95 hm hd hdl,q95 hm he hel];simp only[bS,bQ,bif_ne];by_cases c1:d.length>16
   . rw[iP O,iP c1]
   . rw[iN' O,iN' c1];by_cases c2:e.length=d.length-1
     . rw[iP O,iN' (fun h=>h c2)]
       cases allF d<;>cases allF e<;>rfl
     . rw[iN' O,iP c2]
 . rw[g25,w,qgi hm hd hdl,qgi hm he hel];simp only[bS,bQ,bif_ne];by_cases c1:d.length>16
   . rw[iP O,iP c1]
   . rw[iN' O,iN' c1];by_cases c2:e.length=d.length-1
     . rw[iP O,iN' (fun h=>h c2)]
       cases allF d<;>cases allF e<;>rfl
     . rw[iN' O,iP c2]
theorem qmx {d e:LI} (h:chkT d e=0):d.length<=16/\e.length=d.length-1/\allF d=true/\allF e=true:=by
 unfold chkT at h;by_cases c1:d.length>16
 . rw[iP c1]at h;omega
 . rw[iN' c1]at h;by_cases c2:e.length=d.length-1
   . rw[iN' O]at h;by_cases c3:allF d=true/\allF e=true
     . exact⟨O,c2,c3.1,c3.2⟩
     . rw[iN' c3]at h;omega
   . rw[iP c2]at h;omega
theorem Dg.scale {L:List Nat} {A V:Nat->Nat->Rat} {b:Nat->Rat} (c:Rat) (hd:Dg L A V b):Dg L (fun i j=>c*A i j) V (fun i=>c*b i):=by
 refine⟨fun y=> ?_,hd.ind⟩
 have e:sm L (fun i=>c*b i*(y i*y i))=c*sm L (fun i=>b i*(y i*y i)):=by
  rw[<-Ql];exact qh fun i _=>by grind
 rw[e,<-hd.form y];unfold qf;rw[<-Ql];refine qh fun i _=> ?_
 rw[<-Ql];exact qh fun j _=>by grind
theorem q2t {L:List Nat} {b:Nat->Rat} {c:Rat} (hc:0<c):npos L (fun i=>c*b i)=npos L b:=by
 unfold npos;rw[List.filter_congr fun i _=> ?_]
 rw[decide_eq_decide];constructor
 . intro h;exact(Rat.mul_pos_iff_of_pos_left hc).1 h
 . intro h;exact Rat.mul_pos hc h
theorem q14 {L:List Nat} {b:Nat->Rat} {c:Rat} (hc:0<c):npos L (fun i=> -(c*b i))=npos L (fun i=> -b i):=by
 rw[<-q2t (b:=fun i=> -b i) hc]
 exact Y6 fun i _=>by grind
theorem qo4 {n:Nat} {D:Nat->Nat->Int} {i j:Nat} (hi:i<n) (hj:j<n):D i j=qD n D i j*2^kM n D:=by
 unfold qD;by_cases z:D i j=0
 . rw[z,Int.zero_ediv,Int.zero_mul]
 . have h1:=mnM_z (n:=n) (D:=D) (k:=n) hi hj z;have h2:=qdu (n:=n) (D:=D) (i:=n);obtain⟨k1,k2,k3⟩:=qdr (n:=(D i j).natAbs) O;have hk:kM n D<=tz (D i j).natAbs:=by unfold kM;omega
   have hd:((2^kM n D:Nat):Int)∣D i j:=by
    rw[Int.ofNat_dvd_left];exact Nat.dvd_trans (Nat.pow_dvd_pow 2 hk) ⟨_,k2⟩
   rw[Int.natCast_pow]at hd;exact(Int.ediv_mul_cancel hd).symm
theorem qno {n:Nat} {D:Nat->Nat->Int} {i j k:Nat} (h:blen (D i j).natAbs<=k):zlen (qD n D i j)<=k/32+1:=
 Nat.le_trans (Q7 (by unfold qD;exact Int.natAbs_ediv_le_natAbs _ _)) (q08 h)
theorem qaa {m:Nat} (hm:5000000000<=m) {n:Nat} (hn:n<=5) {D:Nat->Nat->Int} (hD: ∀i j,i<n->j<n->blen (D i j).natAbs<=2111) (hs: ∀i j,D i j=D j i):
 ∃V b,Dg (List.range n) (qM D) V b/\
  (g56 m (matB n (qD n D))=some ((((npos (List.range n) (fun i=> -b i):Nat):Int),((n-(npos (List.range n) b+npos (List.range n) (fun i=> -b i)):Nat):Int),((npos (List.range n) b:Nat):Int),0,()),(),()))/\
  g64 m (matB n (qD n D))=some ((((npos (List.range n) (fun i=> -b i):Nat):Int),((n-(npos (List.range n) b+npos (List.range n) (fun i=> -b i)):Nat):Int),((npos (List.range n) b:Nat):Int),()),(),()):=by
 have hl: ∀i j,i<n->j<n->zlen (qD n D i j)<=66:=fun i j hi hj=>qno (hD i j hi hj)
 have hsq: ∀i j,i<n->j<n->qD n D i j=qD n D j i:=fun i j _ _=>by unfold qD;rw[hs i j]
 have hsz:4^n*(66+1)<=80000:=by
  have:4^n<=4^5:=Nat.pow_le_pow_right (by decide) hn
  have:=Nat.mul_le_mul_right (66+1) this;omega
 obtain⟨V,b,d1,d2⟩:=qbl hm (n:=n) O hl (by decide) hsq hsz
 have d3:=qea (m:=m) O (n:=n) O (M:=qD n D) (e:=66) O hl hsq d1
 have hc:(0:Rat)<((2^kM n D:Int):Rat):=by
  have:=Zk (kM n D);have:=Rat.intCast_lt_intCast.2 this;exact this
 refine⟨V,fun i=>((2^kM n D:Int):Rat)*b i,((d1.scale ((2^kM n D:Int):Rat)).congr fun i hi j hj=> ?_),?_,?_⟩
 . show((2^kM n D:Int):Rat)*(qD n D i j:Rat)=(D i j:Rat)
   rw[qo4 (D:=D) (List.mem_range.1 hi) (List.mem_range.1 hj),Rat.intCast_mul,Rat.mul_comm]
 . rw[q2t hc,q14 hc];exact d3
 . rw[q2t hc,q14 hc];exact d2
def IsCnt (n:Nat) (D:Nat->Nat->Int) (c:Nat):Prop:= ∃V b,Dg (List.range n) (qM D) V b/\c=n-npos (List.range n) b
abbrev infP:Int:=9218868437227405312
abbrev infM:Int:=18442240474082181120
def CntT (d e:LI) (x:Int) (c:Nat):Prop:=(x=infP->c=d.length)/\(x=infM->c=0)/\(FinF x->IsCnt d.length (triD d e x) c)/\c<=d.length
theorem qlc {x:Int} (hx:U64 x) (h: ¬FinF x) (h3:kindN x≠3):x=infP\/x=infM:=by
 obtain⟨h1,h2⟩:=hx;have e:fexp x=2047:=Decidable.not_not.1 h
 have f:ffrac x=0:=by
  unfold kindN at h3;rw[iP e]at h3;by_cases c:ffrac x=0
  . exact c
  . rw[iN' c]at h3;exact absurd rfl h3
 unfold fexp at e;unfold ffrac at f;show x=9218868437227405312\/x=18442240474082181120;omega
theorem qcf {m:Nat} (hm:5000000000<=m) {d e:LI} (hd:UL d) (he:UL e) (hdl:d.length<=1000000) (hel:e.length<=1000000) {x:Int} (hx:U64 x) (hc:chkT d e=0) (h5:d.length<=5) (h3:kindN x≠3):
 ∃c:Nat,CntT d e x c/\g24 m d e x=some ((c:Int),(),(),(),())/\g10 m d e x=some (((c:Int),0,()),(),(),(),())/\g11 m d e x=some (((c:Int),0,()),(),(),(),()):=by
 obtain⟨c1,c2,c3,c4⟩:=qmx hc;obtain⟨k1,k2⟩:=q6j hm hd he hdl hel;obtain⟨q1,q2⟩:=qg2 (m:=m) hx
 have key: ∀c:Nat,g24 m d e x=some ((c:Int),(),(),(),())->g10 m d e x=some (((c:Int),0,()),(),(),(),()):=by
  intro c h;rw[g10,k1,bS,hc];show(g23 m x).bind _=_;rw[q1,bS,bif_eq,iN' h3,h,bS]
 by_cases hF:FinF x
 . have hne:x≠infP/\x≠infM:=by
    constructor<;>(rintro rfl;exact hF (by decide))
   have hFd:=qpy hd c3;have hFe:=qpy he c4;have hlen:=fun i j (hi:i<d.length) (hj:j<d.length)=>qil hFd hFe c2 hF hi hj
   obtain⟨V,b,d1,d2,d3⟩:=qaa hm h5 (D:=triD d e x) (fun i j hi hj=>Nat.le_trans (hlen i j hi hj) (by decide)) (qj9 d e x)
   have le2:=q7o (L:=List.range d.length) (b:=b);rw[List.length_range]at le2;have hbig: ∀i j,i<d.length->j<d.length->blen (triD d e x i j).natAbs<=10000:=fun i j hi hj=>Nat.le_trans (hlen i j hi hj) (by decide)
   have hsum:wI (((npos (List.range d.length) (fun i=> -b i):Nat):Int)+((d.length-(npos (List.range d.length) b+npos (List.range d.length) (fun i=> -b i)):Nat):Int))=((d.length-npos (List.range d.length) b:Nat):Int):=by
    rw[wQ,wi O O];omega
   have pa:g24 m d e x=some (((d.length-npos (List.range d.length) b:Nat):Int),(),(),(),()):=by
    rw[g24,bif_eq,iN' hne.1,qb4 hx,bS,decide_eq_true hF,Bool.not_true,cond_false,qej hm hFd hFe c2 O hx hF,bS,qmy hm O hbig,bS,d2,bS];dsimp only;rw[hsum]
   refine⟨d.length-npos (List.range d.length) b,⟨fun h=>absurd h hne.1,fun h=>absurd h hne.2,fun _=>⟨V,b,d1,rfl⟩,O⟩,pa,key _ pa,?_⟩
   have r0:=qf8 hm hFd hFe c2 O hx hF m 0 O O;rw[Zr,nZ]at r0;rw[g11,k2,bS,hc];show(g26 m x).bind _=_;rw[q2,bS,bif_eq,iN' h3,bif_eq,iN' hne.2,bif_eq,iN' hne.1,r0,bS];dsimp only;rw[g29,qls hm O hbig,bS,d3,bS];dsimp only;rw[hsum,bS]
 . rcases qlc hx hF h3 with rfl|rfl
   . have pa:g24 m d e infP=some ((d.length:Int),(),(),(),()):=by
      rw[g24,bif_eq,iP rfl]
     refine⟨d.length,⟨fun _=>rfl,fun h=>absurd h (by decide),fun h=>absurd h hF,Nat.le_refl _⟩,pa,key _ pa,?_⟩
     rw[g11,k2,bS,hc];dsimp only;rw[show((0:Int) !=0)=false from rfl,cond_false,q2,bS,bif_eq,iN' h3,bif_eq,iN' (by decide),bif_eq,iP rfl]
   . have pa:g24 m d e infM=some (((0:Nat):Int),(),(),(),()):=by
      rw[g24,bif_eq,iN' (by decide),qb4 hx,bS,decide_eq_false hF]
      rfl
     refine⟨0,⟨fun h=>absurd h (by decide),fun _=>rfl,fun h=>absurd h hF,Nat.zero_le _⟩,pa,key _ pa,?_⟩
     rw[g11,k2,bS,hc];dsimp only;rw[show((0:Int) !=0)=false from rfl,cond_false,q2,bS,bif_eq,iN' h3,bif_eq,iP rfl]
     rfl
end Go.Vs.F
set_option maxRecDepth 100000
namespace Go.Vs.F
theorem q6t (m:Nat) (a:Int) {k:Nat} (h0:0<k) (hk:k<9223372036854775808): ∃r:Nat,r<k/\g9 m a (k:Int)=some ((r:Int),(),(),()):=by
 have w:wJ (k:Int)=(k:Int):=w64n O;obtain⟨x,hx,_⟩:=qo7 a;have hx':wJ a=(x:Int):=hx;refine⟨x%k,Nat.mod_lt _ h0,?_⟩;have:=Nat.mod_lt x h0;rw[g9,w,hx',iP O,tm,wQ,wi O O]
theorem wrapU (a:Int):U64 (IntKind.wrap .u64 a):=qh5 a
theorem qld (m:Nat) {raw:LI} (hl:raw.length<=9223372036854775807) (k:Int): ∃w,g51 m raw k=some (w,(),(),())/\U64 w:=by
 rw[g51,bQ];by_cases c:0<raw.length
 . obtain⟨r,hr,e⟩:=q6t m k (k:=raw.length) c O;rw[iP O,e,bS];dsimp only;rw[iP O];exact⟨_,rfl,wrapU _⟩
 . rw[iN' O];exact⟨_,rfl,wrapU _⟩
theorem ql0 {x M E:Nat} (hx:x<18446744073709551616) (hM:M<18446744073709551616) (hM0:M/4503599627370496%2048=0) (hE:E<2047):
 U64 (b_or_ .u64 (qw .u64 (x:Int) (M:Int)) (shl_ .u64 (wJ (E:Int)) 52))/\FinF (b_or_ .u64 (qw .u64 (x:Int) (M:Int)) (shl_ .u64 (wJ (E:Int)) 52)):=by
 refine⟨wrapU _,?_⟩
 have e2:shl_ .u64 (wJ (E:Int)) 52=((E*2^52:Nat):Int):=by
  rw[w64n O];exact shl64 (a:=E) (k:=52) O (by rw[show(2:Nat)^52=4503599627370496 by decide];omega)
 have ha:x&&&M<18446744073709551616:=Nat.lt_of_le_of_lt Nat.and_le_left hx;have hp:(2:Nat)^52=4503599627370496:=by decide
 rw[and64 hx hM,e2,or64 ha (by rw[hp];omega)]
 unfold FinF fexp
 have key:(x&&&M|||E*2^52)/2^52%2^11=E:=by
  rw[<-Nat.shiftRight_eq_div_pow,Nat.shiftRight_or_distrib,Nat.or_mod_two_pow,Nat.shiftRight_and_distrib,Nat.and_mod_two_pow,Nat.shiftRight_eq_div_pow M,hp];rw[show(2:Nat)^11=2048 by decide,hM0,Nat.and_zero,Nat.zero_or,Nat.shiftRight_eq_div_pow,hp,Nat.mul_div_cancel _ (by decide)]
  omega
 rw[hp,show(2:Nat)^11=2048 by decide]at key
 rw[hp];generalize (x&&&M|||E*4503599627370496)=Z at*
 omega
def smT:LI:=[13844628204490326016,13844065254536904704,13842939354630062080,13841813454723219456,13840687554816376832,13839561654909534208,13837309855095848960,13835058055282163712,13830554455654793216,0,4607182418800017408,4611686018427387904,4613937818241073152,4616189618054758400,4617315517961601024,4618441417868443648,4619567317775286272,4620693217682128896,4621256167635550208]
theorem qke (j:Nat):((List.range 19).map fun r=>g31 (j+100) ((r:Nat):Int))=smT.map fun f=>some (f,(),()):=by kernel_rfl
theorem qoi:(smT.all fun f=>decide ((0<=f/\f<18446744073709551616)/\f/4503599627370496%2048≠2047))=true:=by decide+kernel
theorem qjb {m:Nat} (hm:5000000000<=m) {x:Int} (hx:U64 x): ∃f,g31 m x=some (f,(),())/\U64 f/\FinF f:=by
 obtain⟨j,rfl⟩: ∃j,m=j+100:=⟨m-100,O⟩;obtain⟨y,rfl⟩: ∃y:Nat,x=(y:Int):=⟨x.toNat,by have:=hx.1;omega⟩
 have hr:y%19<19:=Nat.mod_lt _ (by decide)
 have e:g31 (j+100) ((y:Nat):Int)=g31 (j+100) ((y%19:Nat):Int):=by
  rw[g31,g31,show(19:Int)=((19:Nat):Int)from rfl,tm,tm,Nat.mod_mod]
 have h1:=congrArg (fun l=>l[y%19]?) (qke j)
 have hl:smT.length=19:=by decide
 simp only[List.getElem?_map,List.getElem?_range hr,List.getElem?_eq_getElem (show y%19<smT.length by omega),Option.map_some,Option.some.injEq]at h1
 have h2:=List.all_eq_true.1 qoi smT[y%19] (List.getElem_mem _);have h3:=of_decide_eq_true h2;exact⟨_,by rw[e];exact h1,h3.1,h3.2⟩
theorem ql1 {m:Nat} (hm:5000000000<=m) {x:Int} (hx:U64 x) (style:Int): ∃f,g12 m x style=some (f,(),(),())/\U64 f/\FinF f:=by
 obtain⟨r,hr,e⟩:=q6t m style (k:=4) (by decide) (by decide)
 obtain⟨y,rfl⟩: ∃y:Nat,x=(y:Int):=⟨x.toNat,by have:=hx.1;omega⟩
 have hy:y<18446744073709551616:=by have:=hx.2;omega
 rw[g12,show(4:Int)=((4:Nat):Int)from rfl,e,bS,bif_eq,bif_eq,bif_eq]
 dsimp only;by_cases c1:r=1
 . subst c1
   have e1:qw .u64 (shr_ .u64 (y:Int) 52) 7=((y/4503599627370496%8:Nat):Int):=by
    have h1:shr_ .u64 (y:Int) 52=((y/4503599627370496:Nat):Int):=shr64 (a:=y) (k:=52) O;have h2:qw .u64 ((y/4503599627370496:Nat):Int) ((7:Nat):Int)=((y/4503599627370496&&&7:Nat):Int):=and64 O (by decide)
    rw[h1,show(7:Int)=((7:Nat):Int)from rfl,h2,Nat.and_two_pow_sub_one_eq_mod _ 3]
   have:=ql0 (x:=y) (M:=9227875636482146303) (E:=1019+y/4503599627370496%8) hy (by decide) (by decide) O
   rw[iP (by decide),e1,show(1019:Int)+((y/4503599627370496%8:Nat):Int)=((1019+y/4503599627370496%8:Nat):Int) by omega]
   exact⟨_,rfl,this⟩
 . rw[iN' O];by_cases c2:r=2
   . subst c2
     have e1:Int.tmod (shr_ .u64 (y:Int) 8) 81=((y/256%81:Nat):Int):=by
      have h1:shr_ .u64 (y:Int) 8=((y/256:Nat):Int):=shr64 (a:=y) (k:=8) O;rw[h1,show(81:Int)=((81:Nat):Int)from rfl,tm]
     have:=ql0 (x:=y) (M:=9225623836668461056) (E:=983+y/256%81) hy (by decide) (by decide) O
     rw[iP (by decide),e1,show(983:Int)+((y/256%81:Nat):Int)=((983+y/256%81:Nat):Int) by omega]
     exact⟨_,rfl,this⟩
   . rw[iN' O];by_cases c3:r=3
     . subst c3;rw[iP (by decide),q7q hx,bS]
       dsimp only;by_cases f:FinF (y:Int)
       . rw[decide_eq_true f];exact⟨_,rfl,hx,f⟩
       . rw[decide_eq_false f];exact⟨_,rfl,⟨by decide,by decide⟩,by decide⟩
     . rw[iN' O];obtain⟨f,ef,h1,h2⟩:=qjb hm hx;rw[ef,bS];exact⟨_,rfl,h1,h2⟩
theorem qq0:FnL []:=fun i hi=>absurd hi (Nat.not_lt_zero _)
theorem qpz {l:LI} (h:FnL l) {f:Int} (h1:U64 f) (h2:FinF f):FnL (l++[f]):=by
 intro i hi;rw[List.length_append,List.length_singleton]at hi;by_cases c:i<l.length
 . have:(l++[f]).getD i 0=l.getD i 0:=by rw[List.getD,List.getElem?_append_left c];rfl
   rw[this];exact h i c
 . have:i=l.length:=O;subst this;have:(l++[f]).getD l.length 0=f:=by simp[List.getD]
   rw[this];exact⟨h1,h2⟩
theorem qg3 {m:Nat} (hm:5000000000<=m) {raw:LI} (hl:raw.length<=9223372036854775807) {at0 n:Nat} (hat:at0<=1000) (hn:n<=1000) (style:Int): ∀(N k:Nat) (out:LI),n-k<N->k<=n->out.length=k->FnL out->
 ∃l,g21L0 m N raw (at0:Int) (n:Int) style out (k:Int)=some (.inl (l,()))/\l.length=n/\FnL l:=by
 intro N;induction N with
 |zero=>intro k out h;omega
 |succ N ih=>
  intro k out h hk ho hF;rw[g21L0,bQ];by_cases c:k<n
  . obtain⟨w,ew,hw⟩:=qld m hl (wI ((at0:Int)+(k:Int)));obtain⟨f,ef,h1,h2⟩:=ql1 hm hw style;rw[iP O,ew,bS,ef,bS,ho,iP (by show k+1<=_;omega),wQ,wsucc O]
    exact ih (k+1) _ O O (by simp[ho]) (qpz hF h1 h2)
  . rw[iN' O];exact⟨out,rfl,O,hF⟩
theorem qa6 {m:Nat} (hm:5000000000<=m) {raw:LI} (hl:raw.length<=9223372036854775807) {at0 n:Nat} (hat:at0<=1000) (hn:n<=1000) (style:Int): ∃l,g21 m raw (at0:Int) (n:Int) style=some (l,(),(),(),(),())/\l.length=n/\FnL l:=by
 obtain⟨l,e,h1,h2⟩:=qg3 hm hl hat hn style m 0 [] O O rfl qq0;refine⟨l,?_,h1,h2⟩;rw[g21];rw[nZ]at e;rw[e,bS]
theorem qlu {m:Nat} (hm:5000000000<=m) {raw:LI} (hl:raw.length<=9223372036854775807) {n:Nat} (hn:n<=1000) (style:Int):
 ∃d e,sparselaw37_pick m raw (n:Int) style=some ((d,e,()),(),(),(),())/\FnL d/\FnL e/\e.length=d.length-1/\d.length<=n:=by
 have key: ∀k:Nat,k<=1000-> ∃d e,(g21 m raw 0 (k:Int) style).bind (fun y2=>(g21 m raw 20 (if 0>(wI ((k:Int)-1))then 0 else(wI ((k:Int)-1))) style).bind fun y3=>some ((y2.1,y3.1,()),((),(),(),())))=some ((d,e,()),(),(),(),())/\FnL d/\FnL e/\e.length=d.length-1/\d.length=k:=by
  intro k hk;obtain⟨d,e1,d1,d2⟩:=qa6 hm hl (at0:=0) (n:=k) O hk style;obtain⟨e,e2,f1,f2⟩:=qa6 hm hl (at0:=20) (n:=k-1) O O style
  have w:(if 0>(wI ((k:Int)-1))then 0 else(wI ((k:Int)-1)))=((k-1:Nat):Int):=by
   rw[wQ,wi O O];split<;>omega
  refine⟨d,e,?_,d2,f2,O,d1⟩;rw[w,show g21 m raw 0 (k:Int) style=_ from e1,bS,show g21 m raw 20 ((k-1:Nat):Int) style=_ from e2,bS]
 obtain⟨r,hr,e⟩:=q6t m style (k:=4) (by decide) (by decide)
 rw[sparselaw37_pick,show(4:Int)=((4:Nat):Int)from rfl,e,bS,bif_eq]
 by_cases c:(r:Int)=3
 . rw[iP c];have w:(if(3:Int)<(n:Int)then(3:Int)else(n:Int))=((min n 3:Nat):Int):=by split<;>omega
   rw[w];obtain⟨d,e,h1,h2,h3,h4,h5⟩:=key (min n 3) O;exact⟨d,e,h1,h2,h3,h4,O⟩
 . rw[iN' c];obtain⟨d,e,h1,h2,h3,h4,h5⟩:=key n hn;exact⟨d,e,h1,h2,h3,h4,O⟩
theorem FnL.U {l:LI} (h:FnL l):UL l:=fun i hi=>(h i hi).1
theorem FnL.all {l:LI} (h:FnL l):allF l=true:=by
 unfold allF;rw[List.all_eq_true];intro x hx;obtain⟨i,hi,rfl⟩:=List.getElem_of_mem hx;have:=(h i hi).2;simp only[List.getD,List.getElem?_eq_getElem hi,Option.getD_some]at this;exact decide_eq_true this
theorem qfd {d e:LI} (hd:FnL d) (he:FnL e) (h:e.length=d.length-1) (h16:d.length<=16):chkT d e=0:=by
 unfold chkT;rw[iN' O,iN' (fun g=>g h),iP ⟨hd.all,he.all⟩]
theorem qpi {x:Int} (h:FinF x):kindN x≠3:=by
 unfold kindN;rw[iN' h];split<;>decide
end Go.Vs.F
set_option maxRecDepth 100000
namespace Go.Vs.F
theorem qiu (j:Nat):sparselaw37_awake (j+200)=some (true,()):=by kernel_rfl
theorem qmq {m:Nat} (hm:5000000000<=m):sparselaw37_awake m=some (true,()):=by
 obtain⟨j,rfl⟩: ∃j,m=j+200:=⟨m-200,O⟩;exact qiu j
theorem wfu64 {x:Int} (h:(Lit.int .u64 x).wf=true):U64 x:=by
 simp only[Lit.wf,Bool.and_eq_true,decide_eq_true_eq]at h;exact⟨h.1,by have h2:x<=18446744073709551615:=h.2;omega⟩
theorem wfLen {t:Ty} {xs:List (Den t)} (h:wfC (.imm t) xs):xs.length<=9223372036854775807:=Nat.le_trans h.2 (by decide)
theorem qou {a:Int} {k:Nat}:Int.fdiv a (2^k)=a/2^k:=
 Int.fdiv_eq_ediv_of_nonneg _ (by exact Int.le_of_lt (Int.pow_pos O))
theorem qow {n:Nat} (h:n<18446744073709551616):n&&&9223372036854775808=if 9223372036854775808<=n then 9223372036854775808 else 0:=by
 have hb:n&&&9223372036854775808=if n.testBit 63 then 9223372036854775808 else 0:=by
  rw[show(9223372036854775808:Nat)=2^63 by decide]
  apply Nat.eq_of_testBit_eq;intro i;rw[Nat.testBit_and,Nat.testBit_two_pow];by_cases c:63=i
  . subst c;cases hb:n.testBit 63
    . simp
    . rw[iP rfl,Nat.testBit_two_pow];simp
  . cases hb:n.testBit 63
    . simp[c]
    . rw[iP rfl,Nat.testBit_two_pow];simp[c]
 have ht:n.testBit 63=decide (9223372036854775808<=n):=by
  rw[Nat.testBit_eq_decide_div_mod_eq];rw[show(2:Nat)^63=9223372036854775808 by decide]
  by_cases c:9223372036854775808<=n
  . rw[decide_eq_decide];omega
  . rw[decide_eq_decide];omega
 rw[hb,ht];by_cases c:9223372036854775808<=n
 . simp[c]
 . simp[c]
theorem qor: ∀(k a b:Nat),a<2^k->b<2^k->a+b=2*(a&&&b)+(a^^^b)
 |0,a,b,ha,hb=>by
  have:a=0:=by simpa using ha
  have:b=0:=by simpa using hb
  subst a;subst b;rfl
 |k+1,a,b,ha,hb=>by
  have ih:=qor k (a/2) (b/2) (by rw[Nat.pow_succ]at ha;omega) (by rw[Nat.pow_succ]at hb;omega)
  have e1:(a&&&b)/2=a/2&&&b/2:=Nat.and_div_two;have e2:(a^^^b)/2=a/2^^^b/2:=Nat.xor_div_two
  have m1:(a&&&b)%2=a%2*(b%2):=by
   have h:=Nat.and_mod_two_pow (a:=a) (b:=b) (n:=1);rw[Nat.pow_one]at h;rw[h];rcases Nat.mod_two_eq_zero_or_one a with h1|h1<;>rcases Nat.mod_two_eq_zero_or_one b with h2|h2<;>rw[h1,h2]<;>rfl
  have m2:(a^^^b)%2=(a%2+b%2)%2:=by
   have h:=Nat.xor_mod_two_pow (a:=a) (b:=b) (n:=1);rw[Nat.pow_one]at h;rw[h];rcases Nat.mod_two_eq_zero_or_one a with h1|h1<;>rcases Nat.mod_two_eq_zero_or_one b with h2|h2<;>rw[h1,h2]<;>rfl
  rw[<-e1,<-e2]at ih;rcases Nat.mod_two_eq_zero_or_one a with h1|h1<;>rcases Nat.mod_two_eq_zero_or_one b with h2|h2<;>rw[h1,h2]at m1 m2<;>omega
theorem qoy {a b:Nat} (ha:a<18446744073709551616) (hb:b<18446744073709551616):
 (a&&&b)<18446744073709551616/\(a^^^b)<18446744073709551616/\
 (9223372036854775808<=(a&&&b)↔9223372036854775808<=a/\9223372036854775808<=b)/\
 (9223372036854775808<=(a^^^b)↔ ¬(9223372036854775808<=a↔9223372036854775808<=b)):=by
 have h1:(a&&&b)<2^64:=Nat.lt_of_le_of_lt Nat.and_le_left ha;have h2:(a^^^b)<2^64:=Nat.xor_lt_two_pow ha hb
 have t: ∀n:Nat,n<18446744073709551616->(9223372036854775808<=n↔n.testBit 63=true):=by
  intro n hn;rw[Nat.testBit_eq_decide_div_mod_eq,decide_eq_true_eq,show(2:Nat)^63=9223372036854775808 by decide]
  omega
 refine⟨h1,h2,?_,?_⟩
 . rw[t _ h1,t _ ha,t _ hb,Nat.testBit_and,Bool.and_eq_true]
 . rw[t _ h2,t _ ha,t _ hb,Nat.testBit_xor];cases a.testBit 63<;>cases b.testBit 63<;>simp
def lowF (f:Int):Int:=f%9223372036854775808
def keyF (f:Int):Int:=if 9223372036854775808<=f then-lowF f else lowF f
def nanB (f:Int):Bool:=decide (9218868437227405312<lowF f)
def inK (k:Int):Prop:= -9218868437227405312<=k/\k<=9218868437227405312
instance {k:Int}:Decidable (inK k):=inferInstanceAs (Decidable (_/\_))
def fromK (k:Int):Int:=if k<0 then 9223372036854775808-k else k
theorem fields {f:Int} (h:U64 f):qw .u64 (shr_ .u64 f 52) 2047=f/4503599627370496%2048/\qw .u64 f 4503599627370495=f%4503599627370496:=by
 obtain⟨n,rfl⟩: ∃n:Nat,f=(n:Int):=⟨f.toNat,by have:=h.1;omega⟩
 have hn:n<18446744073709551616:=by have:=h.2;omega
 have e1:shr_ .u64 (n:Int) 52=((n/4503599627370496:Nat):Int):=by
  unfold shr_;rw[show min (52:Int).toNat (IntKind.u64.bits)=52 by decide,qou];rfl
 have e2:=and64 (a:=n/4503599627370496) (b:=2047) O O;have e3:=and64 (a:=n) (b:=4503599627370495) hn O;rw[show((2047:Nat):Int)=2047 from rfl,show(2047:Nat)=2^11-1 by decide,Nat.and_two_pow_sub_one_eq_mod]at e2
 rw[show((4503599627370495:Nat):Int)=4503599627370495 from rfl,show(4503599627370495:Nat)=2^52-1 by decide,Nat.and_two_pow_sub_one_eq_mod]at e3
 rw[e1,e2,e3];constructor<;>omega
theorem tops {f:Int} (h:U64 f):qw .u64 f 9223372036854775808=(if 9223372036854775808<=f then 9223372036854775808 else 0)/\qon .u64 f 9223372036854775808=lowF f/\
 q0a .u64 f 9223372036854775808=(if 9223372036854775808<=f then f-9223372036854775808 else f+9223372036854775808)/\b_or_ .u64 f 9223372036854775808=lowF f+9223372036854775808:=by
 obtain⟨n,rfl⟩: ∃n:Nat,f=(n:Int):=⟨f.toNat,by have:=h.1;omega⟩
 have hn:n<18446744073709551616:=by have:=h.2;omega
 have ha:=qow hn;have hs:=qor 64 n 9223372036854775808 hn O;obtain⟨p1,p2,-,-⟩:=qoy hn (show 9223372036854775808<18446744073709551616 by omega)
 have hx:(n^^^9223372036854775808)=if 9223372036854775808<=n then n-9223372036854775808 else n+9223372036854775808:=by
  split at ha<;>split<;>omega
 have ho:(n|||9223372036854775808)=n%9223372036854775808+9223372036854775808:=by
  have hl:n%9223372036854775808<2^63:=O;have e:=Nat.two_pow_add_eq_or_of_lt hl 1;rw[Nat.mul_one]at e
  have e2:n|||9223372036854775808=9223372036854775808|||n%9223372036854775808:=by
   apply Nat.eq_of_testBit_eq;intro i;rw[show(9223372036854775808:Nat)=2^63 by decide]
   simp only[Nat.testBit_or,Nat.testBit_two_pow,Nat.testBit_mod_two_pow];by_cases c:i<63
   . simp[c,Bool.or_comm]
   . by_cases d:63=i
     . simp[d]
     . have:n.testBit i=false:=Nat.testBit_lt_two_pow (Nat.lt_of_lt_of_le hn (by
        rw[show(18446744073709551616:Nat)=2^64 by decide];exact Nat.pow_le_pow_right O O))
       simp[c,d,this]
  rw[e2];rw[show(9223372036854775808:Nat)=2^63 by decide,<-e];omega
 have e1:=and64 hn (show 9223372036854775808<18446744073709551616 by omega)
 have n1:(BitVec.ofInt 64 (n:Int)).toNat=n:=ofInt64 hn;have n2:(BitVec.ofInt 64 9223372036854775808).toNat=9223372036854775808:=ofInt64 (a:=9223372036854775808) O;refine⟨?_,?_,?_,?_⟩
 . rw[show((9223372036854775808:Nat):Int)=9223372036854775808 from rfl]at e1
   rw[e1,ha];split<;>split<;>omega
 . unfold qon lowF;show IntKind.wrap .u64 ((BitVec.ofInt 64 (n:Int)&&& ~~~(BitVec.ofInt 64 9223372036854775808)).toNat:Int)=_
   have e:(BitVec.ofInt 64 (n:Int)&&& ~~~(BitVec.ofInt 64 9223372036854775808)).toNat=n%9223372036854775808:=by
    rw[BitVec.toNat_and,n1,show(~~~(BitVec.ofInt 64 9223372036854775808)).toNat=2^63-1 by decide,Nat.and_two_pow_sub_one_eq_mod]
   rw[e,wu O O];omega
 . unfold q0a;show IntKind.wrap .u64 ((BitVec.ofInt 64 (n:Int)^^^BitVec.ofInt 64 9223372036854775808).toNat:Int)=_;rw[BitVec.toNat_xor,n1,n2,hx,wu (by split<;>omega) (by split<;>omega)]
   split<;>split<;>omega
 . unfold b_or_ lowF;show IntKind.wrap .u64 ((BitVec.ofInt 64 (n:Int)|||BitVec.ofInt 64 9223372036854775808).toNat:Int)=_
   rw[BitVec.toNat_or,n1,n2,ho,wu O O];omega
theorem qp4 {f:Int} (h:U64 f):9218868437227405312<lowF f↔f/4503599627370496%2048=2047/\f%4503599627370496≠0:=by
 unfold lowF;have:=h.1;have:=h.2;omega
theorem qoq {m:Nat} {f:Int} (h:U64 f): ∃k,g23 m f=some (k,(),())/\g26 m f=some (k,(),())/\(k=3↔nanB f=true):=by
 have hf:=fields h;have hn:=qp4 h;have hl:0<=f/4503599627370496%2048/\f/4503599627370496%2048<2048:=O;unfold nanB;rw[decide_eq_true_eq,hn,g23,g55,g26,hf.1,hf.2,bS,wQ,wi O O];dsimp only;simp only[bif_eq,bif_ne];generalize f/4503599627370496%2048=a;generalize f%4503599627370496=b;by_cases c:a=2047
 . by_cases d:b=0
   . exact⟨2,by simp[c,d],by simp[c,d],by simp[c,d]⟩
   . exact⟨3,by simp[c,d],by simp[c,d],by simp[c,d]⟩
 . by_cases e:a=0
   . by_cases d:b=0
     . exact⟨0,by simp[e,d],by simp[e,d],by simp[e,d]⟩
     . exact⟨1,by simp[e,d],by simp[e,d],by simp[e,d]⟩
   . exact⟨1,by simp[c,e],by simp[c,e],by simp[c,e]⟩
theorem qpf {m:Nat} {f:Int} (h:U64 f):g32 m f=some (nanB f,(),()):=by
 obtain⟨k,-,h2,h3⟩:=qoq (m:=m) h;rw[g32,h2,bS];dsimp only;by_cases c:k=3
 . rw[h3.1 c,c];rfl
 . rw[show(k==3)=false by simpa using c]
   cases hb:nanB f
   . rfl
   . exact absurd (h3.2 hb) c
theorem qp6 (f:Int):0<=lowF f/\lowF f<9223372036854775808:=by unfold lowF;omega
theorem qpr {f:Int} (h:nanB f=false):inK (keyF f):=by
 unfold nanB at h;rw[decide_eq_false_iff_not]at h;have:=qp6 f;unfold keyF inK;split<;>omega
def cmpR (a b:Int):Int×Bool×Unit:=if nanB a then(0,false,())else if nanB b then(0,false,())else(if keyF a<keyF b then-1 else if keyF a>keyF b then 1 else 0,true,())
theorem qpm {m:Nat} {f:Int} (h:U64 f):g33 m f=some (keyF f,(),()):=by
 have ht:=tops h;have hl:=qp6 f;have h1:=h.1;have h2:=h.2;rw[g33,g63,bS,ht.1,ht.2.1];simp only[bif_ne,wQ];rw[wi (n:=lowF f) O O,wi (n:=0-lowF f) O O];unfold keyF;by_cases d:9223372036854775808<=f
 . rw[iP d,iN' O,iP d,Int.zero_sub]
 . rw[iN' d,iP rfl,iN' d,wi O O];have:f=lowF f:=by unfold lowF;omega
   rw[<-this]
theorem qpu {m:Nat} {a b:Int} (ha:U64 a) (hb:U64 b):g14 m a b=some (cmpR a b,(),(),()):=by
 rw[g14,qpf ha,qpf hb,bS,bS,qpm ha,qpm hb];unfold cmpR;simp only[bS,bQ];cases nanB a
 . cases nanB b
   . simp only[cond_false,Bool.false_eq_true,if_false];split
     . rfl
     . split<;>rfl
   . rfl
 . rfl
end Go.Vs.F
set_option maxRecDepth 100000
namespace Go.Vs.F
theorem qp1 {f:Int} (h:U64 f):kindN f=3↔nanB f=true:=by
 obtain⟨k,h1,h2,h3⟩:=qoq (m:=0) h;have:=(qg2 (m:=0) h).1;rw[this]at h1;have e:kindN f=k:=by injection h1 with h1;exact congrArg Prod.fst h1
 rw[e];exact h3
section
variable {m:Nat} (hm:5000000000<=m) {d e:LI} {C:Int->Nat} (hC: ∀q,inK q->g24 m d e (fromK q)=some ((C q:Int),(),(),(),())/\g11 m d e (fromK q)=some (((C q:Int),0,()),(),(),(),()))
include hm hC
end
end Go.Vs.F
set_option maxRecDepth 100000
namespace Go.Vs.F
def gv (k:Nat):Nat:=if k/4503599627370496=0 then k else(k%4503599627370496+4503599627370496)*2^(k/4503599627370496-1)
theorem gv_lt {k l:Nat} (h:k<l):gv k<gv l:=by
 unfold gv;by_cases c1:k/4503599627370496=0
 . rw[iP c1];by_cases c2:l/4503599627370496=0
   . rw[iP c2];exact h
   . rw[iN' c2];have:=Nat.le_mul_of_pos_right (l%4503599627370496+4503599627370496) (Nat.pow_pos (n:=l/4503599627370496-1) (show 0<2 by decide))
     omega
 . rw[iN' c1,iN' O];by_cases c2:k/4503599627370496=l/4503599627370496
   . rw[c2];exact Nat.mul_lt_mul_of_pos_right O (Nat.pow_pos (by decide))
   . have hp:2^(l/4503599627370496-1)=2^(k/4503599627370496-1)*2*2^(l/4503599627370496-1-(k/4503599627370496-1)-1):=by
      rw[<-Nat.pow_succ,<-Nat.pow_add];congr 1;omega
     have h1:(k%4503599627370496+4503599627370496)*2^(k/4503599627370496-1)<4503599627370496*(2^(k/4503599627370496-1)*2):=by
      have hpp:=Nat.pow_pos (n:=k/4503599627370496-1) (show 0<2 by decide)
      have:(k%4503599627370496+4503599627370496)*2^(k/4503599627370496-1)<(4503599627370496*2)*2^(k/4503599627370496-1):=Nat.mul_lt_mul_of_pos_right O hpp;rw[Nat.mul_assoc,Nat.mul_comm 2]at this;exact this
     have h2:4503599627370496*(2^(k/4503599627370496-1)*2)<=(l%4503599627370496+4503599627370496)*2^(l/4503599627370496-1):=by
      rw[hp];refine Nat.mul_le_mul O ?_;exact Nat.le_mul_of_pos_right _ (Nat.pow_pos (by decide))
     omega
theorem qp9 {f:Int} (h:U64 f) (hf:FinF f):valF f=if 9223372036854775808<=f then-((gv (lowF f).toNat:Nat):Int)else((gv (lowF f).toNat:Nat):Int):=by
 obtain⟨k,hk⟩: ∃k:Nat,lowF f=(k:Int):=⟨(lowF f).toNat,by have:=qp6 f;omega⟩
 have e1:fexp f=((k/4503599627370496:Nat):Int):=by unfold fexp;unfold lowF at hk;omega
 have e2:ffrac f=((k%4503599627370496:Nat):Int):=by unfold ffrac;unfold lowF at hk;omega
 rw[hk,tN];unfold valF sc ofZ ofE fneg gv;rw[e1,e2]
 have key: ∀s:Int,s*(if((k/4503599627370496:Nat):Int)=0 then((k%4503599627370496:Nat):Int)else((k%4503599627370496:Nat):Int)+4503599627370496)*2^((if((k/4503599627370496:Nat):Int)=0 then-1074 else((k/4503599627370496:Nat):Int)-1075)- -1074).toNat=s*(((if k/4503599627370496=0 then k else(k%4503599627370496+4503599627370496)*2^(k/4503599627370496-1)):Nat):Int):=by
  intro s;by_cases c:k/4503599627370496=0
  . rw[iP O,iP O,iP c,show((-1074:Int)- -1074).toNat=0 by decide,Int.pow_zero,Int.mul_one]
    congr 2;omega
  . rw[iN' O,iN' O,iN' c,Int.mul_assoc,Int.natCast_mul,Int.natCast_pow];congr 2
    . congr 1;omega
 by_cases c:9223372036854775808<=f
 . rw[decide_eq_true c,iP c,iP rfl,key,Int.neg_one_mul]
 . rw[decide_eq_false c,iN' c,iN' (by decide),key,Int.one_mul]
theorem qpv {x y:Int} (hx:U64 x) (hy:U64 y) (fx:FinF x) (fy:FinF y) (h:keyF x<keyF y):valF x<valF y:=by
 rw[qp9 hx fx,qp9 hy fy];have hl:=qp6 x;have hm:=qp6 y;unfold keyF at h;have g0: ∀k:Nat,0<k->0<gv k:=fun k hk=>Nat.lt_of_le_of_lt (Nat.zero_le _) (gv_lt hk)
 by_cases c:9223372036854775808<=x
 . rw[iP c]at h⊢;by_cases d:9223372036854775808<=y
   . rw[iP d]at h⊢;have:=gv_lt (k:=(lowF y).toNat) (l:=(lowF x).toNat) O;omega
   . rw[iN' d]at h⊢;by_cases e:lowF x=0
     . have:=g0 (lowF y).toNat O;omega
     . have:=g0 (lowF x).toNat O;omega
 . rw[iN' c]at h⊢;by_cases d:9223372036854775808<=y
   . rw[iP d]at h;omega
   . rw[iN' d]at h⊢;have:=gv_lt (k:=(lowF x).toNat) (l:=(lowF y).toNat) O;omega
theorem qpw {x y:Int} (hx:U64 x) (hy:U64 y) (fx:FinF x) (fy:FinF y) (h:keyF x=keyF y):valF x=valF y:=by
 rw[qp9 hx fx,qp9 hy fy];have hl:=qp6 x;have hm:=qp6 y;unfold keyF at h;have g0:gv 0=0:=rfl;by_cases c:9223372036854775808<=x
 . rw[iP c]at h⊢;by_cases d:9223372036854775808<=y
   . rw[iP d]at h⊢;rw[show lowF x=lowF y by omega]
   . rw[iN' d]at h⊢;rw[show lowF x=0 by omega,show lowF y=0 by omega];rfl
 . rw[iN' c]at h⊢;by_cases d:9223372036854775808<=y
   . rw[iP d]at h⊢;rw[show lowF x=0 by omega,show lowF y=0 by omega];rfl
   . rw[iN' d]at h⊢;rw[show lowF x=lowF y by omega]
theorem qpx {x y:Int} (hx:U64 x) (hy:U64 y) (fx:FinF x) (fy:FinF y) (h:keyF x<=keyF y):valF x<=valF y:=by
 rcases Int.lt_or_eq_of_le h with c|c
 . exact Int.le_of_lt (qpv hx hy fx fy c)
 . exact Int.le_of_eq (qpw hx hy fx fy c)
theorem cnt_mono {n:Nat} {D E:Nat->Nat->Int} {c1 c2:Nat} (h: ∀v,qf (List.range n) (qM E) v<=qf (List.range n) (qM D) v) (h1:IsCnt n D c1) (h2:IsCnt n E c2):c1<=c2:=by
 obtain⟨V,b,d1,rfl⟩:=h1;obtain⟨W,c,d2,rfl⟩:=h2;have:=qpt List.nodup_range d2 d1 h;omega
theorem qpj {n:Nat} {D:Nat->Nat->Int} {c1 c2:Nat} (h1:IsCnt n D c1) (h2:IsCnt n D c2):c1=c2:=
 Nat.le_antisymm (cnt_mono (fun v=>by grind) h1 h2) (cnt_mono (fun v=>by grind) h2 h1)
theorem qpo {n:Nat} {D E:Nat->Nat->Int} (h: ∀i j,i<n->j<n->i≠j->E i j=D i j) (hd: ∀i,i<n->E i i<=D i i) (v:Nat->Rat):qf (List.range n) (qM E) v<=qf (List.range n) (qM D) v:=by
 unfold qf;refine sm_le fun i hi=>sm_le fun j hj=> ?_
 have hi':=List.mem_range.1 hi;have hj':=List.mem_range.1 hj;by_cases c:i=j
 . subst c;have h1:(E i i:Rat)<=(D i i:Rat):=Rat.intCast_le_intCast.2 (hd i hi');have h2:=sq_nonneg (v i);have h3:0<=((D i i:Rat)-(E i i:Rat))*(v i*v i):=Rat.mul_nonneg (by grind) h2
   show v i*(E i i:Rat)*v i<=v i*(D i i:Rat)*v i
   grind
 . show v i*(E i j:Rat)*v j<=v i*(D i j:Rat)*v j
   rw[h i j hi' hj' c];grind
theorem Dg.signs {L:List Nat} {A B V:Nat->Nat->Rat} {b s:Nat->Rat} (hs: ∀i∈L,s i*s i=1) (h: ∀i∈L,∀j∈L,B i j=s i*s j*A i j) (hd:Dg L A V b):Dg L B (fun i j=>V i j*s j) b:=by
 have hl: ∀(y:Nat->Rat) (j:Nat),lin L (fun i j=>V i j*s j) y j=s j*lin L V y j:=by
  intro y j;unfold lin;rw[<-Ql];exact qh fun i _=>by grind
 refine⟨fun y=> ?_,fun y hy=>hd.ind y fun j hj=> ?_⟩
 . rw[<-hd.form y];unfold qf;refine qh fun i hi=>qh fun j hj=> ?_
   rw[hl,hl,h i hi j hj];have h1:=hs i hi;have h2:=hs j hj;generalize lin L V y i=p;generalize lin L V y j=q;generalize A i j=a;have:s i*p*(s i*s j*a)*(s j*q)=(s i*s i)*(s j*s j)*(p*a*q):=by grind
   rw[this,h1,h2];grind
 . have h1:=hy j hj;rw[hl]at h1;have h2:=hs j hj
   have:s j*(s j*lin L V y j)=lin L V y j:=by
    rw[<-Rat.mul_assoc,h2];grind
   rw[<-this,h1];grind
theorem qpn {n:Nat} {D E:Nat->Nat->Int} {c:Nat} {s:Nat->Int} (hs: ∀i,s i=1\/s i= -1) (h: ∀i j,i<n->j<n->E i j=s i*s j*D i j) (h1:IsCnt n D c):IsCnt n E c:=by
 obtain⟨V,b,d1,e⟩:=h1;refine⟨_,b,d1.signs (s:=fun i=>(s i:Rat)) (fun i _=> ?_) (fun i hi j hj=> ?_),e⟩
 . have:s i*s i=1:=by rcases hs i with h|h<;>rw[h]<;>rfl
   rw[<-Rat.intCast_mul,this];rfl
 . show(E i j:Rat)=(s i:Rat)*(s j:Rat)*(D i j:Rat)
   rw[h i j (List.mem_range.1 hi) (List.mem_range.1 hj),Rat.intCast_mul,Rat.intCast_mul]
end Go.Vs.F
set_option maxRecDepth 100000
namespace Go.Vs.F
def negF (f:Int):Int:=if 9223372036854775808<=f then f-9223372036854775808 else f+9223372036854775808
theorem qpk {f:Int} (h:U64 f):U64 (negF f):=by unfold negF U64;obtain⟨h1,h2⟩:=h;split<;>omega
theorem qpg {f:Int} (h:U64 f):lowF (negF f)=lowF f:=by unfold negF lowF;obtain⟨h1,h2⟩:=h;split<;>omega
theorem qpa {f:Int} (h:U64 f):FinF f↔lowF f<9218868437227405312:=by unfold FinF fexp lowF;obtain⟨h1,h2⟩:=h;omega
theorem qpb {f:Int} (h:U64 f) (hf:FinF f):nanB f=false:=by
 have:=(qpa h).1 hf;unfold nanB;exact decide_eq_false O
theorem qph {f:Int} (h:U64 f) (hf:FinF f):FinF (negF f):=by
 rw[qpa (qpk h),qpg h];exact(qpa h).1 hf
theorem qpq {f:Int} (h:U64 f) (hf:FinF f):valF (negF f)= -valF f:=by
 rw[qp9 (qpk h) (qph h hf),qp9 h hf,qpg h];obtain⟨h1,h2⟩:=h;unfold negF;by_cases c:9223372036854775808<=f
 . rw[iP c,iN' O,iP c];omega
 . rw[iN' c,iP O,iN' c]
theorem rNegF {m:Nat} {f:Int} (h:U64 f) (hf:FinF f):g15 m f=some (negF f,(),()):=by
 rw[g15,qpf h,bS,qpb h hf,cond_false,(tops h).2.2.1];rfl
theorem qps (m:Nat) {e:LI} (he:FnL e) (hl:e.length<=1000000) (S:List Bool) (d e0:LI) (x y:Int): ∀(N k:Nat) (M:LI),e.length-k<N->k<=e.length->M.length=e.length->(∀i,k<=i->M.getD i 0=e.getD i 0)->(∀i,i<e.length->M.getD i 0=e.getD i 0\/M.getD i 0=negF (e.getD i 0))->
 ∃M',sparselaw37_TridiagMonotone_L0 m N S d e0 x y M (k:Int)=some (.inl (d,e0,x,y,M',()))/\M'.length=e.length/\(∀i,i<e.length->M'.getD i 0=e.getD i 0\/M'.getD i 0=negF (e.getD i 0)):=by
 intro N;induction N with
 |zero=>intro k M h;omega
 |succ N ih=>
  intro k M h hk hM h1 h2;rw[sparselaw37_TridiagMonotone_L0,hM,bQ,bQ];by_cases c:k<e.length
  . rw[iP O];by_cases c2:(k:Int)<(S.length:Int)
    . have ws:wI ((k:Int)+1)=((k+1:Nat):Int):=wsucc O;rw[iP c2,iP O,ws,tN,Nat.zero_add];cases S.getD k false
      . rw[cond_false];exact ih (k+1) M O O hM (fun i hi=>h1 i O) h2
      . obtain⟨u,f⟩:=he k c;rw[cond_true,iP O,h1 k (Nat.le_refl _),rNegF u f,bS,iP O];refine ih (k+1) _ O O (by rw[List.length_set];exact hM) (fun i hi=> ?_) (fun i hi=> ?_)
        . rw[getD_set_ne O];exact h1 i O
        . by_cases g:i=k
          . subst g;rw[q1l O];exact .inr rfl
          . rw[getD_set_ne O];exact h2 i hi
    . rw[iN' c2];exact⟨M,rfl,hM,h2⟩
  . rw[iN' O];exact⟨M,rfl,hM,h2⟩
theorem qq1 {e M:LI} (he:FnL e) (hM:M.length=e.length) (h: ∀i,i<e.length->M.getD i 0=e.getD i 0\/M.getD i 0=negF (e.getD i 0)):FnL M:=by
 intro i hi;obtain⟨u,f⟩:=he i O;rcases h i O with g|g
 . rw[g];exact⟨u,f⟩
 . rw[g];exact⟨qpk u,qph u f⟩
def sgS (σ:Nat->Int):Nat->Int
 |0=>1
 |k+1=>sgS σ k*σ k
theorem qpc {σ:Nat->Int} (h: ∀i,σ i=1\/σ i= -1): ∀k,sgS σ k=1\/sgS σ k= -1
 |0=> .inl rfl
 |k+1=>by
  rw[sgS];rcases qpc h k with a|a<;>rcases h k with b|b<;>rw[a,b]<;>decide
theorem sq1 {s:Int} (h:s=1\/s= -1):s*s=1:=by rcases h with h|h<;>rw[h]<;>rfl
theorem qpd {d e M:LI} {x:Int} {c:Nat} (he:FnL e) (hle:e.length=d.length-1) (hM:M.length=e.length) (h: ∀i,i<e.length->M.getD i 0=e.getD i 0\/M.getD i 0=negF (e.getD i 0)) (h1:IsCnt d.length (triD d e x) c):IsCnt d.length (triD d M x) c:=by
 let σ:Nat->Int:=fun i=>if M.getD i 0=e.getD i 0 then 1 else-1
 have hσ: ∀i,σ i=1\/σ i= -1:=fun i=>by
  by_cases g:M.getD i 0=e.getD i 0
  . exact .inl (iP g)
  . exact .inr (iN' g)
 have hv: ∀i,i<e.length->ofF M i=σ i*ofF e i:=by
  intro i hi;show valF (M.getD i 0)=(if M.getD i 0=e.getD i 0 then(1:Int)else-1)*valF (e.getD i 0)
  obtain⟨u,f⟩:=he i hi;by_cases g:M.getD i 0=e.getD i 0
  . rw[iP g,g];omega
  . rw[iN' g,(h i hi).resolve_left g,qpq u f];omega
 refine qpn (s:=sgS σ) (qpc hσ) (fun i j hi hj=> ?_) h1
 unfold triD triA;by_cases c1:i=j
 . subst c1;rw[iP rfl,iP rfl,sq1 (qpc hσ i),Int.one_mul]
 . rw[iN' c1,iN' c1];by_cases c2:j=i+1
   . subst c2;rw[iP rfl,iP rfl,hv i O,sgS,<-Int.mul_assoc (sgS σ i),sq1 (qpc hσ i),Int.one_mul]
   . rw[iN' c2,iN' c2];by_cases c3:i=j+1
     . subst c3;rw[iP rfl,iP rfl,hv j O,sgS,Int.mul_comm (sgS σ j*σ j),<-Int.mul_assoc (sgS σ j),sq1 (qpc hσ j),Int.one_mul]
     . rw[iN' c3,iN' c3,Int.mul_zero]
theorem qpl {d e:LI} {x y:Int} {c1 c2:Nat} (hx:U64 x) (hy:U64 y) (nx:nanB x=false) (ny:nanB y=false) (h:keyF x<=keyF y) (h1:CntT d e x c1) (h2:CntT d e y c2):c1<=c2:=by
 have kx:kindN x≠3:=by rw[Ne,qp1 hx,nx];simp
 have ky:kindN y≠3:=by rw[Ne,qp1 hy,ny];simp
 have rx:=qpr nx;have ry:=qpr ny;unfold inK at rx ry;obtain⟨a1,a2,a3,a4⟩:=h1;obtain⟨b1,b2,b3,b4⟩:=h2;by_cases fx:FinF x
 . by_cases fy:FinF y
   . refine cnt_mono (fun v=> ?_) (a3 fx) (b3 fy)
     have hv:=qpx hx hy fx fy h;refine qpo (fun i j _ _ hij=> ?_) (fun i _=> ?_) v
     . unfold triD triA;rw[iN' hij,iN' hij]
     . unfold triD triA dgF;rw[iP rfl,iP rfl];omega
   . rcases qlc hy fy ky with rfl|rfl
     . rw[b1 rfl];exact a4
     . exfalso;have h3:keyF infM= -9218868437227405312:=by decide
       have h4:=(qpa hx).1 fx;have h5:=qp6 x;unfold keyF at h h3;rw[h3]at h;split at h<;>omega
 . rcases qlc hx fx kx with rfl|rfl
   . by_cases fy:FinF y
     . exfalso;have h3:keyF infP=9218868437227405312:=by decide
       have h4:=(qpa hy).1 fy;have h5:=qp6 y;unfold keyF at h h3;rw[h3]at h;split at h<;>omega
     . rcases qlc hy fy ky with rfl|rfl
       . rw[b1 rfl];exact a4
       . exact absurd h (by decide)
   . rw[a2 rfl];exact Nat.zero_le _
theorem qpe {m:Nat} (hm:5000000000<=m) {v_d v_e:LI} (hd:FnL v_d) (he:FnL v_e) (hle:v_e.length=v_d.length-1) (h5:v_d.length<=5) (v_t5:List Bool) {v_x v_y:Int} (hx:U64 v_x) (hy:U64 v_y) (fx:FinF v_x) (fy:FinF v_y) (hxy:keyF v_x<=keyF v_y):
 (
 (sparselaw37_TridiagMonotone_L0 m m v_t5 v_d v_e v_x v_y (([]:LI)++v_e) 0).bind fun y15=>
 match y15 with
 | .inl z16=>
   (g10 m z16.1 z16.2.1 z16.2.2.1).bind fun y17=>
   (g10 m z16.1 z16.2.1 z16.2.2.2.1).bind fun y18=>
   (g10 m z16.1 z16.2.2.2.2.1 z16.2.2.1).bind fun y19=>
   (g10 m z16.1 z16.2.1 18442240474082181120).bind fun y20=>
   (g10 m z16.1 z16.2.1 9218868437227405312).bind fun y21=>
   bif y17.1.2.1==0 then
    bif y18.1.2.1==0 then
     bif y19.1.2.1==0 then
      bif decide (y17.1.1<=y18.1.1)then
       bif y17.1.1==y19.1.1 then
        bif y20.1.1==0 then
         bif y21.1.1==(z16.1.length:Int)then
          bif decide (y17.1.1>=0)then
           bif decide (y18.1.1<=(z16.1.length:Int))then
            (sparselaw37_awake m).bind fun y22=>
            some (y22.1,((),(),(),(),(),(),()))
           else
            some (false,((),(),(),(),(),(),()))
          else
           some (false,((),(),(),(),(),(),()))
         else
          some (false,((),(),(),(),(),(),()))
        else
         some (false,((),(),(),(),(),(),()))
       else
        some (false,((),(),(),(),(),(),()))
      else
       some (false,((),(),(),(),(),(),()))
     else
      some (false,((),(),(),(),(),(),()))
    else
     some (false,((),(),(),(),(),(),()))
   else
    some (false,((),(),(),(),(),(),()))
 | .inr e=>
   e.elim
 )=some (true,(),(),(),(),(),(),()):=by
 obtain⟨M,e0,l0,s0⟩:=qps m he O v_t5 v_d v_e v_x v_y m 0 v_e O O rfl (fun _ _=>rfl) (fun _ _=> .inl rfl)
 have hMF:=qq1 he l0 s0;have hc:=qfd hd he hle O;have hcM:=qfd hd hMF O O;have kx:=qpi fx;have ky:=qpi fy;obtain⟨c1,t1,_,a1,_⟩:=qcf hm hd.U he.U O O hx hc h5 kx;obtain⟨c2,t2,_,a2,_⟩:=qcf hm hd.U he.U O O hy hc h5 ky;obtain⟨c3,t3,_,a3,_⟩:=qcf hm hd.U hMF.U O O hx hcM h5 kx;obtain⟨c4,t4,_,a4,_⟩:=qcf hm hd.U he.U O O (x:=infM) ⟨by decide,by decide⟩ hc h5 (by decide)
 obtain⟨c5,t5,_,a5,_⟩:=qcf hm hd.U he.U O O (x:=infP) ⟨by decide,by decide⟩ hc h5 (by decide)
 have e12:=qpl hx hy (qpb hx fx) (qpb hy fy) hxy t1 t2;have e13:c3=c1:=qpj (t3.2.2.1 fx) (qpd he hle l0 s0 (t1.2.2.1 fx));have e4:=t4.2.1 rfl;have e5:=t5.1 rfl;have b2:=t2.2.2.2;subst e13 e4 e5;rw[List.nil_append,show sparselaw37_TridiagMonotone_L0 m m v_t5 v_d v_e v_x v_y v_e 0=_ from e0,bS]
 dsimp only;rw[a1,bS,a2,bS,a3,bS,a4,bS,a5,bS];dsimp only;rw[decide_eq_true (show((c3:Nat):Int)<=(c2:Int) by omega),decide_eq_true (show((c3:Nat):Int)>=0 by omega),decide_eq_true (show((c2:Nat):Int)<=(v_d.length:Int) by omega)]
 simp only[beq_self_eq_true,cond_true,qmq hm,bS,nZ]
theorem qp8 (raw:LI) (n style a b:Int) (signs:List Bool) (hl:raw.length<=9223372036854775807) (ha:U64 a) (hb:U64 b): ∃m,sparselaw37_TridiagMonotone m raw n style a b signs=some (true,(),(),(),(),(),(),()):=by
 obtain⟨m,hm⟩: ∃m:Nat,5000000000<=m:=⟨_,Nat.le_refl _⟩;refine⟨m,?_⟩;obtain⟨p,hp,ep⟩:=q6t m n (k:=5) (by decide) (by decide)
 obtain⟨q,hq,eq⟩:=q6t m style (k:=3) (by decide) (by decide)
 obtain⟨d,e,ek,hd,he,hle,hdl⟩:=qlu hm hl (n:=p) O (q:Int);obtain⟨x,ex,x1,x2⟩:=ql1 hm ha style;obtain⟨y,ey,y1,y2⟩:=ql1 hm hb style;rw[sparselaw37_TridiagMonotone,show(5:Int)=((5:Nat):Int)from rfl,ep,bS,show(3:Int)=((3:Nat):Int)from rfl,eq,bS]
 dsimp only;rw[ek,bS,ex,bS,ey,bS];dsimp only;rw[qpu x1 y1,bS];unfold cmpR;rw[qpb x1 x2,qpb y1 y2,iN' (by decide),iN' (by decide),bQ]
 dsimp only;rw[iP (show([]:LI).length+e.length<=1073741824 by show 0+_<=_;omega),iP (show([]:LI).length+e.length<=1073741824 by show 0+_<=_;omega)]
 by_cases c:keyF x>keyF y
 . rw[iP (show(if keyF x<keyF y then(-1:Int)else if keyF x>keyF y then 1 else 0)>0 by rw[iN' O,iP c];decide)]
   exact qpe hm hd he hle O signs y1 x1 y2 x2 O
 . rw[iN' (show¬(if keyF x<keyF y then(-1:Int)else if keyF x>keyF y then 1 else 0)>0 by rw[iN' c];split<;>decide)]
   exact qpe hm hd he hle O signs x1 y1 x2 y2 O
end Go.Vs.F
