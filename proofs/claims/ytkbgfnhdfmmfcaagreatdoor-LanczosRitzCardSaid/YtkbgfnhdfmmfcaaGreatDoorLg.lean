/-Matrices of dyads at one exponent become matrices of integers:program and document agree. The counts of a tridiagonal matrix:program and document agree. Checks and counts of tridiagonal matrices:program and document agree. The numbers that the statements make. The laws TridiagCounts and TridiagKth. -/
import Derived.Test.YtkbgfnhdfmmfcaaGreatDoorLf
import Derived.KernelRfl
set_option linter.unusedVariables false
set_option linter.unusedSimpArgs false
set_option linter.unusedSectionVars false
set_option maxRecDepth 100000
namespace Go.Vs.F
abbrev DyL:=Bool×(Bool×LI)×Int
def dE (z:Int):DyL:=((mkD z (-1074)).1,((mkD z (-1074)).2.1,(mkD z (-1074)).2.2.1),(mkD z (-1074)).2.2.2.1)
def rowD (n:Nat) (f:Nat->Int):List DyL:=mr n fun j=>dE (f j)
def matD (n:Nat) (D:Nat->Nat->Int):List (List DyL):=mr n fun i=>rowD n (D i)
theorem Zc {n:Nat} {D:Nat->Nat->Int}:(matD n D).length=n:=Qb
theorem Y6 {n:Nat} {f:Nat->Int}:(rowD n f).length=n:=Qb
theorem q1p {n i:Nat} {D:Nat->Nat->Int} (h:i<n):(matD n D).getD i []=rowD n (D i):=Qs h
theorem q5c {n j:Nat} {f:Nat->Int} (h:j<n):(rowD n f).getD j (false,((false,[]),0))=dE (f j):=Qs h
theorem Qk {z e:Int} (h:blen z.natAbs<=10000) (h1: -1074<=e) (h2:e<=0):OkD z e:=Yx.2 (.inr ⟨O,O⟩)
theorem ex_mk {z e:Int} (h:OkD z e) (hz:z≠0):(mkD z e).2.2.2.1=e+(tz z.natAbs:Int):=by
 rcases Yx.1 h with h|⟨h1,h2⟩
 . exact absurd h hz
 . unfold mkD;rw[iN' hz,iN' O]
def sm1 (l z:Int):Int:=if z=0 then l else if-1074+(tz z.natAbs:Int)<l then-1074+(tz z.natAbs:Int)else l
def mnR (f:Nat->Int):Nat->Int->Int
 |0,l=>l
 |k+1,l=>sm1 (mnR f k l) (f k)
def mnM (n:Nat) (D:Nat->Nat->Int):Nat->Int
 |0=>0
 |i+1=>mnR (D i) n (mnM n D i)
theorem qnp {l z:Int}:sm1 l z<=l:=by
 unfold sm1
 repeat' split
 all_goals omega
theorem qri {l z:Int} (h: -1074<=l): -1074<=sm1 l z:=by
 unfold sm1
 repeat' split
 all_goals omega
theorem sm1_z {l z:Int} (h:z≠0):sm1 l z<= -1074+(tz z.natAbs:Int):=by unfold sm1;rw[iN' h];split<;>omega
theorem qj7 {f:Nat->Int}: ∀{k:Nat} {l:Int},mnR f k l<=l
 |0,_=>zK3 _
 |k+1,l=>zF4 qnp (qj7 (k:=k))
theorem qol {f:Nat->Int}: ∀{k:Nat} {l:Int},-1074<=l-> -1074<=mnR f k l
 |0,_,h=>h
 |k+1,l,h=>qri (qol (k:=k) h)
theorem mnR_z {f:Nat->Int}: ∀{k:Nat} {l:Int} {j:Nat},j<k->f j≠0->mnR f k l<= -1074+(tz (f j).natAbs:Int)
 |0,_,_,h,_=>absurd h (ze1 _)
 |k+1,l,j,h,hz=>by
  by_cases c:j=k
  . subst c;exact sm1_z hz
  . exact zF4 qnp (mnR_z (k:=k) O hz)
theorem qof {n:Nat} {D:Nat->Nat->Int}: ∀{i:Nat},mnM n D i<=0
 |0=>zK3 _
 |i+1=>zF4 qj7 (qof (i:=i))
theorem qfm {n:Nat} {D:Nat->Nat->Int}: ∀{i:Nat},-1074<=mnM n D i
 |0=>by show(-1074:Int)<=0;omega
 |i+1=>qol (qfm (i:=i))
theorem mnM_z {n:Nat} {D:Nat->Nat->Int}: ∀{k i j:Nat},i<k->j<n->D i j≠0->mnM n D k<= -1074+(tz (D i j).natAbs:Int)
 |0,_,_,h,_,_=>absurd h (ze1 _)
 |k+1,i,j,h,hj,hz=>by
  by_cases c:i=k
  . subst c;exact mnR_z hj hz
  . exact zF4 qj7 (mnM_z (k:=k) O hj hz)
def kM (n:Nat) (D:Nat->Nat->Int):Nat:=(mnM n D n+1074).toNat
section
variable {m:Nat} (hm:5000000000<=m)
include hm
theorem pSign {z:Int} (h:blen z.natAbs<=10000):g193 m (mkD z (-1074)).1 (mkD z (-1074)).2.1 (mkD z (-1074)).2.2.1 (mkD z (-1074)).2.2.2.1=some (sgn z,(),()):=qf1 O (Qk h O O)
theorem qnz {z:Int} (h:blen z.natAbs<=10000):g115 m (mkD z (-1074)).1 (mkD z (-1074)).2.1 (mkD z (-1074)).2.2.1 (mkD z (-1074)).2.2.2.1=some (sgn z,(),()):=by
 have ok:(mkD z (-1074)).1=false:=Qk h O O;rw[g115,Xv O,bS,qao O ok];dsimp only;rw[ok,cond_false,bS]
theorem qsc {z L:Int} (h:blen z.natAbs<=10000) (h1: -1074<=L) (h0:L<=0):g274 m (mkD z (-1074)).1 (mkD z (-1074)).2.1 (mkD z (-1074)).2.2.1 (mkD z (-1074)).2.2.2.1 (wI (0-L))=some (mkD z (-1074-L),(),(),()):=by
 have w:wI (0-L)= -L:=by rw[wQ,wi O O];omega
 rw[qj1 O,iP (Qk h O O),w];have:Ju (-L)= -L:=by unfold Ju;omega
 rw[this,zL2]
theorem q8j {w f z c:Int} {k:Nat} (e:EqD w f z c) (h:c+(k:Int)<=f):w*2^(f-(c+(k:Int))).toNat=z/2^k:=by
 have h1:=e.low (c:=c) O O;rw[q8s]at h1;unfold sc at h1;have h2:(f-c).toNat=(f-(c+(k:Int))).toNat+k:=O;rw[h2,Int.pow_add,<-Int.mul_assoc]at h1;rw[<-h1,Int.mul_ediv_cancel];have:=Z7 k;omega
theorem qrz {z L:Int} (h:blen z.natAbs<=10000) (h1: -1074<=L) (h0:L<=0) (hz:z≠0->L<= -1074+(tz z.natAbs:Int)):
 g273 m (mkD z (-1074-L)).1 (mkD z (-1074-L)).2.1 (mkD z (-1074-L)).2.2.1 (mkD z (-1074-L)).2.2.2.1=some ((zB (z/2^(L+1074).toNat),true,()),(),()):=by
 have hok:OkD z (-1074-L):=Qk h O O;obtain⟨w,f,k,k1,k2,k3⟩:=Xm hok;rw[g273,qdq O hok,bS];dsimp only;rw[zB2,cond_false,k1,k2,k3];by_cases c:z=0
 . subst c;have hf:f=0:=by rw[<-k3];rfl
   have hw:w=0:=by
    have:=k.eq.low (c:=min f (-1074-L)) O O;unfold sc at this;rw[zK2]at this;rcases Int.mul_eq_zero.1 this with h|h
    . exact h
    . have:=Z7 (f-min f (-1074-L)).toNat;omega
   subst hf hw;rw[show(0:Int)=((0:Nat):Int)from rfl,q5b O (Lm_zB _) (by rw[zB_2];simp[Q8]) O,bS,zv_zB]
   rw[nZ,zK2,Int.zero_ediv]
 . have hf:f= -1074-L+(tz z.natAbs:Int):=by rw[<-k3];exact ex_mk hok c
   have hz':=hz c;have htz:=Jk (n:=z.natAbs);have n1:=k.len;have hl:=q28 n1;obtain⟨fn,rfl⟩: ∃fn:Nat,f=(fn:Int):=⟨f.toNat,O⟩;rw[q5b O (Lm_zB _) O O,bS,zv_zB];have e:=q8j (m:=m) hm k.eq (k:=(L+1074).toNat) O;rw[show((fn:Int)-(-1074-L+(((L+1074).toNat:Nat):Int))).toNat=fn by omega]at e
   rw[e]
theorem qr3 {z L:Int} (h:blen z.natAbs<=10000) (h1: -1074<=L) (hc:z≠0) (hz:L<= -1074+(tz z.natAbs:Int)):
 g71 m (mkD z (-1074)).2.1 (mkD z (-1074)).2.2.1 (wI ((mkD z (-1074)).2.2.2.1-L))=some (zB (z/2^(L+1074).toNat),(),(),()):=by
 have hok:OkD z (-1074):=Qk h O O;obtain⟨w,f,k,k1,k2,k3⟩:=Xm hok;have hf:f= -1074+(tz z.natAbs:Int):=by rw[<-k3];exact ex_mk hok hc
 have htz:=Jk (n:=z.natAbs);have n1:=k.len;rw[k1,k2,k3,wQ,wi O O,q02 O O O O];have e:=q8j (m:=m) hm k.eq (k:=(L+1074).toNat) O;rw[<-e];congr 6;omega
variable {n:Nat} (hn:n<=1000) {D:Nat->Nat->Int} (hD: ∀i j,i<n->j<n->blen (D i j).natAbs<=10000)
include hn hD
theorem qj5 {z:Int} {α:Type} {a b:α}:(bif sgn z !=0 then a else b)=if z=0 then b else a:=by
 rw[bif_ne];by_cases c:z=0
 . subst c;rw[iP rfl,iP (by rfl)]
 . rw[iN' c,iN' (fun h=>c (X8.1 h))]
theorem qjb {l z:Int} (h:blen z.natAbs<=10000) (hz:z≠0):(if(mkD z (-1074)).2.2.2.1<l then(mkD z (-1074)).2.2.2.1 else l)=sm1 l z:=by
 rw[ex_mk (Qk h O O) hz,sm1,iN' hz]
theorem qqc (R:List (List DyL)) (t15:List (List DyL)) (t16 t17:Int) {i:Nat} (hi:i<n) (l:Int): ∀(N j:Nat),n-j<N->j<=n->
 g240L1 m N R (mnR (D i) j l) t15 t16 t17 (rowD n (D i)) (n:Int) (j:Int)=some (.inl (R,mnR (D i) n l,t15,t16,t17,())):=by
 intro N;induction N with
 |zero=>intro j h;omega
 |succ N ih=>
  intro j h hj;rw[g240L1,Y6,bQ];by_cases c:j<n
  . have hz:=hD i j hi c;rw[iP O,iP O];simp only[tN,q5c c];rw[show g206 m (dE (D i j)).1 (dE (D i j)).2.1.1 (dE (D i j)).2.1.2 (dE (D i j)).2.2=_ from qf4 O,bS,pSign hm hz,bS]
    dsimp only;rw[wQ,wsucc O,qj5 hm hn hD];by_cases z:D i j=0
    . rw[iP z];have:=ih (j+1) O O;rw[mnR,sm1,iP z]at this;exact this
    . rw[iN' z,qjb hm hn hD hz z];exact ih (j+1) O O
  . have:j=n:=O;subst this;rw[iN' O]
theorem qqa (R:List (List DyL)): ∀(N i:Nat),n-i<N->i<=n->
 g240L0 m N R (mnM n D i) (matD n D) (n:Int) (i:Int)=some (.inl (R,mnM n D n,())):=by
 intro N;induction N with
 |zero=>intro j h;omega
 |succ N ih=>
  intro i h hi;rw[g240L0,Zc,bQ];by_cases c:i<n
  . rw[iP O,iP O];simp only[tN,q1p c,Y6];have e:=qqc hm hn hD R (matD n D) (n:Int) (i:Int) c (mnM n D i) m 0 O O;rw[nZ]at e;rw[show g240L1 m m R (mnM n D i) (matD n D) (n:Int) (i:Int) (rowD n (D i)) (n:Int) 0=_ from e,bS]
    dsimp only;rw[wQ,wsucc O];exact ih (i+1) O O
  . have:i=n:=O;subst this;rw[iN' O]
theorem qp2 {i:Nat} (hi:i<n) (l:Int): ∀(N j:Nat),n-j<N->j<=n->
 g276L1 m N (matD n D) (mnR (D i) j l) (i:Int) (j:Int)=some (.inl (matD n D,mnR (D i) n l,(i:Int),())):=by
 intro N;induction N with
 |zero=>intro j h;omega
 |succ N ih=>
  intro j h hj;rw[g276L1,Zc,iP O,bQ];simp only[tN,q1p hi,Y6];by_cases c:j<n
  . have hz:=hD i j hi c;rw[iP O,iP O,iP O];simp only[q5c c];rw[show g115 m (dE (D i j)).1 (dE (D i j)).2.1.1 (dE (D i j)).2.1.2 (dE (D i j)).2.2=_ from qnz hm hz,bS]
    dsimp only;rw[wQ,wsucc O,qj5 hm hn hD];by_cases z:D i j=0
    . rw[iP z];have:=ih (j+1) O O;rw[mnR,sm1,iP z]at this;exact this
    . rw[iN' z,iP O,iP O,show g61 m (dE (D i j)).1 (dE (D i j)).2.1.1 (dE (D i j)).2.1.2 (dE (D i j)).2.2=_ from Xv O,bS,qjb hm hn hD hz z]
      exact ih (j+1) O O
  . have:j=n:=O;subst this;rw[iN' O]
theorem qov: ∀(N i:Nat),n-i<N->i<=n->
 g276L0 m N (matD n D) (mnM n D i) (i:Int)=some (.inl (matD n D,mnM n D n,())):=by
 intro N;induction N with
 |zero=>intro j h;omega
 |succ N ih=>
  intro i h hi;rw[g276L0,Zc,bQ];by_cases c:i<n
  . have e:=qp2 hm hn hD c (mnM n D i) m 0 O O;rw[nZ]at e;rw[iP O,show g276L1 m m (matD n D) (mnM n D i) (i:Int) 0=_ from e,bS]
    dsimp only;rw[wQ,wsucc O];exact ih (i+1) O O
  . have:i=n:=O;subst this;rw[iN' O]
def qD (n:Nat) (D:Nat->Nat->Int):Nat->Nat->Int:=fun i j=>D i j/2^kM n D
theorem qp5 (t41:List (List DyL)) (t42 t43:Int) {i:Nat} (hi:i<n) (out:List (List Bg)) (ho:out.length=n): ∀(N j:Nat) (o:List Bg),n-j<N->j<=n->o=(mr j fun j=>BZ (qD n D i j))->
 g240L3 m N (mnM n D n) (out.set i o) (i:Int) t41 t42 t43 (rowD n (D i)) (n:Int) (j:Int)=some (.inl (mnM n D n,out.set i (rowB n (qD n D i)),t41,t42,t43,())):=by
 intro N;induction N with
 |zero=>intro j o h;omega
 |succ N ih=>
  intro j o h hj hoe;rw[g240L3,Y6,bQ];by_cases c:j<n
  . have hz:=hD i j hi c;have hL1:=qfm (n:=n) (D:=D) (i:=n);have hL0:=qof (n:=n) (D:=D) (i:=n);have hLz:D i j≠0->mnM n D n<= -1074+(tz (D i j).natAbs:Int):=fun hne=>mnM_z hi c hne
    have hg:(out.set i o).getD i []=o:=q2e O;have hlen:(out.set i o).length=n:=by rw[zh];exact ho
    have hol:o.length=j:=by rw[hoe];exact Qb
    have hq:zlen (qD n D i j)<=1000000:=by
     have:(qD n D i j).natAbs<=(D i j).natAbs:=by unfold qD;exact Int.natAbs_ediv_le_natAbs _ _
     refine zK (Q7 this) (zK (q0o hz) O)
    rw[iP O,iP O];simp only[tN,q5c c,hg,hlen];rw[show g274 m (dE (D i j)).1 (dE (D i j)).2.1.1 (dE (D i j)).2.1.2 (dE (D i j)).2.2 (wI (0-mnM n D n))=_ from qsc hm hz hL1 hL0,bS,qrz hm hz hL1 hL0 hLz,bS]
    dsimp only;rw[iP O,show g229 m (zB (D i j/2^(mnM n D n+1074).toNat)).1 (zB (D i j/2^(mnM n D n+1074).toNat)).2.1=_ from bNorm O hq,bS,hol,iP (by show j+1<=_;omega),iP O,iP trivial,wQ,wsucc O,List.set_set]
    refine ih (j+1) _ O O ?_;rw[hoe];exact Zp (f:=fun j=>BZ (qD n D i j))
  . have:j=n:=O;subst this;rw[iN' O,hoe];rfl
theorem qpz: ∀(N i:Nat),n-i<N->i<=n->
 g240L2 m N (mnM n D n) (mr n fun k=>if k<i then rowB n (qD n D k)else []) (matD n D) (n:Int) (i:Int)=some (.inl (matB n (qD n D),())):=by
 intro N;induction N with
 |zero=>intro j h;omega
 |succ N ih=>
  intro i h hi;rw[g240L2,Zc,bQ];by_cases c:i<n
  . have e:=qp5 hm hn hD (matD n D) (n:Int) (i:Int) c (mr n fun k=>if k<i then rowB n (qD n D k)else []) Qb m 0 [] O O Jd.symm
    have e0:(mr n fun k=>if k<i then rowB n (qD n D k)else []).set i []=mr n fun k=>if k<i then rowB n (qD n D k)else []:=by
     rw[q0g];refine Q9 fun k hk=> ?_
     by_cases d:k=i
     . rw[iP d,iN' O]
     . rw[iN' d]
    have e1:(mr n fun k=>if k<i then rowB n (qD n D k)else []).set i (rowB n (qD n D i))=mr n fun k=>if k<i+1 then rowB n (qD n D k)else []:=by
     rw[q0g];refine Q9 fun k hk=> ?_
     by_cases d:k=i
     . subst d;rw[iP rfl,iP O]
     . rw[iN' d];by_cases d2:k<i
       . rw[iP d2,iP O]
       . rw[iN' d2,iN' O]
    rw[e0,e1,nZ]at e;rw[iP O,iP O];simp only[tN,q1p c,Y6];rw[e,bS];dsimp only;rw[wQ,wsucc O];exact ih (i+1) O O
  . have:i=n:=O;subst this;rw[iN' O];congr 3;exact Q9 fun k hk=>iP hk
theorem qqd:g240 m (matD n D)=some (matB n (qD n D),(),()):=by
 have e0:=qqa hm hn hD (matD n D) m 0 O O;rw[nZ]at e0;have e2:=qpz hm hn hD m 0 O O;rw[show(mr n fun k=>if k<0 then rowB n (qD n D k)else [])=List.replicate n [] by rw[q7x];exact Q9 fun k _=>iN' O,nZ]at e2
 rw[g240,Zc,show g240L0 m m (matD n D) 0 (matD n D) (n:Int) 0=_ from e0,bS]
 dsimp only;rw[Zc,iP O,tN,e2,bS]
theorem qpp (out:List (List Bg)) {i:Nat} (hi:i<n): ∀(N j:Nat),n-j<N->j<=n->
 g276L3 m N (matD n D) (mnM n D n) out (i:Int) (mr j fun j=>BZ (qD n D i j)) (j:Int)=some (.inl (matD n D,mnM n D n,out,(i:Int),rowB n (qD n D i),())):=by
 intro N;induction N with
 |zero=>intro j h;omega
 |succ N ih=>
  intro j h hj;rw[g276L3,Zc,iP O,bQ];simp only[tN,q1p hi,Y6];by_cases c:j<n
  . have hz:=hD i j hi c;have hL1:=qfm (n:=n) (D:=D) (i:=n);have hol:(mr j fun j=>BZ (qD n D i j)).length=j:=Qb
    rw[iP O,iP O,iP O];simp only[q5c c];rw[show g61 m (dE (D i j)).1 (dE (D i j)).2.1.1 (dE (D i j)).2.1.2 (dE (D i j)).2.2=_ from Xv O,bS,qnz hm hz,bS]
    dsimp only;rw[wQ,wQ,wsucc O,qj5 hm hn hD];by_cases z:D i j=0
    . rw[iP z,hol,iP (by show j+1<=_;omega)]
      have e1:(mr j fun j=>BZ (qD n D i j))++[(false,[])]=mr (j+1) fun j=>BZ (qD n D i j):=by
       rw[<-Zp];have:qD n D i j=0:=by unfold qD;rw[z,Int.zero_ediv]
       rw[this,q5p]
      rw[e1];exact ih (j+1) O O
    . rw[iN' z,show g71 m (mkD (D i j) (-1074)).2.1 (mkD (D i j) (-1074)).2.2.1 (IntKind.wrap .i64 ((mkD (D i j) (-1074)).2.2.2.1-mnM n D n))=_ from qr3 hm hz hL1 z (mnM_z hi c z),bS,hol,iP (by show j+1<=_;omega)]
      have e1:(mr j fun j=>BZ (qD n D i j))++[((zB (D i j/2^(mnM n D n+1074).toNat)).1,(zB (D i j/2^(mnM n D n+1074).toNat)).2.1)]=mr (j+1) fun j=>BZ (qD n D i j):=Zp (f:=fun j=>BZ (qD n D i j))
      rw[e1];exact ih (j+1) O O
  . have:j=n:=O;subst this;rw[iN' O];rfl
theorem qqu: ∀(N i:Nat),n-i<N->i<=n->
 g276L2 m N (matD n D) (mnM n D n) (mr i fun i=>rowB n (qD n D i)) (i:Int)=some (.inl (matB n (qD n D),())):=by
 intro N;induction N with
 |zero=>intro j h;omega
 |succ N ih=>
  intro i h hi;have hol:(mr i fun i=>rowB n (qD n D i)).length=i:=Qb
  rw[g276L2,Zc,bQ];by_cases c:i<n
  . have e:=qpp hm hn hD (mr i fun i=>rowB n (qD n D i)) c m 0 O O
    rw[Jd,nZ]at e;rw[iP O,e,bS];dsimp only;rw[hol,iP (by show 0<1/\i+1<=_;omega),wQ,wsucc O]
    have e1:(mr i fun i=>rowB n (qD n D i))++[rowB n (qD n D i)]=mr (i+1) fun i=>rowB n (qD n D i):=Zp (f:=fun i=>rowB n (qD n D i))
    rw[e1];exact ih (i+1) O O
  . have:i=n:=O;subst this;rw[iN' O];rfl
theorem qpw:g276 m (matD n D)=some (matB n (qD n D),(),()):=by
 have e0:=qov hm hn hD m 0 O O;rw[nZ]at e0;have e2:=qqu hm hn hD m 0 O O;rw[Jd,nZ]at e2;rw[g276,show g276L0 m m (matD n D) 0 0=_ from e0,bS]
 dsimp only;rw[e2,bS]
end
end Go.Vs.F
set_option maxRecDepth 100000
namespace Go.Vs.F
def valF (f:Int):Int:=sc (ofZ f) (ofE f) (-1074)
theorem Y8 {f:Int} (h:FinF f):ofD f=mkD (valF f) (-1074):=by
 have he:=q8f (f:=f);unfold ofD valF;rw[iP h,qgt O]
theorem val_ok {f:Int} (h:FinF f):OkD (valF f) (-1074):=by
 have he:=q8f (f:=f);have:=qrb h;unfold OkD valF at*
 rwa [qgt O]
theorem qg0 {m:Nat} (hm:3000000<m) {a b:Int} (ha:FinF a) (hb:FinF b):
 g83 m (ofD a).1 (ofD a).2.1 (ofD a).2.2.1 (ofD a).2.2.2.1 (ofD b).1 (ofD b).2.1 (ofD b).2.2.1 (ofD b).2.2.2.1=some (mkD (valF a-valF b) (-1074),(),(),())/\
 g20 m (ofD a).1 (ofD a).2.1 (ofD a).2.2.1 (ofD a).2.2.2.1 (ofD b).1 (ofD b).2.1 (ofD b).2.2.1 (ofD b).2.2.2.1=some (mkD (valF a-valF b) (-1074),(),(),()):=by
 rw[Y8 ha,Y8 hb,qlu hm,qgo hm,iP ⟨val_ok ha,val_ok hb⟩];exact⟨rfl,rfl⟩
theorem Yz {f:Int} (h:FinF f):blen (valF f).natAbs<=2098:=by
 have h1:=q91 f;have h2:=qqx h;have h3:=(q8f (f:=f)).1;unfold valF sc;refine zK q7a ?_;omega
theorem qfj {a b:Int} {k:Nat} (ha:blen a.natAbs<=k) (hb:blen b.natAbs<=k):blen (a-b).natAbs<=k+1:=by
 rw[zL2];exact Jh ha (by rw[zp1];exact hb)
def triA (a b:Nat->Int):Nat->Nat->Int:=fun i j=>if i=j then a i else if j=i+1 then b i else if i=j+1 then b j else 0
def triKA (a b:Nat->Int) (k:Nat):Nat->Nat->Int:=fun i j=>if j=i then a i else if j=i+1 then(if i<k then b i else 0)else if i=j+1 then(if j<k then b j else 0)else 0
theorem qn1 (a b:Nat->Int) (i j:Nat):triA a b i j=triA a b j i:=by unfold triA;grind
theorem qid (a b:Nat->Int) (i j:Nat):triKA a b 0 i j=if j=i then a i else 0:=by unfold triKA;grind
theorem qhh (a b:Nat->Int) (n i j:Nat) (hi:i<n) (hj:j<n):triKA a b (n-1) i j=triA a b i j:=by unfold triKA triA;grind
theorem qi8 (a b:Nat->Int) (k i j:Nat):(if i=k+1 then(if j=k then b k else triKA a b k (k+1) j)else if i=k then(if j=k+1 then b k else triKA a b k k j)else triKA a b k i j)=triKA a b (k+1) i j:=by unfold triKA;grind
theorem qkx (a b:Nat->Int) (j:Nat) (i:Nat) (hi:i=0):(if j=i+1 then b i else if j=i then a i else 0)=triA a b i j:=by unfold triA;grind
theorem qhi (a b:Nat->Int) (n i j:Nat) (hi:i=0) (hn:n=1) (hj:j<n):(if j=i then a i else 0)=triA a b i j:=by unfold triA;grind
theorem qlm (a b:Nat->Int) (j:Nat) (i:Nat) (hi:i≠0):(if j=i+1 then b i else if j=i-1 then b (i-1)else if j=i then a i else 0)=triA a b i j:=by unfold triA;grind
theorem qj0 (a b:Nat->Int) (n i j:Nat) (hi:i≠0) (hn:n=i+1) (hj:j<n):(if j=i-1 then b (i-1)else if j=i then a i else 0)=triA a b i j:=by unfold triA;grind
def dgF (d:LI) (x:Int) (i:Nat):Int:=valF (d.getD i 0)-valF x
def ofF (e:LI) (i:Nat):Int:=valF (e.getD i 0)
def triD (d e:LI) (x:Int):Nat->Nat->Int:=triA (dgF d x) (ofF e)
theorem qnd (d e:LI) (x:Int) (i j:Nat):triD d e x i j=triD d e x j i:=qn1 ..
def FnL (l:LI):Prop:= ∀i,i<l.length->U64 (l.getD i 0)/\FinF (l.getD i 0)
theorem qmm {d e:LI} {x:Int} (hd:FnL d) (he:FnL e) (hle:e.length=d.length-1) (hx:FinF x) {i j:Nat} (hi:i<d.length) (hj:j<d.length):blen (triD d e x i j).natAbs<=2099:=by
 unfold triD triA;by_cases c:i=j
 . rw[iP c];exact qfj (Yz (hd i hi).2) (Yz hx)
 . rw[iN' c];by_cases c1:j=i+1
   . rw[iP c1];exact zK (Yz (he i O).2) (by decide)
   . rw[iN' c1];by_cases c2:i=j+1
     . rw[iP c2];exact zK (Yz (he j O).2) (by decide)
     . rw[iN' c2];decide
theorem qni {n j:Nat} {f:Nat->Int} {v:Int}:(rowD n f).set j (dE v)=rowD n (fun k=>if k=j then v else f k):=by
 unfold rowD;rw[q0g];refine Q9 fun k hk=> ?_
 show(if k=j then dE v else dE (f k))=dE (if k=j then v else f k)
 by_cases c:k=j
 . rw[iP c,iP c]
 . rw[iN' c,iN' c]
theorem qaq {n:Nat}:List.replicate n ((false,((false,[]),0)):DyL)=rowD n (fun _=>0):=q7x
theorem q5v {n i:Nat} {D:Nat->Nat->Int} {f:Nat->Int}:(matD n D).set i (rowD n f)=matD n (fun k=>if k=i then f else D k):=by
 unfold matD;rw[q0g];refine Q9 fun k hk=> ?_
 show(if k=i then rowD n f else rowD n (D k))=rowD n (if k=i then f else D k)
 by_cases c:k=i
 . rw[iP c,iP c]
 . rw[iN' c,iN' c]
theorem Zr {n j:Nat} {f:Nat->Int} {v:Int}:(rowD n f).set j ((mkD v (-1074)).1,((mkD v (-1074)).2.1,(mkD v (-1074)).2.2.1),(mkD v (-1074)).2.2.2.1)=rowD n (fun k=>if k=j then v else f k):=qni
section
variable {m:Nat} (hm:5000000000<=m) {d e:LI} {x:Int} (hd:FnL d) (he:FnL e) (hle:e.length=d.length-1) (hl:d.length<=1000) (hxU:U64 x) (hx:FinF x)
include hm hd he hle hl hxU hx
theorem qhj: ∀(N i:Nat),d.length-i<N->i<=d.length->
 g241L0 m N d e x (mr d.length fun k=>if k<i then rowD d.length (fun j=>if j=k then dgF d x k else 0)else []) (d.length:Int) (i:Int)=
  some (.inl (e,matD d.length (fun k j=>if j=k then dgF d x k else 0),())):=by
 intro N;induction N with
 |zero=>intro j h;omega
 |succ N ih=>
  intro i h hi;rw[g241L0,bQ];by_cases c:i<d.length
  . obtain⟨u1,f1⟩:=hd i c;have hlen:(mr d.length fun k=>if k<i then rowD d.length (fun j=>if j=k then dgF d x k else 0)else []).length=d.length:=Qb
    rw[iP O,iP O,hlen,iP O];simp only[tN,zh,hlen];rw[iP O,iP O,Of_eq O u1,bS,Of_eq O hxU,bS,(qg0 O f1 hx).1,bS,q2e (by rw[hlen];exact c),zV1,iP O,List.set_set,qaq]
    dsimp only;rw[Zr]
    have e2:(mr d.length fun k=>if k<i then rowD d.length (fun j=>if j=k then dgF d x k else 0)else []).set i (rowD d.length (fun j=>if j=i then valF (d.getD i 0)-valF x else 0))=mr d.length fun k=>if k<i+1 then rowD d.length (fun j=>if j=k then dgF d x k else 0)else []:=by
     rw[q0g];refine Q9 fun k hk=> ?_
     by_cases c1:k=i
     . subst c1;rw[iP rfl,iP O];rfl
     . rw[iN' c1];by_cases c2:k<i
       . rw[iP c2,iP O]
       . rw[iN' c2,iN' O]
    rw[e2,wQ,wsucc O];exact ih (i+1) O O
  . have:i=d.length:=O;subst this;rw[iN' O];congr 4;exact Q9 fun k hk=>iP hk
theorem qhn: ∀(N k:Nat),e.length-k<N->k<=e.length->g241L1 m N (matD d.length (triKA (dgF d x) (ofF e) k)) e (e.length:Int) (k:Int)=some (.inl (matD d.length (triD d e x),())):=by
 intro N;induction N with
 |zero=>intro j h;omega
 |succ N ih=>
  intro k h hk;rw[g241L1,bQ];by_cases c:k<e.length
  . obtain⟨u1,f1⟩:=he k c;have w1:wI ((k:Int)+1)=((k+1:Nat):Int):=wsucc O;rw[iP O,iP O,Zc,w1,iP O,tN,tN,Of_eq O u1,Y8 f1,bS,bS];dsimp only;rw[q1p (show k<d.length by omega),Y6,iP O,Zr,q5v,q1p (show k+1<d.length by omega),Y6,iP O,Zr,q5v]
    have e3:matD d.length (fun i=>if i=k+1 then(fun j=>if j=k then valF (e.getD k 0)else(if k+1=k then(fun j=>if j=k+1 then valF (e.getD k 0)else triKA (dgF d x) (ofF e) k k j)else triKA (dgF d x) (ofF e) k (k+1)) j)else(if i=k then(fun j=>if j=k+1 then valF (e.getD k 0)else triKA (dgF d x) (ofF e) k k j)else triKA (dgF d x) (ofF e) k i))=matD d.length (triKA (dgF d x) (ofF e) (k+1)):=by
     unfold matD;refine Q9 fun i hi=> ?_
     unfold rowD;refine Q9 fun j hj=> ?_
     congr 1;rw[<-qi8];rw[iN' (show¬k+1=k by omega)]
     show _=if i=k+1 then(if j=k then valF (e.getD k 0)else _)else if i=k then(if j=k+1 then valF (e.getD k 0)else _)else _
     dsimp only;by_cases c1:i=k+1
     . rw[iP c1,iP c1]
     . rw[iN' c1,iN' c1];by_cases c2:i=k
       . rw[iP c2,iP c2]
       . rw[iN' c2,iN' c2]
    rw[e3,iP O];exact ih (k+1) O O
  . have hke:k=d.length-1:=O;rw[iN' O];congr 3;unfold matD;refine Q9 fun i hi=> ?_
    unfold rowD;refine Q9 fun j hj=> ?_
    rw[hke,qhh _ _ _ _ _ hi hj];rfl
theorem qh5:g241 m d e x=some (matD d.length (triD d e x),(),(),(),()):=by
 have e0:=qhj hm hd he hle hl hxU hx m 0 O O;rw[show(mr d.length fun k=>if k<0 then rowD d.length (fun j=>if j=k then dgF d x k else 0)else [])=List.replicate d.length [] by rw[q7x];exact Q9 fun k _=>iN' O,nZ]at e0
 have e1:=qhn hm hd he hle hl hxU hx m 0 O O
 have e2:matD d.length (triKA (dgF d x) (ofF e) 0)=matD d.length (fun k j=>if j=k then dgF d x k else 0):=by
  unfold matD;refine Q9 fun i hi=> ?_
  unfold rowD;refine Q9 fun j hj=> ?_
  rw[qid]
 rw[e2,nZ]at e1;rw[g241,iP O,tN,zV1,e0,bS];dsimp only;rw[e1,bS]
theorem qhf: ∀(N i:Nat),d.length-i<N->i<=d.length->
 g166L0 m N d e x (mr i fun i=>rowD d.length (triD d e x i)) (i:Int)=some (.inl (matD d.length (triD d e x),())):=by
 intro N;induction N with
 |zero=>intro j h;omega
 |succ N ih=>
  intro i h hi;rw[g166L0,bQ];by_cases c:i<d.length
  . obtain⟨u1,f1⟩:=hd i c;have w1:wI ((i:Int)+1)=((i+1:Nat):Int):=wsucc O;have hlen:(mr i fun i=>rowD d.length (triD d e x i)).length=i:=Qb
    have put: ∀f:Nat->Int,(∀j,j<d.length->f j=triD d e x i j)->(if 0<([rowD d.length f]:List (List DyL)).length/\(mr i fun i=>rowD d.length (triD d e x i)).length+([rowD d.length f]:List (List DyL)).length<=1073741824 then
     g166L0 m N d e x ((mr i fun i=>rowD d.length (triD d e x i))++[rowD d.length f]) ((i+1:Nat):Int)else none)=some (.inl (matD d.length (triD d e x),())):=by
     intro f hf;have:rowD d.length f=rowD d.length (triD d e x i):=Q9 fun j hj=>by rw[hf j hj]
     rw[this,hlen,iP (by show 0<1/\i+1<=_;omega),Zp (f:=fun i=>rowD d.length (triD d e x i))]
     exact ih (i+1) O O
    rw[iP O,iP O,iP O,tN,tN,q2s O u1,bS,q2s O hxU,bS,(qg0 O f1 hx).2,bS,zV1,iP O,zF,qaq,w1];dsimp only;rw[Zr,bQ,bQ];by_cases c1:i=0
    . rw[iN' O];by_cases c2:i<e.length
      . obtain⟨u2,f2⟩:=he i c2;rw[iP O,iP O,q2s O u2,Y8 f2,bS];dsimp only;rw[tN,zF,Zr,Y6,iP O];exact put _ fun j hj=>qkx (dgF d x) (ofF e) j i c1
      . rw[iN' O];exact put _ fun j hj=>qhi (dgF d x) (ofF e) d.length i j c1 O hj
    . have w2:wI ((i:Int)-1)=((i-1:Nat):Int):=by rw[wQ,wi O O];omega
      obtain⟨u3,f3⟩:=he (i-1) O;rw[iP O,w2,iP O,tN,q2s O u3,Y8 f3,bS,Y6,iP O,zF];dsimp only;rw[Zr,bQ];by_cases c2:i<e.length
      . obtain⟨u2,f2⟩:=he i c2;rw[iP O,iP O,q2s O u2,Y8 f2,bS,Y6,iP O,tN,zF];dsimp only;rw[Zr];exact put _ fun j hj=>qlm (dgF d x) (ofF e) j i c1
      . rw[iN' O];exact put _ fun j hj=>qj0 (dgF d x) (ofF e) d.length i j c1 O hj
  . have:i=d.length:=O;rw[iN' O,this];rfl
end
end Go.Vs.F
set_option maxRecDepth 100000
namespace Go.Vs.F
def kindN (f:Int):Int:=if fexp f=2047 then(if ffrac f=0 then 2 else 3)else if fexp f=0/\ffrac f=0 then 0 else 1
theorem q9m {m:Nat} {f:Int} (h:U64 f):g45 m f=some (kindN f,(),())/\g143 m f=some (kindN f,(),()):=by
 have hl:=q4h f;rw[g45,parts_eq h,bS,g143,(qbz h).1,(qbz h).2];simp only[bif_eq,bif_ne];unfold kindN;by_cases c:fexp f=2047
 . by_cases d:ffrac f=0
   . simp[c,d]
   . simp[c,d]
 . by_cases e:fexp f=0
   . by_cases d:ffrac f=0
     . simp[e,d]
     . simp[e,d]
   . simp[c,e]
def UL (l:LI):Prop:= ∀i,i<l.length->U64 (l.getD i 0)
def allF (l:LI):Bool:=l.all fun f=>decide (FinF f)
theorem q5e {l:LI} (h:UL l) (ha:allF l=true):FnL l:=by
 intro i hi;refine⟨h i hi,?_⟩;unfold allF at ha;rw[zk]at ha;have hx:l.getD i 0∈l:=by simp[List.getD,hi]
 simpa using ha _ hx
theorem qcl {l:LI} {k:Nat} (h:k<l.length):allF (l.drop k)=(decide (FinF (l.getD k 0))&&allF (l.drop (k+1))):=by
 unfold allF;rw[zF2 h,zc2];simp[List.getD,h]
theorem qks {m:Nat} {l:LI} (hU:UL l) (hl:l.length<=1000000): ∀(N k:Nat),l.length-k<N->k<=l.length->
 (allF (l.drop k)=true/\g250L0 m N l (l.length:Int) (k:Int)=some (.inr (.inl ())))\/(allF (l.drop k)=false/\ ∃j:Nat,g250L0 m N l (l.length:Int) (k:Int)=some (.inl ((j:Int),()))):=by
 intro N;induction N with
 |zero=>intro j h;omega
 |succ N ih=>
  intro k h hk;rw[g250L0,bQ];by_cases c:k<l.length
  . rw[iP O,iP O,tN,g235,qek (hU k c),bS,bS,qcl c];dsimp only;by_cases f:FinF (l.getD k 0)
    . rw[decide_eq_true f,zB2,cond_false,zU3,wQ,wsucc O];exact ih (k+1) O O
    . rw[decide_eq_false f,zS2,cond_true,zI3];exact .inr ⟨rfl,k,rfl⟩
  . rw[iN' O,zj2 O];exact .inl ⟨rfl,rfl⟩
theorem qbs {m:Nat} (hm:5000000000<=m) {l:LI} (hU:UL l) (hl:l.length<=1000000):g195 m l=some (!allF l,(),(),()):=by
 rw[g195,g250];rcases qks (m:=m) hU hl m 0 O O with⟨h,e⟩|⟨h,j,e⟩
 . rw[nZ]at e;rw[zR1]at h;rw[e,bS,h];rfl
 . rw[nZ]at e;rw[zR1]at h;rw[e,bS,h,bS];dsimp only;rw[show decide ((j:Int)>=0)=true from decide_eq_true O]
   rfl
theorem qqb {m:Nat} {l:LI} (hU:UL l) (hl:l.length<=1000000): ∀(N k:Nat),l.length-k<N->k<=l.length->
 (allF (l.drop k)=true/\g49L0 m N l (k:Int)=some (.inr (.inl ())))\/(allF (l.drop k)=false/\g49L0 m N l (k:Int)=some (.inl (false,()))):=by
 intro N;induction N with
 |zero=>intro j h;omega
 |succ N ih=>
  intro k h hk;rw[g49L0,bQ];by_cases c:k<l.length
  . rw[iP O,iP O,tN,q9i (hU k c),bS,qcl c];dsimp only;by_cases f:FinF (l.getD k 0)
    . rw[decide_eq_true f,zB2,cond_false,zU3,wQ,wsucc O];exact ih (k+1) O O
    . rw[decide_eq_false f,zS2,cond_true,zI3];exact .inr ⟨rfl,rfl⟩
  . rw[iN' O,zj2 O];exact .inl ⟨rfl,rfl⟩
theorem qkv {m:Nat} (hm:5000000000<=m) {l:LI} (hU:UL l) (hl:l.length<=1000000):g49 m l=some (allF l,(),()):=by
 rw[g49];rcases qqb (m:=m) hU hl m 0 O O with⟨h,e⟩|⟨h,e⟩
 . rw[nZ]at e;rw[zR1]at h;rw[e,bS,h]
 . rw[nZ]at e;rw[zR1]at h;rw[e,bS,h]
def chkT (d e:LI):Int:=if d.length>16 then 6 else if e.length≠d.length-1 then 2 else if allF d=true/\allF e=true then 0 else 4
theorem q1f {m:Nat} (hm:5000000000<=m) {d e:LI} (hd:UL d) (he:UL e) (hdl:d.length<=1000000) (hel:e.length<=1000000):g157 m d e=some (chkT d e,(),(),())/\g91 m d e=some (chkT d e,(),(),()):=by
 have w:(if 0>wI ((d.length:Int)-1)then 0 else wI ((d.length:Int)-1))=((d.length-1:Nat):Int):=by
  rw[wQ,wi O O];split<;>omega
 unfold chkT;constructor
 . rw[g157,w,qbs hm hd hdl,qbs hm he hel];simp only[bS,bQ,bif_ne];by_cases c1:d.length>16
   . rw[iP O,iP c1]
   . rw[iN' O,iN' c1];by_cases c2:e.length=d.length-1
     . rw[iP O,iN' (fun h=>h c2)]
       cases allF d<;>cases allF e<;>rfl
     . rw[iN' O,iP c2]
 . rw[g91,w,qkv hm hd hdl,qkv hm he hel];simp only[bS,bQ,bif_ne];by_cases c1:d.length>16
   . rw[iP O,iP c1]
   . rw[iN' O,iN' c1];by_cases c2:e.length=d.length-1
     . rw[iP O,iN' (fun h=>h c2)]
       cases allF d<;>cases allF e<;>rfl
     . rw[iN' O,iP c2]
theorem qe9 {d e:LI} (h:chkT d e=0):d.length<=16/\e.length=d.length-1/\allF d=true/\allF e=true:=by
 unfold chkT at h;by_cases c1:d.length>16
 . rw[iP c1]at h;omega
 . rw[iN' c1]at h;by_cases c2:e.length=d.length-1
   . rw[iN' O]at h;by_cases c3:allF d=true/\allF e=true
     . exact⟨O,c2,c3.1,c3.2⟩
     . rw[iN' c3]at h;omega
   . rw[iP c2]at h;omega
theorem Dg.scale {L:List Nat} {A V:Nat->Nat->Rat} {b:Nat->Rat} (c:Rat) (hd:Dg L A V b):Dg L (fun i j=>c*A i j) V (fun i=>c*b i):=by
 refine⟨fun y=> ?_,hd.ind⟩
 have e:sm L (fun i=>c*b i*(y i*y i))=c*sm L (fun i=>b i*(y i*y i)):=by
  rw[<-Qm];exact qj fun i _=>by grind
 rw[e,<-hd.form y];unfold qf;rw[<-Qm];refine qj fun i _=> ?_
 rw[<-Qm];exact qj fun j _=>by grind
theorem q43 {L:List Nat} {b:Nat->Rat} {c:Rat} (hc:0<c):npos L (fun i=>c*b i)=npos L b:=by
 unfold npos;rw[List.filter_congr fun i _=> ?_]
 rw[decide_eq_decide];constructor
 . intro h;exact(Rat.mul_pos_iff_of_pos_left hc).1 h
 . intro h;exact zp2 hc h
theorem q25 {L:List Nat} {b:Nat->Rat} {c:Rat} (hc:0<c):npos L (fun i=> -(c*b i))=npos L (fun i=> -b i):=by
 rw[<-q43 (b:=fun i=> -b i) hc]
 exact Yf fun i _=>by grind
theorem qs0 {n:Nat} {D:Nat->Nat->Int} {i j:Nat} (hi:i<n) (hj:j<n):D i j=qD n D i j*2^kM n D:=by
 unfold qD;by_cases z:D i j=0
 . rw[z,Int.zero_ediv,zK2]
 . have h1:=mnM_z (n:=n) (D:=D) (k:=n) hi hj z;have h2:=qfm (n:=n) (D:=D) (i:=n);obtain⟨k1,k2,k3⟩:=qgs (n:=(D i j).natAbs) O;have hk:kM n D<=tz (D i j).natAbs:=by unfold kM;omega
   have hd:((2^kM n D:Nat):Int)∣D i j:=by
    rw[Int.ofNat_dvd_left];exact Nat.dvd_trans (Nat.pow_dvd_pow 2 hk) ⟨_,k2⟩
   rw[za1]at hd;exact(Int.ediv_mul_cancel hd).symm
theorem qrw {n:Nat} {D:Nat->Nat->Int} {i j k:Nat} (h:blen (D i j).natAbs<=k):zlen (qD n D i j)<=k/32+1:=
 zK (Q7 (by unfold qD;exact Int.natAbs_ediv_le_natAbs _ _)) (q0o h)
theorem qcw {m:Nat} (hm:5000000000<=m) {n:Nat} (hn:n<=5) {D:Nat->Nat->Int} (hD: ∀i j,i<n->j<n->blen (D i j).natAbs<=2111) (hs: ∀i j,D i j=D j i):
 ∃V b,Dg (List.range n) (qM D) V b/\
  (g239 m (matB n (qD n D))=some ((((npos (List.range n) (fun i=> -b i):Nat):Int),((n-(npos (List.range n) b+npos (List.range n) (fun i=> -b i)):Nat):Int),((npos (List.range n) b:Nat):Int),0,()),(),()))/\
  g275 m (matB n (qD n D))=some ((((npos (List.range n) (fun i=> -b i):Nat):Int),((n-(npos (List.range n) b+npos (List.range n) (fun i=> -b i)):Nat):Int),((npos (List.range n) b:Nat):Int),()),(),()):=by
 have hl: ∀i j,i<n->j<n->zlen (qD n D i j)<=66:=fun i j hi hj=>qrw (hD i j hi hj)
 have hsq: ∀i j,i<n->j<n->qD n D i j=qD n D j i:=fun i j _ _=>by unfold qD;rw[hs i j]
 have hsz:4^n*(66+1)<=80000:=by
  have:4^n<=4^5:=zY (by decide) hn
  have:=zM (66+1) this;omega
 obtain⟨V,b,d1,d2⟩:=qer hm (n:=n) O hl (by decide) hsq hsz
 have d3:=qi4 (m:=m) O (n:=n) O (M:=qD n D) (e:=66) O hl hsq d1
 have hc:(0:Rat)<((2^kM n D:Int):Rat):=by
  have:=Z7 (kM n D);have:=Rat.intCast_lt_intCast.2 this;exact this
 refine⟨V,fun i=>((2^kM n D:Int):Rat)*b i,((d1.scale ((2^kM n D:Int):Rat)).congr fun i hi j hj=> ?_),?_,?_⟩
 . show((2^kM n D:Int):Rat)*(qD n D i j:Rat)=(D i j:Rat)
   rw[qs0 (D:=D) (zY1.1 hi) (zY1.1 hj),zC2,zC3]
 . rw[q43 hc,q25 hc];exact d3
 . rw[q43 hc,q25 hc];exact d2
def IsCnt (n:Nat) (D:Nat->Nat->Int) (c:Nat):Prop:= ∃V b,Dg (List.range n) (qM D) V b/\c=n-npos (List.range n) b
abbrev infP:Int:=9218868437227405312
abbrev infM:Int:=18442240474082181120
def CntT (d e:LI) (x:Int) (c:Nat):Prop:=(x=infP->c=d.length)/\(x=infM->c=0)/\(FinF x->IsCnt d.length (triD d e x) c)/\c<=d.length
theorem qpy {x:Int} (hx:U64 x) (h: ¬FinF x) (h3:kindN x≠3):x=infP\/x=infM:=by
 obtain⟨h1,h2⟩:=hx;have e:fexp x=2047:=Decidable.not_not.1 h
 have f:ffrac x=0:=by
  unfold kindN at h3;rw[iP e]at h3;by_cases c:ffrac x=0
  . exact c
  . rw[iN' c]at h3;exact absurd rfl h3
 unfold fexp at e;unfold ffrac at f;show x=9218868437227405312\/x=18442240474082181120;omega
theorem qea {m:Nat} (hm:5000000000<=m) {d e:LI} (hd:UL d) (he:UL e) (hdl:d.length<=1000000) (hel:e.length<=1000000) {x:Int} (hx:U64 x) (hc:chkT d e=0) (h5:d.length<=5) (h3:kindN x≠3):
 ∃c:Nat,CntT d e x c/\g162 m d e x=some ((c:Int),(),(),(),())/\True/\g166 m d e x=some (((c:Int),0,()),(),(),(),()):=by
 obtain⟨c1,c2,c3,c4⟩:=qe9 hc;obtain⟨k1,k2⟩:=q1f hm hd he hdl hel;obtain⟨q1,q2⟩:=q9m (m:=m) hx;have key: ∀c:Nat,g162 m d e x=some ((c:Int),(),(),(),())->True:=fun _ _=>trivial
 by_cases hF:FinF x
 . have hne:x≠infP/\x≠infM:=by
    constructor<;>(rintro rfl;exact hF (by decide))
   have hFd:=q5e hd c3;have hFe:=q5e he c4;have hlen:=fun i j (hi:i<d.length) (hj:j<d.length)=>qmm hFd hFe c2 hF hi hj
   obtain⟨V,b,d1,d2,d3⟩:=qcw hm h5 (D:=triD d e x) (fun i j hi hj=>zK (hlen i j hi hj) (by decide)) (qnd d e x)
   have le2:=q96 (L:=List.range d.length) (b:=b);rw[zU2]at le2;have hbig: ∀i j,i<d.length->j<d.length->blen (triD d e x i j).natAbs<=10000:=fun i j hi hj=>zK (hlen i j hi hj) (by decide)
   have hsum:wI (((npos (List.range d.length) (fun i=> -b i):Nat):Int)+((d.length-(npos (List.range d.length) b+npos (List.range d.length) (fun i=> -b i)):Nat):Int))=((d.length-npos (List.range d.length) b:Nat):Int):=by
    rw[wQ,wi O O];omega
   have pa:g162 m d e x=some (((d.length-npos (List.range d.length) b:Nat):Int),(),(),(),()):=by
    rw[g162,bif_eq,iN' hne.1,qek hx,bS,decide_eq_true hF,zB2,cond_false,qh5 hm hFd hFe c2 O hx hF,bS,qqd hm O hbig,bS,d2,bS];dsimp only;rw[hsum]
   refine⟨d.length-npos (List.range d.length) b,⟨fun h=>absurd h hne.1,fun h=>absurd h hne.2,fun _=>⟨V,b,d1,rfl⟩,O⟩,pa,key _ pa,?_⟩
   have r0:=qhf hm hFd hFe c2 O hx hF m 0 O O;rw[Jd,nZ]at r0;rw[g166,k2,bS,hc];show(g143 m x).bind _=_;rw[q2,bS,bif_eq,iN' h3,bif_eq,iN' hne.2,bif_eq,iN' hne.1,r0,bS];dsimp only;rw[g242,qpw hm O hbig,bS,d3,bS];dsimp only;rw[hsum,bS]
 . rcases qpy hx hF h3 with rfl|rfl
   . have pa:g162 m d e infP=some ((d.length:Int),(),(),(),()):=by
      rw[g162,bif_eq,iP rfl]
     refine⟨d.length,⟨fun _=>rfl,fun h=>absurd h (by decide),fun h=>absurd h hF,zJ _⟩,pa,key _ pa,?_⟩
     rw[g166,k2,bS,hc];dsimp only;rw[show((0:Int) !=0)=false from rfl,cond_false,q2,bS,bif_eq,iN' h3,bif_eq,iN' (by decide),bif_eq,iP rfl]
   . have pa:g162 m d e infM=some (((0:Nat):Int),(),(),(),()):=by
      rw[g162,bif_eq,iN' (by decide),qek hx,bS,decide_eq_false hF]
      rfl
     refine⟨0,⟨fun h=>absurd h (by decide),fun _=>rfl,fun h=>absurd h hF,zG2 _⟩,pa,key _ pa,?_⟩
     rw[g166,k2,bS,hc];dsimp only;rw[show((0:Int) !=0)=false from rfl,cond_false,q2,bS,bif_eq,iN' h3,bif_eq,iP rfl]
     rfl
end Go.Vs.F
set_option maxRecDepth 100000
namespace Go.Vs.F
theorem qci (m:Nat) (a:Int) {k:Nat} (h0:0<k) (hk:k<9223372036854775808): ∃r:Nat,r<k/\g11 m a (k:Int)=some ((r:Int),(),(),()):=by
 have w:wJ (k:Int)=(k:Int):=w64n O;obtain⟨x,hx,_⟩:=qs9 a;have hx':wJ a=(x:Int):=hx;refine⟨x%k,z81 _ h0,?_⟩;have:=z81 x h0;rw[g11,w,hx',iP O,tm,wQ,wi O O]
theorem wrapU (a:Int):U64 (IntKind.wrap .u64 a):=qj8 a
theorem qql (m:Nat) {raw:LI} (hl:raw.length<=9223372036854775807) (k:Int): ∃w,g27 m raw k=some (w,(),(),())/\U64 w:=by
 rw[g27,bQ];by_cases c:0<raw.length
 . obtain⟨r,hr,e⟩:=qci m k (k:=raw.length) c O;rw[iP O,e,bS];dsimp only;rw[iP O];exact⟨_,rfl,wrapU _⟩
 . rw[iN' O];exact⟨_,rfl,wrapU _⟩
theorem qok {x M E:Nat} (hx:x<18446744073709551616) (hM:M<18446744073709551616) (hM0:M/4503599627370496%2048=0) (hE:E<2047):
 U64 (b_or_ .u64 (qp .u64 (x:Int) (M:Int)) (shl_ .u64 (wJ (E:Int)) 52))/\FinF (b_or_ .u64 (qp .u64 (x:Int) (M:Int)) (shl_ .u64 (wJ (E:Int)) 52)):=by
 refine⟨wrapU _,?_⟩
 have e2:shl_ .u64 (wJ (E:Int)) 52=((E*2^52:Nat):Int):=by
  rw[w64n O];exact shl64 (a:=E) (k:=52) O (by rw[show(2:Nat)^52=4503599627370496 by decide];omega)
 have ha:x&&&M<18446744073709551616:=zt1 zw3 hx;have hp:(2:Nat)^52=4503599627370496:=by decide
 rw[and64 hx hM,e2,or64 ha (by rw[hp];omega)]
 unfold FinF fexp
 have key:(x&&&M|||E*2^52)/2^52%2^11=E:=by
  rw[<-Nat.shiftRight_eq_div_pow,Nat.shiftRight_or_distrib,Nat.or_mod_two_pow,Nat.shiftRight_and_distrib,Nat.and_mod_two_pow,Nat.shiftRight_eq_div_pow M,hp];rw[show(2:Nat)^11=2048 by decide,hM0,Nat.and_zero,Nat.zero_or,Nat.shiftRight_eq_div_pow,hp,zY3 _ (by decide)]
  omega
 rw[hp,show(2:Nat)^11=2048 by decide]at key
 rw[hp];generalize (x&&&M|||E*4503599627370496)=Z at*
 omega
def smT:LI:=[13844628204490326016,13844065254536904704,13842939354630062080,13841813454723219456,13840687554816376832,13839561654909534208,13837309855095848960,13835058055282163712,13830554455654793216,0,4607182418800017408,4611686018427387904,4613937818241073152,4616189618054758400,4617315517961601024,4618441417868443648,4619567317775286272,4620693217682128896,4621256167635550208]
theorem qn6 (j:Nat):((List.range 19).map fun r=>g125 (j+100) ((r:Nat):Int))=smT.map fun f=>some (f,(),()):=by kernel_rfl
theorem qrc:(smT.all fun f=>decide ((0<=f/\f<18446744073709551616)/\f/4503599627370496%2048≠2047))=true:=by decide+kernel
theorem qn9 {m:Nat} (hm:5000000000<=m) {x:Int} (hx:U64 x): ∃f,g125 m x=some (f,(),())/\U64 f/\FinF f:=by
 obtain⟨j,rfl⟩: ∃j,m=j+100:=⟨m-100,O⟩;obtain⟨y,rfl⟩: ∃y:Nat,x=(y:Int):=⟨x.toNat,by have:=hx.1;omega⟩
 have hr:y%19<19:=z81 _ (by decide)
 have e:g125 (j+100) ((y:Nat):Int)=g125 (j+100) ((y%19:Nat):Int):=by
  rw[g125,g125,show(19:Int)=((19:Nat):Int)from rfl,tm,tm,z92]
 have h1:=congrArg (fun l=>l[y%19]?) (qn6 j)
 have hl:smT.length=19:=by decide
 simp only[List.getElem?_map,List.getElem?_range hr,List.getElem?_eq_getElem (show y%19<smT.length by omega),zj1,zN]at h1
 have h2:=zk.1 qrc smT[y%19] (zH _);have h3:=of_decide_eq_true h2;exact⟨_,by rw[e];exact h1,h3.1,h3.2⟩
theorem qru {m:Nat} (hm:5000000000<=m) {x:Int} (hx:U64 x) (style:Int): ∃f,g60 m x style=some (f,(),(),())/\U64 f/\FinF f:=by
 obtain⟨r,hr,e⟩:=qci m style (k:=4) (by decide) (by decide)
 obtain⟨y,rfl⟩: ∃y:Nat,x=(y:Int):=⟨x.toNat,by have:=hx.1;omega⟩
 have hy:y<18446744073709551616:=by have:=hx.2;omega
 rw[g60,show(4:Int)=((4:Nat):Int)from rfl,e,bS,bif_eq,bif_eq,bif_eq]
 dsimp only;by_cases c1:r=1
 . subst c1
   have e1:qp .u64 (shr_ .u64 (y:Int) 52) 7=((y/4503599627370496%8:Nat):Int):=by
    have h1:shr_ .u64 (y:Int) 52=((y/4503599627370496:Nat):Int):=shr64 (a:=y) (k:=52) O;have h2:qp .u64 ((y/4503599627370496:Nat):Int) ((7:Nat):Int)=((y/4503599627370496&&&7:Nat):Int):=and64 O (by decide)
    rw[h1,show(7:Int)=((7:Nat):Int)from rfl,h2,zT1 _ 3]
   have:=qok (x:=y) (M:=9227875636482146303) (E:=1019+y/4503599627370496%8) hy (by decide) (by decide) O
   rw[iP (by decide),e1,show(1019:Int)+((y/4503599627370496%8:Nat):Int)=((1019+y/4503599627370496%8:Nat):Int) by omega]
   exact⟨_,rfl,this⟩
 . rw[iN' O];by_cases c2:r=2
   . subst c2
     have e1:Int.tmod (shr_ .u64 (y:Int) 8) 81=((y/256%81:Nat):Int):=by
      have h1:shr_ .u64 (y:Int) 8=((y/256:Nat):Int):=shr64 (a:=y) (k:=8) O;rw[h1,show(81:Int)=((81:Nat):Int)from rfl,tm]
     have:=qok (x:=y) (M:=9225623836668461056) (E:=983+y/256%81) hy (by decide) (by decide) O
     rw[iP (by decide),e1,show(983:Int)+((y/256%81:Nat):Int)=((983+y/256%81:Nat):Int) by omega]
     exact⟨_,rfl,this⟩
   . rw[iN' O];by_cases c3:r=3
     . subst c3;rw[iP (by decide),q9i hx,bS]
       dsimp only;by_cases f:FinF (y:Int)
       . rw[decide_eq_true f];exact⟨_,rfl,hx,f⟩
       . rw[decide_eq_false f];exact⟨_,rfl,⟨by decide,by decide⟩,by decide⟩
     . rw[iN' O];obtain⟨f,ef,h1,h2⟩:=qn9 hm hx;rw[ef,bS];exact⟨_,rfl,h1,h2⟩
theorem qpa:FnL []:=fun i hi=>absurd hi (ze1 _)
theorem qmb {l:LI} (h:FnL l) {f:Int} (h1:U64 f) (h2:FinF f):FnL (l++[f]):=by
 intro i hi;rw[zf,List.length_singleton]at hi;by_cases c:i<l.length
 . have:(l++[f]).getD i 0=l.getD i 0:=by rw[List.getD,List.getElem?_append_left c];rfl
   rw[this];exact h i c
 . have:i=l.length:=O;subst this;have:(l++[f]).getD l.length 0=f:=by simp[List.getD]
   rw[this];exact⟨h1,h2⟩
theorem qlj {m:Nat} (hm:5000000000<=m) {raw:LI} (hl:raw.length<=9223372036854775807) {at0 n:Nat} (hat:at0<=1000) (hn:n<=1000) (style:Int): ∀(N k:Nat) (out:LI),n-k<N->k<=n->out.length=k->FnL out->
 ∃l,g16L0 m N raw (at0:Int) (n:Int) style out (k:Int)=some (.inl (l,()))/\l.length=n/\FnL l:=by
 intro N;induction N with
 |zero=>intro k out h;omega
 |succ N ih=>
  intro k out h hk ho hF;rw[g16L0,bQ];by_cases c:k<n
  . obtain⟨w,ew,hw⟩:=qql m hl (wI ((at0:Int)+(k:Int)));obtain⟨f,ef,h1,h2⟩:=qru hm hw style;rw[iP O,ew,bS,ef,bS,ho,iP (by show k+1<=_;omega),wQ,wsucc O]
    exact ih (k+1) _ O O (by simp[ho]) (qmb hF h1 h2)
  . rw[iN' O];exact⟨out,rfl,O,hF⟩
theorem qak {m:Nat} (hm:5000000000<=m) {raw:LI} (hl:raw.length<=9223372036854775807) {at0 n:Nat} (hat:at0<=1000) (hn:n<=1000) (style:Int): ∃l,g16 m raw (at0:Int) (n:Int) style=some (l,(),(),(),(),())/\l.length=n/\FnL l:=by
 obtain⟨l,e,h1,h2⟩:=qlj hm hl hat hn style m 0 [] O O rfl qpa;refine⟨l,?_,h1,h2⟩;rw[g16];rw[nZ]at e;rw[e,bS]
theorem FnL.U {l:LI} (h:FnL l):UL l:=fun i hi=>(h i hi).1
theorem FnL.all {l:LI} (h:FnL l):allF l=true:=by
 unfold allF;rw[zk];intro x hx;obtain⟨i,hi,rfl⟩:=zA1 hx;have:=(h i hi).2;simp only[List.getD,List.getElem?_eq_getElem hi,zy1]at this;exact decide_eq_true this
theorem qam {d e:LI} (hd:FnL d) (he:FnL e) (h:e.length=d.length-1) (h16:d.length<=16):chkT d e=0:=by
 unfold chkT;rw[iN' O,iN' (fun g=>g h),iP ⟨hd.all,he.all⟩]
end Go.Vs.F
set_option maxRecDepth 100000
namespace Go.Vs.F
def I64 (a:Int):Prop:= -9223372036854775808<=a/\a<9223372036854775808
theorem wfLen {t:Ty} {xs:List (Den t)} (h:wfC (.imm t) xs):xs.length<=9223372036854775807:=zK h.2 (by decide)
end Go.Vs.F
